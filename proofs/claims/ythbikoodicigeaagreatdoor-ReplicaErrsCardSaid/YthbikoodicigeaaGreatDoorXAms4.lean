import Derived.Test.YthbikoodicigeaaGreatDoorXAms3
import Derived.Laws.CopyRow
import Derived.Laws.Externs
import Derived.Test.YthbikoodicigeaaGreatDoorXAms1
/-
 THE ABSTRACT MACHINE, part 57: a function's code with deferred calls is matched.
-/
set_option maxRecDepth 4000
set_option linter.unusedSimpArgs false
set_option linter.unusedVariables false
namespace Go.Cb
open Classical

def varsOK (c:Cx):List Operand→List Opd→Bool
 | [],[]=>true
 | .tmp t::xs,.v i::ys=>c.slots[i]? == some t && !c.bxs.contains i && varsOK c xs ys
 | _,_=>false
def dfrOK (c:Cx) (ops:List Oper) (q:AOper):Option Nat:=match q with
 | ⟨.none,.call f',ys,none,none⟩=>match ops.reverse with
  | ⟨none,.defer ⟨.value (.func f),args,_⟩,_,_,_,none⟩::l=>if f == f' && varsOK c args.toList ys then some l.length else none
  | ⟨none,.defer ⟨.value (.tmp t),args,_⟩,_,_,_,none⟩::⟨some t',.makeFunc (.func f) first caps,_,_,_,none⟩::l =>
   if args.size == 0 && first.size == 0 && f == f' && t == t' && !c.slots.contains t && Nat.blt t c.nt && varsOK c caps.toList ys then some l.length else none
  | _=>none
 | _=>none
def dfr0 (ops:List Oper):Option (Nat×Nat):=match ops.reverse with
 | ⟨none,.defer ⟨.value (.func f),args,_⟩,_,_,_,none⟩::l=>if args.size == 1 then some (l.length,f) else none
 | _=>none

section
variable {c:Cx} {g:Gh} {w:World} {pr:Nat→Option Pl} {bx:Nat→Nat} {σ σ':Sig} {a:Act} {call:CallT} {ops:Array Oper} {Q:Exit→Act→World→Prop}

theorem ops_pre (fx:Fx c) (hc:CallOK c.P c.gt call) {l:List Oper} {ps:List AOper} (hok:opsOK c ops l ps=true) (hl:∀ (i:Nat) o,l[i]?=some o→ops[i]?=some o) {rest:List Nat}:∀ (n k:Nat) (g:Gh) (w:World) (pr:Nat→Option Pl) (bx:Nat→Nat) (σ:Sig) (a:Act),k+n=ps.length →
 S c g w pr bx σ a→runOps call (ps.drop k) σ=some σ'→Post c g w a σ' (wpOps c.P ops Q rest)→wpOps c.P ops Q (List.range' k n++rest) a w
 | 0,k,g,w,pr,bx,σ,a,hk,h,hr,hnext=>by
  rw [List.drop_of_length_le (by omega)] at hr
  simp only [runOps,Option.some.injEq] at hr
  subst hr
  exact hnext a w g pr bx rfl h (Tr.refl _ _ _)
 | n+1,k,g,w,pr,bx,σ,a,hk,h,hr,hnext=>by
  obtain ⟨_,hget⟩:=opsOK_get hok
  rw [List.drop_eq_getElem_cons (by omega)] at hr
  simp only [runOps] at hr
  obtain ⟨o,ho,h1,h2⟩:=hget k _ (List.getElem?_eq_getElem (show k < ps.length by omega))
  cases hs:stepOp call (ps[k]'(by omega)) σ with
  | none=>simp [hs] at hr
  | some σ1 =>
   simp only [hs] at hr
   rw [List.range'_succ,List.cons_append,wpOps_cons]
   refine step_ok fx hc h (hl _ _ ho) h1 h2 hs fun a1 w1 g1 pr1 bx1 hd1 hS1 ht1=>?_
   exact ops_pre fx hc hok hl n (k+1) g1 w1 pr1 bx1 σ1 a1 (by omega) hS1 hr (hnext.trans hd1 ht1)

theorem vars_rel (h:S c g w pr bx σ a):∀ {xs:List Operand} {ys:List Opd},varsOK c xs ys=true→RelL g w ((ys.map (·.read σ)).map AV.weak) (xs.map a.eval)
 | [],[],_=>by simp [RelL]
 | x::xs,[],hv=>by cases x <;> simp [varsOK] at hv
 | [],y::ys,hv=>by simp [varsOK] at hv
 | x::xs,y::ys,hv=>by
  unfold varsOK at hv
  split at hv
  · rename_i e1 e2; cases e1
  · rename_i t xs' i ys' e1 e2
    cases e1; cases e2
    simp only [Bool.and_eq_true,beq_iff_eq,Bool.not_eq_true'] at hv
    obtain ⟨⟨h1,h2⟩,h3⟩:=hv
    have hvar:=h.fr.var i t h1
    have hnb:∀ cs,σ.fr.getD i .undef≠.box cs:=fun cs hcs=>by
     have:=h.fr.bxs i cs hcs
     simp [this] at h2
    have hr:Rel g w (σ.fr.getD i .undef).weak (a.tmps.getD t undef):=ValOK.rel (ValOK.of_weak (mine:=No) (ValOK.rel (hvar.val hnb)))
    simp only [List.map_cons,RelL]
    exact ⟨_,_,rfl,by show Rel g w (σ.fr.getD i .undef).weak.weak _; rw [weak_weak]; exact hr,vars_rel h h3⟩
  · cases hv

theorem last_of {ops:Array Oper} {o:Oper} {l:List Oper} (h:ops.toList.reverse=o::l):ops.size=l.length+1∧ops.toList.take l.length=l.reverse∧ops[l.length]?=some o:=by
 have e:ops.toList=l.reverse++[o]:=by
  have:=congrArg List.reverse h
  simpa using this
 refine ⟨by rw [← Array.length_toList,e]; simp,by rw [e]; simp,?_⟩
 rw [← Array.getElem?_toList,e,List.getElem?_append_right (by simp)]
 simp
theorem last_of2 {ops:Array Oper} {o p:Oper} {l:List Oper} (h:ops.toList.reverse=o::p::l):ops.size=l.length+2∧ops.toList.take l.length=l.reverse∧ops[l.length]?=some p∧ops[l.length+1]?=some o:=by
 have e:ops.toList=l.reverse++[p,o]:=by
  have:=congrArg List.reverse h
  simpa using this
 refine ⟨by rw [← Array.length_toList,e]; simp,by rw [e]; simp,?_,?_⟩
 · rw [← Array.getElem?_toList,e,List.getElem?_append_right (by simp)]
   simp
 · rw [← Array.getElem?_toList,e,List.getElem?_append_right (by simp)]
   simp

theorem dfr_region (fx:Fx c) (hc:CallOK c.P c.gt call) {id:Nat} {q:AOper} {f:Nat} {ys:List Opd} (hq:q=⟨.none,.call f,ys,none,none⟩) {k:Nat} (hd:dfrOK c ops.toList q=some k) {kill:List Nat} {ps:List AOper} (hok:opsOK c ops (ops.toList.take k) ps=true)
 {fr:List AV} {τ:Nat→AV} {st:St} (h:S c g w pr bx ⟨fr,τ,st⟩ a) (hr:runOps call ps ⟨killAll kill fr,fun _=>.undef,st⟩=some σ)
 (hnext:∀ a1 w1 g1 pr1 bx1 (cap dargs:Array Value) (vs:List Value),vs.toArray=dargs++cap→RelL g1 w1 ((ys.map (·.read σ)).map AV.weak) vs→a1.defers={ target:=.fn (.func f) cap,args:=dargs }::a.defers →
  S c g1 w1 pr1 bx1 ⟨σ.fr,fun _=>.undef,σ.st⟩ a1→Tr c.A g w g1 w1→Q .normal a1 w1):(Code.region id ops false).wp c.P Q a w:=by
 subst hq
 have h0:=h.reset kill
 obtain ⟨hl,_⟩:=opsOK_get hok
 refine wp_region ?_
 have hpre:∀ (i:Nat) o,(ops.toList.take k)[i]?=some o→ops[i]?=some o:=fun i o hi=>by
  rw [List.getElem?_take] at hi
  split at hi
  · rwa [Array.getElem?_toList] at hi
  · cases hi
 unfold dfrOK at hd
 dsimp only at hd
 split at hd
 · rename_i f' args at_ ty pos aft l hrev
   split at hd
   case isFalse=>cases hd
   rename_i hcond
   simp only [Bool.and_eq_true,beq_iff_eq] at hcond
   obtain ⟨rfl,hv⟩:=hcond
   simp only [Option.some.injEq] at hd
   subst hd
   obtain ⟨hsz,htake,hlast⟩:=last_of hrev
   have hpl:ps.length=l.length:=by rw [← hl,htake]; simp
   rw [List.range_eq_range',hsz,← List.range'_append_1,show 0+l.length=l.length by omega,List.range'_one,← hpl]
   refine ops_pre fx hc hok hpre ps.length 0 g w pr bx _ a (by omega) h0 (by simpa using hr) fun a1 w1 g1 pr1 bx1 hd1 hS1 ht1=>?_
   rw [wpOps_cons]
   refine opAt (by rw [hpl]; exact hlast) rfl ?_
   have hrel:=vars_rel hS1 hv
   have hrun:(execOp a1.eval ⟨none,.defer ⟨.value (.func f'),args,at_⟩,ty,pos,aft,none⟩).run c.P w1=.ok (.defer { target:=.fn (.func f') #[],args:=args.map a1.eval }) w1:=by
    simp [execOp,resolve,Deferred.ofValue,Act.eval]
   unfold Oper.wp
   rw [hrun,Oper.upon_defer]
   refine hnext { a1 with defers:=_::a1.defers } w1 g1 pr1 bx1 #[] (args.map a1.eval) (args.toList.map a1.eval) (Array.toList_inj.1 (by simp)) hrel (by simp only [hd1]) ?_ ht1
   exact ⟨(hS1.reset []).fr,hS1.st,hS1.gl,hS1.fresh,hS1.stA⟩
 · rename_i t args at_ ty pos aft t' f' first caps ty2 pos2 aft2 l hrev
   split at hd
   case isFalse=>cases hd
   rename_i hcond
   simp only [Bool.and_eq_true,beq_iff_eq,Bool.not_eq_true'] at hcond
   obtain ⟨⟨⟨⟨⟨⟨ea,ef⟩,rfl⟩,rfl⟩,hns⟩,hlt⟩,hv⟩:=hcond
   have ea:=Array.eq_empty_of_size_eq_zero ea
   have ef:=Array.eq_empty_of_size_eq_zero ef
   subst ea; subst ef
   simp only [Option.some.injEq] at hd
   subst hd
   obtain ⟨hsz,htake,hmk,hlast⟩:=last_of2 hrev
   have hpl:ps.length=l.length:=by rw [← hl,htake]; simp
   have hlt:t < c.nt:=by simpa using hlt
   have hns:t ∉ c.slots:=by simpa using hns
   rw [List.range_eq_range',hsz,← List.range'_append_1,show 0+l.length=l.length by omega,show List.range' l.length 2=[l.length,l.length+1] from rfl,← hpl]
   refine ops_pre fx hc hok hpre ps.length 0 g w pr bx _ a (by omega) h0 (by simpa using hr) fun a1 w1 g1 pr1 bx1 hd1 hS1 ht1=>?_
   rw [wpOps_cons]
   refine opAt (by rw [hpl]; exact hmk) rfl ?_
   have hrel:=vars_rel hS1 hv
   have hrun:(execOp a1.eval ⟨some t,.makeFunc (.func f') #[] caps,ty2,pos2,aft2,none⟩).run c.P w1=.ok (.value (.func (.func f') #[] (caps.map a1.eval))) w1:=by
    simp [execOp,Instr.makeFunc]
   unfold Oper.wp
   rw [hrun,Oper.upon_value,wpOps_cons]
   have hS2:=(hS1.reset []).put_undef hns hlt (.func (.func f') #[] (caps.map a1.eval))
   refine opAt (by rw [hpl]; exact hlast) rfl ?_
   have hev:(a1.put (some t) (.func (.func f') #[] (caps.map a1.eval))).eval (.tmp t)=.func (.func f') #[] (caps.map a1.eval):=by
    have:=hS1.fr.size
    simp only [Act.put,Act.eval]
    exact getD_set_same (by rw [this]; exact hlt)
   have hrun2:(execOp (a1.put (some t) (.func (.func f') #[] (caps.map a1.eval))).eval ⟨none,.defer ⟨.value (.tmp t),#[],at_⟩,ty,pos,aft,none⟩).run c.P w1=.ok (.defer { target:=.fn (.func f') (caps.map a1.eval),args:=#[] }) w1:=by
    simp only [execOp,resolve,Sem.run_bind,hev]
    simp [Deferred.ofValue]
   unfold Oper.wp
   rw [hrun2,Oper.upon_defer]
   refine hnext { a1.put (some t) (.func (.func f') #[] (caps.map a1.eval)) with defers:=_::(a1.put (some t) (.func (.func f') #[] (caps.map a1.eval))).defers } w1 g1 pr1 bx1 (caps.map a1.eval) #[] (caps.toList.map a1.eval) (Array.toList_inj.1 (by simp)) hrel (by simp only [Act.put,hd1]) ?_ ht1
   exact ⟨hS2.fr,hS2.st,hS2.gl,hS2.fresh,hS2.stA⟩
 · cases hd

theorem dfr0_region (fx:Fx c) (hc:CallOK c.P c.gt call) {id:Nat} {f k:Nat} (hd:dfr0 ops.toList=some (k,f)) {kill:List Nat} {ps:List AOper} (hok:opsOK c ops (ops.toList.take k) ps=true)
 {fr:List AV} {τ:Nat→AV} {st:St} (h:S c g w pr bx ⟨fr,τ,st⟩ a) (hr:runOps call ps ⟨killAll kill fr,fun _=>.undef,st⟩=some σ)
 (hnext:∀ a1 w1 g1 pr1 bx1 (dargs:Array Value),dargs.size=1→a1.defers={ target:=.fn (.func f) #[],args:=dargs }::a.defers→S c g1 w1 pr1 bx1 ⟨σ.fr,fun _=>.undef,σ.st⟩ a1→Tr c.A g w g1 w1→Q .normal a1 w1):(Code.region id ops false).wp c.P Q a w:=by
 have h0:=h.reset kill
 obtain ⟨hl,_⟩:=opsOK_get hok
 refine wp_region ?_
 have hpre:∀ (i:Nat) o,(ops.toList.take k)[i]?=some o→ops[i]?=some o:=fun i o hi=>by
  rw [List.getElem?_take] at hi
  split at hi
  · rwa [Array.getElem?_toList] at hi
  · cases hi
 unfold dfr0 at hd
 split at hd
 · rename_i f' args at_ ty pos aft l hrev
   split at hd
   case isFalse=>cases hd
   rename_i hsz1
   simp only [Option.some.injEq,Prod.mk.injEq] at hd
   obtain ⟨rfl,rfl⟩:=hd
   obtain ⟨hsz,htake,hlast⟩:=last_of hrev
   have hpl:ps.length=l.length:=by rw [← hl,htake]; simp
   rw [List.range_eq_range',hsz,← List.range'_append_1,show 0+l.length=l.length by omega,List.range'_one,← hpl]
   refine ops_pre fx hc hok hpre ps.length 0 g w pr bx _ a (by omega) h0 (by simpa using hr) fun a1 w1 g1 pr1 bx1 hd1 hS1 ht1=>?_
   rw [wpOps_cons]
   refine opAt (by rw [hpl]; exact hlast) rfl ?_
   have hrun:(execOp a1.eval ⟨none,.defer ⟨.value (.func f'),args,at_⟩,ty,pos,aft,none⟩).run c.P w1=.ok (.defer { target:=.fn (.func f') #[],args:=args.map a1.eval }) w1:=by
    simp [execOp,resolve,Deferred.ofValue,Act.eval]
   unfold Oper.wp
   rw [hrun,Oper.upon_defer]
   refine hnext { a1 with defers:=_::a1.defers } w1 g1 pr1 bx1 (args.map a1.eval) (by simpa using hsz1) (by simp only [hd1]) ?_ ht1
   exact ⟨(hS1.reset []).fr,hS1.st,hS1.gl,hS1.fresh,hS1.stA⟩
 · cases hd

/-! the calls that are deferred -/
def DOK0 (P:Program) (D0:List Nat):Prop:=∀ f∈D0,enterB P f=true∧∀ (args:Array Value) (w:World),args.size=1→CallsD P f args .returning w fun e u w'=>u=.returning∧w'=w∧∃ v,e=.returned v
def DOK (P:Program) (gt:List (Nat×List AV)) (D:List Nat) (call:CallT):Prop :=
 ∀ (f:Nat) (args:List AV) (st:St) (res:AV) (st':St),f∈D→call f args st=some (res,st')→(∀ x∈args,x.weak=x) →
  enterB P f=true∧∀ (g:Gh) (w:World) (vs:List Value),SRel g w st→Globs gt g w→RelL g w args vs→CallsD P f vs.toArray .returning w (fun e u w'=>u=.returning∧CallPost g w st' res e w')

theorem S.called (h:S c g w pr bx σ a) {g':Gh} {w':World} {st':St} (hst:SRel g' w' st') (htr:Tr No g w g' w'):S c g' w' pr bx { σ with st:=st' } a :=
 ⟨h.fr.evolve htr,hst,h.gl.ext htr.ext,fun b hb=>h.fresh b (Nat.le_trans htr.size hb),fun b p hb=>by
  rcases Nat.lt_or_ge b w.heap.size with hlt|hge
  · cases hq:g.sr b with
    | some q=>exact h.stA b q hq
    | none=>have:=(htr.keep b hlt hq (fun x=>x)).2; rw [hb] at this; cases this
  · exact h.fresh b hge⟩
theorem S.dfrs (h:S c g w pr bx σ a) (ds:List Deferred):S c g w pr bx σ { a with defers:=ds }:=⟨h.fr,h.st,h.gl,h.fresh,h.stA⟩

def varsKeep (y:ACode):List Opd→Bool
 | []=>true
 | .v i::xs=>noset i y && varsKeep y xs
 | _=>false
def topOK (c:Cx) (D D0:List Nat):Code→ACode→Bool
 | .seq (.region id ops d) rest,y=>match y with
  | .seq (.reg kill ps) (.seq (.blk e rest') .skip)=>match dfr0 ops.toList with
   | some (k,f)=>!d && opsOK c ops (ops.toList.take k) ps && D0.contains f && noRet rest' && noBlk e rest' && topOK c D D0 rest (unret e rest')
   | none=>codeOK c (.seq (.region id ops d) rest) y
  | .seq (.reg kill ps) (.seq (.blk e rest') (.reg [] [q]))=>match dfrOK c ops.toList q with
   | some k=>!d && opsOK c ops (ops.toList.take k) ps && (match q.kind with|.call f=>D.contains f|_=>false) && varsKeep rest' q.args && noRet rest' && noBlk e rest' && topOK c D D0 rest (unret e rest')
   | none=>codeOK c (.seq (.region id ops d) rest) y
  | .seq (.test kill ps z a' b') rest'=>match rest with
   | .seq (.cond x a b) rest2=>regOK c ops d kill ps && condOK c x z && codeOK c a a' && codeOK c b b' && topOK c D D0 rest2 rest'
   | _=>codeOK c (.seq (.region id ops d) rest) y
  | .seq a' b'=>codeOK c (.region id ops d) a' && topOK c D D0 rest b'
  | y=>codeOK c (.seq (.region id ops d) rest) y
 | .seq a b,y=>match y with
  | .seq a' b'=>codeOK c a a' && topOK c D D0 b b'
  | y=>codeOK c (.seq a b) y
 | x,y=>codeOK c x y

theorem vars_kept {σ1 σ2:Sig} {call:CallT} {n:Nat} {y:ACode} {out:Out} (he:exec call n y σ1.fr σ1.st=some out) (h2:σ2.fr=out.2.1):∀ {xs:List Opd},varsKeep y xs=true→xs.map (·.read σ2)=xs.map (·.read σ1)
 | [],_=>rfl
 | x::xs,h=>by
  cases x <;> simp only [varsKeep,Bool.and_eq_true,Bool.false_eq_true] at h
  rename_i i
  rw [List.map_cons,List.map_cons,vars_kept he h2 h.2]
  congr 1
  show (σ2.fr.getD i .undef).weak=(σ1.fr.getD i .undef).weak
  rw [h2,exec_keep y _ _ _ h.1 he]

def Left (c:Cx) (fn:Func) (R:Ending→World→Prop) (g:Gh) (w:World) (a:Act) (out:Out):Prop :=
 ∀ a' w' g' pr' bx' τ',a'.defers=a.defers→S c g' w' pr' bx' ⟨out.2.1,τ',out.2.2⟩ a'→Tr c.A g w g' w'→Leaves c.P fn a'.tmps R a.defers .returning w'

theorem Left.after {fn:Func} {R:Ending→World→Prop} {out:Out} (h:Left c fn R g w a out) (ho:out.1=.normal∨out.1=.ret):After c g w a out (bodyPostD c.P fn R):=fun a' w' g' pr' bx' τ' hd hS ht=>by
 have:=h a' w' g' pr' bx' τ' hd hS ht
 rw [← hd] at this
 rcases ho with ho|ho <;> rw [ho] <;> exact this
theorem Left.trans {fn:Func} {R:Ending→World→Prop} {out:Out} {a1:Act} {g1:Gh} {w1:World} (h:Left c fn R g w a out) (hd:a1.defers=a.defers) (ht:Tr c.A g w g1 w1):Left c fn R g1 w1 a1 out:=fun a' w' g' pr' bx' τ' hd' hS' ht'=>by
 rw [hd]
 exact h a' w' g' pr' bx' τ' (hd'.trans hd) hS' (ht.trans ht')

theorem leave_dfr {D:List Nat} (hD:DOK c.P c.gt D call) {fn:Func} {R:Ending→World→Prop} {f:Nat} {as:List AV} {vs:List Value} {cap dargs:Array Value} {ds:List Deferred} {a2:Act} {τ2:Nat→AV} {fr2:List AV} {st2 st3:St} {v:AV} {g2:Gh} {w2:World} {pr2:Nat→Option Pl} {bx2:Nat→Nat}
 (hf:f∈D) (hvs:vs.toArray=dargs++cap) (hw:∀ x∈as,x.weak=x) (hcall:call f as st2=some (v,st3)) (hrel:RelL g2 w2 as vs) (hS:S c g2 w2 pr2 bx2 ⟨fr2,τ2,st2⟩ a2)
 (hfin:∀ g3 w3,S c g3 w3 pr2 bx2 ⟨fr2,τ2,st3⟩ a2→Tr c.A g2 w2 g3 w3→Leaves c.P fn a2.tmps R ds .returning w3) :
 Leaves c.P fn a2.tmps R ({ target:=.fn (.func f) cap,args:=dargs }::ds) .returning w2:=by
 obtain ⟨hen,hcd⟩:=hD f as st2 v st3 hf hcall hw
 refine leaves_cons (f:=f) (args:=vs.toArray) (by simp) ?_ ?_
 · simp only [invoke]
   rw [hvs]
   exact run_enter hen _ _
 · refine (hcd g2 w2 vs hS.st hS.gl hrel).mono fun e u' w3 he=>?_
   obtain ⟨rfl,_,g3,rfl,hst,htr,_⟩:=he
   exact hfin g3 w3 (hS.called hst htr) (htr.wider fun _ x=>x.elim)

theorem top_ok {n:Nat} (fx:Fx c) (hm:c.P.follows .mixedOrders=true) (hc:CallOK c.P c.gt call) {D D0:List Nat} (hD:DOK c.P c.gt D call) (hD0:DOK0 c.P D0) {fn:Func} {R:Ending→World→Prop} (x:Code) (y:ACode) (h:topOK c D D0 x y=true)
 {g:Gh} {w:World} {pr:Nat→Option Pl} {bx:Nat→Nat} {fr:List AV} {τ:Nat→AV} {st:St} {a:Act} {out:Out} (hS:S c g w pr bx ⟨fr,τ,st⟩ a) (he:exec call n y fr st=some out) (ho:out.1=.normal∨out.1=.ret) (hL:Left c fn R g w a out):x.wp c.P (bodyPostD c.P fn R) a w:=by
 have plain:∀ (x:Code) (y:ACode),codeOK c x y=true→exec call n y fr st=some out→x.wp c.P (bodyPostD c.P fn R) a w :=
  fun x y hok he=>code_ok x y hok fx hm hc hS he (hL.after ho)
 have go:∀ (q:Code),SizeOf.sizeOf q < SizeOf.sizeOf x→∀ (y:ACode),topOK c D D0 q y=true→∀ {g:Gh} {w:World} {pr:Nat→Option Pl} {bx:Nat→Nat} {fr:List AV} {τ:Nat→AV} {st:St} {a:Act} {out:Out},S c g w pr bx ⟨fr,τ,st⟩ a→exec call n y fr st=some out→(out.1=.normal∨out.1=.ret)→Left c fn R g w a out→q.wp c.P (bodyPostD c.P fn R) a w :=
  fun q hq y h _ _ _ _ _ _ _ _ _ hS he ho hL=>top_ok fx hm hc hD hD0 q y h hS he ho hL
 have both:∀ (A q:Code) (a' b':ACode),SizeOf.sizeOf q < SizeOf.sizeOf x→codeOK c A a'=true→topOK c D D0 q b'=true→exec call n (.seq a' b') fr st=some out→A.wp c.P (Exit.then (q.wp c.P (bodyPostD c.P fn R)) (bodyPostD c.P fn R)) a w:=by
  intro A q a' b' hsz h1 h2 he
  rcases exec_seq he with ⟨fr1,st1,e1,e2⟩|⟨e1,hn⟩
  · exact code_ok A a' h1 fx hm hc hS e1 fun a1 w1 g1 pr1 bx1 τ1 hd1 hS1 ht1=>go q hsz b' h2 hS1 e2 ho (hL.trans hd1 ht1)
  · refine code_ok A a' h1 fx hm hc hS e1 fun a1 w1 g1 pr1 bx1 τ1 hd1 hS1 ht1=>?_
    have:=hL.after ho a1 w1 g1 pr1 bx1 τ1 hd1 hS1 ht1
    revert this hn
    cases out.1 <;> simp [Ex.toExit,Exit.then]
 unfold topOK at h
 split at h
 · -- a region ahead
   rename_i id ops d rest
   split at h
   · -- perhaps one that does nothing
     rename_i kill ps e rest'
     split at h
     · rename_i k f hk
       simp only [Bool.and_eq_true,Bool.not_eq_true'] at h
       obtain ⟨⟨⟨⟨⟨h1,h2⟩,h3⟩,h5⟩,h6⟩,h7⟩:=h
       subst h1
       have hf:f∈D0:=by simpa using h3
       rcases exec_seq he with ⟨fr1,st1,e1,e2⟩|⟨e1,hn⟩
       · simp only [exec] at e1
         cases hr:runOps call ps ⟨killAll kill fr,fun _=>.undef,st⟩ with
         | none=>simp [hr] at e1
         | some σ =>
          simp only [hr,fL_eq,Option.some.injEq,Prod.mk.injEq,true_and] at e1
          obtain ⟨rfl,rfl⟩:=e1
          have hrest:∃ ex fr2 st2,exec call n rest' σ.fr σ.st=some (ex,fr2,st2)∧(ex=.normal∨ex=.exit e)∧out=(.normal,fr2,st2):=by
           rcases exec_seq e2 with ⟨fr2,st2,e3,e4⟩|⟨e3,hn⟩
           · simp only [exec,Option.some.injEq] at e4
             simp only [exec] at e3
             split at e3
             · rename_i id' fr4 st4 h9
               simp only [Option.some.injEq,Prod.mk.injEq] at e3
               obtain ⟨e5,rfl,rfl⟩:=e3
               have:id'=e:=by
                by_cases q:id'=e
                · exact q
                · rw [if_neg q] at e5; cases e5
               subst this
               exact ⟨_,_,_,h9,.inr rfl,e4.symm⟩
             · exact ⟨_,_,_,e3,.inl rfl,e4.symm⟩
           · exfalso
             simp only [exec] at e3
             split at e3
             · rename_i id' fr4 st4 h9
               simp only [Option.some.injEq] at e3
               subst e3
               dsimp only at ho hn
               split at hn
               · exact hn rfl
               · rename_i hne
                 rw [if_neg hne] at ho
                 rcases ho with ho|ho <;> cases ho
             · rcases ho with ho|ho
               · exact hn ho
               · exact exec_noRet rest' _ _ _ h5 e3 ho
          obtain ⟨ex,fr2,st2,h9,hex,rfl⟩:=hrest
          have h10:=exec_unret rest' _ _ _ h6 h9
          have hex2:retEx e ex=.normal∨retEx e ex=.ret:=by
           rcases hex with rfl|rfl
           · exact .inl rfl
           · right; simp [retEx]
          refine wp_seq (dfr0_region fx hc hk h2 hS hr fun a1 w1 g1 pr1 bx1 dargs hz1 hd1 hS1 ht1=>?_)
          show rest.wp c.P (bodyPostD c.P fn R) a1 w1
          refine go rest (by simp; omega) (unret e rest') h7 hS1 h10 hex2 fun a2 w2 g2 pr2 bx2 τ2 hd2 hS2 ht2=>?_
          rw [hd1]
          obtain ⟨hen,hcd⟩:=hD0 f hf
          refine leaves_cons (f:=f) (args:=dargs++#[]) (by simp) (by simp only [invoke]; exact run_enter hen _ _) ?_
          refine (hcd _ w2 (by simpa using hz1)).mono fun e3 u' w3 he3=>?_
          obtain ⟨rfl,rfl,v,rfl⟩:=he3
          exact hL { a2 with defers:=a.defers } _ g2 pr2 bx2 τ2 rfl (hS2.dfrs _) (ht1.trans ht2)
       · exfalso
         simp only [exec] at e1
         split at e1
         · simp only [fL_eq,Option.some.injEq] at e1
           subst e1
           exact hn rfl
         · cases e1
     · exact plain _ _ h he
   · -- perhaps a deferred call
     rename_i kill ps e rest' q
     split at h
     · rename_i k hk
       simp only [Bool.and_eq_true,Bool.not_eq_true'] at h
       obtain ⟨⟨⟨⟨⟨⟨h1,h2⟩,h3⟩,h4⟩,h5⟩,h6⟩,h7⟩:=h
       subst h1
       obtain ⟨f,ys,rfl⟩:∃ f ys,q=⟨.none,.call f,ys,none,none⟩:=by
        unfold dfrOK at hk
        split at hk
        · exact ⟨_,_,rfl⟩
        · cases hk
       have hf:f∈D:=by simpa using h3
       rcases exec_seq he with ⟨fr1,st1,e1,e2⟩|⟨e1,hn⟩
       · simp only [exec] at e1
         cases hr:runOps call ps ⟨killAll kill fr,fun _=>.undef,st⟩ with
         | none=>simp [hr] at e1
         | some σ =>
          simp only [hr,fL_eq,Option.some.injEq,Prod.mk.injEq,true_and] at e1
          obtain ⟨rfl,rfl⟩:=e1
          -- how the rest ends
          have hrest:∃ ex fr2 st2 st3 v,exec call n rest' σ.fr σ.st=some (ex,fr2,st2)∧(ex=.normal∨ex=.exit e)∧call f ((ys.map (·.read ⟨fr2,fun _=>.undef,st2⟩)).map AV.weak) st2=some (v,st3)∧out=(.normal,fr2,st3):=by
           have fin:∀ fr2 st2,exec call n (.reg [] [⟨.none,.call f,ys,none,none⟩]) fr2 st2=some out→∃ st3 v,call f ((ys.map (·.read ⟨fr2,fun _=>.undef,st2⟩)).map AV.weak) st2=some (v,st3)∧∃ fr3,out=(.normal,fr3,st3)∧fr3=(spendAll ys ⟨fr2,fun _=>.undef,st2⟩).fr:=by
            intro fr2 st2 he3
            simp only [exec,killAll,runOps,stepOp] at he3
            cases hg:goOp call ⟨.none,.call f,ys,none,none⟩ ⟨fr2,fun _=>.undef,st2⟩ with
            | none=>rw [hg] at he3; cases he3
            | some σ3 =>
             rw [hg] at he3
             simp only [fL_eq,Option.some.injEq] at he3
             obtain ⟨r,b',st3,hs,rfl⟩:=goOp_some hg
             simp only [sem,semCall] at hs
             split at hs
             · cases hcl:call f ((ys.map (·.read ⟨fr2,fun _=>.undef,st2⟩)).map AV.weak) st2 with
               | none=>rw [hcl] at hs; cases hs
               | some z =>
                obtain ⟨v,s3⟩:=z
                rw [hcl] at hs
                simp only [Option.map_some,Option.some.injEq,Prod.mk.injEq] at hs
                obtain ⟨rfl,rfl,rfl⟩:=hs
                exact ⟨s3,v,rfl,_,he3.symm,rfl⟩
             · cases hs
           have keepv:∀ (xs:List Opd) (σ0:Sig),varsKeep rest' xs=true→spendAll xs σ0=σ0:=by
            intro xs
            induction xs with
            | nil=>intro σ0 _; rfl
            | cons x xs ih =>
             intro σ0 hx
             cases x <;> simp only [varsKeep,Bool.and_eq_true,Bool.false_eq_true] at hx
             exact ih _ hx.2
           rcases exec_seq e2 with ⟨fr2,st2,e3,e4⟩|⟨e3,hn⟩
           · simp only [exec] at e3
             obtain ⟨st3,v,hv,fr3,ho3,hf3⟩:=fin fr2 st2 e4
             rw [keepv ys _ h4] at hf3
             subst hf3
             split at e3
             · rename_i id' fr4 st4 h9
               simp only [Option.some.injEq,Prod.mk.injEq] at e3
               obtain ⟨e5,rfl,rfl⟩:=e3
               have:id'=e:=by
                by_cases q:id'=e
                · exact q
                · rw [if_neg q] at e5; cases e5
               subst this
               exact ⟨_,_,_,_,_,h9,.inr rfl,hv,ho3⟩
             · exact ⟨_,_,_,_,_,e3,.inl rfl,hv,ho3⟩
           · exfalso
             simp only [exec] at e3
             split at e3
             · rename_i id' fr4 st4 h9
               simp only [Option.some.injEq] at e3
               subst e3
               dsimp only at ho hn
               split at hn
               · exact hn rfl
               · rename_i hne
                 rw [if_neg hne] at ho
                 rcases ho with ho|ho <;> cases ho
             · rcases ho with ho|ho
               · exact hn ho
               · exact exec_noRet rest' _ _ _ h5 e3 ho
          obtain ⟨ex,fr2,st2,st3,v,h9,hex,hcall,rfl⟩:=hrest
          have h10:=exec_unret rest' _ _ _ h6 h9
          have hex2:retEx e ex=.normal∨retEx e ex=.ret:=by
           rcases hex with rfl|rfl
           · exact .inl rfl
           · right; simp [retEx]
          refine wp_seq (dfr_region fx hc rfl hk h2 hS hr fun a1 w1 g1 pr1 bx1 cap dargs vs hvs hrel hd1 hS1 ht1=>?_)
          show rest.wp c.P (bodyPostD c.P fn R) a1 w1
          refine go rest (by simp; omega) (unret e rest') h7 hS1 h10 hex2 fun a2 w2 g2 pr2 bx2 τ2 hd2 hS2 ht2=>?_
          rw [hd1]
          have hk2:(ys.map (·.read ⟨fr2,fun _=>.undef,st2⟩))=ys.map (·.read σ):=vars_kept (σ1:=σ) h9 rfl h4
          rw [hk2] at hcall
          refine leave_dfr hD hf hvs (fun x hx=>?_) hcall (hrel.ext ht2.ext _ _) hS2 fun g3 w3 hS3 ht3=>?_
          · obtain ⟨z,_,rfl⟩:=List.mem_map.1 hx
            exact weak_weak z
          · have hfin:=hL { a2 with defers:=a.defers } w3 g3 pr2 bx2 τ2 rfl (hS3.dfrs _) ((ht1.trans ht2).trans ht3)
            exact hfin
       · exfalso
         simp only [exec] at e1
         split at e1
         · simp only [fL_eq,Option.some.injEq] at e1
           subst e1
           exact hn rfl
         · cases e1
     · exact plain _ _ h he
   · rename_i kill ps z a' b' rest'
     split at h
     · rename_i x A B rest2
       simp only [Bool.and_eq_true] at h
       obtain ⟨⟨⟨⟨h1,h2⟩,h3⟩,h4⟩,h5⟩:=h
       rcases exec_seq he with ⟨fr1,st1,e1,e2⟩|⟨e1,hn⟩
       · refine wp_seq (k_test (Q':=Exit.then (rest2.wp c.P (bodyPostD c.P fn R)) (bodyPostD c.P fn R)) h1 h2 (code_ok _ _ h3) (code_ok _ _ h4) fx hm hc hS e1 (fun a1 w1 g1 pr1 bx1 τ1 hd1 hS1 ht1=>?_) fun _ _ x=>wp_seq x)
         exact go rest2 (by simp; omega) rest' h5 hS1 e2 ho (hL.trans hd1 ht1)
       · refine wp_seq (k_test (Q':=Exit.then (rest2.wp c.P (bodyPostD c.P fn R)) (bodyPostD c.P fn R)) h1 h2 (code_ok _ _ h3) (code_ok _ _ h4) fx hm hc hS e1 (fun a1 w1 g1 pr1 bx1 τ1 hd1 hS1 ht1=>?_) fun _ _ x=>wp_seq x)
         have:=hL.after ho a1 w1 g1 pr1 bx1 τ1 hd1 hS1 ht1
         revert this hn
         cases out.1 <;> simp [Ex.toExit,Exit.then]
     · exact plain _ _ h he
   · rename_i a' b' _ _ _
     rw [Bool.and_eq_true] at h
     exact wp_seq (both _ rest a' b' (by simp; omega) h.1 h.2 he)
   · exact plain _ _ h he
 · rename_i p q _
   split at h
   · rename_i a' b'
     rw [Bool.and_eq_true] at h
     exact wp_seq (both p q a' b' (by simp; omega) h.1 h.2 he)
   · exact plain _ _ h he
 · exact plain _ _ h he
termination_by SizeOf.sizeOf x
decreasing_by all_goals assumption
end

/-! functions -/
def fnOKd (P:Program) (gt:List (Nat×List AV)) (D D0:List Nat) (slots bxs:List Nat) (fn:Func) (f:AFn) (A:Nat→Prop):Bool :=
 f.ext.isNone && nodupB slots && slots.all (fun s=>Nat.blt s fn.ntmps) && slots.take f.np == List.range f.np && Nat.ble f.np slots.length && Nat.beq f.nv slots.length &&
  (match fn.body with|some x=>topOK ⟨P,slots,bxs,fn.ntmps,gt,A⟩ D D0 x f.code|none=>false) && resOK ⟨P,slots,bxs,fn.ntmps,gt,A⟩ fn.results.toList f.results

structure ProgD (P:Program) (gt:List (Nat×List AV)) (D D0:List Nat) (tbl:Nat→Option AFn):Prop where
 mixed:P.follows .mixedOrders=true
 fn:∀ f af,tbl f=some af→enterB P (vf f)=true∧((∃ slots bxs fn,P.funcs[vf f]?=some fn∧∀ A,fnOK P gt slots bxs fn af A=true)∨(∃ slots bxs fn,P.funcs[vf f]?=some fn∧∀ A,fnOKd P gt D D0 slots bxs fn af A=true)∨(∃ e,af.ext=some e∧ExtOK P gt (vf f) e))
 dfr:∀ f∈D,∀ af,tbl f=some af→vf f=f∧∃ slots bxs fn,P.funcs[f]?=some fn∧∀ A,fnOK P gt slots bxs fn af A=true
 dfr0:DOK0 P D0

theorem fn_wpD {P:Program} {gt:List (Nat×List AV)} {D D0:List Nat} {slots bxs:List Nat} {fn:Func} {af:AFn} {g:Gh} {w:World} {args:List AV} {vs:List Value} {st st':St} {res:AV} {call:CallT} {n:Nat} (hm:P.follows .mixedOrders=true) (hc:CallOK P gt call) (hD:DOK P gt D call) (hD0:DOK0 P D0)
 (hok:∀ A,fnOKd P gt D D0 slots bxs fn af A=true) (h:af.run call n args st=some (res,st')) (hweak:∀ x∈args,x.weak=x) (hst:SRel g w st) (hgl:Globs gt g w) (hrel:RelL g w args vs) :
 ∃ body,fn.body=some body∧body.wp P (bodyPostD P fn (CallPost g w st' res)) { tmps:=vs.toArray++Array.replicate (fn.ntmps - vs.toArray.size) undef,defers:=[] } w:=by
 have hok:=hok fun b=>w.heap.size≤b∨g.sr b≠none
 simp only [fnOKd,Bool.and_eq_true,Option.isNone_iff_eq_none,beq_iff_eq,Nat.beq_eq] at hok
 obtain ⟨⟨⟨⟨⟨⟨⟨o1,o2⟩,o3⟩,o4⟩,o5⟩,o6⟩,o7⟩,o8⟩:=hok
 have o5:=Nat.le_of_ble_eq_true o5
 split at o7
 case h_2=>cases o7
 rename_i body hbody
 unfold AFn.run at h
 split at h
 case isFalse=>cases h
 rename_i hlen
 split at h
 · cases h
 · rename_i ex fr' st1 hnex hexec
   obtain ⟨fx,hS⟩:=fn_start (bxs:=bxs) o2 o3 o4 o5 o6 hlen hweak hst hgl hrel
   refine ⟨body,hbody,?_⟩
   refine top_ok fx hm hc hD hD0 _ _ o7 hS hexec ?_ fun a' w' g' pr' bx' τ' hd hS' ht=>?_
   · cases ex with
     | normal=>exact .inl rfl
     | ret=>exact .inr rfl
     | exit id=>exact (hnex id rfl).elim
   · exact fn_end hS' ht o8 h
 · cases h

theorem callF_okD {P:Program} {gt:List (Nat×List AV)} {D D0:List Nat} {tbl:Nat→Option AFn} (hP:ProgD P gt D D0 tbl):∀ n,CallOK P gt (callF tbl n)∧DOK P gt D (callF tbl n):=by
 intro n
 induction n with
 | zero=>exact ⟨fun f args st res st' h=>by simp [callF] at h,fun f args st res st' _ h=>by simp [callF] at h⟩
 | succ n ih =>
  obtain ⟨ih,ihD⟩:=ih
  refine ⟨fun f args st res st' h hweak=>?_,fun f args st res st' hfD h hweak=>?_⟩
  · simp only [callF] at h
    cases htbl:tbl f with
    | none=>simp [htbl] at h
    | some af =>
     simp only [htbl] at h
     obtain ⟨hen,hfn⟩:=hP.fn f af htbl
     refine ⟨hen,fun g w vs hst hgl hrel=>?_⟩
     rcases hfn with ⟨slots,bxs,fn,hf,hok⟩|⟨slots,bxs,fn,hf,hok⟩|⟨e,he,hext⟩
     · have he:af.ext=none:=by
        have:=hok fun _=>True
        simp only [fnOK,Bool.and_eq_true,Option.isNone_iff_eq_none] at this
        exact this.1.1.1.1.1.1.1
       simp only [he] at h
       obtain ⟨body,hb,hwp⟩:=fn_wp hP.mixed ih hok h hweak hst hgl hrel
       exact calls_of_wp hf hb hwp
     · have he:af.ext=none:=by
        have:=hok fun _=>True
        simp only [fnOKd,Bool.and_eq_true,Option.isNone_iff_eq_none] at this
        exact this.1.1.1.1.1.1.1
       simp only [he] at h
       obtain ⟨body,hb,hwp⟩:=fn_wpD hP.mixed ih ihD hP.dfr0 hok h hweak hst hgl hrel
       exact calls_of_wp_defers hf hb hwp
     · simp only [he] at h
       exact hext args st res st' h hweak g w vs hst hgl hrel
  · simp only [callF] at h
    cases htbl:tbl f with
    | none=>simp [htbl] at h
    | some af =>
     simp only [htbl] at h
     obtain ⟨hvf,slots,bxs,fn,hf,hok⟩:=hP.dfr f hfD af htbl
     refine ⟨hvf ▸ (hP.fn f af htbl).1,fun g w vs hst hgl hrel=>?_⟩
     have he:af.ext=none:=by
      have:=hok fun _=>True
      simp only [fnOK,Bool.and_eq_true,Option.isNone_iff_eq_none] at this
      exact this.1.1.1.1.1.1.1
     simp only [he] at h
     obtain ⟨body,hb,hwp⟩:=fn_wp hP.mixed ih hok h hweak hst hgl hrel
     exact (callsD_of_wp hf hb hwp).mono fun e u w' hh=>hh
end Go.Cb
/-
 THE ABSTRACT MACHINE, part 58: from an abstract answer to the model's call where functions defer calls; answers where there is more in the store.
-/
set_option maxRecDepth 4000
set_option linter.unusedVariables false
namespace Go.Cb
open Classical

theorem answerD {P:Program} {gt:List (Nat×List AV)} {D D0:List Nat} {tbl:Nat→Option AFn} (hP:ProgD P gt D D0 tbl) {n f:Nat} {args:List AV} {b:Bool} {st':St} (h:callF tbl n f args []=some (.bool b,st')) (hw:∀ x∈args,x.weak=x)
 {W:World} {vs:List Value} (hg:Globs gt (gh0 W) W) (hr:RelL (gh0 W) W args vs) (hv:vf f=f:=by rfl):Calls P f vs.toArray W (fun e W'=>e=.returned (.bool b)∧Kept W W'):=by
 rw [← hv]
 refine (((callF_okD hP n).1 f args [] _ _ h hw).2 (gh0 W) W vs (srel0 W) hg hr).mono fun e W' he=>?_
 obtain ⟨v,g',rfl,_,ht,hv⟩:=he
 have hv:=hv.rel
 simp only [Rel] at hv
 subst hv
 have hold:∀ b,b < W.heap.size→W'.heap[b]?=W.heap[b]?:=fun b hb=>(ht.keep b hb rfl fun x=>x).1.1
 refine ⟨rfl,⟨ht.env.os,ht.env.out,fun i hi=>?_⟩,fun a ha=>by unfold World.frozen?; rw [hold a.block ha],ht.size,hold⟩
 rw [hold i hi]
 cases hq:W.heap[i]? with
 | none=>simp
 | some o=>cases o <;> simp

end Go.Cb
/-
 THE ABSTRACT MACHINE, part 50: a copy of rows of several cells; two slices that lie apart; what a new object in the store comes to.
-/
set_option maxRecDepth 4000
set_option linter.unusedVariables false
set_option linter.unusedSimpArgs false
namespace Go.Cb
open Classical

theorem run_copy_rowN {P:Program} (w:World) (dT sT ty elem:TypeId) (sz g o dLen dCap:Nat) (a:Addr) (sLen sCap:Nat) (cur:Array Value) (t:TypeId) (cs:List Value)
 (hu:P.underlying dT=some (.slice elem)) (hs:(P.info? elem).map (·.size)=some sz)
 (hg:w.heap[g]?=some (.cells cur t (0,0))) (hn:cs.length=Nat.min sLen dLen*sz)
 (hsrc:∀ j v,cs[j]?=some v→w.cell? (a.add j)=some v) (hfit:o+cs.length≤cur.size) (h1:∀ v∈cs,v.oneCell'=true) :
 (Builtin.copy_ #[dT,sT] ty #[.slice (some ⟨g,o,none⟩) dLen dCap,.slice (some a) sLen sCap]).run P w =
  .ok (goInt (Nat.min sLen dLen)) (w.setRow g (cur.toList.take o++cs++cur.toList.drop (o+cs.length)).toArray):=by
 have hl:=run_loadCells_list (P:=P) w a cs hsrc
 have hst:=run_storeCells_at P g o t cs 0 cur w hg (by simpa using hfit) h1
 cases hq:P.info? elem with
 | none=>simp [hq] at hs
 | some i =>
  have hi:i.size=sz:=by simpa [hq] using hs
  simp [Builtin.copy_,run_underlying hu,Builtin.lenOf,Builtin.firstCells,sizeOf,typeInfo,hq,hi,← hn,hl,hst]

theorem run_overlaps_plain {P:Program} (w:World) (tS tR e:TypeId) (ht:P.underlying tS=some (.slice e)) (size:Nat) (hz:∀ w,(Go.sizeOf e).run P w=.ok size w)
 (a b:Addr) (la ca lb cb:Nat) (hne:a.block≠b.block) {arrA arrB:Array Value} {TA TB:TypeId} {zA:Nat×Nat}
 (hA:w.heap[a.block]?=some (.cells arrA TA zA)) (hB:w.heap[b.block]?=some (.cells arrB TB (0,0))) (hkA:arrA.size≠0) (hkB:arrB.size≠0) :
 (Extern.SlicesOverlaps.overlaps #[tS,tS] #[tR] #[.slice (some a) la ca,.slice (some b) lb cb]).run P w=.ok (.bool false) w:=by
 have hnb:(a.block != b.block)=true:=by simpa using hne
 have hnb':(a.block == b.block)=false:=by simpa using hne
 have hsa:w.shape? a.block=some (TA,arrA.size):=by simp [World.shape?,hA]
 have hsb:w.shape? b.block=some (TB,arrB.size):=by simp [World.shape?,hB]
 have hfb:∀ x:Addr,x.block=b.block→w.frozen? x=false:=fun x hx=>by simp [World.frozen?,hx,hB]
 have hf1:=hfb b rfl
 have hf2:=hfb { block:=b.block,off:=arrB.size } rfl
 delta Extern.SlicesOverlaps.overlaps
 dsimp only
 delta Extern.SlicesOverlaps.overlaps.match_4
 dsimp only [Array.size,List.length]
 simp only [dif_pos,Nat.reduceAdd,Nat.zero_add]
 dsimp only [Array.getLit,getElem,Array.getInternal,List.get]
 by_cases h0:la=0∨lb=0∨size=0
 · simp [run_underlying ht,hz,h0]
 · cases hn:arrB.size with
   | zero=>exact absurd hn hkB
   | succ kB =>
    rw [hn] at hsb hf2
    cases hm:arrA.size with
    | zero=>exact absurd hm hkA
    | succ kA =>
    rw [hm] at hsa
    cases hfa:w.frozen? a with
    | true=>simp [run_underlying ht,hz,h0,hnb,hnb',frozen,noView,viewAt,mayBeOne,stringish,shape,Sem.run,hsa,hsb,hfa,hf1,hf2]
    | false =>
     cases hfe:w.frozen? { block:=a.block,off:=kA+1 } <;>
     simp [run_underlying ht,hz,h0,hnb,hnb',frozen,noView,viewAt,mayBeOne,stringish,shape,Sem.run,hsa,hsb,hfa,hf1,hf2,hfe]
end Go.Cb
/-
 THE ABSTRACT MACHINE, part 33: with enough fuel it comes to something of that sort.
-/
set_option maxRecDepth 4000
set_option linter.unusedVariables false
namespace Go.Cb
open Classical

def WC {α:Type} (c:Nat→Option α) (Q:α→Prop):Prop:=∃ n0 a,(∀ n,n0≤n→c n=some a)∧Q a
def EvQ (tbl:Nat→Option AFn) (f:Nat) (as:List AV) (st:St) (Q:AV→St→Prop):Prop:=∃ r st',Ev tbl f as st r st'∧Q r st'

theorem WC.ret {α:Type} {a:α} {Q:α→Prop} (h:Q a):WC (fun _=>some a) Q:=⟨0,a,fun _ _=>rfl,h⟩
theorem WC.mono {α:Type} {c:Nat→Option α} {P Q:α→Prop} (h:WC c P) (hq:∀ a,P a→Q a):WC c Q :=
 let ⟨n,a,ha,hp⟩:=h; ⟨n,a,ha,hq a hp⟩
theorem WC.obind {α β:Type} {c:Nat→Option α} {k:Nat→α→Option β} {P:α→Prop} {Q:β→Prop} (h:WC c P) (hk:∀ a,P a→WC (fun n=>k n a) Q):WC (fun n=>Go.Cb.obind (c n) (k n)) Q:=by
 obtain ⟨n,a,ha,hp⟩:=h
 obtain ⟨m,b,hb,hq⟩:=hk a hp
 refine ⟨max n m,b,fun j hj=>?_,hq⟩
 show Go.Cb.obind (c j) (k j)=some b
 rw [ha j (by omega),obind_some]
 exact hb j (Nat.le_trans (Nat.le_max_right n m) hj)
theorem EvQ.mono {tbl:Nat→Option AFn} {f:Nat} {as:List AV} {st:St} {P Q:AV→St→Prop} (h:EvQ tbl f as st P) (hq:∀ r st',P r st'→Q r st'):EvQ tbl f as st Q :=
 let ⟨r,st',he,hp⟩:=h; ⟨r,st',he,hq r st' hp⟩

section
variable {tbl:Nat→Option AFn}
theorem WC.call {β:Type} {f:Nat} {as as':List AV} {bx:AV} {st:St} {k:Nat→AV×St→Option β} {P:AV→St→Prop} {Q:β→Prop}
 (h:EvQ tbl f as' st P) (hp:allPlain as=true) (hw:as.map AV.weak=as') (hk:∀ r st',P r st'→WC (fun n=>k n (r,st')) Q):WC (fun n=>Go.Cb.obind (p2 (semCall f (callF tbl n) as bx st)) (k n)) Q:=by
 obtain ⟨r,st',he,hq⟩:=h
 obtain ⟨n0,h0⟩:=he.ge
 refine WC.obind (P:=fun x=>x=(r,st')) ⟨n0,(r,st'),fun n hn=>?_,rfl⟩ (fun a ha=>ha ▸ hk r st' hq)
 simp only [semCall,hp,if_true,hw,h0 n hn,Option.map_some,p2_some]
theorem WC.callV {β:Type} {f:Nat} {first caps as as':List AV} {bx:AV} {st:St} {k:Nat→AV×St→Option β} {P:AV→St→Prop} {Q:β→Prop}
 (h:EvQ tbl f as' st P) (hp:allPlain as=true) (hw:(first++as++caps).map AV.weak=as') (hk:∀ r st',P r st'→WC (fun n=>k n (r,st')) Q):WC (fun n=>Go.Cb.obind (p2 (semCallV (callF tbl n) (.func f first caps::as) bx st)) (k n)) Q:=by
 obtain ⟨r,st',he,hq⟩:=h
 obtain ⟨n0,h0⟩:=he.ge
 refine WC.obind (P:=fun x=>x=(r,st')) ⟨n0,(r,st'),fun n hn=>?_,rfl⟩ (fun a ha=>ha ▸ hk r st' hq)
 simp only [semCallV,hp,if_true,hw,h0 n hn,Option.map_some,p2_some]

def blkOut (id:Nat) (o:Out):Out:=match o with
 | (.exit id',fr,st)=>if id'=id then (.normal,fr,st) else (.exit id',fr,st)
 | o=>o
def blkK (id:Nat) (x:Option Out):Option Out:=match x with
 | some o=>some (blkOut id o)
 | none=>none
theorem blkK_some (id:Nat) (o:Out):blkK id (some o)=some (blkOut id o):=spine rfl
theorem blkOut_normal (id:Nat) (fr:List AV) (st:St):blkOut id (.normal,fr,st)=(.normal,fr,st):=spine rfl
theorem blkOut_ret (id:Nat) (fr:List AV) (st:St):blkOut id (.ret,fr,st)=(.ret,fr,st):=spine rfl
theorem blkOut_exit (id id':Nat) (fr:List AV) (st:St):blkOut id (.exit id',fr,st)=if id'=id then (.normal,fr,st) else (.exit id',fr,st):=spine rfl
theorem blkK_congr {id:Nat} {x x':Option Out} (h:x=x'):blkK id x=blkK id x':=by rw [h]
theorem exec_blkK (call:CallT) (n id:Nat) (a:ACode) (fr:List AV) (st:St):exec call n (.blk id a) fr st=blkK id (exec call n a fr st):=by
 simp only [exec,blkK]
 cases exec call n a fr st with
 | none=>rfl
 | some o =>
  obtain ⟨e,fr',st'⟩:=o
  cases e with
  | normal=>rfl
  | ret=>rfl
  | exit id'=>by_cases h:id'=id <;> simp [blkOut,h]
theorem WC.seqK {c:Nat→Option Out} {g:Nat→List AV→St→Option Out} {P Q:Out→Prop} (h:WC c P) (hk:∀ o,P o→WC (fun n=>Go.Cb.seqK (some o) (g n)) Q):WC (fun n=>Go.Cb.seqK (c n) (g n)) Q:=by
 obtain ⟨n,a,ha,hp⟩:=h
 obtain ⟨m,b,hb,hq⟩:=hk a hp
 exact ⟨max n m,b,fun j hj=>by dsimp only; rw [ha j (by omega)]; exact hb j (by omega),hq⟩
theorem WC.blkK {id:Nat} {c:Nat→Option Out} {Q:Out→Prop} (h:WC c (fun o=>Q (blkOut id o))):WC (fun n=>Go.Cb.blkK id (c n)) Q:=by
 obtain ⟨n,a,ha,hp⟩:=h
 exact ⟨n,_,fun j hj=>by dsimp only; rw [ha j hj,blkK_some],hp⟩
theorem WC.finK {rs:List ResK} {c:Nat→Option Out} {P:Out→Prop} {Q:AV×St→Prop} (h:WC c P) (hk:∀ o,P o→WC (fun n=>Go.Cb.finK rs (some o)) Q):WC (fun n=>Go.Cb.finK rs (c n)) Q:=by
 obtain ⟨n,a,ha,hp⟩:=h
 obtain ⟨m,b,hb,hq⟩:=hk a hp
 exact ⟨max n m,b,fun j hj=>by dsimp only; rw [ha j (by omega)]; exact hb j (by omega),hq⟩

theorem WC.of_xc {x:ACode} {fr:List AV} {st:St} {out:Out} {Q:Out→Prop} (h:XC tbl x fr st out) (hq:Q out):WC (fun n=>exec (callF tbl n) n x fr st) Q:=by
 obtain ⟨n,hn⟩:=h.ge
 exact ⟨n,out,hn,hq⟩
theorem WC.xc {x:ACode} {fr:List AV} {st:St} {Q:Out→Prop} (h:WC (fun n=>exec (callF tbl n) n x fr st) Q):∃ out,XC tbl x fr st out∧Q out:=by
 obtain ⟨n,a,ha,hq⟩:=h
 exact ⟨a,⟨n,ha n (Nat.le_refl n)⟩,hq⟩

theorem WC.loop {x:ACode} {Q:Out→Prop} (I:Nat→List AV→St→Prop) {m:Nat} {fr:List AV} {st:St} (h0:I m fr st)
 (hI:∀ m fr st,I m fr st→WC (fun n=>exec (callF tbl n) n x fr st) (fun o=>(∃ m' fr' st',o=(.normal,fr',st')∧m' < m∧I m' fr' st')∨(o.1≠.normal∧Q o))) :
 WC (fun n=>exec (callF tbl n) n (.loop x) fr st) Q:=by
 have key:∀ m fr st,I m fr st→∃ out,LX tbl x fr st out∧Q out:=by
  intro m
  induction m using Nat.strongRecOn with
  | ind m ih =>
   intro fr st h
   obtain ⟨out,hx,hc⟩:=(hI m fr st h).xc
   rcases hc with ⟨m',fr',st',rfl,hlt,hi⟩|⟨hne,hq⟩
   · obtain ⟨out,hl,hq⟩:=ih m' hlt fr' st' hi
     exact ⟨out,LX.step hx hl,hq⟩
   · obtain ⟨e,fr',st'⟩:=out
     exact ⟨_,LX.done hx hne,hq⟩
 obtain ⟨out,hl,hq⟩:=key m fr st h0
 exact WC.of_xc (XC.loop hl) hq

theorem EvQ.of_body {f:Nat} {fn:AFn} {as:List AV} {st:St} {Q:AV→St→Prop} (htb:tbl f=some fn) (he:fn.ext=none) (hl:as.length=fn.np)
 (h:WC (fun n=>Go.Cb.finK fn.results (exec (callF tbl n) n fn.code (as++List.replicate (fn.nv - fn.np) .undef) st)) (fun r=>Q r.1 r.2)):EvQ tbl f as st Q:=by
 obtain ⟨n,a,ha,hq⟩:=h
 refine ⟨a.1,a.2,⟨n+1,?_⟩,hq⟩
 simp only [callF,htb,he]
 rw [run_finK _ _ _ _ _ hl]
 exact ha n (Nat.le_refl n)
theorem EvQ.of_ext {f:Nat} {fn:AFn} {as:List AV} {st:St} {e:List AV→St→Option (AV×St)} {r:AV×St} {Q:AV→St→Prop} (htb:tbl f=some fn) (he:fn.ext=some e) (h:e as st=some r) (hq:Q r.1 r.2):EvQ tbl f as st Q :=
 ⟨_,_,Ev.of_ext htb he h,hq⟩
theorem EvQ.of_ev {f:Nat} {as:List AV} {st:St} {r:AV} {st':St} {Q:AV→St→Prop} (h:Ev tbl f as st r st') (hq:Q r st'):EvQ tbl f as st Q:=⟨r,st',h,hq⟩
end
end Go.Cb
/-
 THE ABSTRACT MACHINE, part 34: rules for loops within blocks, and for a body's end.
-/
set_option maxRecDepth 4000
set_option linter.unusedVariables false
namespace Go.Cb
open Classical
section
variable {tbl:Nat→Option AFn}

theorem WC.next {I:Nat→List AV→St→Prop} {m m':Nat} {fr':List AV} {st':St} {R:Out→Prop} (hm:m' < m) (hi:I m' fr' st') :
 WC (fun _=>some (Ex.normal,fr',st')) (fun o=>(∃ m' fr' st',o=(.normal,fr',st')∧m' < m∧I m' fr' st')∨(o.1≠.normal∧R o)):=WC.ret (Or.inl ⟨m',fr',st',rfl,hm,hi⟩)
theorem WC.leave {I:Nat→List AV→St→Prop} {m id:Nat} {fr':List AV} {st':St} {R:Out→Prop} (h:R (.exit id,fr',st')) :
 WC (fun _=>some (Ex.exit id,fr',st')) (fun o=>(∃ m' fr' st',o=(.normal,fr',st')∧m' < m∧I m' fr' st')∨(o.1≠.normal∧R o)):=WC.ret (Or.inr ⟨fun h=>by simp at h,h⟩)
theorem EvQ.body {f:Nat} {fn:AFn} {as:List AV} {st:St} {Q:AV→St→Prop} (htb:tbl f=some fn) (he:fn.ext=none) (hl:as.length=fn.np)
 (h:WC (fun n=>exec (callF tbl n) n fn.code (as++List.replicate (fn.nv - fn.np) .undef) st) (fun o=>∃ r st',Go.Cb.finK fn.results (some o)=some (r,st')∧Q r st')):EvQ tbl f as st Q :=
 EvQ.of_body htb he hl (WC.finK h fun o ⟨r,st',hr,hq⟩=>⟨0,(r,st'),fun _ _=>hr,hq⟩)
end
end Go.Cb
/-
 THE ABSTRACT MACHINE, part 35: small laws on numbers and rows, for walks with unknowns.
-/
set_option maxRecDepth 4000
set_option linter.unusedVariables false
namespace Go.Cb
open Classical

theorem wrap64 {n:Int} (h1:-9223372036854775808≤n) (h2:n < 9223372036854775808):wrapA .i64 n=n:=by
 rw [wrapA_eq]
 simp only [IntKind.wrap,IntKind.signed,IntKind.bits,Bool.true_and]
 split
 · rename_i h; have h:=of_decide_eq_true h; omega
 · rename_i h; have h:¬ (n % 2 ^ 64 ≥ 2 ^ (64 - 1)):=fun x=>h (decide_eq_true x); omega
theorem ltN (i j:Nat):ltI (i:Int) (j:Int)=decide (i < j):=by
 rw [ltI_eq]
 by_cases h:i < j
 · simp [h]
 · simp [h]
theorem eqNN (i j:Nat):eqI (i:Int) (j:Int)=decide (i=j):=by
 rw [eqI_eq]
 by_cases h:i=j
 · simp [h]
 · simp [h]; omega
theorem rowsOk_all {sz:Nat} {xs:List (List AV)} (h:∀ r∈xs,r.length=sz):rowsOk sz xs=true:=by
 cases xs with
 | nil=>rfl
 | cons r rs=>simp [rowsOk,h r (by simp)]
end Go.Cb
/-
 THE ABSTRACT MACHINE, part 36: guarded values, reckoned without splitting; copies, form by form; tests as rules.
-/
set_option maxRecDepth 4000
set_option linter.unusedVariables false
namespace Go.Cb
open Classical

def gV (x:AV) (want:Bool) (v:AV):AV:=match x with
 | .bool b=>if b == want then v else .tuple []
 | _=>.tuple []
theorem gV_tt (v:AV):gV (.bool true) true v=v:=spine rfl
theorem gV_ff (v:AV):gV (.bool false) false v=v:=spine rfl
theorem gV_tf (v:AV):gV (.bool true) false v=.tuple []:=spine rfl
theorem gV_ft (v:AV):gV (.bool false) true v=.tuple []:=spine rfl
theorem gV_none (want:Bool) (v:AV):gV (.tuple []) want v=.tuple []:=spine rfl
theorem gv_some (c want:Bool) (v:AV):gv (.bool c) want (some v)=some (gV (.bool c) want v):=by
 cases c <;> cases want <;> rfl
theorem gv_some2 (x:AV) (w b want:Bool) (v:AV):gv (gV x w (.bool b)) want (some v)=some (gV (gV x w (.bool b)) want v):=by
 unfold gV
 cases x with
 | bool c=>cases c <;> cases w <;> cases b <;> cases want <;> rfl
 | _=>rfl
theorem gv_congr2 {x x':AV} {want:Bool} {e e':Option AV} (h1:x=x') (h2:x'=.bool want→e=e'):gv x want e=gv x' want e':=by
 subst h1
 unfold gv
 split
 · rename_i b
   by_cases hb:b=want
   · rw [h2 (by rw [hb])]
   · simp [hb]
 · rfl
 · rfl
theorem weak_gV (x:AV) (w:Bool) (v:AV):(gV x w v).weak=gV x w v.weak:=by
 unfold gV
 cases x with
 | bool c=>dsimp only; split <;> rfl
 | _=>rfl
theorem strip_gV (x:AV) (w:Bool) (v:AV):(gV x w v).strip=gV x w v.strip:=by
 unfold gV
 cases x with
 | bool c=>dsimp only; split <;> rfl
 | _=>rfl
theorem stripB_gV (x:AV) (w:Bool) (v:AV):(gV x w v).stripB=gV x w v.stripB:=by
 unfold gV
 cases x with
 | bool c=>dsimp only; split <;> rfl
 | _=>rfl
theorem pick_t (call:CallT) (a b bx:AV) (st:St):p1 (semPick call [.bool true,a,b] bx st)=if a.plain then some a else none:=by
 unfold semPick; dsimp only; by_cases h:a.plain=true <;> simp [h,p1]
theorem pick_f (call:CallT) (a b bx:AV) (st:St):p1 (semPick call [.bool false,a,b] bx st)=if b.plain then some b else none:=by
 unfold semPick; dsimp only; by_cases h:b.plain=true <;> simp [h,p1]
theorem pick_or (call:CallT) (c d:Bool) (bx:AV) (st:St):p1 (semPick call [.bool c,.bool true,gV (.bool c) false (.bool d)] bx st)=some (.bool (c || d)):=by
 cases c <;> rfl
theorem pick_and (call:CallT) (c d:Bool) (bx:AV) (st:St):p1 (semPick call [.bool c,gV (.bool c) true (.bool d),.bool false] bx st)=some (.bool (c && d)):=by
 cases c <;> rfl

theorem weak_bool (b:Bool):(AV.bool b).weak=.bool b:=spine rfl
theorem weak_int (k:IntKind) (n:Int):(AV.int k n).weak=.int k n:=spine rfl
theorem weak_str (s:List Nat):(AV.str s).weak=.str s:=spine rfl
theorem weak_list (o:Bool) (xs:List (List AV)):(AV.list o xs).weak=.list false xs:=spine rfl
theorem weak_ptr (o f:Nat):(AV.ptr o f).weak=.ptr o f:=spine rfl
theorem weak_nilp:AV.nilp.weak=.nilp:=spine rfl
theorem weak_nils:AV.nils.weak=.nils:=spine rfl
theorem weak_ro (cs:List AV):(AV.ro cs).weak=.ro cs:=spine rfl
theorem weak_loc (i f:Nat):(AV.loc i f).weak=.loc i f:=spine rfl
theorem weak_map (o:Nat):(AV.map o).weak=.map o:=spine rfl
theorem weak_nilm:AV.nilm.weak=.nilm:=spine rfl
theorem weak_func (f:Nat) (a b:List AV):(AV.func f a b).weak=.func f a b:=spine rfl
theorem weak_nilf:AV.nilf.weak=.nilf:=spine rfl
theorem weak_agg (cs:List AV):(AV.agg cs).weak=.agg (cs.map AV.weak1):=spine rfl
theorem weak_sl (o f n s:Nat):(AV.sl o f n s).weak=.sl o f n s:=spine rfl
theorem weak_iface (t:Nat) (v:AV):(AV.iface t v).weak=.iface t v:=spine rfl
theorem weak_nili:AV.nili.weak=.nili:=spine rfl
theorem weak_tuple (vs:List AV):(AV.tuple vs).weak=.tuple vs:=spine rfl
theorem weak_undef:AV.undef.weak=.undef:=spine rfl
theorem weak_box (cs:List AV):(AV.box cs).weak=.box cs:=spine rfl
theorem weak1_bool (b:Bool):(AV.bool b).weak1=.bool b:=spine rfl
theorem weak1_int (k:IntKind) (n:Int):(AV.int k n).weak1=.int k n:=spine rfl
theorem weak1_str (s:List Nat):(AV.str s).weak1=.str s:=spine rfl
theorem weak1_list (o:Bool) (xs:List (List AV)):(AV.list o xs).weak1=.list false xs:=spine rfl
theorem weak1_sl (o f n s:Nat):(AV.sl o f n s).weak1=.sl o f n s:=spine rfl
theorem weak1_func (f:Nat) (a b:List AV):(AV.func f a b).weak1=.func f a b:=spine rfl
theorem weak1_ptr (o f:Nat):(AV.ptr o f).weak1=.ptr o f:=spine rfl
theorem weak1_nilp:AV.nilp.weak1=.nilp:=spine rfl
theorem weak1_nils:AV.nils.weak1=.nils:=spine rfl
theorem weak1_map (o:Nat):(AV.map o).weak1=.map o:=spine rfl
theorem weak1_nilm:AV.nilm.weak1=.nilm:=spine rfl
theorem strip_bool (b:Bool):(AV.bool b).strip=.bool b:=spine rfl
theorem strip_int (k:IntKind) (n:Int):(AV.int k n).strip=.int k n:=spine rfl
theorem strip_str (s:List Nat):(AV.str s).strip=.str s:=spine rfl
theorem strip_list (o:Bool) (xs:List (List AV)):(AV.list o xs).strip=.list o xs:=spine rfl
theorem strip_ptr (o f:Nat):(AV.ptr o f).strip=.ptr o f:=spine rfl
theorem strip_nilp:AV.nilp.strip=.nilp:=spine rfl
theorem strip_nils:AV.nils.strip=.nils:=spine rfl
theorem strip_ro (cs:List AV):(AV.ro cs).strip=.ro cs:=spine rfl
theorem strip_loc (i f:Nat):(AV.loc i f).strip=.undef:=spine rfl
theorem strip_map (o:Nat):(AV.map o).strip=.map o:=spine rfl
theorem strip_nilm:AV.nilm.strip=.nilm:=spine rfl
theorem strip_func (f:Nat) (a b:List AV):(AV.func f a b).strip=.func f a b:=spine rfl
theorem strip_nilf:AV.nilf.strip=.nilf:=spine rfl
theorem strip_agg (cs:List AV):(AV.agg cs).strip=.agg cs:=spine rfl
theorem strip_sl (o f n s:Nat):(AV.sl o f n s).strip=.sl o f n s:=spine rfl
theorem strip_tuple (vs:List AV):(AV.tuple vs).strip=.tuple vs:=spine rfl
theorem strip_undef:AV.undef.strip=.undef:=spine rfl
theorem stripB_bool (b:Bool):(AV.bool b).stripB=.bool b:=spine rfl
theorem stripB_int (k:IntKind) (n:Int):(AV.int k n).stripB=.int k n:=spine rfl
theorem stripB_str (s:List Nat):(AV.str s).stripB=.str s:=spine rfl
theorem stripB_list (o:Bool) (xs:List (List AV)):(AV.list o xs).stripB=.list o xs:=spine rfl
theorem stripB_ptr (o f:Nat):(AV.ptr o f).stripB=.ptr o f:=spine rfl
theorem stripB_nilp:AV.nilp.stripB=.nilp:=spine rfl
theorem stripB_nils:AV.nils.stripB=.nils:=spine rfl
theorem stripB_ro (cs:List AV):(AV.ro cs).stripB=.ro cs:=spine rfl
theorem stripB_loc (i f:Nat):(AV.loc i f).stripB=.loc i f:=spine rfl
theorem stripB_map (o:Nat):(AV.map o).stripB=.map o:=spine rfl
theorem stripB_nilm:AV.nilm.stripB=.nilm:=spine rfl
theorem stripB_func (f:Nat) (a b:List AV):(AV.func f a b).stripB=.func f a b:=spine rfl
theorem stripB_nilf:AV.nilf.stripB=.nilf:=spine rfl
theorem stripB_agg (cs:List AV):(AV.agg cs).stripB=.agg cs:=spine rfl
theorem weak_fresh (xs:List (List AV)):(AV.fresh xs).weak=.fresh xs:=spine rfl
theorem strip_fresh (xs:List (List AV)):(AV.fresh xs).strip=.fresh xs:=spine rfl
theorem stripB_fresh (xs:List (List AV)):(AV.fresh xs).stripB=.fresh xs:=spine rfl
theorem stripB_sl (o f n s:Nat):(AV.sl o f n s).stripB=.sl o f n s:=spine rfl
theorem stripB_tuple (vs:List AV):(AV.tuple vs).stripB=.tuple vs:=spine rfl
theorem stripB_undef:AV.undef.stripB=.undef:=spine rfl

/-! what comes behind, as constants that wait: nothing of it is reckoned ahead of its time -/
def seqC {α:Type} (K:α→Option Out) (g:List AV→St→Option Out) (a:α):Option Out:=Go.Cb.seqK (K a) g
def blkC {α:Type} (id:Nat) (K:α→Option Out) (a:α):Option Out:=Go.Cb.blkK id (K a)
theorem seqC_x {α:Type} (K:α→Option Out) (g:List AV→St→Option Out) (a:α):seqC K g a=Go.Cb.seqK (K a) g:=spine rfl
theorem blkC_x {α:Type} (id:Nat) (K:α→Option Out) (a:α):blkC id K a=Go.Cb.blkK id (K a):=spine rfl
theorem seqK_obindC {α:Type} (x:Option α) (f:α→Option Out) (g:List AV→St→Option Out):Go.Cb.seqK (Go.Cb.obind x f) g=Go.Cb.obind x (seqC f g):=by cases x <;> rfl
theorem blkK_obindC {α:Type} (id:Nat) (x:Option α) (f:α→Option Out):Go.Cb.blkK id (Go.Cb.obind x f)=Go.Cb.obind x (blkC id f):=by cases x <;> rfl

def exeT (call:CallT) (n:Nat) (a:ACode) (fr:List AV) (st:St) (_:Unit):Option Out:=exec call n a fr st
def seqT (A:Unit→Option Out) (g:List AV→St→Option Out) (u:Unit):Option Out:=Go.Cb.seqK (A u) g
def blkT (id:Nat) (A:Unit→Option Out) (u:Unit):Option Out:=Go.Cb.blkK id (A u)
theorem exeT_x (call:CallT) (n:Nat) (a:ACode) (fr:List AV) (st:St) (u:Unit):exeT call n a fr st u=exec call n a fr st:=spine rfl
theorem seqT_x (A:Unit→Option Out) (g:List AV→St→Option Out) (u:Unit):seqT A g u=Go.Cb.seqK (A u) g:=spine rfl
theorem blkT_x (id:Nat) (A:Unit→Option Out) (u:Unit):blkT id A u=Go.Cb.blkK id (A u):=spine rfl
def brT (c:AV) (A B:Unit→Option Out):Option Out:=match c with
 | .bool true=>A ()
 | .bool false=>B ()
 | _=>none
theorem brT_true (A B:Unit→Option Out):brT (.bool true) A B=A ():=spine rfl
theorem brT_false (A B:Unit→Option Out):brT (.bool false) A B=B ():=spine rfl
theorem brT_congr {c c':AV} {A B:Unit→Option Out} (h:c=c'):brT c A B=brT c' A B:=by rw [h]
theorem seqK_brT (c:AV) (A B:Unit→Option Out) (g:List AV→St→Option Out):Go.Cb.seqK (brT c A B) g=brT c (seqT A g) (seqT B g):=by
 cases c <;> try rfl
 rename_i b; cases b <;> rfl
theorem blkK_brT (id:Nat) (c:AV) (A B:Unit→Option Out):Go.Cb.blkK id (brT c A B)=brT c (blkT id A) (blkT id B):=by
 cases c <;> try rfl
 rename_i b; cases b <;> rfl
theorem br_brT (call:CallT) (n:Nat) (c:AV) (a b:ACode) (fr:List AV) (st:St):Go.Cb.br c (exec call n a fr st) (exec call n b fr st)=brT c (exeT call n a fr st) (exeT call n b fr st):=by
 cases c <;> try rfl
theorem exec_testT (call:CallT) (n:Nat) (kill:List Nat) (ps:List AOper) (c:Opd) (a b:ACode) (fr:List AV) (st:St) :
 exec call n (.test kill ps c a b) fr st=runK call ps ⟨killAll kill fr,fun _=>.undef,st⟩ fun σ=>brT (c.read σ) (exeT call n a σ.fr σ.st) (exeT call n b σ.fr σ.st):=by
 rw [exec_test]
 simp only [br_brT]
def loopO (call:CallT) (n:Nat) (x:ACode) (fr:List AV) (st:St):Option Out:=exec call n (.loop x) fr st
theorem exec_loopO (call:CallT) (n:Nat) (x:ACode) (fr:List AV) (st:St):exec call n (.loop x) fr st=Go.Cb.obind (loopO call n x fr st) some:=by
 unfold loopO; cases exec call n (.loop x) fr st <;> rfl

theorem WC.br {c:Bool} {A B:Nat→Unit→Option Out} {Q:Out→Prop} (ht:c=true→WC (fun n=>A n ()) Q) (hf:c=false→WC (fun n=>B n ()) Q):WC (fun n=>brT (.bool c) (A n) (B n)) Q:=by
 cases c with
 | true=>exact ht rfl
 | false=>exact hf rfl
theorem WC.loopR {tbl:Nat→Option AFn} {β:Type} {x:ACode} {K:Nat→Out→Option β} {Q:β→Prop} (I:Nat→List AV→St→Prop) {m:Nat} {fr:List AV} {st:St} (h0:I m fr st)
 (hI:∀ m fr st,I m fr st→WC (fun n=>exec (callF tbl n) n x fr st) (fun o=>(∃ m' fr' st',o=(.normal,fr',st')∧m' < m∧I m' fr' st')∨(o.1≠.normal∧WC (fun n=>K n o) Q))) :
 WC (fun n=>Go.Cb.obind (loopO (callF tbl n) n x fr st) (K n)) Q:=WC.obind (WC.loop I h0 hI) fun _ ho=>ho
theorem WC.g2 {β:Type} {c want:Bool} {st:St} {E:Nat→Option (AV×St)} {k:Nat→AV×St→Option β} {Q:β→Prop} (ht:c=want→WC (fun n=>Go.Cb.obind (E n) (k n)) Q) (hf:c=!want→WC (fun n=>k n (.tuple [],st)) Q) :
 WC (fun n=>Go.Cb.obind (gv2 (.bool c) want st (E n)) (k n)) Q:=by
 by_cases h:c=want
 · subst h
   have e:∀ n,gv2 (.bool c) c st (E n)=E n:=fun n=>by cases c <;> rfl
   simp only [e]
   exact ht rfl
 · have h':c=!want:=by cases c <;> cases want <;> simp_all
   have e:∀ n,gv2 (.bool c) want st (E n)=some (.tuple [],st):=fun n=>by subst h'; cases want <;> rfl
   simp only [e,obind_some]
   exact hf h'
end Go.Cb
/-
 THE ABSTRACT MACHINE, part 37: what operations come to, form by form; all of it under one name.
-/
set_option maxRecDepth 4000
set_option linter.unusedVariables false
set_option linter.unusedSimpArgs false
namespace Go.Cb
def W (a:AV):AV:=AV.weak (AV.stripB a)
def brE (c:AV) (call:CallT) (n:Nat) (a b:ACode) (fr:List AV) (st:St):Option Out:=brT c (exeT call n a fr st) (exeT call n b fr st)
def m1 {β:Type} (a:AV) (f:AV→Option β):Option β:=obind (p1 (some (a,AV.undef,([]:St)))) f
def gm {β:Type} (x:AV) (w:Bool) (a:AV) (f:AV→Option β):Option β:=obind (gv x w (some a)) f
theorem m1_congr {β:Type} {a a':AV} {f:AV→Option β} (h:a=a'):m1 a f=m1 a' f:=by rw [h]
theorem gm_congr {β:Type} {x x' a a':AV} {w:Bool} {f:AV→Option β} (h1:x=x') (h2:x'=.bool w→a=a'):gm x w a f=gm x' w a' f:=by
 unfold gm
 rw [gv_congr2 (e:=some a) (e':=some a') h1 (fun h=>by rw [h2 h])]
end Go.Cb
namespace Go.Cb.R
open Go.Cb
theorem mv_e (call:CallT) (bx:AV) (st:St) (a:AV):semMv call [a] bx st=some (a,bx,st):=spine rfl
theorem nilchk_ptr (call:CallT) (bx:AV) (st:St) (o f:Nat):semNilchk call [.ptr o f] bx st=some (.ptr o f,bx,st):=spine rfl
theorem nilchk_loc (call:CallT) (bx:AV) (st:St) (o f:Nat):semNilchk call [.loc o f] bx st=some (.loc o f,bx,st):=spine rfl
theorem nilchk_ro (call:CallT) (bx:AV) (st:St) (cs:List AV):semNilchk call [.ro cs] bx st=some (.ro cs,bx,st):=spine rfl
theorem nilchk_func (call:CallT) (bx:AV) (st:St) (f:Nat) (a b:List AV):semNilchk call [.func f a b] bx st=some (.func f a b,bx,st):=spine rfl
theorem alloc_e (call:CallT) (st:St) (zero:List AV):semAlloc zero call [] .undef st=some (.undef,.box zero,st):=spine rfl
theorem boxV_e (call:CallT) (st:St) (a:AV):semBoxV call [a] .undef st=if a.plain then some (.undef,.box a.cellsW,st) else none:=spine rfl
theorem allocO_e (call:CallT) (bx:AV) (st:St) (zero:List AV):semAllocO zero call [] bx st=some (.ptr st.length 0,bx,st++[.cells zero]):=spine rfl
theorem boxO_e (call:CallT) (bx:AV) (st:St) (a:AV):semBoxO call [a] bx st=if a.plain then some (.ptr st.length 0,bx,st++[.cells a.cellsW]) else none:=spine rfl
theorem build_e (call:CallT) (bx:AV) (st:St) (zero:List AV) (offs:List (Nat×Nat)) (as:List AV):semBuild zero offs call as bx st=(fillSegs offs as zero).map fun cs=>(.agg cs,bx,st):=spine rfl
theorem bslice_e (call:CallT) (bx:AV) (st:St) (sz:Nat) (zero:List (List AV)) (at_:List Nat) (as:List AV):semBslice sz zero at_ call as bx st=(fillRows sz at_ as zero).map fun rs=>(.list true rs,bx,st):=spine rfl
theorem ldLc_e (call:CallT) (st:St) (i off n:Nat) (agg:Bool) (cs:List AV):semLdLc i agg n call [.loc i off] (.box cs) st=(takeVal agg n (cs.drop off)).map (fun v=>(v,.box cs,st)):=by unfold semLdLc; simp only [if_true]
theorem ldSt_e (call:CallT) (bx:AV) (st:St) (o off n:Nat) (agg:Bool):semLdSt agg n call [.ptr o off] bx st=match st[o]? with|some (.cells cs)=>(takeVal agg n (cs.drop off)).map (fun v=>(v,bx,st))|_=>none:=spine rfl
theorem ldRo_e (call:CallT) (bx:AV) (st:St) (n:Nat) (agg:Bool) (cs:List AV):semLdRo agg n call [.ro cs] bx st=(takeVal agg n cs).map (fun v=>(v,bx,st)):=spine rfl
theorem ldAn_ro (call:CallT) (bx:AV) (st:St) (n:Nat) (agg:Bool) (cs:List AV):semLdAn agg n call [.ro cs] bx st=(takeVal agg n cs).map (fun v=>(v,bx,st)):=spine rfl
theorem ldAn_ptr (call:CallT) (bx:AV) (st:St) (o off n:Nat) (agg:Bool):semLdAn agg n call [.ptr o off] bx st=match st[o]? with|some (.cells cs)=>(takeVal agg n (cs.drop off)).map (fun v=>(v,bx,st))|_=>none:=spine rfl
theorem ldLcS_e (call:CallT) (st:St) (i off:Nat) (cs:List AV):semLdLcS i call [.loc i off] (.box cs) st=match cs[off]? with|some c=>some (c,.box (cs.set off c.weak1),st)|none=>none:=by unfold semLdLcS; simp only [if_true]; rfl
theorem ldStS_e (call:CallT) (bx:AV) (st:St) (o off:Nat):semLdStS call [.ptr o off] bx st=match st[o]? with|some (.cells cs)=>(match cs[off]? with|some c=>some (c,bx,st.set o (.cells (cs.set off c.weak1)))|none=>none)|_=>none:=spine rfl
theorem stLc_e (call:CallT) (st:St) (i n off:Nat) (x:AV) (cs:List AV):semStLc i n call [.loc i off,x] (.box cs) st=if x.plain=true∧x.cells.length=n∧off+n≤cs.length then some (.tuple [],.box (setSeg cs off x.cells),st) else none:=by unfold semStLc; simp only [true_and]
theorem stSt_e (call:CallT) (bx:AV) (st:St) (o off n:Nat) (x:AV):semStSt n call [.ptr o off,x] bx st=match st[o]? with|some (.cells cs)=>(if x.plain=true∧x.cells.length=n∧off+n≤cs.length then some (.tuple [],bx,st.set o (.cells (setSeg cs off x.cells))) else none)|_=>none:=by unfold semStSt; simp only [fL_eq]; rfl
theorem fad_ptr (call:CallT) (bx:AV) (st:St) (off o f:Nat):semFad off call [.ptr o f] bx st=some (.ptr o (f+off),bx,st):=spine rfl
theorem fad_loc (call:CallT) (bx:AV) (st:St) (off o f:Nat):semFad off call [.loc o f] bx st=some (.loc o (f+off),bx,st):=spine rfl
theorem fad_ro (call:CallT) (bx:AV) (st:St) (off:Nat) (cs:List AV):semFad off call [.ro cs] bx st=some (.ro (cs.drop off),bx,st):=spine rfl
theorem fld_e (call:CallT) (bx:AV) (st:St) (off n:Nat) (agg:Bool) (cs:List AV):semFld off n agg call [.agg cs] bx st=if off+n≤cs.length then (takeVal agg n (cs.drop off)).map (fun v=>(v,bx,st)) else none:=spine rfl
theorem iad_e (call:CallT) (bx:AV) (st:St) (sz:Nat) (w:Bool) (xs:List (List AV)) (k:IntKind) (i:Int):semIad sz call [.list w xs,.int k i] bx st=if 0≤i then (match xs[i.toNat]? with|some r=>if r.length=sz then some (.ro r,bx,st) else none|none=>none) else none:=spine rfl
theorem iad_sl (call:CallT) (bx:AV) (st:St) (sz o f n s:Nat) (k:IntKind) (i:Int):semIad sz call [.sl o f n s,.int k i] bx st=if 0≤i∧i < (n:Int)∧s=sz then some (.ptr o (f+i.toNat*sz),bx,st) else none:=spine rfl
theorem lenL_nils (call:CallT) (bx:AV) (st:St):semLenL call [.nils] bx st=some (.int .i64 0,bx,st):=spine rfl
theorem lenL_sl (call:CallT) (bx:AV) (st:St) (o f n s:Nat):semLenL call [.sl o f n s] bx st=some (.int .i64 n,bx,st):=spine rfl
theorem bsliceM_e (call:CallT) (bx:AV) (st:St) (sz:Nat) (zero:List (List AV)) (at_:List Nat) (as:List AV):semBsliceM sz zero at_ call as bx st=(fillRowsM sz at_ as zero).map fun rs=>(.fresh rs,bx,st):=spine rfl
theorem bsliceO_e (call:CallT) (bx:AV) (st:St) (sz:Nat) (zero:List (List AV)) (at_:List Nat) (as:List AV):semBsliceO sz zero at_ call as bx st=(fillRowsM sz at_ as zero).map fun rs=>(.sl st.length 0 zero.length sz,bx,st++[.cells rs.flatten]):=spine rfl
theorem min2_e (call:CallT) (bx:AV) (st:St) (k k':IntKind) (a b:Int):semMin2 call [.int k a,.int k' b] bx st=if k=k' then some (.int k (minI a b),bx,st) else none:=spine rfl
theorem eqIS_e (call:CallT) (bx:AV) (st:St) (neg:Bool) (k k':IntKind) (a b:Int) (s t:List Nat):semEqIS neg call [.agg [.int k a,.str s],.agg [.int k' b,.str t]] bx st=if k=k' then some (.bool (eqISB neg a b s t),bx,st) else none:=spine rfl
theorem fillRowsM_n (sz:Nat) (rs:List (List AV)):fillRowsM sz [] [] rs=some rs:=spine rfl
theorem fillRowsM_c (sz i:Nat) (is:List Nat) (p:AV) (ps:List AV) (rs:List (List AV)):fillRowsM sz (i::is) (p::ps) rs=if p.plain=true∧p.cells.length=sz∧i < rs.length then fillRowsM sz is ps (rs.set i (p.cells.map AV.cellW1)) else none:=spine rfl
theorem appM_nil (call:CallT) (bx:AV) (st:St) (sz bytes:Nat) (ys:List (List AV)) (gs:List AV):semAppM sz bytes call (.list true []::.fresh ys::gs) bx st=if ys.isEmpty=false∧rowsOk sz ys=true∧ys.length*bytes≤2 ^ 47∧aside none st.length gs=true then some (.sl st.length 0 ys.length sz,bx,st++[.cells ys.flatten]) else none:=spine rfl
theorem appM_nils (call:CallT) (bx:AV) (st:St) (sz bytes:Nat) (ys:List (List AV)) (gs:List AV):semAppM sz bytes call (.nils::.fresh ys::gs) bx st=if ys.isEmpty=false∧rowsOk sz ys=true∧ys.length*bytes≤2 ^ 47∧aside none st.length gs=true then some (.sl st.length 0 ys.length sz,bx,st++[.cells ys.flatten]) else none:=spine rfl
theorem appM_sl (call:CallT) (bx:AV) (st:St) (sz bytes o n s:Nat) (ys:List (List AV)) (gs:List AV):semAppM sz bytes call (.sl o 0 n s::.fresh ys::gs) bx st=match st[o]? with|some (.cells xs)=>(if s=sz∧ys.isEmpty=false∧rowsOk sz ys=true∧xs.length=n*sz∧(n+ys.length)*bytes≤2 ^ 47∧aside (some o) st.length gs=true then some (.sl st.length 0 (n+ys.length) sz,bx,st.set o .dead++[.cells (xs++ys.flatten)]) else none)|_=>none:=spine rfl
theorem aside_n (o:Option Nat) (n:Nat):aside o n []=true:=spine rfl
theorem aside_p (o:Option Nat) (n p f:Nat) (gs:List AV):aside o n (.ptr p f::gs)=(Nat.blt p n && (match o with|some o=>!Nat.beq p o|none=>true) && aside o n gs):=spine rfl
theorem flat_n {α:Type}:([]:List (List α)).flatten=[]:=spine rfl
theorem flat_c {α:Type} (a:List α) (l:List (List α)):(a::l).flatten=a++l.flatten:=spine rfl
theorem b2s_e (call:CallT) (bx:AV) (st:St) (w:Bool) (xs:List (List AV)):semB2s call [.list w xs] bx st=(bytesOf xs).map fun s=>(.str s,bx,st):=spine rfl
theorem bytesOf_n:bytesOf []=some []:=spine rfl
theorem bytesOf_c (n:Int) (rs:List (List AV)):bytesOf ([.int .u8 n]::rs)=if 0≤n∧n < 256 then (bytesOf rs).map (n.toNat::·) else none:=spine rfl
theorem iadA_ro (call:CallT) (bx:AV) (st:St) (len sz:Nat) (cs:List AV) (k:IntKind) (i:Int):semIadA len sz call [.ro cs,.int k i] bx st=if 0≤i∧i < (len:Int) then some (.ro (cs.drop (i.toNat*sz)),bx,st) else none:=spine rfl
theorem iadA_ptr (call:CallT) (bx:AV) (st:St) (len sz o f:Nat) (k:IntKind) (i:Int):semIadA len sz call [.ptr o f,.int k i] bx st=if 0≤i∧i < (len:Int) then some (.ptr o (f+i.toNat*sz),bx,st) else none:=spine rfl
theorem iadA_loc (call:CallT) (bx:AV) (st:St) (len sz o f:Nat) (k:IntKind) (i:Int):semIadA len sz call [.loc o f,.int k i] bx st=if 0≤i∧i < (len:Int) then some (.loc o (f+i.toNat*sz),bx,st) else none:=spine rfl
theorem idxS_e (call:CallT) (bx:AV) (st:St) (s:List Nat) (k:IntKind) (i:Int):semIdxS call [.str s,.int k i] bx st=if 0≤i then (match s[i.toNat]? with|some b=>some (.int .u8 b,bx,st)|none=>none) else none:=spine rfl
theorem slS_e (call:CallT) (bx:AV) (st:St) (lo hi:Bool) (s:List Nat) (r:List AV):semSlS lo hi call (.str s::r) bx st=(bounds lo hi r s.length).map fun p=>(.str ((s.take p.2).drop p.1),bx,st):=spine rfl
theorem slL_sl (call:CallT) (bx:AV) (st:St) (sz:Nat) (lo hi:Bool) (o f n s:Nat) (r:List AV):semSlL sz lo hi call (.sl o f n s::r) bx st=if s=sz then (slB lo hi r n).map fun p=>(.sl o (f+p.1*sz) (p.2 - p.1) s,bx,st) else none:=spine rfl
theorem slL_e (call:CallT) (bx:AV) (st:St) (sz:Nat) (lo hi:Bool) (w:Bool) (xs:List (List AV)) (r:List AV):semSlL sz lo hi call (.list w xs::r) bx st=if rowsOk sz xs then (bounds lo hi r xs.length).map fun p=>(.list false ((xs.take p.2).drop p.1),bx,st) else none:=spine rfl
theorem mgetR_e (call:CallT) (bx:AV) (st:St) (kc:Nat) (z:List AV) (agg ok:Bool) (o p f:Nat) (k:AV):semMgetR kc z agg ok call [.map o,k,.ptr p f] bx st=match st[p]? with|some (.cells cs)=>(if hasMap o cs=true then semMget kc z agg ok call [.map o,k] bx st else none)|_=>none:=by unfold semMgetR; rfl
theorem hasMap_e (o q:Nat) (cs:List AV):hasMap o (.map q::cs)=(Nat.beq q o || hasMap o cs):=spine rfl
theorem max2_e (call:CallT) (bx:AV) (st:St) (k k':IntKind) (a b:Int):semMax2 call [.int k a,.int k' b] bx st=if k=k' then some (.int k (maxI a b),bx,st) else none:=spine rfl
theorem idxA_e (call:CallT) (bx:AV) (st:St) (len sz:Nat) (agg:Bool) (cs:List AV) (k:IntKind) (i:Int):semIdxA len sz agg call [.agg cs,.int k i] bx st=if 0≤i∧i < (len:Int)∧i.toNat*sz+sz≤cs.length then (takeVal agg sz (cs.drop (i.toNat*sz))).map (·,bx,st) else none:=spine rfl
theorem appS_e (call:CallT) (bx:AV) (st:St) (bytes:Nat) (xs:List (List AV)) (s:List Nat):semAppS bytes call [.list true xs,.str s] bx st=if rowsOk 1 xs && decide ((xs.length+s.length)*bytes≤2 ^ 47) then some (.list true (xs++s.map byteRow),bx,st) else none:=spine rfl
theorem clrS_nils (call:CallT) (bx:AV) (st:St):semClrS call [.nils] bx st=some (.tuple [],bx,st):=spine rfl
theorem clrS_sl (call:CallT) (bx:AV) (st:St) (o f n s:Nat):semClrS call [.sl o f n s] bx st=match st[o]? with|some (.cells cs)=>(if s=1∧f+n≤cs.length then some (.tuple [],bx,st.set o (.cells (setSeg cs f (List.replicate n (.str []))))) else none)|_=>none:=by unfold semClrS; simp only [fL_eq]; rfl
theorem slO_e (call:CallT) (bx:AV) (st:St) (sz:Nat) (w:Bool) (xs:List (List AV)) (k:IntKind) (l:Int):semSlO sz call [.list w xs,.int k l] bx st=if rowsOk sz xs=true∧0≤l∧l < xs.length then some (.list w (xs.drop l.toNat),bx,st) else none:=spine rfl
theorem slZ_e (call:CallT) (bx:AV) (st:St) (w:Bool) (xs:List (List AV)):semSlZ call [.list w xs] bx st=some (.list true [],bx,st):=spine rfl
theorem slA_e (call:CallT) (bx:AV) (st:St) (len sz:Nat) (lo hi:Bool) (cs r:List AV):semSlA len sz lo hi call (.ro cs::r) bx st=if cs.length=len*sz then (bounds lo hi r len).map fun p=>(.list false (((chunks sz len cs).take p.2).drop p.1),bx,st) else none:=spine rfl
theorem bin_e (call:CallT) (bx:AV) (st:St) (op:BinOp) (a b:AV):semBin op call [a,b] bx st=(binA op a b).map (fun v=>(v,bx,st)):=spine rfl
theorem binB_e (call:CallT) (bx:AV) (st:St) (op:BinOp) (a b:AV):semBinB op call [a,b] bx st=(binBA op a b).map (fun v=>(v,bx,st)):=spine rfl
theorem binP_e (call:CallT) (bx:AV) (st:St) (op:BinOp) (a b:AV):semBinP op call [a,b] bx st=(binPA op a b).map (fun v=>(v,bx,st)):=spine rfl
theorem bi_add (k:IntKind) (a b:Int):binA .add (.int k a) (.int k b)=some (.int k (wrapA k (addI a b))):=by simp only [binA,if_true]
theorem bi_sub (k:IntKind) (a b:Int):binA .sub (.int k a) (.int k b)=some (.int k (wrapA k (subI a b))):=by simp only [binA,if_true]
theorem bi_mul (k:IntKind) (a b:Int):binA .mul (.int k a) (.int k b)=some (.int k (wrapA k (a*b))):=by simp only [binA,if_true]
theorem bi_quo (k:IntKind) (a b:Int):binA .quo (.int k a) (.int k b)=if b=0 then none else some (.int k (k.wrap (a.tdiv b))):=by simp only [binA,if_true]
theorem bi_rem (k:IntKind) (a b:Int):binA .rem (.int k a) (.int k b)=if b=0 then none else some (.int k (a.tmod b)):=by simp only [binA,if_true]
theorem bi_eql (k:IntKind) (a b:Int):binA .eql (.int k a) (.int k b)=some (.bool (eqI a b)):=by simp only [binA,if_true]
theorem bi_neq (k:IntKind) (a b:Int):binA .neq (.int k a) (.int k b)=some (.bool !(eqI a b)):=by simp only [binA,if_true]
theorem bi_lss (k:IntKind) (a b:Int):binA .lss (.int k a) (.int k b)=some (.bool (ltI a b)):=by simp only [binA,if_true]
theorem bi_leq (k:IntKind) (a b:Int):binA .leq (.int k a) (.int k b)=some (.bool !(ltI b a)):=by simp only [binA,if_true]
theorem bi_gtr (k:IntKind) (a b:Int):binA .gtr (.int k a) (.int k b)=some (.bool (ltI b a)):=by simp only [binA,if_true]
theorem bi_geq (k:IntKind) (a b:Int):binA .geq (.int k a) (.int k b)=some (.bool !(ltI a b)):=by simp only [binA,if_true]
theorem bs_add (a b:List Nat):binA .add (.str a) (.str b)=if a.length+b.length≤2 ^ 62 then some (.str (a++b)) else none:=spine rfl
theorem bs_eql (a b:List Nat):binA .eql (.str a) (.str b)=some (.bool (eqN a b)):=spine rfl
theorem bs_neq (a b:List Nat):binA .neq (.str a) (.str b)=some (.bool !(eqN a b)):=spine rfl
theorem bs_lss (a b:List Nat):binA .lss (.str a) (.str b)=some (.bool (lessN a b)):=spine rfl
theorem bb_eql (a b:Bool):binBA .eql (.bool a) (.bool b)=some (.bool (a == b)):=spine rfl
theorem bb_neq (a b:Bool):binBA .neq (.bool a) (.bool b)=some (.bool !(a == b)):=spine rfl
theorem bp_eql1 (o f:Nat):binPA .eql (.ptr o f) .nilp=some (.bool false):=spine rfl
theorem bp_eql2 (o f:Nat):binPA .eql .nilp (.ptr o f)=some (.bool false):=spine rfl
theorem bp_eql3:binPA .eql .nilp .nilp=some (.bool true):=spine rfl
theorem bp_neq1 (o f:Nat):binPA .neq (.ptr o f) .nilp=some (.bool true):=spine rfl
theorem bp_neq2 (o f:Nat):binPA .neq .nilp (.ptr o f)=some (.bool true):=spine rfl
theorem bp_neq3:binPA .neq .nilp .nilp=some (.bool false):=spine rfl
theorem un_not (call:CallT) (bx:AV) (st:St) (b:Bool):semUn .not call [.bool b] bx st=some (.bool !b,bx,st):=spine rfl
theorem un_neg (call:CallT) (bx:AV) (st:St) (k:IntKind) (n:Int):semUn .neg call [.int k n] bx st=some (.int k (wrapA k (0 - n)),bx,st):=spine rfl
theorem conv_e (call:CallT) (bx:AV) (st:St) (k k':IntKind) (n:Int):semConv k call [.int k' n] bx st=some (.int k (wrapA k n),bx,st):=spine rfl
theorem mkF_e (call:CallT) (bx:AV) (st:St) (f n:Nat) (as:List AV):semMkF f n call as bx st=if allPlain as then some (.func f ((as.map AV.weak).take n) ((as.map AV.weak).drop n),bx,st) else none:=spine rfl
theorem mkM_e (call:CallT) (bx:AV) (st:St):semMkM call [] bx st=some (.map st.length,bx,st++[.map []]):=spine rfl
theorem ext_e (call:CallT) (bx:AV) (st:St) (i:Nat) (vs:List AV):semExt i call [.tuple vs] bx st=match vs[i]? with|some v=>some (v.weak,bx,st)|none=>none:=spine rfl
theorem lenS_e (call:CallT) (bx:AV) (st:St) (s:List Nat):semLenS call [.str s] bx st=some (.int .i64 s.length,bx,st):=spine rfl
theorem lenL_e (call:CallT) (bx:AV) (st:St) (w:Bool) (xs:List (List AV)):semLenL call [.list w xs] bx st=some (.int .i64 xs.length,bx,st):=spine rfl
theorem app_e (call:CallT) (bx:AV) (st:St) (sz bytes:Nat) (w:Bool) (xs ys:List (List AV)):semApp sz bytes call [.list true xs,.list w ys] bx st=if rowsOk sz xs && rowsOk sz ys && decide ((xs.length+ys.length)*bytes≤2 ^ 47) then some (.list true (xs++ys),bx,st) else none:=spine rfl
theorem takeVal_t (n:Nat) (cs:List AV):takeVal true n cs=if n≤cs.length then some (.agg ((cs.take n).map AV.weak1)) else none:=spine rfl
theorem takeVal_f (n:Nat) (c:AV) (cs:List AV):takeVal false n (c::cs)=some c.weak1:=spine rfl
theorem fillSegs_n (cs:List AV):fillSegs [] [] cs=some cs:=spine rfl
theorem fillSegs_c (off n:Nat) (offs:List (Nat×Nat)) (p:AV) (ps cs:List AV):fillSegs ((off,n)::offs) (p::ps) cs=if p.plain=true∧p.cells.length=n∧off+n≤cs.length then fillSegs offs ps (setSeg cs off p.cells) else none:=spine rfl
theorem fillRows_n (sz:Nat) (rs:List (List AV)):fillRows sz [] [] rs=some rs:=spine rfl
theorem fillRows_c (sz i:Nat) (is:List Nat) (p:AV) (ps:List AV) (rs:List (List AV)):fillRows sz (i::is) (p::ps) rs=if p.plain=true∧p.cells.length=sz∧i < rs.length then fillRows sz is ps (rs.set i (p.cells.map AV.weak1)) else none:=spine rfl
theorem setSeg_e (cs:List AV) (off:Nat) (new:List AV):setSeg cs off new=cs.take off++new++cs.drop (off+new.length):=spine rfl
theorem bounds_ff (n:Nat):bounds false false [] n=some (0,n):=spine rfl
theorem bounds_tf (l:AV) (n:Nat):bounds true false [l] n=(bound l n).map fun l=>(l,n):=spine rfl
theorem bounds_ft (h:AV) (n:Nat):bounds false true [h] n=(bound h n).map fun h=>(0,h):=spine rfl
theorem bounds_tt (l h:AV) (n:Nat):bounds true true [l,h] n=match bound h n with|some h=>(bound l h).map (fun l=>(l,h))|none=>none:=spine rfl
theorem bound_e (k:IntKind) (i:Int) (top:Nat):bound (.int k i) top=if 0≤i∧i≤(top:Int) then some i.toNat else none:=spine rfl
theorem rowsOk_n (sz:Nat):rowsOk sz []=true:=spine rfl
theorem rowsOk_c (sz:Nat) (r:List AV) (rs:List (List AV)):rowsOk sz (r::rs)=(r.length == sz):=spine rfl
theorem locOf_e (i:Nat) (cs:List AV):locOf i (.box cs)=.loc i 0:=spine rfl
theorem plain_bool (b:Bool):AV.plain (.bool b)=true:=spine rfl
theorem cells_bool (b:Bool):AV.cells (.bool b)=[.bool b]:=spine rfl
theorem cellW1_bool (b:Bool):AV.cellW1 (.bool b)=.bool b:=spine rfl
theorem cellsW_bool (b:Bool):AV.cellsW (.bool b)=[.bool b]:=spine rfl
theorem plain_int (k:IntKind) (n:Int):AV.plain (.int k n)=true:=spine rfl
theorem cells_int (k:IntKind) (n:Int):AV.cells (.int k n)=[.int k n]:=spine rfl
theorem cellW1_int (k:IntKind) (n:Int):AV.cellW1 (.int k n)=.int k n:=spine rfl
theorem cellsW_int (k:IntKind) (n:Int):AV.cellsW (.int k n)=[.int k n]:=spine rfl
theorem plain_str (s:List Nat):AV.plain (.str s)=true:=spine rfl
theorem cells_str (s:List Nat):AV.cells (.str s)=[.str s]:=spine rfl
theorem cellW1_str (s:List Nat):AV.cellW1 (.str s)=.str s:=spine rfl
theorem cellsW_str (s:List Nat):AV.cellsW (.str s)=[.str s]:=spine rfl
theorem plain_list (w:Bool) (xs:List (List AV)):AV.plain (.list w xs)=true:=spine rfl
theorem cells_list (w:Bool) (xs:List (List AV)):AV.cells (.list w xs)=[.list w xs]:=spine rfl
theorem plain_ptr (o f:Nat):AV.plain (.ptr o f)=true:=spine rfl
theorem cells_ptr (o f:Nat):AV.cells (.ptr o f)=[.ptr o f]:=spine rfl
theorem cellW1_ptr (o f:Nat):AV.cellW1 (.ptr o f)=.ptr o f:=spine rfl
theorem cellsW_ptr (o f:Nat):AV.cellsW (.ptr o f)=[.ptr o f]:=spine rfl
theorem plain_nilp :AV.plain (.nilp)=true:=spine rfl
theorem cells_nilp :AV.cells (.nilp)=[.nilp]:=spine rfl
theorem cellW1_nilp :AV.cellW1 (.nilp)=.nilp:=spine rfl
theorem cellsW_nilp :AV.cellsW (.nilp)=[.nilp]:=spine rfl
theorem plain_ro (cs:List AV):AV.plain (.ro cs)=true:=spine rfl
theorem cells_ro (cs:List AV):AV.cells (.ro cs)=[.ro cs]:=spine rfl
theorem cellW1_ro (cs:List AV):AV.cellW1 (.ro cs)=.ro cs:=spine rfl
theorem cellsW_ro (cs:List AV):AV.cellsW (.ro cs)=[.ro cs]:=spine rfl
theorem plain_map (o:Nat):AV.plain (.map o)=true:=spine rfl
theorem cells_map (o:Nat):AV.cells (.map o)=[.map o]:=spine rfl
theorem cellW1_map (o:Nat):AV.cellW1 (.map o)=.map o:=spine rfl
theorem cellsW_map (o:Nat):AV.cellsW (.map o)=[.map o]:=spine rfl
theorem plain_nilm :AV.plain (.nilm)=true:=spine rfl
theorem cells_nilm :AV.cells (.nilm)=[.nilm]:=spine rfl
theorem cellW1_nilm :AV.cellW1 (.nilm)=.nilm:=spine rfl
theorem cellsW_nilm :AV.cellsW (.nilm)=[.nilm]:=spine rfl
theorem plain_func (f:Nat) (a b:List AV):AV.plain (.func f a b)=true:=spine rfl
theorem cells_func (f:Nat) (a b:List AV):AV.cells (.func f a b)=[.func f a b]:=spine rfl
theorem cellW1_func (f:Nat) (a b:List AV):AV.cellW1 (.func f a b)=.func f a b:=spine rfl
theorem cellsW_func (f:Nat) (a b:List AV):AV.cellsW (.func f a b)=[.func f a b]:=spine rfl
theorem plain_nilf :AV.plain (.nilf)=true:=spine rfl
theorem cells_nilf :AV.cells (.nilf)=[.nilf]:=spine rfl
theorem cellW1_nilf :AV.cellW1 (.nilf)=.nilf:=spine rfl
theorem cellsW_nilf :AV.cellsW (.nilf)=[.nilf]:=spine rfl
theorem plain_sl (o f n s:Nat):AV.plain (.sl o f n s)=true:=spine rfl
theorem cells_sl (o f n s:Nat):AV.cells (.sl o f n s)=[.sl o f n s]:=spine rfl
theorem cellW1_sl (o f n s:Nat):AV.cellW1 (.sl o f n s)=.sl o f n s:=spine rfl
theorem cellsW_sl (o f n s:Nat):AV.cellsW (.sl o f n s)=[.sl o f n s]:=spine rfl
theorem plain_iface (t:Nat) (v:AV):AV.plain (.iface t v)=true:=spine rfl
theorem cells_iface (t:Nat) (v:AV):AV.cells (.iface t v)=[.iface t v]:=spine rfl
theorem cellW1_iface (t:Nat) (v:AV):AV.cellW1 (.iface t v)=.iface t v:=spine rfl
theorem cellsW_iface (t:Nat) (v:AV):AV.cellsW (.iface t v)=[.iface t v]:=spine rfl
theorem plain_nili :AV.plain (.nili)=true:=spine rfl
theorem cells_nili :AV.cells (.nili)=[.nili]:=spine rfl
theorem cellW1_nili :AV.cellW1 (.nili)=.nili:=spine rfl
theorem cellsW_nili :AV.cellsW (.nili)=[.nili]:=spine rfl
theorem plain_nils :AV.plain (.nils)=true:=spine rfl
theorem cells_nils :AV.cells (.nils)=[.nils]:=spine rfl
theorem cellW1_nils :AV.cellW1 (.nils)=.nils:=spine rfl
theorem cellsW_nils :AV.cellsW (.nils)=[.nils]:=spine rfl
theorem cellW1_list (w:Bool) (xs:List (List AV)):AV.cellW1 (.list w xs)=.list (w && xs.isEmpty) xs:=spine rfl
theorem plain_agg (cs:List AV):AV.plain (.agg cs)=true:=spine rfl
theorem cells_agg (cs:List AV):AV.cells (.agg cs)=cs:=spine rfl
theorem cellsW_agg (cs:List AV):AV.cellsW (.agg cs)=cs:=spine rfl
theorem cellsW_list (w:Bool) (xs:List (List AV)):AV.cellsW (.list w xs)=[.list (w && xs.isEmpty) xs]:=spine rfl
theorem allPlain_n:allPlain []=true:=spine rfl
theorem allPlain_c (a:AV) (as:List AV):allPlain (a::as)=(a.plain && allPlain as):=spine rfl
theorem map_n {α β:Type} (f:α→β):List.map f []=[]:=spine rfl
theorem map_c {α β:Type} (f:α→β) (a:α) (l:List α):List.map f (a::l)=f a::l.map f:=spine rfl
theorem drop_0 {α:Type} (l:List α):List.drop 0 l=l:=spine rfl
theorem drop_s {α:Type} (n:Nat) (a:α) (l:List α):List.drop (n+1) (a::l)=l.drop n:=spine rfl
theorem drop_n {α:Type} (n:Nat):List.drop n ([]:List α)=[]:=by cases n <;> rfl
theorem take_0 {α:Type} (l:List α):List.take 0 l=[]:=spine rfl
theorem take_s {α:Type} (n:Nat) (a:α) (l:List α):List.take (n+1) (a::l)=a::l.take n:=spine rfl
theorem take_n {α:Type} (n:Nat):List.take n ([]:List α)=[]:=by cases n <;> rfl
theorem len_n {α:Type}:([]:List α).length=0:=spine rfl
theorem len_c {α:Type} (a:α) (l:List α):(a::l).length=l.length+1:=spine rfl
theorem app_c {α:Type} (a:α) (l m:List α):(a::l)++m=a::(l++m):=spine rfl
theorem app_n {α:Type} (l:List α):[]++l=l:=spine rfl
theorem app_nil {α:Type} (l:List α):l++[]=l:=List.append_nil l
theorem get_0 {α:Type} (a:α) (l:List α):(a::l)[0]?=some a:=spine rfl
theorem get_s {α:Type} (n:Nat) (a:α) (l:List α):(a::l)[n+1]?=l[n]?:=spine rfl
theorem set_0 {α:Type} (a b:α) (l:List α):(a::l).set 0 b=b::l:=spine rfl
theorem set_s {α:Type} (n:Nat) (a b:α) (l:List α):(a::l).set (n+1) b=a::l.set n b:=spine rfl
theorem rep_0 {α:Type} (a:α):List.replicate 0 a=[]:=spine rfl
theorem rep_s {α:Type} (n:Nat) (a:α):List.replicate (n+1) a=a::List.replicate n a:=spine rfl
theorem omap_s {α β:Type} (f:α→β) (a:α):Option.map f (some a)=some (f a):=spine rfl
theorem omap_n {α β:Type} (f:α→β):Option.map f none=none:=spine rfl
theorem isE_n {α:Type}:([]:List α).isEmpty=true:=spine rfl
theorem isE_c {α:Type} (a:α) (l:List α):(a::l).isEmpty=false:=spine rfl
theorem ite_t {α:Type} (a b:α):(if True then a else b)=a:=if_pos trivial
theorem ite_f {α:Type} (a b:α):(if False then a else b)=b:=if_neg (fun h=>h)
theorem itb_t {α:Type} (a b:α):(if true=true then a else b)=a:=if_pos rfl
theorem itb_f {α:Type} (a b:α):(if false=true then a else b)=b:=if_neg (fun h=>by cases h)
theorem t_eq_f:(true=false)=False:=by simp
theorem f_eq_t:(false=true)=False:=by simp
theorem not_t:(!true)=false:=spine rfl
theorem not_f:(!false)=true:=spine rfl
theorem t_and (b:Bool):(true && b)=b:=spine rfl
theorem and_t (b:Bool):(b && true)=b:=by cases b <;> rfl
theorem f_and (b:Bool):(false && b)=false:=spine rfl
theorem and_f (b:Bool):(b && false)=false:=by cases b <;> rfl
theorem t_or (b:Bool):(true || b)=true:=spine rfl
theorem or_t (b:Bool):(b || true)=true:=by cases b <;> rfl
theorem f_or (b:Bool):(false || b)=b:=spine rfl
theorem or_f (b:Bool):(b || false)=b:=by cases b <;> rfl
theorem and_T (p:Prop):(p∧True)=p:=by simp
theorem T_and (p:Prop):(True∧p)=p:=by simp
theorem dec_T:decide True=true:=spine rfl
theorem dec_F:decide False=false:=spine rfl
theorem eqs {α:Type} (a:α):(a=a)=True:=by simp
theorem nn (n:Nat):(0≤(n:Int))=True:=by simp
theorem tn (n:Nat):(n:Int).toNat=n:=Int.toNat_natCast n
theorem lecast (m n:Nat):((m:Int)≤(n:Int))=(m≤n):=by simp
theorem lerefl (n:Nat):(n≤n)=True:=by simp
theorem ltNx (i j:Nat):ltI (i:Int) (j:Int)=decide (i < j):=ltN i j
theorem eqNx (i j:Nat):eqI (i:Int) (j:Int)=decide (i=j):=eqNN i j
theorem brE_e (c:AV) (call:CallT) (n:Nat) (a b:ACode) (fr:List AV) (st:St):brE c call n a b fr st=brT c (exeT call n a fr st) (exeT call n b fr st):=spine rfl
theorem lt01:(0 < (1:Nat))=True:=by simp
theorem lt03:(0 < (3:Nat))=True:=by simp
theorem lt13:(1 < (3:Nat))=True:=by simp
theorem lt23:(2 < (3:Nat))=True:=by simp
theorem il0:(0≤(0:Int))=True:=by simp
theorem it0:(0:Int).toNat=0:=spine rfl
theorem il1:(0≤(1:Int))=True:=by simp
theorem it1:(1:Int).toNat=1:=spine rfl
theorem il2:(0≤(2:Int))=True:=by simp
theorem it2:(2:Int).toNat=2:=spine rfl
theorem m41:4*1=(4:Nat):=spine rfl
theorem W_e (a:AV):W a=AV.weak (AV.stripB a):=spine rfl
theorem m1_e {β:Type} (a:AV) (f:AV→Option β):m1 a f=f a:=spine rfl
theorem gm_some {β:Type} (c w:Bool) (a:AV) (f:AV→Option β):gm (.bool c) w a f=f (gV (.bool c) w a):=by unfold gm; rw [gv_some,obind_some]
theorem gm_some2 {β:Type} (x:AV) (w b want:Bool) (a:AV) (f:AV→Option β):gm (gV x w (.bool b)) want a f=f (gV (gV x w (.bool b)) want a):=by unfold gm; rw [gv_some2,obind_some]
theorem gm_none {β:Type} (w:Bool) (a:AV) (f:AV→Option β):gm (.tuple []) w a f=f (.tuple []):=by unfold gm; rw [gv_none,obind_some]
theorem z_add (n:Nat):0+n=n:=Nat.zero_add n
theorem add_z (n:Nat):n+0=n:=spine rfl
theorem beqN (n:Nat):(n == n)=true:=by simp
end Go.Cb.R
namespace Go.Cb
open Go.Cb.R
set_option linter.defProp false in
def SS:=And.intro (And.intro @mgetR_e @hasMap_e) (And.intro (And.intro (And.intro (And.intro (And.intro (And.intro (And.intro (And.intro (@exec_seqK) (@exec_blkK)) (And.intro (@exec_ret) (And.intro (@exec_exit) (@exec_skip)))) (And.intro (And.intro (@seqK_normal) (And.intro (@seqK_exit) (@seqK_ret))) (And.intro (@blkK_some) (And.intro (@blkOut_normal) (@blkOut_ret))))) (And.intro (And.intro (And.intro (@blkOut_exit) (@seqC_x)) (And.intro (@blkC_x) (And.intro (@seqK_obindC) (@blkK_obindC)))) (And.intro (And.intro (@exeT_x) (And.intro (@seqT_x) (@blkT_x))) (And.intro (@brT_true) (And.intro (@brT_false) (@seqK_brT)))))) (And.intro (And.intro (And.intro (And.intro (@blkK_brT) (@exec_loopO)) (And.intro (@p1_some) (And.intro (@p2_some) (@obind_some)))) (And.intro (And.intro (@gv_tt) (And.intro (@gv_tf) (@gv_ff))) (And.intro (@gv_ft) (And.intro (@gv_none) (@gv2_tt))))) (And.intro (And.intro (And.intro (@gv2_tf) (And.intro (@gv2_ff) (@gv2_ft))) (And.intro (@gv2_none) (And.intro (@gV_tt) (@gV_ff)))) (And.intro (And.intro (@gV_tf) (And.intro (@gV_ft) (@gV_none))) (And.intro (@gv_some) (And.intro (@gv_some2) (@weak_gV))))))) (And.intro (And.intro (And.intro (And.intro (And.intro (@strip_gV) (@stripB_gV)) (And.intro (@pick_t) (And.intro (@pick_f) (@pick_or)))) (And.intro (And.intro (@pick_and) (And.intro (@weak_bool) (@weak_int))) (And.intro (@weak_str) (And.intro (@weak_list) (@weak_ptr))))) (And.intro (And.intro (And.intro (@weak_nilp) (@weak_nils)) (And.intro (@weak_ro) (And.intro (@weak_loc) (@weak_map)))) (And.intro (And.intro (@weak_nilm) (And.intro (@weak_func) (@weak_nilf))) (And.intro (@weak_agg) (And.intro (@weak_sl) (@weak_iface)))))) (And.intro (And.intro (And.intro (And.intro (@weak_nili) (@weak_tuple)) (And.intro (@weak_undef) (And.intro (@weak_box) (@weak1_bool)))) (And.intro (And.intro (@weak1_int) (And.intro (@weak1_str) (@weak1_list))) (And.intro (@weak1_sl) (And.intro (@weak1_func) (@weak1_ptr))))) (And.intro (And.intro (And.intro (@weak1_nilp) (And.intro (@weak1_nils) (@weak1_map))) (And.intro (@weak1_nilm) (And.intro (@strip_bool) (@strip_int)))) (And.intro (And.intro (@strip_str) (And.intro (@strip_list) (@strip_ptr))) (And.intro (@strip_nilp) (And.intro (@strip_nils) (@strip_ro)))))))) (And.intro (And.intro (And.intro (And.intro (And.intro (And.intro (@strip_loc) (@strip_map)) (And.intro (@strip_nilm) (And.intro (@strip_func) (@strip_nilf)))) (And.intro (And.intro (@strip_agg) (And.intro (@strip_sl) (@strip_tuple))) (And.intro (@strip_undef) (And.intro (@stripB_bool) (@stripB_int))))) (And.intro (And.intro (And.intro (@stripB_str) (@stripB_list)) (And.intro (@stripB_ptr) (And.intro (@stripB_nilp) (@stripB_nils)))) (And.intro (And.intro (@stripB_ro) (And.intro (@stripB_loc) (@stripB_map))) (And.intro (@stripB_nilm) (And.intro (@stripB_func) (@stripB_nilf)))))) (And.intro (And.intro (And.intro (And.intro (@stripB_agg) (@weak_fresh)) (And.intro (@strip_fresh) (And.intro (@stripB_fresh) (@stripB_sl)))) (And.intro (And.intro (@stripB_tuple) (And.intro (@stripB_undef) (@mv_e))) (And.intro (@nilchk_ptr) (And.intro (@nilchk_loc) (@nilchk_ro))))) (And.intro (And.intro (And.intro (@nilchk_func) (And.intro (@alloc_e) (@boxV_e))) (And.intro (@allocO_e) (And.intro (@boxO_e) (@build_e)))) (And.intro (And.intro (@bslice_e) (And.intro (@ldLc_e) (@ldSt_e))) (And.intro (@ldRo_e) (And.intro (@ldAn_ro) (@ldAn_ptr))))))) (And.intro (And.intro (And.intro (And.intro (And.intro (@ldLcS_e) (@ldStS_e)) (And.intro (@stLc_e) (And.intro (@stSt_e) (@fad_ptr)))) (And.intro (And.intro (@fad_loc) (And.intro (@fad_ro) (@fld_e))) (And.intro (@iad_e) (And.intro (@iad_sl) (@lenL_nils))))) (And.intro (And.intro (And.intro (@lenL_sl) (And.intro (@bsliceM_e) (@bsliceO_e))) (And.intro (@min2_e) (And.intro (@eqIS_e) (@fillRowsM_n)))) (And.intro (And.intro (@fillRowsM_c) (And.intro (@appM_nil) (@appM_nils))) (And.intro (@appM_sl) (And.intro (@aside_n) (@aside_p)))))) (And.intro (And.intro (And.intro (And.intro (@flat_n) (@flat_c)) (And.intro (@b2s_e) (And.intro (@bytesOf_n) (@bytesOf_c)))) (And.intro (And.intro (@iadA_ro) (And.intro (@iadA_ptr) (@iadA_loc))) (And.intro (@idxS_e) (And.intro (@slS_e) (@slL_sl))))) (And.intro (And.intro (And.intro (@slL_e) (And.intro (@max2_e) (@idxA_e))) (And.intro (@appS_e) (And.intro (@clrS_nils) (@clrS_sl)))) (And.intro (And.intro (@slO_e) (And.intro (@slZ_e) (@slA_e))) (And.intro (@bin_e) (And.intro (@binB_e) (@binP_e))))))))) (And.intro (And.intro (And.intro (And.intro (And.intro (And.intro (And.intro (@bi_add) (@bi_sub)) (And.intro (@bi_mul) (And.intro (@bi_quo) (@bi_rem)))) (And.intro (And.intro (@bi_eql) (And.intro (@bi_neq) (@bi_lss))) (And.intro (@bi_leq) (And.intro (@bi_gtr) (@bi_geq))))) (And.intro (And.intro (And.intro (@bs_add) (@bs_eql)) (And.intro (@bs_neq) (And.intro (@bs_lss) (@bb_eql)))) (And.intro (And.intro (@bb_neq) (And.intro (@bp_eql1) (@bp_eql2))) (And.intro (@bp_eql3) (And.intro (@bp_neq1) (@bp_neq2)))))) (And.intro (And.intro (And.intro (And.intro (@bp_neq3) (@un_not)) (And.intro (@un_neg) (And.intro (@conv_e) (@mkF_e)))) (And.intro (And.intro (@mkM_e) (And.intro (@ext_e) (@lenS_e))) (And.intro (@lenL_e) (And.intro (@app_e) (@takeVal_t))))) (And.intro (And.intro (And.intro (@takeVal_f) (And.intro (@fillSegs_n) (@fillSegs_c))) (And.intro (@fillRows_n) (And.intro (@fillRows_c) (@setSeg_e)))) (And.intro (And.intro (@bounds_ff) (And.intro (@bounds_tf) (@bounds_ft))) (And.intro (@bounds_tt) (And.intro (@bound_e) (@rowsOk_n))))))) (And.intro (And.intro (And.intro (And.intro (And.intro (@rowsOk_c) (@locOf_e)) (And.intro (@plain_bool) (And.intro (@cells_bool) (@cellW1_bool)))) (And.intro (And.intro (@cellsW_bool) (And.intro (@plain_int) (@cells_int))) (And.intro (@cellW1_int) (And.intro (@cellsW_int) (@plain_str))))) (And.intro (And.intro (And.intro (@cells_str) (And.intro (@cellW1_str) (@cellsW_str))) (And.intro (@plain_list) (And.intro (@cells_list) (@plain_ptr)))) (And.intro (And.intro (@cells_ptr) (And.intro (@cellW1_ptr) (@cellsW_ptr))) (And.intro (@plain_nilp) (And.intro (@cells_nilp) (@cellW1_nilp)))))) (And.intro (And.intro (And.intro (And.intro (@cellsW_nilp) (@plain_ro)) (And.intro (@cells_ro) (And.intro (@cellW1_ro) (@cellsW_ro)))) (And.intro (And.intro (@plain_map) (And.intro (@cells_map) (@cellW1_map))) (And.intro (@cellsW_map) (And.intro (@plain_nilm) (@cells_nilm))))) (And.intro (And.intro (And.intro (@cellW1_nilm) (And.intro (@cellsW_nilm) (@plain_func))) (And.intro (@cells_func) (And.intro (@cellW1_func) (@cellsW_func)))) (And.intro (And.intro (@plain_nilf) (And.intro (@cells_nilf) (@cellW1_nilf))) (And.intro (@cellsW_nilf) (And.intro (@plain_sl) (@cells_sl)))))))) (And.intro (And.intro (And.intro (And.intro (And.intro (And.intro (@cellW1_sl) (@cellsW_sl)) (And.intro (@plain_iface) (And.intro (@cells_iface) (@cellW1_iface)))) (And.intro (And.intro (@cellsW_iface) (And.intro (@plain_nili) (@cells_nili))) (And.intro (@cellW1_nili) (And.intro (@cellsW_nili) (@plain_nils))))) (And.intro (And.intro (And.intro (@cells_nils) (@cellW1_nils)) (And.intro (@cellsW_nils) (And.intro (@cellW1_list) (@plain_agg)))) (And.intro (And.intro (@cells_agg) (And.intro (@cellsW_agg) (@cellsW_list))) (And.intro (@allPlain_n) (And.intro (@allPlain_c) (@map_n)))))) (And.intro (And.intro (And.intro (And.intro (@map_c) (@drop_0)) (And.intro (@drop_s) (And.intro (@drop_n) (@take_0)))) (And.intro (And.intro (@take_s) (And.intro (@take_n) (@len_n))) (And.intro (@len_c) (And.intro (@app_c) (@app_n))))) (And.intro (And.intro (And.intro (@app_nil) (And.intro (@get_0) (@get_s))) (And.intro (@set_0) (And.intro (@set_s) (@rep_0)))) (And.intro (And.intro (@rep_s) (And.intro (@omap_s) (@omap_n))) (And.intro (@isE_n) (And.intro (@isE_c) (@ite_t))))))) (And.intro (And.intro (And.intro (And.intro (And.intro (@ite_f) (@itb_t)) (And.intro (@itb_f) (And.intro (@t_eq_f) (@f_eq_t)))) (And.intro (And.intro (@not_t) (And.intro (@not_f) (@t_and))) (And.intro (@and_t) (And.intro (@f_and) (@and_f))))) (And.intro (And.intro (And.intro (@t_or) (And.intro (@or_t) (@f_or))) (And.intro (@or_f) (And.intro (@and_T) (@T_and)))) (And.intro (And.intro (@dec_T) (And.intro (@dec_F) (@eqs))) (And.intro (@nn) (And.intro (@tn) (@lecast)))))) (And.intro (And.intro (And.intro (And.intro (@lerefl) (@ltNx)) (And.intro (@eqNx) (And.intro (@brE_e) (@lt01)))) (And.intro (And.intro (@lt03) (And.intro (@lt13) (@lt23))) (And.intro (@il0) (And.intro (@it0) (@il1))))) (And.intro (And.intro (And.intro (@it1) (And.intro (@il2) (@it2))) (And.intro (@m41) (And.intro (@W_e) (@m1_e)))) (And.intro (And.intro (@gm_some) (And.intro (@gm_some2) (@gm_none))) (And.intro (@z_add) (And.intro (@add_z) (@beqN))))))))))
end Go.Cb
/-
 THE ABSTRACT MACHINE, part 48: running told by rules, operation by operation, in place of printed chains.
-/
set_option maxRecDepth 4000
set_option linter.unusedSimpArgs false
set_option linter.unusedVariables false
namespace Go.Cb.V
open Go Go.Cb
def runR (call:CallT) (ops:List AOper) (σ:Sig) (k:Sig→Option Out):Option Out:=obind (runOps call ops σ) k
theorem runR_congr {call:CallT} {ops:List AOper} {σ σ':Sig} {k:Sig→Option Out} (h:σ=σ'):runR call ops σ k=runR call ops σ' k:=by rw [h]
theorem rr_nil (call:CallT) (σ:Sig) (k:Sig→Option Out):runR call [] σ k=k σ:=spine rfl
theorem rr_cons (call:CallT) (o:AOper) (os:List AOper) (σ:Sig) (k:Sig→Option Out):runR call (o::os) σ k=obind (stepOp call o σ) fun σ=>runR call os σ k:=by
 unfold runR
 simp only [runOps]
 cases stepOp call o σ <;> rfl
theorem spendAll_st:∀ (as:List Opd) (σ:Sig),(spendAll as σ).st=σ.st
 | [],_=>rfl
 | x::xs,σ=>by rw [spendAll,spendAll_st xs]; cases x <;> rfl
section
variable (call:CallT) (d:Dst) (as:List Opd) (os:List AOper) (σ:Sig) (k:Sig→Option Out)
theorem pure_n {K:Kind} (h1:K.setSt=false):runR call (⟨d,K,as,none,none⟩::os) σ k=obind (p1 (sem K call (as.map (·.read σ)) .undef σ.st)) fun x=>runR call os (d.put x (spendAll as σ)) k:=by
 rw [rr_cons]
 simp only [stepOp]
 rw [goOp_eq]
 dsimp only
 cases hs:sem K call (as.map (·.read σ)) .undef σ.st with
 | none=>rfl
 | some x =>
  obtain ⟨r,b,st⟩:=x
  obtain rfl:=sem_st h1 hs
  simp only [p1,obind_some]
  have e:({ spendAll as σ with st:=σ.st }:Sig)=spendAll as σ:=by
   have:=spendAll_st as σ
   cases h:spendAll as σ
   rw [h] at this
   simp only at this
   rw [this]
  rw [e]
theorem set_n {K:Kind}:runR call (⟨d,K,as,none,none⟩::os) σ k=obind (p2 (sem K call (as.map (·.read σ)) .undef σ.st)) fun x=>runR call os (d.put x.1 { spendAll as σ with st:=x.2 }) k:=by
 rw [rr_cons]
 simp only [stepOp]
 rw [goOp_eq]
 dsimp only
 cases hs:sem K call (as.map (·.read σ)) .undef σ.st with
 | none=>rfl
 | some x =>
  obtain ⟨r,b,st⟩:=x
  simp only [p2,obind_some]
theorem alt_n {K:Kind} (i:Nat):runR call (⟨d,K,as,some i,none⟩::os) σ k=obind (sem K call (as.map (·.read σ)) (σ.fr.getD i .undef) σ.st) fun x=>runR call os (d.put x.1 { spendAll as σ with fr:=(spendAll as σ).fr.set i x.2.1,st:=x.2.2 }) k:=by
 rw [rr_cons]
 simp only [stepOp]
 rw [goOp_eq]
 dsimp only
 cases hs:sem K call (as.map (·.read σ)) (σ.fr.getD i .undef) σ.st with
 | none=>rfl
 | some x =>
  obtain ⟨r,b,st⟩:=x
  simp only [obind_some]
end
theorem gen_p {call:CallT} {d:Dst} {as:List Opd} {os:List AOper} {σ:Sig} {k:Sig→Option Out} {K:Kind} {box:Option Nat} (h:(K.setSt || K.alters || anySteals as)=false) :
 runR call (⟨d,K,as,box,none⟩::os) σ k=obind (p1 (sem K call (as.map (·.read σ)) (goK.boxOf' box σ) σ.st)) fun r=>runR call os (d.put r σ) k:=by
 rw [rr_cons,← stepK_eq]
 simp only [stepK,goK,h]
theorem gen_pg {call:CallT} {d:Dst} {as:List Opd} {os:List AOper} {σ:Sig} {k:Sig→Option Out} {K:Kind} {box:Option Nat} {x:Opd} {w:Bool} (h:(K.setSt || K.alters || anySteals as)=false) :
 runR call (⟨d,K,as,box,some (x,w)⟩::os) σ k=obind (gv (x.read σ) w (p1 (sem K call (as.map (·.read σ)) (goK.boxOf' box σ) σ.st))) fun r=>runR call os (d.put r σ) k:=by
 rw [rr_cons,← stepK_eq]
 simp only [stepK,h]
theorem gen_sg {call:CallT} {d:Dst} {as:List Opd} {os:List AOper} {σ:Sig} {k:Sig→Option Out} {K:Kind} {box:Option Nat} {x:Opd} {w:Bool} (h1:K.setSt=true) (h2:K.alters=false) (h:anySteals as=false) :
 runR call (⟨d,K,as,box,some (x,w)⟩::os) σ k=obind (gv2 (x.read σ) w σ.st (p2 (sem K call (as.map (·.read σ)) (goK.boxOf' box σ) σ.st))) fun r=>runR call os (d.put r.1 { σ with st:=r.2 }) k:=by
 rw [rr_cons,← stepK_eq]
 simp only [stepK,h1,h2,h,Bool.true_or,Bool.or_false]
theorem as_n:anySteals []=false:=spine rfl
theorem as_t (s:Nat) (xs:List Opd):anySteals (.t s::xs)=anySteals xs:=spine rfl
theorem as_v (s:Nat) (xs:List Opd):anySteals (.v s::xs)=anySteals xs:=spine rfl
theorem as_l (s:Nat) (xs:List Opd):anySteals (.l s::xs)=anySteals xs:=spine rfl
theorem as_c (a:AV) (xs:List Opd):anySteals (.c a::xs)=anySteals xs:=spine rfl
theorem exec_regR (call:CallT) (n:Nat) (kill:List Nat) (ps:List AOper) (fr:List AV) (st:St) :
 exec call n (.reg kill ps) fr st=runR call ps ⟨killAll kill fr,fun _=>.undef,st⟩ fun σ=>some (.normal,σ.fr,σ.st):=by
 rw [exec_reg,runK_eq]; rfl
theorem exec_testR (call:CallT) (n:Nat) (kill:List Nat) (ps:List AOper) (c:Opd) (a b:ACode) (fr:List AV) (st:St) :
 exec call n (.test kill ps c a b) fr st=runR call ps ⟨killAll kill fr,fun _=>.undef,st⟩ fun σ=>brE (c.read σ) call n a b σ.fr σ.st:=by
 rw [exec_testT,runK_eq]; rfl
theorem rd_t (s:Nat) (fr:List AV) (τ:Nat→AV) (st:St):Opd.read (.t s) ⟨fr,τ,st⟩=(τ s).weak:=spine rfl
theorem rd_ts (s:Nat) (fr:List AV) (τ:Nat→AV) (st:St):Opd.read (.ts s) ⟨fr,τ,st⟩=τ s:=spine rfl
theorem rd_v (s:Nat) (fr:List AV) (τ:Nat→AV) (st:St):Opd.read (.v s) ⟨fr,τ,st⟩=(fr.getD s .undef).weak:=spine rfl
theorem rd_vs (s:Nat) (fr:List AV) (τ:Nat→AV) (st:St):Opd.read (.vs s) ⟨fr,τ,st⟩=fr.getD s .undef:=spine rfl
theorem rd_l (s:Nat) (fr:List AV) (τ:Nat→AV) (st:St):Opd.read (.l s) ⟨fr,τ,st⟩=locOf s (fr.getD s .undef):=spine rfl
theorem rd_c (a:AV) (σ:Sig):Opd.read (.c a) σ=a:=spine rfl
theorem upd_e (τ:Nat→AV) (s:Nat) (a:AV) (j:Nat):updT τ s a j=if j=s then a else τ j:=by
 unfold updT
 by_cases h:j=s
 · subst h; simp
 · rw [if_neg h,if_neg]; intro e; exact h (Nat.eq_of_beq_eq_true e)
theorem put_t (s:Nat) (a:AV) (fr:List AV) (τ:Nat→AV) (st:St):Dst.put (.t s) a ⟨fr,τ,st⟩=⟨fr,updT τ s a.stripB,st⟩:=spine rfl
theorem put_v (s:Nat) (a:AV) (fr:List AV) (τ:Nat→AV) (st:St):Dst.put (.v s) a ⟨fr,τ,st⟩=⟨fr.set s a.strip,τ,st⟩:=spine rfl
theorem put_n (a:AV) (σ:Sig):Dst.put .none a σ=σ:=spine rfl
theorem put_b (a:AV) (σ:Sig):Dst.put .bx a σ=σ:=spine rfl
theorem sp_n (σ:Sig):spendAll [] σ=σ:=spine rfl
theorem sp_c (x:Opd) (xs:List Opd) (σ:Sig):spendAll (x::xs) σ=spendAll xs (x.spend σ):=spine rfl
theorem sp_t (s:Nat) (σ:Sig):Opd.spend (.t s) σ=σ:=spine rfl
theorem sp_v (s:Nat) (σ:Sig):Opd.spend (.v s) σ=σ:=spine rfl
theorem sp_l (s:Nat) (σ:Sig):Opd.spend (.l s) σ=σ:=spine rfl
theorem sp_k (a:AV) (σ:Sig):Opd.spend (.c a) σ=σ:=spine rfl
theorem sp_ts (s:Nat) (fr:List AV) (τ:Nat→AV) (st:St):Opd.spend (.ts s) ⟨fr,τ,st⟩=⟨fr,updT τ s (τ s).weak,st⟩:=spine rfl
theorem sp_vs (s:Nat) (fr:List AV) (τ:Nat→AV) (st:St):Opd.spend (.vs s) ⟨fr,τ,st⟩=⟨fr.set s (fr.getD s .undef).weak,τ,st⟩:=spine rfl
theorem gd_0 (a d:AV) (l:List AV):(a::l).getD 0 d=a:=spine rfl
theorem gd_s (a d:AV) (l:List AV) (n:Nat):(a::l).getD (n+1) d=l.getD n d:=spine rfl
theorem kl_n (fr:List AV):killAll [] fr=fr:=spine rfl
theorem kl_c (i:Nat) (is:List Nat) (fr:List AV):killAll (i::is) fr=killAll is (fr.set i .undef):=spine rfl
section
variable (call:CallT) (d:Dst) (as:List Opd) (os:List AOper) (fr:List AV) (τ:Nat→AV) (s:St) (k:Sig→Option Out)
theorem u_mv :runR call (⟨d,.mv,as,none,none⟩::os) ⟨fr,τ,s⟩ k=obind (p1 (semMv call (as.map (·.read ⟨fr,τ,s⟩)) .undef s)) fun x=>runR call os (d.put x (spendAll as ⟨fr,τ,s⟩)) k:=pure_n call d as os ⟨fr,τ,s⟩ k rfl
theorem u_pick :runR call (⟨d,.pick,as,none,none⟩::os) ⟨fr,τ,s⟩ k=obind (p1 (semPick call (as.map (·.read ⟨fr,τ,s⟩)) .undef s)) fun x=>runR call os (d.put x (spendAll as ⟨fr,τ,s⟩)) k:=pure_n call d as os ⟨fr,τ,s⟩ k rfl
theorem u_nilchk :runR call (⟨d,.nilchk,as,none,none⟩::os) ⟨fr,τ,s⟩ k=obind (p1 (semNilchk call (as.map (·.read ⟨fr,τ,s⟩)) .undef s)) fun x=>runR call os (d.put x (spendAll as ⟨fr,τ,s⟩)) k:=pure_n call d as os ⟨fr,τ,s⟩ k rfl
theorem u_build (z:List AV) (o:List (Nat×Nat)):runR call (⟨d,.build z o,as,none,none⟩::os) ⟨fr,τ,s⟩ k=obind (p1 (semBuild z o call (as.map (·.read ⟨fr,τ,s⟩)) .undef s)) fun x=>runR call os (d.put x (spendAll as ⟨fr,τ,s⟩)) k:=pure_n call d as os ⟨fr,τ,s⟩ k rfl
theorem u_bslice (q:Nat) (z:List (List AV)) (t:List Nat):runR call (⟨d,.bslice q z t,as,none,none⟩::os) ⟨fr,τ,s⟩ k=obind (p1 (semBslice q z t call (as.map (·.read ⟨fr,τ,s⟩)) .undef s)) fun x=>runR call os (d.put x (spendAll as ⟨fr,τ,s⟩)) k:=pure_n call d as os ⟨fr,τ,s⟩ k rfl
theorem u_bsliceM (q:Nat) (z:List (List AV)) (t:List Nat):runR call (⟨d,.bsliceM q z t,as,none,none⟩::os) ⟨fr,τ,s⟩ k=obind (p1 (semBsliceM q z t call (as.map (·.read ⟨fr,τ,s⟩)) .undef s)) fun x=>runR call os (d.put x (spendAll as ⟨fr,τ,s⟩)) k:=pure_n call d as os ⟨fr,τ,s⟩ k rfl
theorem u_ldSt (g:Bool) (n:Nat):runR call (⟨d,.ldSt g n,as,none,none⟩::os) ⟨fr,τ,s⟩ k=obind (p1 (semLdSt g n call (as.map (·.read ⟨fr,τ,s⟩)) .undef s)) fun x=>runR call os (d.put x (spendAll as ⟨fr,τ,s⟩)) k:=pure_n call d as os ⟨fr,τ,s⟩ k rfl
theorem u_ldRo (g:Bool) (n:Nat):runR call (⟨d,.ldRo g n,as,none,none⟩::os) ⟨fr,τ,s⟩ k=obind (p1 (semLdRo g n call (as.map (·.read ⟨fr,τ,s⟩)) .undef s)) fun x=>runR call os (d.put x (spendAll as ⟨fr,τ,s⟩)) k:=pure_n call d as os ⟨fr,τ,s⟩ k rfl
theorem u_ldAn (g:Bool) (n:Nat):runR call (⟨d,.ldAn g n,as,none,none⟩::os) ⟨fr,τ,s⟩ k=obind (p1 (semLdAn g n call (as.map (·.read ⟨fr,τ,s⟩)) .undef s)) fun x=>runR call os (d.put x (spendAll as ⟨fr,τ,s⟩)) k:=pure_n call d as os ⟨fr,τ,s⟩ k rfl
theorem u_ldStR (g:Bool) (n:Nat):runR call (⟨d,.ldStR g n,as,none,none⟩::os) ⟨fr,τ,s⟩ k=obind (p1 (semLdStR g n call (as.map (·.read ⟨fr,τ,s⟩)) .undef s)) fun x=>runR call os (d.put x (spendAll as ⟨fr,τ,s⟩)) k:=pure_n call d as os ⟨fr,τ,s⟩ k rfl
theorem u_fad (n:Nat):runR call (⟨d,.fad n,as,none,none⟩::os) ⟨fr,τ,s⟩ k=obind (p1 (semFad n call (as.map (·.read ⟨fr,τ,s⟩)) .undef s)) fun x=>runR call os (d.put x (spendAll as ⟨fr,τ,s⟩)) k:=pure_n call d as os ⟨fr,τ,s⟩ k rfl
theorem u_fld (o n:Nat) (g:Bool):runR call (⟨d,.fld o n g,as,none,none⟩::os) ⟨fr,τ,s⟩ k=obind (p1 (semFld o n g call (as.map (·.read ⟨fr,τ,s⟩)) .undef s)) fun x=>runR call os (d.put x (spendAll as ⟨fr,τ,s⟩)) k:=pure_n call d as os ⟨fr,τ,s⟩ k rfl
theorem u_iad (n:Nat):runR call (⟨d,.iad n,as,none,none⟩::os) ⟨fr,τ,s⟩ k=obind (p1 (semIad n call (as.map (·.read ⟨fr,τ,s⟩)) .undef s)) fun x=>runR call os (d.put x (spendAll as ⟨fr,τ,s⟩)) k:=pure_n call d as os ⟨fr,τ,s⟩ k rfl
theorem u_iadA (l n:Nat):runR call (⟨d,.iadA l n,as,none,none⟩::os) ⟨fr,τ,s⟩ k=obind (p1 (semIadA l n call (as.map (·.read ⟨fr,τ,s⟩)) .undef s)) fun x=>runR call os (d.put x (spendAll as ⟨fr,τ,s⟩)) k:=pure_n call d as os ⟨fr,τ,s⟩ k rfl
theorem u_idxS :runR call (⟨d,.idxS,as,none,none⟩::os) ⟨fr,τ,s⟩ k=obind (p1 (semIdxS call (as.map (·.read ⟨fr,τ,s⟩)) .undef s)) fun x=>runR call os (d.put x (spendAll as ⟨fr,τ,s⟩)) k:=pure_n call d as os ⟨fr,τ,s⟩ k rfl
theorem u_slS (a b:Bool):runR call (⟨d,.slS a b,as,none,none⟩::os) ⟨fr,τ,s⟩ k=obind (p1 (semSlS a b call (as.map (·.read ⟨fr,τ,s⟩)) .undef s)) fun x=>runR call os (d.put x (spendAll as ⟨fr,τ,s⟩)) k:=pure_n call d as os ⟨fr,τ,s⟩ k rfl
theorem u_slL (n:Nat) (a b:Bool):runR call (⟨d,.slL n a b,as,none,none⟩::os) ⟨fr,τ,s⟩ k=obind (p1 (semSlL n a b call (as.map (·.read ⟨fr,τ,s⟩)) .undef s)) fun x=>runR call os (d.put x (spendAll as ⟨fr,τ,s⟩)) k:=pure_n call d as os ⟨fr,τ,s⟩ k rfl
theorem u_idxA (l n:Nat) (g:Bool):runR call (⟨d,.idxA l n g,as,none,none⟩::os) ⟨fr,τ,s⟩ k=obind (p1 (semIdxA l n g call (as.map (·.read ⟨fr,τ,s⟩)) .undef s)) fun x=>runR call os (d.put x (spendAll as ⟨fr,τ,s⟩)) k:=pure_n call d as os ⟨fr,τ,s⟩ k rfl
theorem u_max2:runR call (⟨d,.max2,as,none,none⟩::os) ⟨fr,τ,s⟩ k=obind (p1 (semMax2 call (as.map (·.read ⟨fr,τ,s⟩)) .undef s)) fun x=>runR call os (d.put x (spendAll as ⟨fr,τ,s⟩)) k:=pure_n call d as os ⟨fr,τ,s⟩ k rfl
theorem u_appS (n:Nat):runR call (⟨d,.appS n,as,none,none⟩::os) ⟨fr,τ,s⟩ k=obind (p1 (semAppS n call (as.map (·.read ⟨fr,τ,s⟩)) .undef s)) fun x=>runR call os (d.put x (spendAll as ⟨fr,τ,s⟩)) k:=pure_n call d as os ⟨fr,τ,s⟩ k rfl
theorem u_slO (n:Nat):runR call (⟨d,.slO n,as,none,none⟩::os) ⟨fr,τ,s⟩ k=obind (p1 (semSlO n call (as.map (·.read ⟨fr,τ,s⟩)) .undef s)) fun x=>runR call os (d.put x (spendAll as ⟨fr,τ,s⟩)) k:=pure_n call d as os ⟨fr,τ,s⟩ k rfl
theorem u_slZ :runR call (⟨d,.slZ,as,none,none⟩::os) ⟨fr,τ,s⟩ k=obind (p1 (semSlZ call (as.map (·.read ⟨fr,τ,s⟩)) .undef s)) fun x=>runR call os (d.put x (spendAll as ⟨fr,τ,s⟩)) k:=pure_n call d as os ⟨fr,τ,s⟩ k rfl
theorem u_slA (l n:Nat) (a b:Bool):runR call (⟨d,.slA l n a b,as,none,none⟩::os) ⟨fr,τ,s⟩ k=obind (p1 (semSlA l n a b call (as.map (·.read ⟨fr,τ,s⟩)) .undef s)) fun x=>runR call os (d.put x (spendAll as ⟨fr,τ,s⟩)) k:=pure_n call d as os ⟨fr,τ,s⟩ k rfl
theorem u_bin (o:BinOp):runR call (⟨d,.bin o,as,none,none⟩::os) ⟨fr,τ,s⟩ k=obind (p1 (semBin o call (as.map (·.read ⟨fr,τ,s⟩)) .undef s)) fun x=>runR call os (d.put x (spendAll as ⟨fr,τ,s⟩)) k:=pure_n call d as os ⟨fr,τ,s⟩ k rfl
theorem u_binB (o:BinOp):runR call (⟨d,.binB o,as,none,none⟩::os) ⟨fr,τ,s⟩ k=obind (p1 (semBinB o call (as.map (·.read ⟨fr,τ,s⟩)) .undef s)) fun x=>runR call os (d.put x (spendAll as ⟨fr,τ,s⟩)) k:=pure_n call d as os ⟨fr,τ,s⟩ k rfl
theorem u_binP (o:BinOp):runR call (⟨d,.binP o,as,none,none⟩::os) ⟨fr,τ,s⟩ k=obind (p1 (semBinP o call (as.map (·.read ⟨fr,τ,s⟩)) .undef s)) fun x=>runR call os (d.put x (spendAll as ⟨fr,τ,s⟩)) k:=pure_n call d as os ⟨fr,τ,s⟩ k rfl
theorem u_un (o:UnOp):runR call (⟨d,.un o,as,none,none⟩::os) ⟨fr,τ,s⟩ k=obind (p1 (semUn o call (as.map (·.read ⟨fr,τ,s⟩)) .undef s)) fun x=>runR call os (d.put x (spendAll as ⟨fr,τ,s⟩)) k:=pure_n call d as os ⟨fr,τ,s⟩ k rfl
theorem u_conv (t:IntKind):runR call (⟨d,.conv t,as,none,none⟩::os) ⟨fr,τ,s⟩ k=obind (p1 (semConv t call (as.map (·.read ⟨fr,τ,s⟩)) .undef s)) fun x=>runR call os (d.put x (spendAll as ⟨fr,τ,s⟩)) k:=pure_n call d as os ⟨fr,τ,s⟩ k rfl
theorem u_mkF (f n:Nat):runR call (⟨d,.mkF f n,as,none,none⟩::os) ⟨fr,τ,s⟩ k=obind (p1 (semMkF f n call (as.map (·.read ⟨fr,τ,s⟩)) .undef s)) fun x=>runR call os (d.put x (spendAll as ⟨fr,τ,s⟩)) k:=pure_n call d as os ⟨fr,τ,s⟩ k rfl
theorem u_mget (a:Nat) (z:List AV) (b c:Bool):runR call (⟨d,.mget a z b c,as,none,none⟩::os) ⟨fr,τ,s⟩ k=obind (p1 (semMget a z b c call (as.map (·.read ⟨fr,τ,s⟩)) .undef s)) fun x=>runR call os (d.put x (spendAll as ⟨fr,τ,s⟩)) k:=pure_n call d as os ⟨fr,τ,s⟩ k rfl
theorem u_mgetR (a:Nat) (z:List AV) (b c:Bool):runR call (⟨d,.mgetR a z b c,as,none,none⟩::os) ⟨fr,τ,s⟩ k=obind (p1 (semMgetR a z b c call (as.map (·.read ⟨fr,τ,s⟩)) .undef s)) fun x=>runR call os (d.put x (spendAll as ⟨fr,τ,s⟩)) k:=pure_n call d as os ⟨fr,τ,s⟩ k rfl
theorem u_ext (n:Nat):runR call (⟨d,.ext n,as,none,none⟩::os) ⟨fr,τ,s⟩ k=obind (p1 (semExt n call (as.map (·.read ⟨fr,τ,s⟩)) .undef s)) fun x=>runR call os (d.put x (spendAll as ⟨fr,τ,s⟩)) k:=pure_n call d as os ⟨fr,τ,s⟩ k rfl
theorem u_lenS :runR call (⟨d,.lenS,as,none,none⟩::os) ⟨fr,τ,s⟩ k=obind (p1 (semLenS call (as.map (·.read ⟨fr,τ,s⟩)) .undef s)) fun x=>runR call os (d.put x (spendAll as ⟨fr,τ,s⟩)) k:=pure_n call d as os ⟨fr,τ,s⟩ k rfl
theorem u_lenL :runR call (⟨d,.lenL,as,none,none⟩::os) ⟨fr,τ,s⟩ k=obind (p1 (semLenL call (as.map (·.read ⟨fr,τ,s⟩)) .undef s)) fun x=>runR call os (d.put x (spendAll as ⟨fr,τ,s⟩)) k:=pure_n call d as os ⟨fr,τ,s⟩ k rfl
theorem u_app (n b:Nat):runR call (⟨d,.app n b,as,none,none⟩::os) ⟨fr,τ,s⟩ k=obind (p1 (semApp n b call (as.map (·.read ⟨fr,τ,s⟩)) .undef s)) fun x=>runR call os (d.put x (spendAll as ⟨fr,τ,s⟩)) k:=pure_n call d as os ⟨fr,τ,s⟩ k rfl
theorem u_b2s :runR call (⟨d,.b2s,as,none,none⟩::os) ⟨fr,τ,s⟩ k=obind (p1 (semB2s call (as.map (·.read ⟨fr,τ,s⟩)) .undef s)) fun x=>runR call os (d.put x (spendAll as ⟨fr,τ,s⟩)) k:=pure_n call d as os ⟨fr,τ,s⟩ k rfl
theorem g_build (z:List AV) (o:List (Nat×Nat)) (x:Opd) (w:Bool) (h:anySteals as=false):runR call (⟨d,.build z o,as,none,some (x,w)⟩::os) ⟨fr,τ,s⟩ k=obind (gv (x.read ⟨fr,τ,s⟩) w (p1 (semBuild z o call (as.map (·.read ⟨fr,τ,s⟩)) .undef s))) fun r=>runR call os (d.put r ⟨fr,τ,s⟩) k:=gen_pg (by rw [h]; rfl)
theorem g_bslice (q:Nat) (z:List (List AV)) (t:List Nat) (x:Opd) (w:Bool) (h:anySteals as=false):runR call (⟨d,.bslice q z t,as,none,some (x,w)⟩::os) ⟨fr,τ,s⟩ k=obind (gv (x.read ⟨fr,τ,s⟩) w (p1 (semBslice q z t call (as.map (·.read ⟨fr,τ,s⟩)) .undef s))) fun r=>runR call os (d.put r ⟨fr,τ,s⟩) k:=gen_pg (by rw [h]; rfl)
theorem g_bsliceM (q:Nat) (z:List (List AV)) (t:List Nat) (x:Opd) (w:Bool) (h:anySteals as=false):runR call (⟨d,.bsliceM q z t,as,none,some (x,w)⟩::os) ⟨fr,τ,s⟩ k=obind (gv (x.read ⟨fr,τ,s⟩) w (p1 (semBsliceM q z t call (as.map (·.read ⟨fr,τ,s⟩)) .undef s))) fun r=>runR call os (d.put r ⟨fr,τ,s⟩) k:=gen_pg (by rw [h]; rfl)
theorem g_ldSt (g:Bool) (n:Nat) (x:Opd) (w:Bool) (h:anySteals as=false):runR call (⟨d,.ldSt g n,as,none,some (x,w)⟩::os) ⟨fr,τ,s⟩ k=obind (gv (x.read ⟨fr,τ,s⟩) w (p1 (semLdSt g n call (as.map (·.read ⟨fr,τ,s⟩)) .undef s))) fun r=>runR call os (d.put r ⟨fr,τ,s⟩) k:=gen_pg (by rw [h]; rfl)
theorem g_ldRo (g:Bool) (n:Nat) (x:Opd) (w:Bool) (h:anySteals as=false):runR call (⟨d,.ldRo g n,as,none,some (x,w)⟩::os) ⟨fr,τ,s⟩ k=obind (gv (x.read ⟨fr,τ,s⟩) w (p1 (semLdRo g n call (as.map (·.read ⟨fr,τ,s⟩)) .undef s))) fun r=>runR call os (d.put r ⟨fr,τ,s⟩) k:=gen_pg (by rw [h]; rfl)
theorem g_ldAn (g:Bool) (n:Nat) (x:Opd) (w:Bool) (h:anySteals as=false):runR call (⟨d,.ldAn g n,as,none,some (x,w)⟩::os) ⟨fr,τ,s⟩ k=obind (gv (x.read ⟨fr,τ,s⟩) w (p1 (semLdAn g n call (as.map (·.read ⟨fr,τ,s⟩)) .undef s))) fun r=>runR call os (d.put r ⟨fr,τ,s⟩) k:=gen_pg (by rw [h]; rfl)
theorem g_ldStR (g:Bool) (n:Nat) (x:Opd) (w:Bool) (h:anySteals as=false):runR call (⟨d,.ldStR g n,as,none,some (x,w)⟩::os) ⟨fr,τ,s⟩ k=obind (gv (x.read ⟨fr,τ,s⟩) w (p1 (semLdStR g n call (as.map (·.read ⟨fr,τ,s⟩)) .undef s))) fun r=>runR call os (d.put r ⟨fr,τ,s⟩) k:=gen_pg (by rw [h]; rfl)
theorem g_fad (n:Nat) (x:Opd) (w:Bool) (h:anySteals as=false):runR call (⟨d,.fad n,as,none,some (x,w)⟩::os) ⟨fr,τ,s⟩ k=obind (gv (x.read ⟨fr,τ,s⟩) w (p1 (semFad n call (as.map (·.read ⟨fr,τ,s⟩)) .undef s))) fun r=>runR call os (d.put r ⟨fr,τ,s⟩) k:=gen_pg (by rw [h]; rfl)
theorem g_fld (o n:Nat) (g:Bool) (x:Opd) (w:Bool) (h:anySteals as=false):runR call (⟨d,.fld o n g,as,none,some (x,w)⟩::os) ⟨fr,τ,s⟩ k=obind (gv (x.read ⟨fr,τ,s⟩) w (p1 (semFld o n g call (as.map (·.read ⟨fr,τ,s⟩)) .undef s))) fun r=>runR call os (d.put r ⟨fr,τ,s⟩) k:=gen_pg (by rw [h]; rfl)
theorem g_iad (n:Nat) (x:Opd) (w:Bool) (h:anySteals as=false):runR call (⟨d,.iad n,as,none,some (x,w)⟩::os) ⟨fr,τ,s⟩ k=obind (gv (x.read ⟨fr,τ,s⟩) w (p1 (semIad n call (as.map (·.read ⟨fr,τ,s⟩)) .undef s))) fun r=>runR call os (d.put r ⟨fr,τ,s⟩) k:=gen_pg (by rw [h]; rfl)
theorem g_iadA (l n:Nat) (x:Opd) (w:Bool) (h:anySteals as=false):runR call (⟨d,.iadA l n,as,none,some (x,w)⟩::os) ⟨fr,τ,s⟩ k=obind (gv (x.read ⟨fr,τ,s⟩) w (p1 (semIadA l n call (as.map (·.read ⟨fr,τ,s⟩)) .undef s))) fun r=>runR call os (d.put r ⟨fr,τ,s⟩) k:=gen_pg (by rw [h]; rfl)
theorem g_slS (a b:Bool) (x:Opd) (w:Bool) (h:anySteals as=false):runR call (⟨d,.slS a b,as,none,some (x,w)⟩::os) ⟨fr,τ,s⟩ k=obind (gv (x.read ⟨fr,τ,s⟩) w (p1 (semSlS a b call (as.map (·.read ⟨fr,τ,s⟩)) .undef s))) fun r=>runR call os (d.put r ⟨fr,τ,s⟩) k:=gen_pg (by rw [h]; rfl)
theorem g_slL (n:Nat) (a b:Bool) (x:Opd) (w:Bool) (h:anySteals as=false):runR call (⟨d,.slL n a b,as,none,some (x,w)⟩::os) ⟨fr,τ,s⟩ k=obind (gv (x.read ⟨fr,τ,s⟩) w (p1 (semSlL n a b call (as.map (·.read ⟨fr,τ,s⟩)) .undef s))) fun r=>runR call os (d.put r ⟨fr,τ,s⟩) k:=gen_pg (by rw [h]; rfl)
theorem g_slA (l n:Nat) (a b:Bool) (x:Opd) (w:Bool) (h:anySteals as=false):runR call (⟨d,.slA l n a b,as,none,some (x,w)⟩::os) ⟨fr,τ,s⟩ k=obind (gv (x.read ⟨fr,τ,s⟩) w (p1 (semSlA l n a b call (as.map (·.read ⟨fr,τ,s⟩)) .undef s))) fun r=>runR call os (d.put r ⟨fr,τ,s⟩) k:=gen_pg (by rw [h]; rfl)
theorem g_bin (o:BinOp) (x:Opd) (w:Bool) (h:anySteals as=false):runR call (⟨d,.bin o,as,none,some (x,w)⟩::os) ⟨fr,τ,s⟩ k=obind (gv (x.read ⟨fr,τ,s⟩) w (p1 (semBin o call (as.map (·.read ⟨fr,τ,s⟩)) .undef s))) fun r=>runR call os (d.put r ⟨fr,τ,s⟩) k:=gen_pg (by rw [h]; rfl)
theorem g_binB (o:BinOp) (x:Opd) (w:Bool) (h:anySteals as=false):runR call (⟨d,.binB o,as,none,some (x,w)⟩::os) ⟨fr,τ,s⟩ k=obind (gv (x.read ⟨fr,τ,s⟩) w (p1 (semBinB o call (as.map (·.read ⟨fr,τ,s⟩)) .undef s))) fun r=>runR call os (d.put r ⟨fr,τ,s⟩) k:=gen_pg (by rw [h]; rfl)
theorem g_binP (o:BinOp) (x:Opd) (w:Bool) (h:anySteals as=false):runR call (⟨d,.binP o,as,none,some (x,w)⟩::os) ⟨fr,τ,s⟩ k=obind (gv (x.read ⟨fr,τ,s⟩) w (p1 (semBinP o call (as.map (·.read ⟨fr,τ,s⟩)) .undef s))) fun r=>runR call os (d.put r ⟨fr,τ,s⟩) k:=gen_pg (by rw [h]; rfl)
theorem g_un (o:UnOp) (x:Opd) (w:Bool) (h:anySteals as=false):runR call (⟨d,.un o,as,none,some (x,w)⟩::os) ⟨fr,τ,s⟩ k=obind (gv (x.read ⟨fr,τ,s⟩) w (p1 (semUn o call (as.map (·.read ⟨fr,τ,s⟩)) .undef s))) fun r=>runR call os (d.put r ⟨fr,τ,s⟩) k:=gen_pg (by rw [h]; rfl)
theorem g_conv (t:IntKind) (x:Opd) (w:Bool) (h:anySteals as=false):runR call (⟨d,.conv t,as,none,some (x,w)⟩::os) ⟨fr,τ,s⟩ k=obind (gv (x.read ⟨fr,τ,s⟩) w (p1 (semConv t call (as.map (·.read ⟨fr,τ,s⟩)) .undef s))) fun r=>runR call os (d.put r ⟨fr,τ,s⟩) k:=gen_pg (by rw [h]; rfl)
theorem g_mkF (f n:Nat) (x:Opd) (w:Bool) (h:anySteals as=false):runR call (⟨d,.mkF f n,as,none,some (x,w)⟩::os) ⟨fr,τ,s⟩ k=obind (gv (x.read ⟨fr,τ,s⟩) w (p1 (semMkF f n call (as.map (·.read ⟨fr,τ,s⟩)) .undef s))) fun r=>runR call os (d.put r ⟨fr,τ,s⟩) k:=gen_pg (by rw [h]; rfl)
theorem g_mget (a:Nat) (z:List AV) (b c:Bool) (x:Opd) (w:Bool) (h:anySteals as=false):runR call (⟨d,.mget a z b c,as,none,some (x,w)⟩::os) ⟨fr,τ,s⟩ k=obind (gv (x.read ⟨fr,τ,s⟩) w (p1 (semMget a z b c call (as.map (·.read ⟨fr,τ,s⟩)) .undef s))) fun r=>runR call os (d.put r ⟨fr,τ,s⟩) k:=gen_pg (by rw [h]; rfl)
theorem g_mgetR (a:Nat) (z:List AV) (b c:Bool) (x:Opd) (w:Bool) (h:anySteals as=false):runR call (⟨d,.mgetR a z b c,as,none,some (x,w)⟩::os) ⟨fr,τ,s⟩ k=obind (gv (x.read ⟨fr,τ,s⟩) w (p1 (semMgetR a z b c call (as.map (·.read ⟨fr,τ,s⟩)) .undef s))) fun r=>runR call os (d.put r ⟨fr,τ,s⟩) k:=gen_pg (by rw [h]; rfl)
theorem g_ext (n:Nat) (x:Opd) (w:Bool) (h:anySteals as=false):runR call (⟨d,.ext n,as,none,some (x,w)⟩::os) ⟨fr,τ,s⟩ k=obind (gv (x.read ⟨fr,τ,s⟩) w (p1 (semExt n call (as.map (·.read ⟨fr,τ,s⟩)) .undef s))) fun r=>runR call os (d.put r ⟨fr,τ,s⟩) k:=gen_pg (by rw [h]; rfl)
theorem g_app (n b:Nat) (x:Opd) (w:Bool) (h:anySteals as=false):runR call (⟨d,.app n b,as,none,some (x,w)⟩::os) ⟨fr,τ,s⟩ k=obind (gv (x.read ⟨fr,τ,s⟩) w (p1 (semApp n b call (as.map (·.read ⟨fr,τ,s⟩)) .undef s))) fun r=>runR call os (d.put r ⟨fr,τ,s⟩) k:=gen_pg (by rw [h]; rfl)
theorem b_ldLc (i:Nat) (g:Bool) (n:Nat) (j:Nat) (h:anySteals as=false):runR call (⟨d,.ldLc i g n,as,some j,none⟩::os) ⟨fr,τ,s⟩ k=obind (p1 (semLdLc i g n call (as.map (·.read ⟨fr,τ,s⟩)) (fr.getD j .undef) s)) fun r=>runR call os (d.put r ⟨fr,τ,s⟩) k:=gen_p (by rw [h]; rfl)
theorem bg_ldLc (i:Nat) (g:Bool) (n:Nat) (j:Nat) (x:Opd) (w:Bool) (h:anySteals as=false):runR call (⟨d,.ldLc i g n,as,some j,some (x,w)⟩::os) ⟨fr,τ,s⟩ k=obind (gv (x.read ⟨fr,τ,s⟩) w (p1 (semLdLc i g n call (as.map (·.read ⟨fr,τ,s⟩)) (fr.getD j .undef) s))) fun r=>runR call os (d.put r ⟨fr,τ,s⟩) k:=gen_pg (by rw [h]; rfl)
theorem s_allocO (z:List AV):runR call (⟨d,.allocO z,as,none,none⟩::os) ⟨fr,τ,s⟩ k=obind (p2 (semAllocO z call (as.map (·.read ⟨fr,τ,s⟩)) .undef s)) fun x=>runR call os (d.put x.1 { spendAll as ⟨fr,τ,s⟩ with st:=x.2 }) k:=set_n call d as os ⟨fr,τ,s⟩ k
theorem sg_allocO (z:List AV) (x:Opd) (w:Bool) (h:anySteals as=false):runR call (⟨d,.allocO z,as,none,some (x,w)⟩::os) ⟨fr,τ,s⟩ k=obind (gv2 (x.read ⟨fr,τ,s⟩) w s (p2 (semAllocO z call (as.map (·.read ⟨fr,τ,s⟩)) .undef s))) fun r=>runR call os (d.put r.1 ⟨fr,τ,r.2⟩) k:=gen_sg rfl rfl h
theorem s_boxO:runR call (⟨d,.boxO,as,none,none⟩::os) ⟨fr,τ,s⟩ k=obind (p2 (semBoxO call (as.map (·.read ⟨fr,τ,s⟩)) .undef s)) fun x=>runR call os (d.put x.1 { spendAll as ⟨fr,τ,s⟩ with st:=x.2 }) k:=set_n call d as os ⟨fr,τ,s⟩ k
theorem sg_boxO (x:Opd) (w:Bool) (h:anySteals as=false):runR call (⟨d,.boxO,as,none,some (x,w)⟩::os) ⟨fr,τ,s⟩ k=obind (gv2 (x.read ⟨fr,τ,s⟩) w s (p2 (semBoxO call (as.map (·.read ⟨fr,τ,s⟩)) .undef s))) fun r=>runR call os (d.put r.1 ⟨fr,τ,r.2⟩) k:=gen_sg rfl rfl h
theorem s_bsliceO (q:Nat) (z:List (List AV)) (t:List Nat):runR call (⟨d,.bsliceO q z t,as,none,none⟩::os) ⟨fr,τ,s⟩ k=obind (p2 (semBsliceO q z t call (as.map (·.read ⟨fr,τ,s⟩)) .undef s)) fun x=>runR call os (d.put x.1 { spendAll as ⟨fr,τ,s⟩ with st:=x.2 }) k:=set_n call d as os ⟨fr,τ,s⟩ k
theorem sg_bsliceO (q:Nat) (z:List (List AV)) (t:List Nat) (x:Opd) (w:Bool) (h:anySteals as=false):runR call (⟨d,.bsliceO q z t,as,none,some (x,w)⟩::os) ⟨fr,τ,s⟩ k=obind (gv2 (x.read ⟨fr,τ,s⟩) w s (p2 (semBsliceO q z t call (as.map (·.read ⟨fr,τ,s⟩)) .undef s))) fun r=>runR call os (d.put r.1 ⟨fr,τ,r.2⟩) k:=gen_sg rfl rfl h
theorem s_appM (n b:Nat):runR call (⟨d,.appM n b,as,none,none⟩::os) ⟨fr,τ,s⟩ k=obind (p2 (semAppM n b call (as.map (·.read ⟨fr,τ,s⟩)) .undef s)) fun x=>runR call os (d.put x.1 { spendAll as ⟨fr,τ,s⟩ with st:=x.2 }) k:=set_n call d as os ⟨fr,τ,s⟩ k
theorem sg_appM (n b:Nat) (x:Opd) (w:Bool) (h:anySteals as=false):runR call (⟨d,.appM n b,as,none,some (x,w)⟩::os) ⟨fr,τ,s⟩ k=obind (gv2 (x.read ⟨fr,τ,s⟩) w s (p2 (semAppM n b call (as.map (·.read ⟨fr,τ,s⟩)) .undef s))) fun r=>runR call os (d.put r.1 ⟨fr,τ,r.2⟩) k:=gen_sg rfl rfl h
theorem s_ldStSR (n:Nat):runR call (⟨d,.ldStSR n,as,none,none⟩::os) ⟨fr,τ,s⟩ k=obind (p2 (semLdStSR n call (as.map (·.read ⟨fr,τ,s⟩)) .undef s)) fun x=>runR call os (d.put x.1 { spendAll as ⟨fr,τ,s⟩ with st:=x.2 }) k:=set_n call d as os ⟨fr,τ,s⟩ k
theorem sg_ldStSR (n:Nat) (x:Opd) (w:Bool) (h:anySteals as=false):runR call (⟨d,.ldStSR n,as,none,some (x,w)⟩::os) ⟨fr,τ,s⟩ k=obind (gv2 (x.read ⟨fr,τ,s⟩) w s (p2 (semLdStSR n call (as.map (·.read ⟨fr,τ,s⟩)) .undef s))) fun r=>runR call os (d.put r.1 ⟨fr,τ,r.2⟩) k:=gen_sg rfl rfl h
theorem s_stStA (n:Nat):runR call (⟨d,.stStA n,as,none,none⟩::os) ⟨fr,τ,s⟩ k=obind (p2 (semStStA n call (as.map (·.read ⟨fr,τ,s⟩)) .undef s)) fun x=>runR call os (d.put x.1 { spendAll as ⟨fr,τ,s⟩ with st:=x.2 }) k:=set_n call d as os ⟨fr,τ,s⟩ k
theorem sg_stStA (n:Nat) (x:Opd) (w:Bool) (h:anySteals as=false):runR call (⟨d,.stStA n,as,none,some (x,w)⟩::os) ⟨fr,τ,s⟩ k=obind (gv2 (x.read ⟨fr,τ,s⟩) w s (p2 (semStStA n call (as.map (·.read ⟨fr,τ,s⟩)) .undef s))) fun r=>runR call os (d.put r.1 ⟨fr,τ,r.2⟩) k:=gen_sg rfl rfl h
theorem s_callA (f m:Nat):runR call (⟨d,.callA f m,as,none,none⟩::os) ⟨fr,τ,s⟩ k=obind (p2 (semCallA f m call (as.map (·.read ⟨fr,τ,s⟩)) .undef s)) fun x=>runR call os (d.put x.1 { spendAll as ⟨fr,τ,s⟩ with st:=x.2 }) k:=set_n call d as os ⟨fr,τ,s⟩ k
theorem sg_callA (f m:Nat) (x:Opd) (w:Bool) (h:anySteals as=false):runR call (⟨d,.callA f m,as,none,some (x,w)⟩::os) ⟨fr,τ,s⟩ k=obind (gv2 (x.read ⟨fr,τ,s⟩) w s (p2 (semCallA f m call (as.map (·.read ⟨fr,τ,s⟩)) .undef s))) fun r=>runR call os (d.put r.1 ⟨fr,τ,r.2⟩) k:=gen_sg rfl rfl h
theorem s_ldStS:runR call (⟨d,.ldStS,as,none,none⟩::os) ⟨fr,τ,s⟩ k=obind (p2 (semLdStS call (as.map (·.read ⟨fr,τ,s⟩)) .undef s)) fun x=>runR call os (d.put x.1 { spendAll as ⟨fr,τ,s⟩ with st:=x.2 }) k:=set_n call d as os ⟨fr,τ,s⟩ k
theorem sg_ldStS (x:Opd) (w:Bool) (h:anySteals as=false):runR call (⟨d,.ldStS,as,none,some (x,w)⟩::os) ⟨fr,τ,s⟩ k=obind (gv2 (x.read ⟨fr,τ,s⟩) w s (p2 (semLdStS call (as.map (·.read ⟨fr,τ,s⟩)) .undef s))) fun r=>runR call os (d.put r.1 ⟨fr,τ,r.2⟩) k:=gen_sg rfl rfl h
theorem s_stSt (n:Nat):runR call (⟨d,.stSt n,as,none,none⟩::os) ⟨fr,τ,s⟩ k=obind (p2 (semStSt n call (as.map (·.read ⟨fr,τ,s⟩)) .undef s)) fun x=>runR call os (d.put x.1 { spendAll as ⟨fr,τ,s⟩ with st:=x.2 }) k:=set_n call d as os ⟨fr,τ,s⟩ k
theorem sg_stSt (n:Nat) (x:Opd) (w:Bool) (h:anySteals as=false):runR call (⟨d,.stSt n,as,none,some (x,w)⟩::os) ⟨fr,τ,s⟩ k=obind (gv2 (x.read ⟨fr,τ,s⟩) w s (p2 (semStSt n call (as.map (·.read ⟨fr,τ,s⟩)) .undef s))) fun r=>runR call os (d.put r.1 ⟨fr,τ,r.2⟩) k:=gen_sg rfl rfl h
theorem s_mkM:runR call (⟨d,.mkM,as,none,none⟩::os) ⟨fr,τ,s⟩ k=obind (p2 (semMkM call (as.map (·.read ⟨fr,τ,s⟩)) .undef s)) fun x=>runR call os (d.put x.1 { spendAll as ⟨fr,τ,s⟩ with st:=x.2 }) k:=set_n call d as os ⟨fr,τ,s⟩ k
theorem s_clrS:runR call (⟨d,.clrS,as,none,none⟩::os) ⟨fr,τ,s⟩ k=obind (p2 (semClrS call (as.map (·.read ⟨fr,τ,s⟩)) .undef s)) fun x=>runR call os (d.put x.1 { spendAll as ⟨fr,τ,s⟩ with st:=x.2 }) k:=set_n call d as os ⟨fr,τ,s⟩ k
theorem sg_mkM (x:Opd) (w:Bool) (h:anySteals as=false):runR call (⟨d,.mkM,as,none,some (x,w)⟩::os) ⟨fr,τ,s⟩ k=obind (gv2 (x.read ⟨fr,τ,s⟩) w s (p2 (semMkM call (as.map (·.read ⟨fr,τ,s⟩)) .undef s))) fun r=>runR call os (d.put r.1 ⟨fr,τ,r.2⟩) k:=gen_sg rfl rfl h
theorem s_mdel (n:Nat):runR call (⟨d,.mdel n,as,none,none⟩::os) ⟨fr,τ,s⟩ k=obind (p2 (semMdel n call (as.map (·.read ⟨fr,τ,s⟩)) .undef s)) fun x=>runR call os (d.put x.1 { spendAll as ⟨fr,τ,s⟩ with st:=x.2 }) k:=set_n call d as os ⟨fr,τ,s⟩ k
theorem s_mset (n:Nat):runR call (⟨d,.mset n,as,none,none⟩::os) ⟨fr,τ,s⟩ k=obind (p2 (semMset n call (as.map (·.read ⟨fr,τ,s⟩)) .undef s)) fun x=>runR call os (d.put x.1 { spendAll as ⟨fr,τ,s⟩ with st:=x.2 }) k:=set_n call d as os ⟨fr,τ,s⟩ k
theorem sg_mset (n:Nat) (x:Opd) (w:Bool) (h:anySteals as=false):runR call (⟨d,.mset n,as,none,some (x,w)⟩::os) ⟨fr,τ,s⟩ k=obind (gv2 (x.read ⟨fr,τ,s⟩) w s (p2 (semMset n call (as.map (·.read ⟨fr,τ,s⟩)) .undef s))) fun r=>runR call os (d.put r.1 ⟨fr,τ,r.2⟩) k:=gen_sg rfl rfl h
theorem s_call (f:Nat):runR call (⟨d,.call f,as,none,none⟩::os) ⟨fr,τ,s⟩ k=obind (p2 (semCall f call (as.map (·.read ⟨fr,τ,s⟩)) .undef s)) fun x=>runR call os (d.put x.1 { spendAll as ⟨fr,τ,s⟩ with st:=x.2 }) k:=set_n call d as os ⟨fr,τ,s⟩ k
theorem sg_call (f:Nat) (x:Opd) (w:Bool) (h:anySteals as=false):runR call (⟨d,.call f,as,none,some (x,w)⟩::os) ⟨fr,τ,s⟩ k=obind (gv2 (x.read ⟨fr,τ,s⟩) w s (p2 (semCall f call (as.map (·.read ⟨fr,τ,s⟩)) .undef s))) fun r=>runR call os (d.put r.1 ⟨fr,τ,r.2⟩) k:=gen_sg rfl rfl h
theorem s_callV:runR call (⟨d,.callV,as,none,none⟩::os) ⟨fr,τ,s⟩ k=obind (p2 (semCallV call (as.map (·.read ⟨fr,τ,s⟩)) .undef s)) fun x=>runR call os (d.put x.1 { spendAll as ⟨fr,τ,s⟩ with st:=x.2 }) k:=set_n call d as os ⟨fr,τ,s⟩ k
theorem sg_callV (x:Opd) (w:Bool) (h:anySteals as=false):runR call (⟨d,.callV,as,none,some (x,w)⟩::os) ⟨fr,τ,s⟩ k=obind (gv2 (x.read ⟨fr,τ,s⟩) w s (p2 (semCallV call (as.map (·.read ⟨fr,τ,s⟩)) .undef s))) fun r=>runR call os (d.put r.1 ⟨fr,τ,r.2⟩) k:=gen_sg rfl rfl h
theorem t_alloc (z:List AV) (j:Nat):runR call (⟨d,.alloc z,as,some j,none⟩::os) ⟨fr,τ,s⟩ k=obind (semAlloc z call (as.map (·.read ⟨fr,τ,s⟩)) (fr.getD j .undef) s) fun x=>runR call os (d.put x.1 { spendAll as ⟨fr,τ,s⟩ with fr:=(spendAll as ⟨fr,τ,s⟩).fr.set j x.2.1,st:=x.2.2 }) k:=alt_n call d as os ⟨fr,τ,s⟩ k j
theorem t_boxV (j:Nat):runR call (⟨d,.boxV,as,some j,none⟩::os) ⟨fr,τ,s⟩ k=obind (semBoxV call (as.map (·.read ⟨fr,τ,s⟩)) (fr.getD j .undef) s) fun x=>runR call os (d.put x.1 { spendAll as ⟨fr,τ,s⟩ with fr:=(spendAll as ⟨fr,τ,s⟩).fr.set j x.2.1,st:=x.2.2 }) k:=alt_n call d as os ⟨fr,τ,s⟩ k j
theorem t_ldLcS (i:Nat) (j:Nat):runR call (⟨d,.ldLcS i,as,some j,none⟩::os) ⟨fr,τ,s⟩ k=obind (semLdLcS i call (as.map (·.read ⟨fr,τ,s⟩)) (fr.getD j .undef) s) fun x=>runR call os (d.put x.1 { spendAll as ⟨fr,τ,s⟩ with fr:=(spendAll as ⟨fr,τ,s⟩).fr.set j x.2.1,st:=x.2.2 }) k:=alt_n call d as os ⟨fr,τ,s⟩ k j
theorem t_stLc (i n:Nat) (j:Nat):runR call (⟨d,.stLc i n,as,some j,none⟩::os) ⟨fr,τ,s⟩ k=obind (semStLc i n call (as.map (·.read ⟨fr,τ,s⟩)) (fr.getD j .undef) s) fun x=>runR call os (d.put x.1 { spendAll as ⟨fr,τ,s⟩ with fr:=(spendAll as ⟨fr,τ,s⟩).fr.set j x.2.1,st:=x.2.2 }) k:=alt_n call d as os ⟨fr,τ,s⟩ k j
theorem g_mv (x:Opd) (w:Bool) (h:anySteals as=false):runR call (⟨d,.mv,as,none,some (x,w)⟩::os) ⟨fr,τ,s⟩ k=obind (gv (x.read ⟨fr,τ,s⟩) w (p1 (semMv call (as.map (·.read ⟨fr,τ,s⟩)) .undef s))) fun r=>runR call os (d.put r ⟨fr,τ,s⟩) k:=gen_pg (by rw [h]; rfl)
theorem g_pick (x:Opd) (w:Bool) (h:anySteals as=false):runR call (⟨d,.pick,as,none,some (x,w)⟩::os) ⟨fr,τ,s⟩ k=obind (gv (x.read ⟨fr,τ,s⟩) w (p1 (semPick call (as.map (·.read ⟨fr,τ,s⟩)) .undef s))) fun r=>runR call os (d.put r ⟨fr,τ,s⟩) k:=gen_pg (by rw [h]; rfl)
theorem g_nilchk (x:Opd) (w:Bool) (h:anySteals as=false):runR call (⟨d,.nilchk,as,none,some (x,w)⟩::os) ⟨fr,τ,s⟩ k=obind (gv (x.read ⟨fr,τ,s⟩) w (p1 (semNilchk call (as.map (·.read ⟨fr,τ,s⟩)) .undef s))) fun r=>runR call os (d.put r ⟨fr,τ,s⟩) k:=gen_pg (by rw [h]; rfl)
theorem g_idxS (x:Opd) (w:Bool) (h:anySteals as=false):runR call (⟨d,.idxS,as,none,some (x,w)⟩::os) ⟨fr,τ,s⟩ k=obind (gv (x.read ⟨fr,τ,s⟩) w (p1 (semIdxS call (as.map (·.read ⟨fr,τ,s⟩)) .undef s))) fun r=>runR call os (d.put r ⟨fr,τ,s⟩) k:=gen_pg (by rw [h]; rfl)
theorem g_slZ (x:Opd) (w:Bool) (h:anySteals as=false):runR call (⟨d,.slZ,as,none,some (x,w)⟩::os) ⟨fr,τ,s⟩ k=obind (gv (x.read ⟨fr,τ,s⟩) w (p1 (semSlZ call (as.map (·.read ⟨fr,τ,s⟩)) .undef s))) fun r=>runR call os (d.put r ⟨fr,τ,s⟩) k:=gen_pg (by rw [h]; rfl)
theorem g_lenS (x:Opd) (w:Bool) (h:anySteals as=false):runR call (⟨d,.lenS,as,none,some (x,w)⟩::os) ⟨fr,τ,s⟩ k=obind (gv (x.read ⟨fr,τ,s⟩) w (p1 (semLenS call (as.map (·.read ⟨fr,τ,s⟩)) .undef s))) fun r=>runR call os (d.put r ⟨fr,τ,s⟩) k:=gen_pg (by rw [h]; rfl)
theorem g_lenL (x:Opd) (w:Bool) (h:anySteals as=false):runR call (⟨d,.lenL,as,none,some (x,w)⟩::os) ⟨fr,τ,s⟩ k=obind (gv (x.read ⟨fr,τ,s⟩) w (p1 (semLenL call (as.map (·.read ⟨fr,τ,s⟩)) .undef s))) fun r=>runR call os (d.put r ⟨fr,τ,s⟩) k:=gen_pg (by rw [h]; rfl)
theorem g_b2s (x:Opd) (w:Bool) (h:anySteals as=false):runR call (⟨d,.b2s,as,none,some (x,w)⟩::os) ⟨fr,τ,s⟩ k=obind (gv (x.read ⟨fr,τ,s⟩) w (p1 (semB2s call (as.map (·.read ⟨fr,τ,s⟩)) .undef s))) fun r=>runR call os (d.put r ⟨fr,τ,s⟩) k:=gen_pg (by rw [h]; rfl)
end
set_option linter.defProp false in
def VV:=And.intro (And.intro (And.intro @u_mgetR @g_mgetR) (And.intro (And.intro (And.intro @s_mdel @s_clrS) @u_slO) (And.intro (And.intro @u_max2 @u_appS) @u_idxA))) (And.intro (And.intro (And.intro (And.intro (And.intro (And.intro @rr_nil (And.intro @exec_regR @exec_testR)) (And.intro (And.intro @rd_t @rd_ts) (And.intro @rd_v @rd_vs))) (And.intro (And.intro (And.intro @rd_l @rd_c) (And.intro @upd_e @put_t)) (And.intro (And.intro @put_v @put_n) (And.intro @put_b @sp_n)))) (And.intro (And.intro (And.intro (And.intro @sp_c @sp_t) (And.intro @sp_v @sp_l)) (And.intro (And.intro @sp_k @sp_ts) (And.intro @sp_vs @gd_0))) (And.intro (And.intro (And.intro @gd_s @kl_n) (And.intro @kl_c @u_mv)) (And.intro (And.intro @u_pick @u_nilchk) (And.intro @u_build @u_bslice))))) (And.intro (And.intro (And.intro (And.intro @u_bsliceM (And.intro @u_ldSt @u_ldRo)) (And.intro (And.intro @u_ldAn @u_ldStR) (And.intro @u_fad @u_fld))) (And.intro (And.intro (And.intro @u_iad @u_iadA) (And.intro @u_idxS @u_slS)) (And.intro (And.intro @u_slL @u_slZ) (And.intro @u_slA @u_bin)))) (And.intro (And.intro (And.intro (And.intro @u_binB @u_binP) (And.intro @u_un @u_conv)) (And.intro (And.intro @u_mkF @u_mget) (And.intro @u_ext @u_lenS))) (And.intro (And.intro (And.intro @u_lenL @u_app) (And.intro @u_b2s @g_build)) (And.intro (And.intro @g_bslice @g_bsliceM) (And.intro @g_ldSt @g_ldRo)))))) (And.intro (And.intro (And.intro (And.intro (And.intro @g_ldAn (And.intro @g_ldStR @g_fad)) (And.intro (And.intro @g_fld @g_iad) (And.intro @g_iadA @g_slS))) (And.intro (And.intro (And.intro @g_slL @g_slA) (And.intro @g_bin @g_binB)) (And.intro (And.intro @g_binP @g_un) (And.intro @g_conv @g_mkF)))) (And.intro (And.intro (And.intro (And.intro @g_mget @g_ext) (And.intro @g_app @b_ldLc)) (And.intro (And.intro @bg_ldLc @s_allocO) (And.intro @sg_allocO @s_boxO))) (And.intro (And.intro (And.intro @sg_boxO @s_bsliceO) (And.intro @sg_bsliceO @s_appM)) (And.intro (And.intro @sg_appM @s_ldStSR) (And.intro @sg_ldStSR @s_stStA))))) (And.intro (And.intro (And.intro (And.intro (And.intro @sg_stStA @s_callA) (And.intro @sg_callA @s_ldStS)) (And.intro (And.intro @sg_ldStS @s_stSt) (And.intro @sg_stSt @s_mkM))) (And.intro (And.intro (And.intro @sg_mkM @s_mset) (And.intro @sg_mset @s_call)) (And.intro (And.intro @sg_call @s_callV) (And.intro @sg_callV @t_alloc)))) (And.intro (And.intro (And.intro (And.intro @t_boxV @t_ldLcS) (And.intro @t_stLc @as_n)) (And.intro (And.intro @as_t @as_v) (And.intro @as_l @as_c))) (And.intro (And.intro (And.intro @g_mv @g_pick) (And.intro @g_nilchk @g_idxS)) (And.intro (And.intro @g_slZ @g_lenS) (And.intro @g_lenL @g_b2s)))))))
end Go.Cb.V
