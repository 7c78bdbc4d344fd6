import Derived.Test.YtdlgfdncpemcnaaGreatDoorXAms2
/-
 THE ABSTRACT MACHINE, part 27: functions, and calls at every depth.
-/
set_option maxRecDepth 4000
set_option linter.unusedSimpArgs false
set_option linter.unusedVariables false
namespace Go.Cb
open Classical

def a0U:List Nat→Bool
 | []=>true
 | x::xs=>!xs.any (Nat.beq x) && a0U xs

def L3 (c:Cx):List ResultVar→List ResK→Bool
 | [],[]=>true
 | .tmp t::rs,.v i::ks=>c.slots[i]? == some t && !c.bxs.contains i && L3 c rs ks
 | .tmp t::rs,.vs i::ks=>c.slots[i]? == some t && !c.bxs.contains i && L3 c rs ks
 | .cell a t::rs,.bx i agg n::ks=>c.slots[i]? == some a && l8 c t == some agg && l6 c t == some n && L3 c rs ks
 | .cell a t::rs,.po i agg n::ks=>c.slots[i]? == some a && !c.bxs.contains i && l8 c t == some agg && l6 c t == some n && L3 c rs ks
 | _,_=>false

def Y9 (P:Program) (gt:List (Nat×List AV)) (slots bxs:List Nat) (fn:Func) (f:AFn) (A:Nat→Prop):Bool :=
 f.ext.isNone && a0U slots && slots.all (fun s=>Nat.blt s fn.ntmps) && slots.take f.np == List.range f.np && Nat.ble f.np slots.length && Nat.beq f.nv slots.length &&
  (match fn.body with|some x=>k6 ⟨P,slots,bxs,fn.ntmps,gt,A⟩ x f.code|none=>false) && L3 ⟨P,slots,bxs,fn.ntmps,gt,A⟩ fn.results.toList f.results

def x9 (P:Program) (gt:List (Nat×List AV)) (f:Nat) (e:List AV→St→Option (AV×St)):Prop :=
 ∀ (args:List AV) (st:St) (res:AV) (st':St),e args st=some (res,st')→(∀ x∈args,x.weak=x) →
  ∀ (g:Gh) (w:World) (vs:List Value),SRel g w st→Globs gt g w→RelL g w args vs→Calls P f vs.toArray w (CallPost g w st' res)

structure ProgOK (P:Program) (gt:List (Nat×List AV)) (tbl:Nat→Option AFn):Prop where
 mixed:P.follows .mixedOrders=true
 fn:∀ f af,tbl f=some af→K2 P f=true∧((∃ slots bxs fn,P.funcs[f]?=some fn∧∀ A,Y9 P gt slots bxs fn af A=true)∨(∃ e,af.ext=some e∧x9 P gt f e))

theorem a3n:∀ {xs:List Nat},a0U xs=true→xs.Nodup
 | [],_=>List.nodup_nil
 | x::xs,h=>by
  simp only [a0U,Bool.and_eq_true,Bool.not_eq_true',List.any_eq_false,Nat.beq_eq] at h
  exact List.nodup_cons.2 ⟨fun hm=>h.1 x hm rfl,a3n h.2⟩

section
variable {c:Cx} {g:Gh} {w:World} {pr:Nat→Option Pl} {bx:Nat→Nat} {σ:Sig} {a:Act}

theorem a6u {t:TypeId} {n bb f:Nat} {ag:Bool} {cs:List AV} {us:List Value} {r:AV} (hag:l8 c t=some ag) (hn:l6 c t=some n) (hl:RelL g w cs us) (hc:w.rangeAt bb f us) (h1:∀ u∈us,u.oneCell'=true) (ht:g8 ag n cs=some r) :
 ∃ v,(loadVar t (ad bb f)).run c.P w=.ok v w∧ValOK g w No r v:=by
 obtain ⟨v,hrun,hr⟩:=O9 (c:=c) (g:=g) (bx:=fun _=>0) (fr:=[]) (a:={ tmps:=#[.pointer (some (ad bb f))],defers:=[] }) (o:={ (default:Oper) with op:=.load t (.tmp 0) }) (x:=.tmp 0) rfl hag hn (by simp [Act.eval]) hl hc h1 ht
 refine ⟨v,?_,?_⟩
 · simp only [execOp,Instr.loadAt,Instr.sureAddr,Act.eval,Sem.run_bind,Sem.run_pure] at hrun
   have e:(Array.getD #[Value.pointer (some (ad bb f))] 0 undef)=.pointer (some (ad bb f)):=rfl
   rw [e] at hrun
   simp only [Sem.run_pure,Result.andThen_ok] at hrun
   cases hq:(loadVar t (ad bb f)).run c.P w with
   | ok u w' =>
    rw [hq] at hrun
    simp only [Result.andThen_ok,Result.ok.injEq,Next.value.injEq] at hrun
    obtain ⟨rfl,rfl⟩:=hrun
    rfl
   | halt x w'=>rw [hq] at hrun; cases hrun
 · cases r <;> first|exact hr|skip
   · exfalso
     unfold g8 at ht
     split at ht
     · split at ht <;> simp at ht
     · split at ht
       · rename_i y ys
         simp only [Option.some.injEq] at ht
         simp only [RelL] at hl
         obtain ⟨v',r',_,hr',_⟩:=hl
         cases y <;> simp only [AV.weak1,reduceCtorEq] at ht
         simp [Rel] at hr'
       · cases ht
   · exfalso
     unfold g8 at ht
     split at ht
     · split at ht <;> simp at ht
     · split at ht
       · rename_i y ys
         simp only [Option.some.injEq] at ht
         simp only [RelL] at hl
         obtain ⟨v',r',_,hr',_⟩:=hl
         cases y <;> simp only [AV.weak1,reduceCtorEq] at ht
         simp [Rel] at hr'
       · cases ht

theorem VarOK.val {i:Nat} {x:AV} {v:Value} (h:VarOK g w pr bx i x v) (hb:∀ cs,x≠.box cs):ValOK g w (fun b=>pr b=some (.var i)) x v:=by
 cases x <;> first|exact h|exact absurd rfl (hb _)|exact h.elim

theorem a6N (h:S c g w pr bx σ a):∀ {rs:List ResultVar} {ks:List ResK} {vs:List AV},L3 c rs ks=true→n4 ks σ.fr σ.st=some vs →
 ∃ us:List Value,(rs.mapM fun (r:ResultVar)=>(match r with|.tmp t=>pure (a.tmps.getD t undef)|.cell x t=>do loadVar t (← asAddr (a.tmps.getD x undef)):Sem Value)).run c.P w=.ok us w ∧
  us.length=vs.length∧∀ (k:Nat) (x:AV) (u:Value),vs[k]?=some x→us[k]?=some u→ValOK g w (fun b=>∃ p,pr b=some p) x u
 | [],[],vs,_,hg=>by
  simp only [n4,Option.some.injEq] at hg
  subst hg
  exact ⟨[],rfl,rfl,fun k x u hx=>by simp at hx⟩
 | r::rs,k::ks,vs,hok,hg=>by
  simp only [n4] at hg
  split at hg
  case h_2=>cases hg
  rename_i x xs hx hxs
  simp only [Option.some.injEq] at hg
  subst hg
  have one:∃ u,((match r with|.tmp t=>pure (a.tmps.getD t undef)|.cell x t=>do loadVar t (← asAddr (a.tmps.getD x undef)):Sem Value)).run c.P w=.ok u w∧ValOK g w (fun b=>∃ p,pr b=some p) x u∧L3 c rs ks=true:=by
   have nobox:∀ i,i ∉ c.bxs→∀ cs,σ.fr.getD i .undef≠.box cs:=fun i hi cs hc=>hi (h.fr.bxs i cs hc)
   unfold L3 at hok
   split at hok <;> first|(rename_i e1 e2; cases e1; cases e2; done)|skip
   · rename_i e1 e2; cases e1
   · rename_i t rs' i ks' e1 e2
     cases e1; cases e2
     simp only [Bool.and_eq_true,beq_iff_eq] at hok
     simp only [ResK.get,Option.some.injEq] at hx
     subst hx
     have hv:=h.fr.var i t hok.1.1
     have hnbx:=nobox i (by simpa using hok.1.2)
     refine ⟨_,rfl,?_,hok.2⟩
     cases hq:σ.fr.getD i .undef <;> rw [hq] at hv <;> first
      | exact ValOK.of_weak (ValOK.rel hv)
      | exact hv.elim
      | exact absurd hq (hnbx _)
   · rename_i t rs' i ks' e1 e2
     cases e1; cases e2
     simp only [Bool.and_eq_true,beq_iff_eq] at hok
     simp only [ResK.get,Option.some.injEq] at hx
     subst hx
     have hv:=(h.fr.var i t hok.1.1).val (nobox i (by simpa using hok.1.2))
     exact ⟨_,rfl,hv.mono (Ext.refl _ _) fun b hb=>⟨⟨_,hb⟩,rfl,fun _ x=>x⟩,hok.2⟩
   · rename_i y t rs' i ag n ks' e1 e2
     cases e1; cases e2
     simp only [Bool.and_eq_true,beq_iff_eq] at hok
     obtain ⟨⟨⟨h1,h2⟩,h3⟩,h4⟩:=hok
     simp only [ResK.get] at hx
     split at hx
     · rename_i cs hcs
       have hvar:=h.fr.var i y h1
       rw [hcs] at hvar
       obtain ⟨hptr,_,_,arr,T,hh,hl,h1c,_⟩:=hvar
       obtain ⟨u,hu,hval⟩:=a6u (c:=c) h2 h3 hl (by simpa using a3l hh 0) h1c hx
       refine ⟨u,?_,hval.mono (Ext.refl _ _) fun b hb=>hb.elim,h4⟩
       simp only [hptr,asAddr,Sem.run_bind,Sem.run_pure,Result.andThen_ok]
       exact hu
     · cases hx
   · rename_i y t rs' i ag n ks' e1 e2
     cases e1; cases e2
     simp only [Bool.and_eq_true,beq_iff_eq] at hok
     obtain ⟨⟨⟨⟨h1,h0⟩,h2⟩,h3⟩,h4⟩:=hok
     simp only [ResK.get] at hx
     split at hx
     · rename_i o off hcs
       split at hx
       · rename_i cs hst
         have hvar:=h.fr.var i y h1
         rw [hcs] at hvar
         have e:Rel g w (.ptr o off) (a.tmps.getD y undef):=ValOK.rel hvar
         simp only [Rel] at e
         obtain ⟨_,_,arr,T,hh,_,hl,h1c,_⟩:=h.st.obj _ _ hst
         obtain ⟨u,hu,hval⟩:=a6u (c:=c) h2 h3 (hl.drop off) (a2a hh cs.length off) (fun u hu=>h1c u (List.mem_of_mem_drop hu)) hx
         refine ⟨u,?_,hval.mono (Ext.refl _ _) fun b hb=>hb.elim,h4⟩
         simp only [e.2,asAddr,Sem.run_bind,Sem.run_pure,Result.andThen_ok]
         exact hu
       · cases hx
     · cases hx
   · cases hok
  obtain ⟨u,hu,hval,hrest⟩:=one
  obtain ⟨us,hus,hlen,hall⟩:=a6N h hrest hxs
  refine ⟨u::us,?_,by simp [hlen],fun j y v hy hv=>?_⟩
  · rw [List.mapM_cons]
    simp only [Sem.run_bind,hu,hus,Result.andThen_ok,Sem.run_pure]
  · cases j with
    | zero=>simp at hy hv; subst hy; subst hv; exact hval
    | succ j=>exact hall j y v (by simpa using hy) (by simpa using hv)
 | [],_::_,_,hok,_=>by simp [L3] at hok
 | r::_,[],_,hok,_=>by cases r <;> simp [L3] at hok

def h77:List Value→Value
 | [v]=>v
 | us=>.tuple us.toArray

theorem a3e {P:Program} {fn:Func} {tmps:Array Value} {us:List Value} {w:World}
 (h:(fn.results.toList.mapM fun (r:ResultVar)=>(match r with|.tmp t=>pure (tmps.getD t undef)|.cell x t=>do loadVar t (← asAddr (tmps.getD x undef)):Sem Value)).run P w=.ok us w) :
 (results fn tmps).run P w=.ok (h77 us) w:=by
 unfold results
 rw [Array.mapM_eq_mapM_toList]
 simp only [map_eq_pure_bind,bind_assoc,pure_bind,Sem.run_bind]
 erw [h]
 simp only [Result.andThen_ok,Sem.run_pure]
 match us with
 | []=>rfl
 | [v]=>rfl
 | u::v::us=>simp [h77]

theorem a6z {P:Program} {gt:List (Nat×List AV)} {slots bxs:List Nat} {fn:Func} {af:AFn} {g:Gh} {w:World} {args:List AV} {vs:List Value} {st:St} (o2:a0U slots=true) (o3:slots.all (fun s=>Nat.blt s fn.ntmps)=true) (o4:slots.take af.np=List.range af.np)
 (o5:af.np≤slots.length) (o6:af.nv=slots.length) (hlen:args.length=af.np) (hweak:∀ x∈args,x.weak=x) (hst:SRel g w st) (hgl:Globs gt g w) (hrel:RelL g w args vs) :
 Fx ⟨P,slots,bxs,fn.ntmps,gt,fun b=>w.heap.size≤b∨g.sr b≠none⟩∧S ⟨P,slots,bxs,fn.ntmps,gt,fun b=>w.heap.size≤b∨g.sr b≠none⟩ g w (fun _=>none) (fun _=>0) ⟨args++List.replicate (af.nv - af.np) .undef,fun _=>.undef,st⟩ { tmps:=vs.toArray++Array.replicate (fn.ntmps - vs.toArray.size) undef,defers:=[] }:=by
 let A:Nat→Prop:=fun b=>w.heap.size≤b∨g.sr b≠none
 let c:Cx:=⟨P,slots,bxs,fn.ntmps,gt,A⟩
 have hlt:∀ s∈slots,s < fn.ntmps:=fun s hs=>by
  have:=List.all_eq_true.1 o3 s hs
  simpa using this
 have fx:Fx c:=⟨a3n o2,hlt⟩
 have hvl:vs.length=af.np:=by rw [← hrel.length]; exact hlen
 have hnp:af.np≤fn.ntmps:=by
  rcases Nat.eq_zero_or_pos af.np with h0|h0
  · omega
  · have hm:af.np - 1∈slots:=by
     have:af.np - 1∈slots.take af.np:=by rw [o4]; simp; omega
     exact List.mem_of_mem_take this
    have:=hlt _ hm
    omega
 have hslot:∀ i s,slots[i]?=some s→i < af.np→s=i:=fun i s hs hi=>by
  have h1:(slots.take af.np)[i]?=some s:=by rw [List.getElem?_take,if_pos hi]; exact hs
  rw [o4] at h1
  simp [hi] at h1
  exact h1.symm
 let tm:Array Value:=vs.toArray++Array.replicate (fn.ntmps - vs.toArray.size) undef
 have hS:S c g w (fun _=>none) (fun _=>0) ⟨args++List.replicate (af.nv - af.np) .undef,fun _=>.undef,st⟩ { tmps:=tm,defers:=[] }:=by
  refine ⟨⟨by simp [tm,c]; omega,by simp [c,hlen,o6]; omega,fun i s hs=>?_,fun s _=>ValOK.undef,fun b p hb=>(by cases hb),fun i cs hi=>?_⟩,hst,hgl,fun b hb=>.inl hb,fun b p hb=>.inr (by rw [hb]; simp)⟩
  · rcases Nat.lt_or_ge i af.np with hi|hi
    · have hs':=hslot i s hs hi
      subst hs'
      have ha:s < args.length:=by omega
      have hv:s < vs.length:=by omega
      obtain ⟨v,hv1,hv2⟩:=hrel.get (List.getElem?_eq_getElem ha)
      have e1:(args++List.replicate (af.nv - af.np) AV.undef).getD s .undef=args[s]:=by
       rw [List.getD_eq_getElem?_getD,List.getElem?_append_left ha,List.getElem?_eq_getElem ha]; rfl
      have e2:tm.getD s undef=v:=by
       simp only [tm,Array.getD_eq_getD_getElem?]
       rw [Array.getElem?_append_left (by simpa using hv)]
       simp [hv1]
      rw [e1,e2]
      have hw:=hweak args[s] (List.getElem_mem ha)
      have hval:ValOK g w (fun b=>(fun _=>none:Nat→Option Pl) b=some (.var s)) args[s].weak v:=ValOK.of_weak hv2
      rw [hw] at hval
      revert hval
      cases args[s] <;> intro hval <;> first|exact hval|exact hval.rel.elim
    · have e1:(args++List.replicate (af.nv - af.np) AV.undef).getD i .undef=.undef:=by
       rw [List.getD_eq_getElem?_getD,List.getElem?_append_right (by omega)]
       cases hq:(List.replicate (af.nv - af.np) AV.undef)[i - args.length]? with
       | none=>rfl
       | some x=>rw [List.eq_of_mem_replicate (List.mem_of_getElem? hq)]; rfl
      rw [e1]
      exact VarOK.undef
  · exfalso
    rcases Nat.lt_or_ge i args.length with hi'|hi'
    · obtain ⟨v,hv1,hv2⟩:=hrel.get (List.getElem?_eq_getElem hi')
      rw [List.getD_eq_getElem?_getD,List.getElem?_append_left hi',List.getElem?_eq_getElem hi'] at hi
      simp only [Option.getD_some] at hi
      rw [hi] at hv2
      exact hv2
    · rw [List.getD_eq_getElem?_getD,List.getElem?_append_right hi'] at hi
      cases hq:(List.replicate (af.nv - af.np) AV.undef)[i - args.length]? with
      | none=>rw [hq] at hi; cases hi
      | some x=>rw [hq,List.eq_of_mem_replicate (List.mem_of_getElem? hq)] at hi; cases hi
 exact ⟨fx,hS⟩
theorem b1a {P:Program} {gt:List (Nat×List AV)} {slots bxs:List Nat} {fn:Func} {af:AFn} {g g':Gh} {w w':World} {pr':Nat→Option Pl} {bx':Nat→Nat} {τ':Nat→AV} {fr':List AV} {st1 st':St} {a':Act} {res:AV}
 (hS':S ⟨P,slots,bxs,fn.ntmps,gt,fun b=>w.heap.size≤b∨g.sr b≠none⟩ g' w' pr' bx' ⟨fr',τ',st1⟩ a') (ht:Tr (fun b=>w.heap.size≤b∨g.sr b≠none) g w g' w') (o8:L3 ⟨P,slots,bxs,fn.ntmps,gt,fun b=>w.heap.size≤b∨g.sr b≠none⟩ fn.results.toList af.results=true)
 (h:(match n4 af.results fr' st1 with|some [v]=>some (v,st1)|some vs=>some (.tuple vs,st1)|none=>none)=some (res,st')):∃ v,(results fn a'.tmps).run P w'=.ok v w'∧CallPost g w st' res (.returned v) w':=by
 let c:Cx:=⟨P,slots,bxs,fn.ntmps,gt,fun b=>w.heap.size≤b∨g.sr b≠none⟩
 have hgo:∀ vs',n4 af.results fr' st1=some vs'→some ((match vs' with|[v]=>v|vs'=>AV.tuple vs'),st1)=some (res,st')→∃ v,(results fn a'.tmps).run P w'=.ok v w'∧CallPost g w st' res (.returned v) w':=by
  intro vs' hg hres
  simp only [Option.some.injEq,Prod.mk.injEq] at hres
  obtain ⟨rfl,rfl⟩:=hres
  obtain ⟨us,hus,hul,hall⟩:=a6N (c:=c) hS' o8 hg
  refine ⟨_,a3e hus,_,g',rfl,hS'.st,⟨ht.ext,ht.size,ht.env,fun b hb hs _=>ht.keep b hb hs fun hA=>?_⟩,?_⟩
  · rcases hA with hA|hA
    · omega
    · exact hA hs
  · match vs',us,hul,hall with
    | [],[],_,_=>exact ValOK.mk' (by simp only [Rel]; exact ⟨#[],rfl,by simp [RelL]⟩) (by simp) (by simp)
    | [x],[u],_,hall =>
     refine (hall 0 x u rfl rfl).mono (Ext.refl _ _) fun b hb=>⟨?_,rfl,fun _ x=>x⟩
     obtain ⟨p,hp⟩:=hb
     obtain ⟨q1,q2,q3⟩:=hS'.fr.prv b p hp
     exact ⟨q1,q2,q3⟩
    | x::y::xs,u::v::us,hul,hall =>
     refine ValOK.mk' ?_ (by simp) (by simp)
     simp only [Rel]
     exact ⟨_,rfl,RelL.of_get (by simpa using hul.symm) fun i x u hx hu=>(hall i x u hx hu).rel⟩
 split at h
 · rename_i v hg
   exact hgo [v] hg h
 · rename_i vs' hne hg
   refine hgo vs' hg ?_
   rw [← h]
   match vs',hne with
   | [],_=>rfl
   | [v],hne=>exact absurd rfl (hne v)
   | _::_::_,_=>rfl
 · cases h
theorem a9X {P:Program} {gt:List (Nat×List AV)} {slots bxs:List Nat} {fn:Func} {af:AFn} {g:Gh} {w:World} {args:List AV} {vs:List Value} {st st':St} {res:AV} {call:b5} {n:Nat} (hm:P.follows .mixedOrders=true) (hc:u9 P gt call)
 (hok:∀ A,Y9 P gt slots bxs fn af A=true) (h:af.run call n args st=some (res,st')) (hweak:∀ x∈args,x.weak=x) (hst:SRel g w st) (hgl:Globs gt g w) (hrel:RelL g w args vs) :
 ∃ body,fn.body=some body∧body.wp P (bodyPost P fn (CallPost g w st' res)) { tmps:=vs.toArray++Array.replicate (fn.ntmps - vs.toArray.size) undef,defers:=[] } w:=by
 have hok:=hok fun b=>w.heap.size≤b∨g.sr b≠none
 simp only [Y9,Bool.and_eq_true,Option.isNone_iff_eq_none,beq_iff_eq,Nat.beq_eq] at hok
 obtain ⟨⟨⟨⟨⟨⟨⟨o1,o2⟩,o3⟩,o4⟩,o5⟩,o6⟩,o7⟩,o8⟩:=hok
 have o5:=Nat.le_of_ble_eq_true o5
 split at o7
 case h_2=>cases o7
 rename_i body hbody
 unfold AFn.run at h
 split at h
 case isFalse=>cases h
 rename_i hlen
 split at h
 · cases h
 · rename_i ex fr' st1 hnex hexec
   obtain ⟨fx,hS⟩:=a6z (bxs:=bxs) o2 o3 o4 o5 o6 hlen hweak hst hgl hrel
   refine ⟨body,hbody,?_⟩
   refine j0 _ _ o7 fx hm hc hS hexec fun a' w' g' pr' bx' τ' hd hS' ht=>?_
   have hbp:bodyPost P fn (CallPost g w st' res) .ret a' w':=⟨hd,b1a hS' ht o8 h⟩
   cases ex with
   | normal=>exact hbp
   | ret=>exact hbp
   | exit id=>exact (hnex id rfl).elim
 · cases h

theorem b2E {P:Program} {gt:List (Nat×List AV)} {tbl:Nat→Option AFn} (hP:ProgOK P gt tbl):∀ n,u9 P gt (g9 tbl n):=by
 intro n
 induction n with
 | zero=>intro f args st res st' h; simp [g9] at h
 | succ n ih =>
  intro f args st res st' h hweak
  simp only [g9] at h
  cases htbl:tbl f with
  | none=>simp [htbl] at h
  | some af =>
   simp only [htbl] at h
   obtain ⟨hen,hfn⟩:=hP.fn f af htbl
   refine ⟨hen,fun g w vs hst hgl hrel=>?_⟩
   rcases hfn with ⟨slots,bxs,fn,hf,hok⟩|⟨e,he,hext⟩
   case inr =>
    simp only [he] at h
    exact hext args st res st' h hweak g w vs hst hgl hrel
   have he:af.ext=none:=by
    have:=hok fun _=>True
    simp only [Y9,Bool.and_eq_true,Option.isNone_iff_eq_none] at this
    exact this.1.1.1.1.1.1.1
   simp only [he] at h
   obtain ⟨body,hb,hwp⟩:=a9X hP.mixed ih hok h hweak hst hgl hrel
   exact calls_of_wp hf hb hwp
end
end Go.Cb
/-
 THE ABSTRACT MACHINE, part 29: slices.Clone.
-/
set_option maxRecDepth 4000
set_option linter.unusedSimpArgs false
set_option linter.unusedVariables false
namespace Go.Cb
open Classical

section
variable {c:Cx} {g:Gh} {w:World} {pr:Nat→Option Pl} {bx:Nat→Nat} {σ:Sig} {a:Act} {o:Oper}

theorem f4t (fx:Fx c) (h:S c g w pr bx σ a) {t e:TypeId} {i:TypeInfo} {d:Dst} (ho:o.op=.buildSlice t 0 #[]) (hu:c.P.underlying t=some (.slice e)) (hi:c.P.info? e=some i) (hd:k8 c o.dst d=true)
 {next:Act→World→Prop} {Q:Exit→Act→World→Prop} (hnext:Post c g w a (d.put (.list true []) σ) next):o.wp c.P a w next Q:=by
 have hrun:(execOp a.eval o).run c.P w=.ok (.value (.slice (some (ad w.heap.size 0)) 0 0)) (w.alloc (.cells #[] e)):=by
  have e0:(Array.map (fun _:Nat=>(default:Value)) (Array.range 0))=#[]:=by apply Array.ext'; simp
  simp [execOp,ho,Instr.buildSlice,run_underlying hu,sizeOf,typeInfo,hi,Instr.fill,newRow,e0]
 unfold Oper.wp
 rw [hrun]
 refine hnext _ _ g pr bx (m2 _ _ _) (K7 fx (h.alloc _ _) hd (mine:=No) (r:=.list true []) ?_ fun _ x=>x.elim) (Tr.alloc _ h.st.cli _)
 refine (show ValOK g _ No (.list true []) _ from ⟨?_,fun _ _=>.inl ⟨_,_,rfl⟩,fun _ e=>(by cases e)⟩)
 simp only [Rel]
 exact ⟨_,0,0,rfl,rfl,Nat.le_refl _,fun _=>rfl,fun h=>absurd rfl h⟩

theorem i7N (fx:Fx c) (h:S c g w pr bx σ a) {t t' e:TypeId} {x:Operand} {d:Dst} {ad0:Option Addr} {n cap:Nat} (ho:o.op=.binOp .eql t x (.const (.slice none 0 0)) t') (hu:c.P.underlying t=some (.slice e))
 (hx:a.eval x=.slice ad0 n cap) (hd:k8 c o.dst d=true) {next:Act→World→Prop} {Q:Exit→Act→World→Prop} (hnext:Post c g w a (d.put (.bool ad0.isNone) σ) next):o.wp c.P a w next Q:=by
 have hrun:(execOp a.eval o).run c.P w=.ok (.value (.bool ad0.isNone)) w:=by
  have hg:∀ v:Value,(eqGuard .eql t x (.const (.slice none 0 0)) (.slice ad0 n cap) (.slice none 0 0)).run c.P w=.ok () w:=fun _=>rfl
  have hy:a.eval (.const (.slice none 0 0))=.slice none 0 0:=rfl
  have heq:(Op.equal t (.slice ad0 n cap) (.slice none 0 0)).run c.P w=.ok ad0.isNone w:=by
   rw [L7,Op.equalIn,Sem.run_bind,run_underlying hu,Result.andThen_ok]
   cases ad0 <;> rfl
  simp only [execOp,ho,hx,hy,hg (.bool true),binOp,Sem.run_bind,heq,Result.andThen_ok,Sem.run_pure]
 exact a8T fx h hd (r:=.bool ad0.isNone) hrun (show ValOK g w No (.bool ad0.isNone) (.bool ad0.isNone) from ValOK.mk' (by simp [Rel]) (by simp) (by simp)) hnext

def a7j (P:Program) (t sz bytes:Nat):Bool:=match P.underlying t with
 | some (.slice e)=>match P.info? e with
  | some ie=>ie.size == sz && ie.bytes == bytes && decide (0 < bytes) && (match ie.zero with|some z=>z.cells.size == sz|none=>false)
  | none=>false
 | _=>false

structure CloneShape (P:Program) (fn:Func) (t sz bytes:Nat) where
 i0:Nat
 i1:Nat
 i2:Nat
 i3:Nat
 o0:Oper
 o1:Oper
 o2:Oper
 o3:Oper
 o4:Oper
 o5:Oper
 o6:Oper
 o7:Oper
 ty:TypeId
 body:fn.body=some (.seq (.region i0 #[o0] false) (.seq (.seq (.region i1 #[o1,o2] false) (.cond (.tmp 4) (.seq (.region i2 #[o3] false) .ret) .skip)) (.seq (.region i3 #[o4,o5,o6,o7] false) .ret)))
 nt:fn.ntmps=8
 res:fn.results=#[.tmp 2]
 d0:o0.dst=some 2∧o0.op=.assign (.const (.slice none 0 0))∧o0.guard=none
 d1:o1.dst=some 3∧o1.op=.move (.tmp 0)∧o1.guard=none
 d2:o2.dst=some 4∧o2.op=.binOp .eql t (.tmp 3) (.const (.slice none 0 0)) ty∧o2.guard=none
 d3:o3.dst=some 2∧o3.op=.assign (.const (.slice none 0 0))∧o3.guard=none
 d4:o4.dst=some 5∧o4.op=.buildSlice t 0 #[]∧o4.guard=none
 d5:o5.dst=some 6∧o5.op=.move (.tmp 0)∧o5.guard=none
 d6:o6.dst=some 7∧o6.op=.call { callee:=.builtin .append,args:=#[.tmp 5,.tmp 6],argTypes:=#[t,t] }∧o6.guard=none
 d7:o7.dst=some 2∧o7.op=.assign (.tmp 7)∧o7.guard=none
 tb:a7j P t sz bytes=true

theorem a8M {P:Program} {t sz bytes:Nat} (h:a7j P t sz bytes=true):∃ e ie z,P.underlying t=some (.slice e)∧P.info? e=some ie∧ie.zero=some z∧ie.size=sz∧ie.bytes=bytes∧z.cells.size=sz∧0 < bytes:=by
 unfold a7j at h
 split at h
 case h_2=>cases h
 rename_i e hu
 split at h
 case h_2=>cases h
 rename_i ie hi
 simp only [Bool.and_eq_true,beq_iff_eq,decide_eq_true_eq] at h
 obtain ⟨⟨⟨h1,h2⟩,h3⟩,h4⟩:=h
 split at h4
 case h_2=>cases h4
 rename_i z hz
 exact ⟨e,ie,z,hu,hi,hz,h1,h2,by simpa using h4,h3⟩

theorem a8n {P:Program} {gt:List (Nat×List AV)} {f t sz bytes:Nat} {fn:Func} (hf:P.funcs[f]?=some fn) (C:CloneShape P fn t sz bytes):x9 P gt f (O8 sz bytes):=by
 intro args st res st' h hweak g w vs hst _ hrel
 obtain ⟨e,ie,z,tu,ti,tz,tsz,tby,tzs,tb1⟩:=a8M C.tb
 unfold O8 at h
 split at h
 case h_2=>cases h
 rename_i own xs
 split at h
 case isFalse=>cases h
 rename_i hcond
 simp only [Bool.and_eq_true,decide_eq_true_eq] at hcond
 obtain ⟨hrows,hbytes⟩:=hcond
 simp only [Option.some.injEq,Prod.mk.injEq] at h
 obtain ⟨rfl,rfl⟩:=h
 simp only [RelL] at hrel
 obtain ⟨v,_,rfl,hv,rfl⟩:=hrel
 have hvs:=hv
 simp only [Rel] at hvs
 obtain ⟨ad0,n,cap,rfl,rfl,hcap,hnil,hne⟩:=hvs
 let A:Nat→Prop:=fun b=>w.heap.size≤b∨g.sr b≠none
 let c:Cx:=⟨P,[0,2],[],8,[],A⟩
 have fx:Fx c:=⟨show ([0,2]:List Nat).Nodup by decide,show ∀ s∈([0,2]:List Nat),s < 8 by decide⟩
 have hown:own=false:=by
  have:=hweak (.list own xs) (by simp)
  simpa [AV.weak] using this.symm
 subst hown
 refine calls_of_wp hf C.body ?_
 have hS:S c g w (fun _=>none) (fun _=>0) ⟨[.list false xs,.undef],fun _=>.undef,st⟩ { tmps:=#[Value.slice ad0 xs.length cap]++Array.replicate (fn.ntmps - 1) undef,defers:=[] }:=by
  refine ⟨⟨by simp [c,C.nt],rfl,fun i s hs=>?_,fun s _=>ValOK.undef,fun b p hb=>(by cases hb),fun i cs hi=>?_⟩,hst,fun e he=>(by cases he),fun b hb=>.inl hb,fun b p hb=>.inr (by rw [hb]; simp)⟩
  · match i,hs with
    | 0,hs =>
     simp only [c,List.getElem?_cons_zero,Option.some.injEq] at hs
     subst hs
     have hval:ValOK g w (fun b=>(fun _=>none:Nat→Option Pl) b=some (.var 0)) (AV.list false xs).weak (.slice ad0 xs.length cap):=ValOK.of_weak hv
     have e0:(#[Value.slice ad0 xs.length cap]++Array.replicate (fn.ntmps - 1) undef).getD 0 undef=.slice ad0 xs.length cap:=by rw [C.nt]; rfl
     show VarOK g w (fun _=>none) (fun _=>0) 0 (.list false xs) ((#[Value.slice ad0 xs.length cap]++Array.replicate (fn.ntmps - 1) undef).getD 0 undef)
     rw [e0]
     exact hval
    | 1,hs=>exact VarOK.undef
    | i+2,hs=>simp [c] at hs
  · match i,hi with
    | 0,hi=>simp at hi
    | 1,hi=>simp at hi
    | i+2,hi=>simp at hi
 -- the end
 have fin:∀ (x:AV) (a':Act) (w':World) (g':Gh) (pr':Nat→Option Pl) (bx':Nat→Nat) (τ':Nat→AV),a'.defers=[]→S c g' w' pr' bx' ⟨[x,.list true xs],τ',st⟩ a'→Tr c.A g w g' w' →
  bodyPost P fn (CallPost g w st (.list true xs)) .ret a' w':=by
  intro x a' w' g' pr' bx' τ' hd hS' ht
  refine ⟨hd,?_⟩
  obtain ⟨us,hus,hul,hall⟩:=a6N (c:=c) hS' (rs:=fn.results.toList) (ks:=[.vs 1]) (vs:=[.list true xs]) (by rw [C.res]; rfl) rfl
  refine ⟨_,a3e hus,_,g',rfl,hS'.st,⟨ht.ext,ht.size,ht.env,fun b hb hs _=>ht.keep b hb hs fun hA=>?_⟩,?_⟩
  · rcases hA with hA|hA
    · omega
    · exact hA hs
  · match us,hul,hall with
    | [u],_,hall =>
     refine (hall 0 (.list true xs) u rfl rfl).mono (Ext.refl _ _) fun b hb=>⟨?_,rfl,fun _ x=>x⟩
     obtain ⟨p,hp⟩:=hb
     obtain ⟨q1,q2,q3⟩:=hS'.fr.prv b p hp
     exact ⟨q1,q2,q3⟩
 refine wp_seq (wp_region ?_)
 show wpOps P #[C.o0] _ [0] _ _
 rw [wpOps_cons]
 refine H0 rfl C.d0.2.2 (a2T (c:=c) fx hS (.inr C.d0.2.1) (p:=.c (.list true [])) (d:=.v 1) rfl (by rw [C.d0.1]; rfl) fun a1 w1 g1 pr1 bx1 hd1 hS1 ht1=>?_)
 show (Code.seq _ _).wp P _ a1 w1
 refine wp_seq (wp_seq (wp_region ?_))
 show wpOps P #[C.o1,C.o2] _ [0,1] _ _
 rw [wpOps_cons]
 refine H0 rfl C.d1.2.2 (a2T (c:=c) fx hS1 (.inl C.d1.2.1) (p:=.v 0) (d:=.t 3) rfl (by rw [C.d1.1]; rfl) fun a2 w2 g2 pr2 bx2 hd2 hS2 ht2=>?_)
 rw [wpOps_cons]
 have hA2:=D8 hS2 (x:=.tmp 3) (p:=.t 3) rfl
 have hr2:Rel g2 w2 (.list false xs) (a2.eval (.tmp 3)):=ValOK.rel hA2
 have hr2':=hr2
 simp only [Rel] at hr2'
 obtain ⟨ad2,n2,cap2,hev2,hn2,hcap2,hnil2,hne2⟩:=hr2'
 refine H0 rfl C.d2.2.2 (i7N (c:=c) fx hS2 C.d2.2.1 tu hev2 (d:=.t 4) (by rw [C.d2.1]; rfl) fun a3 w3 g3 pr3 bx3 hd3 hS3 ht3=>?_)
 show (Code.cond _ _ _).wp P _ a3 w3
 have ht03:=(ht1.trans ht2).trans ht3
 have hd03:a3.defers=[]:=hd3.trans (hd2.trans hd1)
 have hb:=a0K hS3 (x:=.tmp 4) (y:=.t 4) rfl (b:=ad2.isNone) rfl
 refine wp_cond hb ?_
 cases ad2 with
 | none =>
  have hx0:xs=[]:=by
   have:=hnil2 rfl
   exact List.eq_nil_of_length_eq_zero (by omega)
  refine wp_seq (wp_region ?_)
  show wpOps P #[C.o3] _ [0] _ _
  rw [wpOps_cons]
  refine H0 rfl C.d3.2.2 (a2T (c:=c) fx hS3 (.inr C.d3.2.1) (p:=.c (.list true [])) (d:=.v 1) rfl (by rw [C.d3.1]; rfl) fun a4 w4 g4 pr4 bx4 hd4 hS4 ht4=>?_)
  show Code.ret.wp P _ a4 w4
  refine wp_ret ?_
  show bodyPost P fn _ .ret a4 w4
  subst hx0
  exact fin _ a4 w4 g4 pr4 bx4 _ (hd4.trans hd03) hS4 (ht03.trans ht4)
 | some ad3 =>
  refine wp_skip ?_
  show (Code.seq _ _).wp P _ a3 w3
  refine wp_seq (wp_region ?_)
  show wpOps P #[C.o4,C.o5,C.o6,C.o7] _ [0,1,2,3] _ _
  rw [wpOps_cons]
  refine H0 rfl C.d4.2.2 (f4t (c:=c) fx hS3 C.d4.2.1 tu ti (d:=.t 5) (by rw [C.d4.1]; rfl) fun a4 w4 g4 pr4 bx4 hd4 hS4 ht4=>?_)
  rw [wpOps_cons]
  refine H0 rfl C.d5.2.2 (a2T (c:=c) fx hS4 (.inl C.d5.2.1) (p:=.v 0) (d:=.t 6) rfl (by rw [C.d5.1]; rfl) fun a5 w5 g5 pr5 bx5 hd5 hS5 ht5=>?_)
  rw [wpOps_cons]
  refine H0 rfl C.d6.2.2 (b2x (c:=c) fx hS5 C.d6.2.1 rfl tu ti tz tsz tby tzs tb1 (p0:=.ts 5) (p1:=.t 6) (d:=.t 7) rfl rfl (by rw [C.d6.1]; rfl) (by rw [C.d6.1]; rfl) (xs:=[]) (ys:=xs) (own:=false) rfl rfl rfl hrows (by simpa using hbytes) fun a6 w6 g6 pr6 bx6 hd6 hS6 ht6=>?_)
  rw [wpOps_cons]
  refine H0 rfl C.d7.2.2 (a2T (c:=c) fx hS6 (.inr C.d7.2.1) (p:=.ts 7) (d:=.v 1) rfl (by rw [C.d7.1]; rfl) fun a7 w7 g7 pr7 bx7 hd7 hS7 ht7=>?_)
  show Code.ret.wp P _ a7 w7
  refine wp_ret ?_
  show bodyPost P fn _ .ret a7 w7
  exact fin _ a7 w7 g7 pr7 bx7 _ (hd7.trans (hd6.trans (hd5.trans (hd4.trans hd03)))) hS7 ((((ht03.trans ht4).trans ht5).trans ht6).trans ht7)
end
end Go.Cb
/-
 THE ABSTRACT MACHINE, part 49: rows that are objects of their own: a copy, one row more, one row less: answers of their own.
-/
set_option maxRecDepth 4000
set_option linter.unusedVariables false
namespace Go.Cb
open Classical

def Q2 (sz bytes:Nat):List AV→St→Option (AV×St)
 | [.nils],st=>some (.nils,st)
 | [.sl o f n s],st=>match st[o]? with
  | some (.cells cs)=>if s=sz∧f+n*sz≤cs.length∧n*bytes≤70368744177664 then some (.sl st.length 0 n sz,st++[.cells (((cs.drop f).take (n*sz)).map AV.weak1)]) else none
  | _=>none
 | _,_=>none
def z6 (sz i:Nat) (cs row:List AV):List AV:=(cs.take (i*sz)++row++cs.drop (i*sz)).map AV.weak1
def M3 (sz bytes:Nat):List AV→St→Option (AV×St)
 | [.nils,.int .i64 i,.list _ [row]],st=>if i=0∧row.length=sz then some (.sl st.length 0 1 sz,st++[.cells (z6 sz 0 [] row)]) else none
 | [.sl o 0 n s,.int .i64 i,.list _ [row]],st=>match st[o]? with
  | some (.cells cs)=>if s=sz∧0≤i∧i≤n∧cs.length=n*sz∧row.length=sz∧(n+1)*bytes≤70368744177664 then some (.sl st.length 0 (n+1) sz,st.set o .dead++[.cells (z6 sz i.toNat cs row)]) else none
  | _=>none
 | _,_=>none
def P5 (sz i:Nat) (cs:List AV):List AV:=(cs.take (i*sz)++cs.drop ((i+1)*sz)).map AV.weak1
def Q8 (sz bytes:Nat):List AV→St→Option (AV×St)
 | [.sl o 0 n s,.int .i64 i,.int .i64 j],st=>match st[o]? with
  | some (.cells cs)=>if s=sz∧0≤i∧i < n∧j=i+1∧cs.length=n*sz∧n*bytes≤70368744177664 then some (.sl st.length 0 (n - 1) sz,st.set o .dead++[.cells (P5 sz i.toNat cs)]) else none
  | _=>none
 | _,_=>none
end Go.Cb
/-
 THE ABSTRACT MACHINE, part 30: from an abstract answer to the model's call.
-/
set_option maxRecDepth 4000
set_option linter.unusedVariables false
namespace Go.Cb
open Classical

def gh0 (W:World):Gh:={ n:=0,m:=fun _=>0,cl:=fun b _=>b < W.heap.size,sr:=fun _=>none,cp:=fun _=>0 }

theorem b46 (W:World):SRel (gh0 W) W []:=⟨rfl,fun o ob h=>by simp at h,fun b p h=>(by cases h),fun b f h=>h⟩

structure Kept (W W':World):Prop where
 kept:W.keptBut W' (fun _=>False)
 fz:∀ a:Addr,a.block < W.heap.size→W'.frozen? a=W.frozen? a
 size:W.heap.size≤W'.heap.size
 old:∀ b,b < W.heap.size→W'.heap[b]?=W.heap[b]?

theorem r8 {P:Program} {gt:List (Nat×List AV)} {tbl:Nat→Option AFn} (hP:ProgOK P gt tbl) {n f:Nat} {args:List AV} {b:Bool} {st':St} (h:g9 tbl n f args []=some (.bool b,st')) (hw:∀ x∈args,x.weak=x)
 {W:World} {vs:List Value} (hg:Globs gt (gh0 W) W) (hr:RelL (gh0 W) W args vs):Calls P f vs.toArray W (fun e W'=>e=.returned (.bool b)∧Kept W W'):=by
 refine ((b2E hP n f args [] _ _ h hw).2 (gh0 W) W vs (b46 W) hg hr).mono fun e W' he=>?_
 obtain ⟨v,g',rfl,_,ht,hv⟩:=he
 have hv:=hv.rel
 simp only [Rel] at hv
 subst hv
 have hold:∀ b,b < W.heap.size→W'.heap[b]?=W.heap[b]?:=fun b hb=>(ht.keep b hb rfl fun x=>x).1.1
 refine ⟨rfl,⟨ht.env.os,ht.env.out,fun i hi=>?_⟩,fun a ha=>by unfold World.frozen?; rw [hold a.block ha],ht.size,hold⟩
 rw [hold i hi]
 cases hq:W.heap[i]? with
 | none=>simp
 | some o=>cases o <;> simp
end Go.Cb
/-
 THE ABSTRACT MACHINE, part 28: running told as a chain, for reckoning with unknowns.
-/
set_option maxRecDepth 4000
set_option linter.unusedSimpArgs false
set_option linter.unusedVariables false
namespace Go.Cb
open Classical

theorem b5B {α:Sort _} {a b:α} (h:a=b):a=b:=by
 cases h
 rfl

def b9 {α β:Type} (x:Option α) (f:α→Option β):Option β:=match x with
 | some a=>f a
 | none=>none
theorem z7 {α β:Type} (a:α) (f:α→Option β):b9 (some a) f=f a:=b5B rfl
def p1 (x:Option (AV×AV×St)):Option AV:=match x with
 | some (r,_,_)=>some r
 | none=>none
def p2 (x:Option (AV×AV×St)):Option (AV×St):=match x with
 | some (r,_,st)=>some (r,st)
 | none=>none
def gv (x:AV) (want:Bool) (e:Option AV):Option AV:=match x with
 | .bool b=>if b == want then e else some (.tuple [])
 | .tuple []=>some (.tuple [])
 | _=>none
def gv2 (x:AV) (want:Bool) (st:St) (e:Option (AV×St)):Option (AV×St):=match x with
 | .bool b=>if b == want then e else some (.tuple [],st)
 | .tuple []=>some (.tuple [],st)
 | _=>none
def H9 (xs:List Opd):Bool:=xs.any Opd.steals

theorem K9:∀ {xs:List Opd} {σ:Sig},H9 xs=false→b6 xs σ=σ
 | [],_,_=>rfl
 | x::xs,σ,h=>by
  simp only [H9,List.any_cons,Bool.or_eq_false_iff] at h
  have e:x.spend σ=σ:=by cases x <;> simp_all [Opd.spend,Opd.steals]
  rw [b6,e]
  exact K9 (xs:=xs) h.2

def goK (call:b5) {α:Type} (o:AOper) (σ:Sig) (k:Sig→Option α):Option α :=
 match o.kind.setSt || o.kind.alters || H9 o.args with
 | false=>b9 (p1 (sem o.kind call (o.args.map (·.read σ)) (boxOf' o.box σ) σ.st)) fun r=>k (o.dst.put r σ)
 | true=>match o.kind.alters || H9 o.args with
  | false=>b9 (p2 (sem o.kind call (o.args.map (·.read σ)) (boxOf' o.box σ) σ.st)) fun r=>k (o.dst.put r.1 { σ with st:=r.2 })
  | true=>b9 (sem o.kind call (o.args.map (·.read σ)) (boxOf' o.box σ) σ.st) fun r =>
   let σ:=b6 o.args σ
   match o.box with
   | some i=>k (o.dst.put r.1 { σ with fr:=σ.fr.set i r.2.1,st:=r.2.2 })
   | none=>k (o.dst.put r.1 { σ with st:=r.2.2 })
where boxOf' (b:Option Nat) (σ:Sig):AV:=match b with|some i=>σ.fr.getD i .undef|none=>.undef

def b0G (call:b5) {α:Type} (o:AOper) (σ:Sig) (k:Sig→Option α):Option α :=
 match o.guard with
 | none=>goK call o σ k
 | some (x,want)=>match o.kind.setSt || o.kind.alters || H9 o.args with
  | false=>b9 (gv (x.read σ) want (p1 (sem o.kind call (o.args.map (·.read σ)) (goK.boxOf' o.box σ) σ.st))) fun r=>k (o.dst.put r σ)
  | true=>match o.kind.alters || H9 o.args with
   | false=>b9 (gv2 (x.read σ) want σ.st (p2 (sem o.kind call (o.args.map (·.read σ)) (goK.boxOf' o.box σ) σ.st))) fun r=>k (o.dst.put r.1 { σ with st:=r.2 })
   | true=>match x.read σ with
    | .bool b=>if b == want then goK call o σ k else k (o.dst.put (.tuple []) σ)
    | .tuple []=>k (o.dst.put (.tuple []) σ)
    | _=>none

def a7P (call:b5) {α:Type}:List AOper→Sig→(Sig→Option α)→Option α
 | [],σ,k=>k σ
 | o::os,σ,k=>b0G call o σ fun σ=>a7P call os σ k

theorem a2k (fr:List AV) (i:Nat):fr.set i (fr.getD i .undef)=fr:=by
 apply List.ext_getElem?
 intro j
 rw [List.getElem?_set]
 by_cases e:i=j
 · subst e
   rw [if_pos rfl]
   split
   · rename_i h; simp [h]
   · rename_i h; rw [List.getElem?_eq_none (by omega)]
 · rw [if_neg e]

theorem a4d {call:b5} {α:Type} {o:AOper} {σ:Sig} {k:Sig→Option α}:goK call o σ k=b9 (m9 call o σ) k:=by
 have hb:goK.boxOf' o.box σ=(match o.box with|some i=>σ.fr.getD i .undef|none=>.undef):=rfl
 unfold goK
 rw [G9,hb]
 split
 · rename_i hp
   simp only [Bool.or_eq_false_iff] at hp
   obtain ⟨⟨h1,h2⟩,h3⟩:=hp
   cases hs:sem o.kind call (o.args.map (·.read σ)) (match o.box with|some i=>σ.fr.getD i .undef|none=>.undef) σ.st with
   | none=>rfl
   | some x =>
    obtain ⟨r,b',st'⟩:=x
    have e1:=a0F h1 hs
    have e2:=a0Y h2 hs
    subst e1
    simp only [p1,z7,K9 h3]
    cases hbx:o.box with
    | none=>rfl
    | some i =>
     simp only [hbx] at e2
     rw [e2]
     simp only [a2k,z7]
 · rename_i hp
   split
   · rename_i hq
     simp only [Bool.or_eq_false_iff] at hq
     obtain ⟨h2,h3⟩:=hq
     cases hs:sem o.kind call (o.args.map (·.read σ)) (match o.box with|some i=>σ.fr.getD i .undef|none=>.undef) σ.st with
     | none=>rfl
     | some x =>
      obtain ⟨r,b',st'⟩:=x
      have e2:=a0Y h2 hs
      simp only [p2,z7,K9 h3]
      cases hbx:o.box with
      | none=>rfl
      | some i =>
       simp only [hbx] at e2
       rw [e2]
       simp only [a2k,z7]
   · cases hs:sem o.kind call (o.args.map (·.read σ)) (match o.box with|some i=>σ.fr.getD i .undef|none=>.undef) σ.st with
     | none=>rfl
     | some x =>
      obtain ⟨r,b',st'⟩:=x
      simp only [z7]
      cases hbx:o.box with
      | none=>rfl
      | some i=>rfl

theorem c2V {α:Type} {x:AV} {want:Bool} {e:Option AV} {f:AV→Option α}:b9 (gv x want e) f =
 (match x with|.bool b=>if b == want then b9 e f else f (.tuple [])|.tuple []=>f (.tuple [])|_=>none):=by
 unfold gv
 split
 · split <;> rfl
 · rfl
 · rfl

theorem b2O {α:Type} {x:AV} {want:Bool} {st:St} {e:Option (AV×St)} {f:AV×St→Option α}:b9 (gv2 x want st e) f =
 (match x with|.bool b=>if b == want then b9 e f else f (.tuple [],st)|.tuple []=>f (.tuple [],st)|_=>none):=by
 unfold gv2
 split
 · split <;> rfl
 · rfl
 · rfl

theorem b4V {call:b5} {α:Type} {o:AOper} {σ:Sig} {k:Sig→Option α}:b0G call o σ k=b9 (d8 call o σ) k:=by
 unfold b0G d8
 cases hg:o.guard with
 | none=>exact a4d
 | some xw =>
  obtain ⟨x,want⟩:=xw
  simp only
  split
  · rename_i hp
    have hgo:b9 (p1 (sem o.kind call (o.args.map (·.read σ)) (goK.boxOf' o.box σ) σ.st)) (fun r=>k (o.dst.put r σ))=b9 (m9 call o σ) k:=by
     have:=a4d (call:=call) (o:=o) (σ:=σ) (k:=k)
     unfold goK at this
     rw [hp] at this
     exact this
    rw [c2V]
    cases hx:x.read σ <;> try rfl
    · dsimp only
      split
      · exact hgo
      · rfl
    · rename_i vs
      cases vs <;> rfl
  · rename_i hp
    split
    · rename_i hq
      have hgo:b9 (p2 (sem o.kind call (o.args.map (·.read σ)) (goK.boxOf' o.box σ) σ.st)) (fun r=>k (o.dst.put r.1 { σ with st:=r.2 }))=b9 (m9 call o σ) k:=by
       have:=a4d (call:=call) (o:=o) (σ:=σ) (k:=k)
       unfold goK at this
       rw [hp,hq] at this
       exact this
      rw [b2O]
      cases hx:x.read σ <;> try rfl
      · dsimp only
        split
        · exact hgo
        · rfl
      · rename_i vs
        cases vs <;> rfl
    · cases hx:x.read σ <;> try rfl
      · dsimp only
        split
        · exact a4d
        · rfl
      · rename_i vs
        cases vs <;> rfl

theorem a0L {call:b5} {α:Type} {k:Sig→Option α}:∀ {ops:List AOper} {σ:Sig},a7P call ops σ k=b9 (b7 call ops σ) k
 | [],σ=>rfl
 | o::os,σ=>by
  simp only [a7P,b7,b4V]
  cases hs:d8 call o σ with
  | none=>rfl
  | some σ1=>exact a0L

def br (c:AV) (a b:Option Out):Option Out:=match c with
 | .bool true=>a
 | .bool false=>b
 | _=>none
theorem k1g (call:b5) (n:Nat) (kill:List Nat) (ps:List AOper) (fr:List AV) (st:St) :
 exec call n (.reg kill ps) fr st=a7P call ps ⟨d9 kill fr,fun _=>.undef,st⟩ fun σ=>some (.normal,σ.fr,σ.st):=by
 rw [a0L]
 simp only [exec,fL_eq]
 cases b7 call ps ⟨d9 kill fr,fun _=>.undef,st⟩ <;> rfl
theorem a5u (call:b5) (n:Nat) (kill:List Nat) (ps:List AOper) (c:Opd) (a b:ACode) (fr:List AV) (st:St) :
 exec call n (.test kill ps c a b) fr st=a7P call ps ⟨d9 kill fr,fun _=>.undef,st⟩ fun σ=>br (c.read σ) (exec call n a σ.fr σ.st) (exec call n b σ.fr σ.st):=by
 rw [a0L]
 simp only [exec,fL_eq]
 cases b7 call ps ⟨d9 kill fr,fun _=>.undef,st⟩ with
 | none=>rfl
 | some σ =>
  simp only [z7]
  generalize c.read σ=y
  cases y <;> rfl

def k37 (i:Nat) (x:AV):AV:=match x with
 | .box _=>.loc i 0
 | _=>.undef

def b3b (x:Option Out) (f:List AV→St→Option Out):Option Out:=match x with
 | some (.normal,fr,st)=>f fr st
 | r=>r
theorem a3d (fr:List AV) (st:St) (f:List AV→St→Option Out):b3b (some (.normal,fr,st)) f=f fr st:=b5B rfl
theorem exec_seqK (call:b5) (n:Nat) (a b:ACode) (fr:List AV) (st:St):exec call n (.seq a b) fr st=b3b (exec call n a fr st) (exec call n b):=by
 simp only [exec,b3b]
 split <;> rename_i h <;> simp only [h]

def a1Y (rs:List ResK) (x:Option Out):Option (AV×St):=match x with
 | some (.exit _,_,_)=>none
 | some (_,fr,st)=>match n4 rs fr st with
  | some [v]=>some (v,st)
  | some vs=>some (.tuple vs,st)
  | none=>none
 | none=>none
theorem L9 (fn:AFn) (call:b5) (n:Nat) (args:List AV) (st:St) (h:args.length=fn.np) :
 fn.run call n args st=a1Y fn.results (exec call n fn.code (args++List.replicate (fn.nv - fn.np) .undef) st):=by
 unfold AFn.run a1Y
 rw [if_pos h]
 cases exec call n fn.code (args++List.replicate (fn.nv - fn.np) .undef) st with
 | none=>rfl
 | some x =>
  obtain ⟨e,fr,st'⟩:=x
  cases e <;> dsimp only <;> cases n4 fn.results fr st' with
  | none=>rfl
  | some vs =>
   match vs with
   | []=>rfl
   | [v]=>rfl
   | _::_::_=>rfl
end Go.Cb
/-
 THE ABSTRACT MACHINE, part 31: more fuel does no harm.
-/
set_option maxRecDepth 4000
set_option linter.unusedSimpArgs false
set_option linter.unusedVariables false
namespace Go.Cb
open Classical

def E6 (c c':b5):Prop:=∀ f as st r,c f as st=some r→c' f as st=some r

theorem g9K {c c':b5} (h:E6 c c') {k:Kind} {as:List AV} {b:AV} {st:St} {r:AV×AV×St} (hs:sem k c as b st=some r):sem k c' as b st=some r:=by
 cases k
 case call f =>
  simp only [sem,l3] at hs ⊢
  split at hs
  · rename_i hp
    rw [if_pos hp]
    obtain ⟨x,hx,rfl⟩:=Option.map_eq_some_iff.1 hs
    rw [h _ _ _ _ hx]
    rfl
  · cases hs
 case callA f m =>
  simp only [sem,r9] at hs ⊢
  cases hc:l3 f c (as.take m) b st with
  | none=>rw [hc] at hs; cases hs
  | some x =>
   rw [hc] at hs
   have:l3 f c' (as.take m) b st=some x:=by
    unfold l3 at hc ⊢
    split at hc
    · rename_i hp
      rw [if_pos hp]
      obtain ⟨y,hy,rfl⟩:=Option.map_eq_some_iff.1 hc
      rw [h _ _ _ _ hy]
      rfl
    · cases hc
   rw [this]
   exact hs
 case callV =>
  simp only [sem] at hs ⊢
  unfold D5 at hs ⊢
  split at hs
  · split at hs
    · rename_i hp
      simp only [if_pos hp]
      obtain ⟨x,hx,rfl⟩:=Option.map_eq_some_iff.1 hs
      rw [h _ _ _ _ hx]
      rfl
    · cases hs
  · cases hs
 all_goals exact hs

theorem a9q {c c':b5} (h:E6 c c') {o:AOper} {σ σ':Sig} (hs:m9 c o σ=some σ'):m9 c' o σ=some σ':=by
 obtain ⟨r,b',st',h1,rfl⟩:=e9 hs
 exact W6 (g9K h h1)
theorem a1Z {c c':b5} (h:E6 c c') {o:AOper} {σ σ':Sig} (hs:d8 c o σ=some σ'):d8 c' o σ=some σ':=by
 unfold d8 at hs ⊢
 split at hs
 · exact a9q h hs
 · split at hs
   · split at hs
     · rename_i hc; rw [if_pos hc]; exact a9q h hs
     · rename_i hc; rw [if_neg hc]; exact hs
   · exact hs
   · cases hs
theorem C8 {c c':b5} (h:E6 c c'):∀ {os:List AOper} {σ σ':Sig},b7 c os σ=some σ'→b7 c' os σ=some σ'
 | [],_,_,hs=>hs
 | o::os,σ,σ',hs=>by
  simp only [b7] at hs ⊢
  cases hq:d8 c o σ with
  | none=>simp [hq] at hs
  | some σ1 =>
   simp only [hq] at hs
   simp only [a1Z h hq]
   exact C8 h hs
theorem a0S {body body':List AV→St→Option Out} (h:∀ fr st r,body fr st=some r→body' fr st=some r):∀ {n m:Nat} {fr:List AV} {st:St} {r:Out},n≤m→r7 body n fr st=some r→r7 body' m fr st=some r
 | 0,_,_,_,_,_,hs=>by simp [r7] at hs
 | n+1,0,_,_,_,hle,_=>by omega
 | n+1,m+1,fr,st,r,hle,hs=>by
  simp only [r7] at hs ⊢
  cases hq:body fr st with
  | none=>simp [hq] at hs
  | some o =>
   rw [hq] at hs
   rw [h _ _ _ hq]
   obtain ⟨e,fr1,st1⟩:=o
   cases e with
   | normal=>exact a0S h (by omega) hs
   | exit id=>exact hs
   | ret=>exact hs
theorem l4 {c c':b5} (h:E6 c c') {n m:Nat} (hle:n≤m):∀ {x:ACode} {fr:List AV} {st:St} {r:Out},exec c n x fr st=some r→exec c' m x fr st=some r
 | .skip,_,_,_,hs=>hs
 | .exit _,_,_,_,hs=>hs
 | .ret,_,_,_,hs=>hs
 | .reg kill ops,fr,st,r,hs=>by
  simp only [exec] at hs ⊢
  cases hq:b7 c ops ⟨d9 kill fr,fun _=>.undef,st⟩ with
  | none=>simp [hq] at hs
  | some σ=>rw [hq] at hs; rw [C8 h hq]; exact hs
 | .test kill ops x a b,fr,st,r,hs=>by
  rw [a5u] at hs ⊢
  rw [a0L] at hs ⊢
  cases hq:b7 c ops ⟨d9 kill fr,fun _=>.undef,st⟩ with
  | none=>rw [hq] at hs; cases hs
  | some σ =>
   rw [hq] at hs
   rw [C8 h hq]
   rw [z7] at hs ⊢
   unfold br at hs ⊢
   split at hs
   · exact l4 h hle hs
   · exact l4 h hle hs
   · cases hs
 | .either kill a b,fr,st,r,hs=>by
  simp only [exec] at hs ⊢
  obtain ⟨oa,ob,ea,eb,ka,kb⟩:=W4 hs
  rw [l4 h hle ea,l4 h hle eb,a1l (ka.trans kb.symm),ka]
 | .seq a b,fr,st,r,hs=>by
  rw [exec_seqK] at hs ⊢
  cases hq:exec c n a fr st with
  | none=>rw [hq] at hs; cases hs
  | some o =>
   rw [hq] at hs
   rw [l4 h hle hq]
   obtain ⟨e,fr1,st1⟩:=o
   cases e with
   | normal=>exact l4 h hle hs
   | exit id=>exact hs
   | ret=>exact hs
 | .blk id a,fr,st,r,hs=>by
  simp only [exec] at hs ⊢
  cases hq:exec c n a fr st with
  | none=>rw [hq] at hs; cases hs
  | some o=>rw [hq] at hs; rw [l4 h hle hq]; exact hs
 | .loop a,fr,st,r,hs=>by
  simp only [exec] at hs ⊢
  exact a0S (fun _ _ _ hb=>l4 h hle hb) hle hs
theorem a7Z {c c':b5} (h:E6 c c') {n m:Nat} (hle:n≤m) {fn:AFn} {args:List AV} {st:St} {r:AV×St} (hs:fn.run c n args st=some r):fn.run c' m args st=some r:=by
 have hl:args.length=fn.np:=by
  unfold AFn.run at hs
  split at hs
  · assumption
  · cases hs
 rw [L9 _ _ _ _ _ hl] at hs ⊢
 cases hq:exec c n fn.code (args++List.replicate (fn.nv - fn.np) .undef) st with
 | none=>rw [hq] at hs; cases hs
 | some o=>rw [hq] at hs; rw [l4 h hle hq]; exact hs
theorem s5 {tbl:Nat→Option AFn}:∀ {n m:Nat},n≤m→E6 (g9 tbl n) (g9 tbl m)
 | 0,_,_,_,_,_,_,hs=>by simp [g9] at hs
 | n+1,0,hle,_,_,_,_,_=>by omega
 | n+1,m+1,hle,f,as,st,r,hs=>by
  simp only [g9] at hs ⊢
  cases htb:tbl f with
  | none=>simp [htb] at hs
  | some fn =>
   simp only [htb] at hs ⊢
   cases he:fn.ext with
   | some e=>simp only [he] at hs ⊢; exact hs
   | none =>
    simp only [he] at hs ⊢
    exact a7Z (s5 (by omega)) (by omega) hs

def Ev (tbl:Nat→Option AFn) (f:Nat) (as:List AV) (st:St) (r:AV) (st':St):Prop:=∃ n,g9 tbl n f as st=some (r,st')
theorem Ev.ge {tbl:Nat→Option AFn} {f:Nat} {as:List AV} {st:St} {r:AV} {st':St} (h:Ev tbl f as st r st'):∃ n0,∀ n,n0≤n→g9 tbl n f as st=some (r,st') :=
 let ⟨n,hn⟩:=h; ⟨n,fun m hm=>s5 hm _ _ _ _ hn⟩
end Go.Cb
/-
 THE ABSTRACT MACHINE, part 32: rules for what code comes to, with enough fuel.
-/
set_option maxRecDepth 4000
set_option linter.unusedVariables false
namespace Go.Cb
open Classical

section
variable {tbl:Nat→Option AFn}

def XC (tbl:Nat→Option AFn) (x:ACode) (fr:List AV) (st:St) (out:Out):Prop:=∃ n,exec (g9 tbl n) n x fr st=some out
theorem XC.ge {x:ACode} {fr:List AV} {st:St} {out:Out} (h:XC tbl x fr st out):∃ n0,∀ n,n0≤n→exec (g9 tbl n) n x fr st=some out :=
 let ⟨n,hn⟩:=h; ⟨n,fun m hm=>l4 (s5 hm) hm hn⟩

def LX (tbl:Nat→Option AFn) (x:ACode) (fr:List AV) (st:St) (out:Out):Prop:=∃ n k,r7 (exec (g9 tbl n) n x) k fr st=some out

theorem LX.done {x:ACode} {fr:List AV} {st:St} {e:Ex} {fr':List AV} {st':St} (h:XC tbl x fr st (e,fr',st')) (he:e≠.normal):LX tbl x fr st (e,fr',st'):=by
 obtain ⟨n,hn⟩:=h
 refine ⟨n,1,?_⟩
 simp only [r7,hn]
 cases e with
 | normal=>exact absurd rfl he
 | exit id=>rfl
 | ret=>rfl
theorem LX.step {x:ACode} {fr fr1:List AV} {st st1:St} {out:Out} (h:XC tbl x fr st (.normal,fr1,st1)) (h':LX tbl x fr1 st1 out):LX tbl x fr st out:=by
 obtain ⟨n,hn⟩:=h
 obtain ⟨m,k,hm⟩:=h'
 refine ⟨max n m,k+1,?_⟩
 have h1:=l4 (s5 (tbl:=tbl) (Nat.le_max_left n m)) (Nat.le_max_left n m) hn
 simp only [r7,h1]
 exact a0S (fun _ _ _ hb=>l4 (s5 (Nat.le_max_right n m)) (Nat.le_max_right n m) hb) (Nat.le_refl k) hm
theorem XC.loop {x:ACode} {fr:List AV} {st:St} {out:Out} (h:LX tbl x fr st out):XC tbl (.loop x) fr st out:=by
 obtain ⟨n,k,h⟩:=h
 refine ⟨max n k,?_⟩
 simp only [exec]
 exact a0S (fun _ _ _ hb=>l4 (s5 (Nat.le_max_left n k)) (Nat.le_max_left n k) hb) (Nat.le_max_right n k) h
theorem XC.seq {a b:ACode} {fr fr1:List AV} {st st1:St} {out:Out} (h:XC tbl a fr st (.normal,fr1,st1)) (h':XC tbl b fr1 st1 out):XC tbl (.seq a b) fr st out:=by
 obtain ⟨n,hn⟩:=h
 obtain ⟨m,hm⟩:=h'
 refine ⟨max n m,?_⟩
 rw [exec_seqK,l4 (s5 (Nat.le_max_left n m)) (Nat.le_max_left n m) hn,a3d]
 exact l4 (s5 (Nat.le_max_right n m)) (Nat.le_max_right n m) hm
theorem XC.seq_out {a b:ACode} {fr fr1:List AV} {st st1:St} {e:Ex} (h:XC tbl a fr st (e,fr1,st1)) (he:e≠.normal):XC tbl (.seq a b) fr st (e,fr1,st1):=by
 obtain ⟨n,hn⟩:=h
 refine ⟨n,?_⟩
 rw [exec_seqK,hn]
 cases e with
 | normal=>exact absurd rfl he
 | exit id=>rfl
 | ret=>rfl
theorem XC.blk {id:Nat} {a:ACode} {fr fr1:List AV} {st st1:St} {e:Ex} (h:XC tbl a fr st (e,fr1,st1)):XC tbl (.blk id a) fr st (if e=.exit id then .normal else e,fr1,st1):=by
 obtain ⟨n,hn⟩:=h
 refine ⟨n,?_⟩
 simp only [exec,hn]
 cases e with
 | normal=>rfl
 | exit id' =>
  by_cases hid:id'=id
  · subst hid; simp
  · simp [hid]
 | ret=>rfl
theorem XC.skip {fr:List AV} {st:St}:XC tbl .skip fr st (.normal,fr,st):=⟨0,rfl⟩
theorem XC.exit {id:Nat} {fr:List AV} {st:St}:XC tbl (.exit id) fr st (.exit id,fr,st):=⟨0,rfl⟩
theorem XC.ret {fr:List AV} {st:St}:XC tbl .ret fr st (.ret,fr,st):=⟨0,rfl⟩

theorem XC.of {x:ACode} {fr:List AV} {st:St} {out:Out} (h:∃ n0,∀ n,n0≤n→exec (g9 tbl n) n x fr st=some out):XC tbl x fr st out :=
 let ⟨n,hn⟩:=h; ⟨n,hn n (Nat.le_refl n)⟩
theorem XC.goes {x a:ACode} {fr fr1:List AV} {st st1:St} {out:Out} (h:∃ n0,∀ n,n0≤n→exec (g9 tbl n) n x fr st=exec (g9 tbl n) n a fr1 st1) (h':XC tbl a fr1 st1 out):XC tbl x fr st out:=by
 obtain ⟨n,hn⟩:=h
 obtain ⟨m,hm⟩:=h'.ge
 exact ⟨max n m,by rw [hn _ (Nat.le_max_left n m)]; exact hm _ (Nat.le_max_right n m)⟩

theorem Ev.of_body {f:Nat} {fn:AFn} {as:List AV} {st:St} {e:Ex} {fr':List AV} {st':St} {r:AV×St} (htb:tbl f=some fn) (he:fn.ext=none) (hl:as.length=fn.np)
 (h:XC tbl fn.code (as++List.replicate (fn.nv - fn.np) .undef) st (e,fr',st')) (hr:a1Y fn.results (some (e,fr',st'))=some r):Ev tbl f as st r.1 r.2:=by
 obtain ⟨n,hn⟩:=h
 refine ⟨n+1,?_⟩
 simp only [g9,htb,he]
 rw [L9 _ _ _ _ _ hl,hn,hr]
theorem Ev.of_ext {f:Nat} {fn:AFn} {as:List AV} {st:St} {e:List AV→St→Option (AV×St)} {r:AV×St} (htb:tbl f=some fn) (he:fn.ext=some e) (h:e as st=some r):Ev tbl f as st r.1 r.2 :=
 ⟨1,by simp only [g9,htb,he]; exact h⟩
end
end Go.Cb
/-
 THE ABSTRACT MACHINE, part 42: the operations told so that the kernel reckons them quickly, at any kind of answer (printed out of parts 38 and 39).
-/
set_option maxRecDepth 4000
set_option linter.unusedVariables false
set_option linter.unusedSimpArgs false
namespace Go.Cb.G
open Go Go.Cb
variable {ρ:Type}
/-! taking values apart -/
section
noncomputable def onI (x:AV) (e:(Option ρ)) (k:IntKind→Int→(Option ρ)):(Option ρ):=AV.rec (motive_1:=fun _=>(Option ρ)) (motive_2:=fun _=>Unit) (motive_3:=fun _=>Unit)
 e (fun _=>e) (fun t n=>k t n) (fun _=>e) (fun _ _ _=>e) (fun _ _=>e) e (fun _ _=>e) (fun _ _=>e) (fun _ _=>e) (fun _=>e) e (fun _ _ _ _ _=>e) e (fun _ _=>e) (fun _ _=>e) (fun _ _ _=>e) e (fun _ _ _ _=>e) (fun _ _=>e) e
 () (fun _ _ _ _=>()) () (fun _ _ _ _=>()) x
noncomputable def b4K (x:AV) (e:(Option ρ)) (k:IntKind→Int→(Option ρ)) (l:List Nat→(Option ρ)):(Option ρ):=AV.rec (motive_1:=fun _=>(Option ρ)) (motive_2:=fun _=>Unit) (motive_3:=fun _=>Unit)
 e (fun _=>e) (fun t n=>k t n) (fun s=>l s) (fun _ _ _=>e) (fun _ _=>e) e (fun _ _=>e) (fun _ _=>e) (fun _ _=>e) (fun _=>e) e (fun _ _ _ _ _=>e) e (fun _ _=>e) (fun _ _=>e) (fun _ _ _=>e) e (fun _ _ _ _=>e) (fun _ _=>e) e
 () (fun _ _ _ _=>()) () (fun _ _ _ _=>()) x
noncomputable def onS (x:AV) (e:(Option ρ)) (k:List Nat→(Option ρ)):(Option ρ):=AV.rec (motive_1:=fun _=>(Option ρ)) (motive_2:=fun _=>Unit) (motive_3:=fun _=>Unit)
 e (fun _=>e) (fun t n=>e) (fun s=>k s) (fun _ _ _=>e) (fun _ _=>e) e (fun _ _=>e) (fun _ _=>e) (fun _ _=>e) (fun _=>e) e (fun _ _ _ _ _=>e) e (fun _ _=>e) (fun _ _=>e) (fun _ _ _=>e) e (fun _ _ _ _=>e) (fun _ _=>e) e
 () (fun _ _ _ _=>()) () (fun _ _ _ _=>()) x
noncomputable def onB (x:AV) (e:(Option ρ)) (k:Bool→(Option ρ)):(Option ρ):=AV.rec (motive_1:=fun _=>(Option ρ)) (motive_2:=fun _=>Unit) (motive_3:=fun _=>Unit)
 e (fun b=>k b) (fun t n=>e) (fun s=>e) (fun _ _ _=>e) (fun _ _=>e) e (fun _ _=>e) (fun _ _=>e) (fun _ _=>e) (fun _=>e) e (fun _ _ _ _ _=>e) e (fun _ _=>e) (fun _ _=>e) (fun _ _ _=>e) e (fun _ _ _ _=>e) (fun _ _=>e) e
 () (fun _ _ _ _=>()) () (fun _ _ _ _=>()) x
noncomputable def f4r (x:AV) (e:(Option ρ)) (k:Bool→(Option ρ)) (t:List AV→(Option ρ)):(Option ρ):=AV.rec (motive_1:=fun _=>(Option ρ)) (motive_2:=fun _=>Unit) (motive_3:=fun _=>Unit)
 e (fun b=>k b) (fun t n=>e) (fun s=>e) (fun _ _ _=>e) (fun _ _=>e) e (fun _ _=>e) (fun _ _=>e) (fun _ _=>e) (fun _=>e) e (fun _ _ _ _ _=>e) e (fun _ _=>e) (fun vs _=>t vs) (fun _ _ _=>e) e (fun _ _ _ _=>e) (fun _ _=>e) e
 () (fun _ _ _ _=>()) () (fun _ _ _ _=>()) x
noncomputable def onL (x:AV) (e:(Option ρ)) (k:List (List AV)→(Option ρ)):(Option ρ):=AV.rec (motive_1:=fun _=>(Option ρ)) (motive_2:=fun _=>Unit) (motive_3:=fun _=>Unit)
 e (fun b=>e) (fun t n=>e) (fun s=>e) (fun _ xs _=>k xs) (fun _ _=>e) e (fun _ _=>e) (fun _ _=>e) (fun _ _=>e) (fun _=>e) e (fun _ _ _ _ _=>e) e (fun _ _=>e) (fun _ _=>e) (fun _ _ _=>e) e (fun _ _ _ _=>e) (fun _ _=>e) e
 () (fun _ _ _ _=>()) () (fun _ _ _ _=>()) x
noncomputable def onP (x:AV) (e:(Option ρ)) (k:Nat→Nat→(Option ρ)):(Option ρ):=AV.rec (motive_1:=fun _=>(Option ρ)) (motive_2:=fun _=>Unit) (motive_3:=fun _=>Unit)
 e (fun b=>e) (fun t n=>e) (fun s=>e) (fun _ xs _=>e) (fun o f=>k o f) e (fun _ _=>e) (fun _ _=>e) (fun _ _=>e) (fun _=>e) e (fun _ _ _ _ _=>e) e (fun _ _=>e) (fun _ _=>e) (fun _ _ _=>e) e (fun _ _ _ _=>e) (fun _ _=>e) e
 () (fun _ _ _ _=>()) () (fun _ _ _ _=>()) x
noncomputable def a5U (x:AV) (e:(Option ρ)) (k:Nat→Nat→(Option ρ)) (l:List AV→(Option ρ)) (m:Nat→Nat→(Option ρ)):(Option ρ):=AV.rec (motive_1:=fun _=>(Option ρ)) (motive_2:=fun _=>Unit) (motive_3:=fun _=>Unit)
 e (fun b=>e) (fun t n=>e) (fun s=>e) (fun _ xs _=>e) (fun o f=>k o f) e (fun cs _=>l cs) (fun i f=>m i f) (fun _ _=>e) (fun _=>e) e (fun _ _ _ _ _=>e) e (fun _ _=>e) (fun _ _=>e) (fun _ _ _=>e) e (fun _ _ _ _=>e) (fun _ _=>e) e
 () (fun _ _ _ _=>()) () (fun _ _ _ _=>()) x
noncomputable def onR (x:AV) (e:(Option ρ)) (l:List AV→(Option ρ)):(Option ρ):=AV.rec (motive_1:=fun _=>(Option ρ)) (motive_2:=fun _=>Unit) (motive_3:=fun _=>Unit)
 e (fun b=>e) (fun t n=>e) (fun s=>e) (fun _ xs _=>e) (fun o f=>e) e (fun cs _=>l cs) (fun _ _=>e) (fun _ _=>e) (fun _=>e) e (fun _ _ _ _ _=>e) e (fun _ _=>e) (fun _ _=>e) (fun _ _ _=>e) e (fun _ _ _ _=>e) (fun _ _=>e) e
 () (fun _ _ _ _=>()) () (fun _ _ _ _=>()) x
noncomputable def a9C (x:AV) (e:(Option ρ)) (l:List AV→(Option ρ)):(Option ρ):=AV.rec (motive_1:=fun _=>(Option ρ)) (motive_2:=fun _=>Unit) (motive_3:=fun _=>Unit)
 e (fun b=>e) (fun t n=>e) (fun s=>e) (fun _ xs _=>e) (fun o f=>e) e (fun cs _=>e) (fun _ _=>e) (fun cs _=>l cs) (fun _=>e) e (fun _ _ _ _ _=>e) e (fun _ _=>e) (fun _ _=>e) (fun _ _ _=>e) e (fun _ _ _ _=>e) (fun _ _=>e) e
 () (fun _ _ _ _=>()) () (fun _ _ _ _=>()) x
noncomputable def b2C (x:AV) (e:(Option ρ)) (l:Nat→Nat→(Option ρ)):(Option ρ):=AV.rec (motive_1:=fun _=>(Option ρ)) (motive_2:=fun _=>Unit) (motive_3:=fun _=>Unit)
 e (fun b=>e) (fun t n=>e) (fun s=>e) (fun _ xs _=>e) (fun o f=>e) e (fun cs _=>e) (fun i f=>l i f) (fun cs _=>e) (fun _=>e) e (fun _ _ _ _ _=>e) e (fun _ _=>e) (fun _ _=>e) (fun _ _ _=>e) e (fun _ _ _ _=>e) (fun _ _=>e) e
 () (fun _ _ _ _=>()) () (fun _ _ _ _=>()) x

theorem S2 (x:AV) (e:(Option ρ)) (k:IntKind→Int→(Option ρ)):onI x e k=match x with|.int t n=>k t n|_=>e:=by cases x <;> rfl
theorem a9d (x:AV) (e:(Option ρ)) (k:IntKind→Int→(Option ρ)) (l:List Nat→(Option ρ)):b4K x e k l=match x with|.int t n=>k t n|.str s=>l s|_=>e:=by cases x <;> rfl
theorem a2d (x:AV) (e:(Option ρ)) (k:List Nat→(Option ρ)):onS x e k=match x with|.str s=>k s|_=>e:=by cases x <;> rfl
theorem a8e (x:AV) (e:(Option ρ)) (k:Bool→(Option ρ)):onB x e k=match x with|.bool b=>k b|_=>e:=by cases x <;> rfl
theorem c5y (x:AV) (e:(Option ρ)) (k:Bool→(Option ρ)) (t:List AV→(Option ρ)):f4r x e k t=match x with|.bool b=>k b|.tuple vs=>t vs|_=>e:=by cases x <;> rfl
theorem a6W (x:AV) (e:(Option ρ)) (k:List (List AV)→(Option ρ)):onL x e k=match x with|.list _ xs=>k xs|_=>e:=by cases x <;> rfl
theorem a6Y (x:AV) (e:(Option ρ)) (k:Nat→Nat→(Option ρ)):onP x e k=match x with|.ptr o f=>k o f|_=>e:=by cases x <;> rfl
theorem a3r (x:AV) (e:(Option ρ)) (k:Nat→Nat→(Option ρ)) (l:List AV→(Option ρ)) (m:Nat→Nat→(Option ρ)):a5U x e k l m=match x with|.ptr o f=>k o f|.ro cs=>l cs|.loc i f=>m i f|_=>e:=by cases x <;> rfl
theorem h5B (x:AV) (e:(Option ρ)) (l:List AV→(Option ρ)):onR x e l=match x with|.ro cs=>l cs|_=>e:=by cases x <;> rfl
theorem a4Z (x:AV) (e:(Option ρ)) (l:List AV→(Option ρ)):a9C x e l=match x with|.box cs=>l cs|_=>e:=by cases x <;> rfl
theorem a8P (x:AV) (e:(Option ρ)) (l:Nat→Nat→(Option ρ)):b2C x e l=match x with|.loc i f=>l i f|_=>e:=by cases x <;> rfl
end

noncomputable def kIx (k:IntKind):Nat:=IntKind.rec (motive:=fun _=>Nat) 0 1 2 3 4 5 6 7 k
noncomputable def cB (b:Bool) (x y:(Option ρ)):(Option ρ):=Bool.rec (motive:=fun _=>(Option ρ)) y x b
theorem H2 (b:Bool) (x y:(Option ρ)):cB b x y=if b=true then x else y:=by cases b <;> rfl
theorem a1P (a b:IntKind):Nat.beq (kIx a) (kIx b)=decide (a=b):=by cases a <;> cases b <;> rfl
noncomputable def bo (b:Bool) (k:AV→(Option ρ)):(Option ρ):=cB b (k (.bool true)) (k (.bool false))
theorem a4S (b:Bool) (k:AV→(Option ρ)):bo b k=k (.bool b):=by cases b <;> rfl
noncomputable def a1y (n:Nat) (k:Nat→(Option ρ)):(Option ρ):=Nat.rec (motive:=fun _=>(Option ρ)) (k 0) (fun m _=>k (Nat.succ m)) n
theorem P7 (n:Nat) (k:Nat→(Option ρ)):a1y n k=k n:=by cases n <;> rfl
noncomputable def nn (a b:Int) (e:(Option ρ)) (k:Nat→Nat→(Option ρ)):(Option ρ):=Int.rec (motive:=fun _=>(Option ρ)) (fun a=>Int.rec (motive:=fun _=>(Option ρ)) (fun b=>k a b) (fun _=>e) b) (fun _=>e) a
theorem a2A (a b:Int) (e:(Option ρ)) (k:Nat→Nat→(Option ρ)):nn a b e k=match a,b with|.ofNat a,.ofNat b=>k a b|_,_=>e:=by cases a <;> cases b <;> rfl
noncomputable def eqF (x:List Nat):List Nat→Bool:=List.rec (motive:=fun _=>List Nat→Bool) (fun y=>List.rec (motive:=fun _=>Bool) true (fun _ _ _=>false) y)
 (fun a _ ih y=>List.rec (motive:=fun _=>Bool) false (fun b t _=>Bool.rec (motive:=fun _=>Bool) false (ih t) (Nat.beq a b)) y) x
theorem a7x:∀ x y:List Nat,eqF x y=eqN x y
 | [],[]=>rfl
 | [],_::_=>rfl
 | _::_,[]=>rfl
 | a::x,b::y=>by
  have ih:=a7x x y
  show (Bool.rec (motive:=fun _=>Bool) false (eqF x y) (Nat.beq a b))=(Nat.beq a b && eqN x y)
  rw [ih]
  cases Nat.beq a b <;> rfl
noncomputable def a2l {β:Type} (l:List β) (e:(Option ρ)) (k:β→(Option ρ)):Nat→(Option ρ):=List.rec (motive:=fun _=>Nat→(Option ρ)) (fun _=>e) (fun a _ ih i=>Nat.rec (motive:=fun _=>(Option ρ)) (k a) (fun j _=>ih j) i) l
theorem a07 {β:Type}:∀ (l:List β) (e:(Option ρ)) (k:β→(Option ρ)) (i:Nat),a2l l e k i=match l[i]? with|some a=>k a|none=>e
 | [],e,k,i=>by cases i <;> rfl
 | a::l,e,k,0=>rfl
 | a::l,e,k,i+1=>by
  have:=a07 l e k i
  show a2l l e k i=_
  rw [this]
  simp
noncomputable def B3 {β:Type} (l:List β):Nat:=List.rec (motive:=fun _=>Nat) 0 (fun _ _ n=>Nat.add n 1) l
theorem x8 {β:Type}:∀ l:List β,B3 l=l.length
 | []=>rfl
 | a::l=>by
  show Nat.add (B3 l) 1=_
  rw [x8 l]
  rfl
noncomputable def a4J (n:Nat):List AV→List AV:=Nat.rec (motive:=fun _=>List AV→List AV) (fun l=>l) (fun _ ih l=>List.rec (motive:=fun _=>List AV) [] (fun _ t _=>ih t) l) n
theorem P9:∀ (n:Nat) (l:List AV),a4J n l=l.drop n
 | 0,l=>rfl
 | n+1,[]=>rfl
 | n+1,a::l=>P9 n l
noncomputable def a5M {β:Type} (i:Nat) (l:List β):List β:=Nat.rec (motive:=fun _=>List β) l (fun _ ih=>List.rec (motive:=fun _=>List β) [] (fun _ t _=>t) ih) i
theorem a3L {β:Type}:∀ (i:Nat) (l:List β),a5M i l=l.drop i
 | 0,l=>rfl
 | i+1,l=>by
  have:=a3L i l
  show List.rec (motive:=fun _=>List β) [] (fun _ t _=>t) (a5M i l)=_
  rw [this,show l.drop (i+1)=(l.drop i).drop 1 by rw [List.drop_drop]]
  cases l.drop i <;> rfl
noncomputable def atO {β:Type} (l:List β) (e:(Option ρ)) (k:β→(Option ρ)) (i:Nat):(Option ρ):=List.rec (motive:=fun _=>(Option ρ)) e (fun a _ _=>k a) (a5M i l)
theorem b1r {β:Type} (l:List β) (e:(Option ρ)) (k:β→(Option ρ)) (i:Nat):atO l e k i=match l[i]? with|some a=>k a|none=>e:=by
 unfold atO
 rw [a3L]
 have h:l[i]?=(l.drop i)[0]?:=by simp
 rw [h]
 cases l.drop i <;> rfl
noncomputable def a5K {β:Type} (n:Nat) (l:List β) (k:List β→(Option ρ)):(Option ρ):=Nat.rec (motive:=fun _=>List β→(List β→(Option ρ))→(Option ρ)) (fun _ k=>k []) (fun _ ih l k=>List.rec (motive:=fun _=>(Option ρ)) (k []) (fun a t _=>ih t fun r=>k (a::r)) l) n l k
theorem a1q {β:Type}:∀ (n:Nat) (l:List β) (k:List β→(Option ρ)),a5K n l k=k (l.take n)
 | 0,l,k=>by show k []=_; rw [List.take_zero]
 | n+1,[],k=>rfl
 | n+1,a::l,k=>a1q n l fun r=>k (a::r)
noncomputable def a3B {β:Type} (l r:List β) (k:List β→(Option ρ)):(Option ρ):=List.rec (motive:=fun _=>(List β→(Option ρ))→(Option ρ)) (fun k=>k r) (fun a _ ih k=>ih fun t=>k (a::t)) l k
theorem a2D {β:Type} (r:List β):∀ (l:List β) (k:List β→(Option ρ)),a3B l r k=k (l++r)
 | [],k=>rfl
 | a::l,k=>a2D r l fun t=>k (a::t)
noncomputable def b5L (l:List AV) (e:(Option ρ)) (k:AV→(Option ρ)):(Option ρ):=List.rec (motive:=fun _=>(Option ρ)) e (fun a _ _=>k a) l
theorem b3L (l:List AV) (e:(Option ρ)) (k:AV→(Option ρ)):b5L l e k=match l with|a::_=>k a|[]=>e:=by cases l <;> rfl

noncomputable def w1K (x:AV) (k:AV→(Option ρ)):(Option ρ):=AV.rec (motive_1:=fun _=>(Option ρ)) (motive_2:=fun _=>Unit) (motive_3:=fun _=>Unit)
 (k .undef) (fun b=>k (.bool b)) (fun t n=>k (.int t n)) (fun s=>k (.str s)) (fun _ xs _=>k (.list false xs)) (fun o f=>k (.ptr o f)) (k .nilp) (fun cs _=>k (.ro cs)) (fun i f=>k (.loc i f)) (fun cs _=>k (.box cs)) (fun o=>k (.map o)) (k .nilm) (fun f a c _ _=>k (.func f a c)) (k .nilf) (fun cs _=>k (.agg cs)) (fun vs _=>k (.tuple vs)) (fun t v _=>k (.iface t v)) (k .nili) (fun o f n s=>k (.sl o f n s)) (fun xs _=>k (.fresh xs)) (k .nils)
 () (fun _ _ _ _=>()) () (fun _ _ _ _=>()) x
theorem b09 (x:AV) (k:AV→(Option ρ)):w1K x k=k x.weak1:=by cases x <;> rfl
noncomputable def b2G (l:List AV) (k:List AV→(Option ρ)):(Option ρ):=List.rec (motive:=fun _=>(List AV→(Option ρ))→(Option ρ)) (fun k=>k []) (fun a _ ih k=>w1K a fun w=>ih fun r=>k (w::r)) l k
theorem a9v:∀ (l:List AV) (k:List AV→(Option ρ)),b2G l k=k (l.map AV.weak1)
 | [],k=>rfl
 | a::l,k=>by
  show w1K a (fun w=>b2G l fun r=>k (w::r))=_
  rw [b09,a9v l]
  rfl

noncomputable def a4F {β:Type} (l:List β) (e:(Option ρ)) (k:List β→(Option ρ)):(Option ρ):=List.rec (motive:=fun _=>(Option ρ)) e (fun _ l _=>List.rec (motive:=fun _=>(Option ρ)) e (fun _ l _=>List.rec (motive:=fun _=>(Option ρ)) e (fun _ l _=>List.rec (motive:=fun _=>(Option ρ)) e (fun _ l _=>List.rec (motive:=fun _=>(Option ρ)) e (fun _ l _=>List.rec (motive:=fun _=>(Option ρ)) e (fun _ l _=>List.rec (motive:=fun _=>(Option ρ)) e (fun _ l _=>List.rec (motive:=fun _=>(Option ρ)) e (fun _ l _=>k l) l) l) l) l) l) l) l) l
theorem b33 {β:Type} (l:List β) (e:(Option ρ)) (k:List β→(Option ρ)):a4F l e k=if 8≤l.length then k (l.drop 8) else e:=by
 match l with
 | []=>rfl
 | [_]=>rfl
 | [_,_]=>rfl
 | [_,_,_]=>rfl
 | [_,_,_,_]=>rfl
 | [_,_,_,_,_]=>rfl
 | [_,_,_,_,_,_]=>rfl
 | [_,_,_,_,_,_,_]=>rfl
 | _::_::_::_::_::_::_::_::t=>rw [if_pos (by simp)]; rfl
noncomputable def a9N {β:Type} (l:List β) (e:(Option ρ)) (k:β→(Option ρ)) (i:Nat):(Option ρ):=Nat.rec (motive:=fun _=>List β→(Option ρ)) (fun l=>a2l l e k (Nat.mod i 8)) (fun _ ih l=>a4F l e ih) (Nat.div i 8) l
theorem a8U {β:Type} (e:(Option ρ)) (k:β→(Option ρ)) (r:Nat):∀ (q:Nat) (l:List β),Nat.rec (motive:=fun _=>List β→(Option ρ)) (fun l=>a2l l e k r) (fun _ ih l=>a4F l e ih) q l=a2l l e k (8*q+r)
 | 0,l=>by show a2l l e k r=_; rw [Nat.mul_zero,Nat.zero_add]
 | q+1,l=>by
  show a4F l e (fun l=>Nat.rec (motive:=fun _=>List β→(Option ρ)) (fun l=>a2l l e k r) (fun _ ih l=>a4F l e ih) q l)=_
  rw [b33,a8U e k r q (l.drop 8),a07,a07]
  split
  · rw [List.getElem?_drop,show 8+(8*q+r)=8*(q+1)+r by omega]
  · rw [List.getElem?_eq_none (by omega)]
theorem a4X {β:Type} (l:List β) (e:(Option ρ)) (k:β→(Option ρ)) (i:Nat):a9N l e k i=match l[i]? with|some a=>k a|none=>e:=by
 unfold a9N
 rw [a8U e k (Nat.mod i 8) (Nat.div i 8) l,a07,show 8*Nat.div i 8+Nat.mod i 8=i from Nat.div_add_mod i 8]
noncomputable def a1o {β:Type} (l:List β) (e:(Option ρ)) (ih:List β→(List β→(Option ρ))→(Option ρ)) (k:List β→(Option ρ)):(Option ρ):=List.rec (motive:=fun _=>(Option ρ)) e (fun a0 l _=>List.rec (motive:=fun _=>(Option ρ)) e (fun a1 l _=>List.rec (motive:=fun _=>(Option ρ)) e (fun a2 l _=>List.rec (motive:=fun _=>(Option ρ)) e (fun a3 l _=>List.rec (motive:=fun _=>(Option ρ)) e (fun a4 l _=>List.rec (motive:=fun _=>(Option ρ)) e (fun a5 l _=>List.rec (motive:=fun _=>(Option ρ)) e (fun a6 l _=>List.rec (motive:=fun _=>(Option ρ)) e (fun a7 l _=>ih l (fun r=>k (a0::a1::a2::a3::a4::a5::a6::a7::r))) l) l) l) l) l) l) l) l
theorem a8O {β:Type} (l:List β) (e:(Option ρ)) (ih:List β→(List β→(Option ρ))→(Option ρ)) (k:List β→(Option ρ)):a1o l e ih k=if 8≤l.length then ih (l.drop 8) (fun r=>k (l.take 8++r)) else e:=by
 match l with
 | []=>rfl
 | [_]=>rfl
 | [_,_]=>rfl
 | [_,_,_]=>rfl
 | [_,_,_,_]=>rfl
 | [_,_,_,_,_]=>rfl
 | [_,_,_,_,_,_]=>rfl
 | [_,_,_,_,_,_,_]=>rfl
 | _::_::_::_::_::_::_::_::t=>rw [if_pos (by simp)]; rfl
/-! the operations -/
section
variable (c:b5) (b:AV) (s:St) (f:AV→(Option ρ))
noncomputable def b2H (x y:AV):(Option ρ):=b4K x none (fun t m=>onI y none fun u n=>cB (Nat.beq (kIx t) (kIx u)) (nn m n (bo (eqI m n) f) fun a b=>bo (Nat.beq a b) f) none) (fun l=>onS y none fun r=>bo (eqF l r) f)
noncomputable def b4e (x y:AV):(Option ρ):=b4K x none (fun t m=>onI y none fun u n=>cB (Nat.beq (kIx t) (kIx u)) (nn m n (bo (!eqI m n) f) fun a b=>cB (Nat.beq a b) (f (.bool false)) (f (.bool true))) none) (fun l=>onS y none fun r=>cB (eqF l r) (f (.bool false)) (f (.bool true)))
noncomputable def a0z (op:BinOp) (g:Nat→Nat→Bool) (x y:AV):(Option ρ):=onI x (b9 (p1 (sem (.bin op) c [x,y] b s)) f) (fun t m=>onI y none fun u n=>cB (Nat.beq (kIx t) (kIx u)) (nn m n (b9 (p1 (sem (.bin op) c [.int t m,.int u n] b s)) f) fun a b=>bo (g a b) f) none)
noncomputable def b2D (x y:AV):(Option ρ):=onI x (b9 (p1 (sem (.bin .add) c [x,y] b s)) f) (fun t m=>onI y none fun u n=>cB (Nat.beq (kIx t) (kIx u)) (nn m n (b9 (p1 (sem (.bin .add) c [.int t m,.int u n] b s)) f)
 fun i j=>a1y (Nat.add i j) fun r=>cB (Nat.blt r 128) (f (.int t (.ofNat r))) (cB (Nat.beq (kIx t) 3) (cB (Nat.blt r 9223372036854775808) (f (.int t (.ofNat r))) (b9 (p1 (sem (.bin .add) c [.int t m,.int u n] b s)) f)) (b9 (p1 (sem (.bin .add) c [.int t m,.int u n] b s)) f))) none)
noncomputable def b4d (x y:AV):(Option ρ):=onI x (b9 (p1 (sem (.bin .sub) c [x,y] b s)) f) (fun t m=>onI y none fun u n=>cB (Nat.beq (kIx t) (kIx u)) (nn m n (b9 (p1 (sem (.bin .sub) c [.int t m,.int u n] b s)) f)
 fun i j=>cB (Nat.ble j i) (a1y (Nat.sub i j) fun r=>cB (Nat.blt r 128) (f (.int t (.ofNat r))) (cB (Nat.beq (kIx t) 3) (cB (Nat.blt r 9223372036854775808) (f (.int t (.ofNat r))) (b9 (p1 (sem (.bin .sub) c [.int t m,.int u n] b s)) f)) (b9 (p1 (sem (.bin .sub) c [.int t m,.int u n] b s)) f))) (b9 (p1 (sem (.bin .sub) c [.int t m,.int u n] b s)) f)) none)
noncomputable def b2L (x:AV):(Option ρ):=onB x none fun y=>cB y (f (.bool false)) (f (.bool true))
noncomputable def a7y (x:AV):(Option ρ):=cB x.plain (f x) none
noncomputable def b0V (x y z:AV):(Option ρ):=onB x none fun v=>cB v (a7y f y) (a7y f z)
noncomputable def b3R (x:AV):(Option ρ):=a5U x (b9 (p1 (sem .nilchk c [x] b s)) f) (fun o i=>f (.ptr o i)) (fun cs=>f (.ro cs)) (fun i j=>f (.loc i j))
noncomputable def b4n (d:Nat) (x:AV):(Option ρ):=a5U x none (fun o i=>a1y (Nat.add i d) fun i=>f (.ptr o i)) (fun cs=>f (.ro (a4J d cs))) (fun o i=>a1y (Nat.add i d) fun i=>f (.loc o i))
noncomputable def a2u (ag:Bool) (n:Nat) (cs:List AV):(Option ρ):=cB ag (cB (Nat.ble n (B3 cs)) (a5K n cs fun r=>b2G r fun r=>f (.agg r)) none) (b5L cs none fun x=>w1K x f)
noncomputable def a7G (x:Obj) (k:List AV→(Option ρ)):(Option ρ):=Obj.rec (motive:=fun _=>(Option ρ)) k (fun _=>none) none x
noncomputable def a1t (ag:Bool) (n:Nat) (x:AV):(Option ρ):=onP x none fun o i=>a9N s none (fun ob=>a7G ob fun cs=>a2u f ag n (a4J i cs)) o
noncomputable def a4v (ag:Bool) (n:Nat) (x:AV):(Option ρ):=onR x none fun cs=>a2u f ag n cs
noncomputable def b0z (i:Nat) (ag:Bool) (n:Nat) (x:AV):(Option ρ):=b2C x none fun j off=>a9C b none fun cs=>cB (Nat.beq i j) (a2u f ag n (a4J off cs)) none
noncomputable def b0m (x:AV):(Option ρ):=onS x none fun l=>a1y (B3 l) fun n=>f (.int .i64 (.ofNat n))
noncomputable def b0k (x:AV):(Option ρ):=onL x (b9 (p1 (sem .lenL c [x] b s)) f) fun l=>a1y (B3 l) fun n=>f (.int .i64 (.ofNat n))
noncomputable def b4O (x y:AV):(Option ρ):=onS x none fun l=>onI y none fun _ n=>Int.rec (motive:=fun _=>(Option ρ)) (fun i=>atO l none (fun m=>f (.int .u8 (.ofNat m))) i) (fun _=>none) n
noncomputable def b3y (sz:Nat) (x y:AV):(Option ρ):=onL x (b9 (p1 (sem (.iad sz) c [x,y] b s)) f) fun l=>onI y none fun _ n=>Int.rec (motive:=fun _=>(Option ρ)) (fun i=>atO l none (fun r=>cB (Nat.beq (B3 r) sz) (f (.ro r)) none) i) (fun _=>none) n
end

section
variable (c:b5) (b:AV) (s:St) (f:AV→(Option ρ))
theorem d6f (x y:AV):b2H f x y=b9 (p1 (sem (.bin .eql) c [x,y] b s)) f:=by
 simp only [b2H,a9d,S2,a2d,H2,a4S,a2A,a7x,a1P,sem,p7]
 cases x <;> cases y <;> try rfl
 · rename_i t m u n
   by_cases h:t=u
   · subst h
     cases m <;> cases n <;> simp [p5,p1,b9,eqI]
   · simp [p5,h,p1,b9]
theorem e8r (x y:AV):b4e f x y=b9 (p1 (sem (.bin .neq) c [x,y] b s)) f:=by
 simp only [b4e,a9d,S2,a2d,H2,a4S,a2A,a7x,a1P,sem,p7]
 cases x <;> cases y <;> try rfl
 · rename_i t m u n
   by_cases h:t=u
   · subst h
     cases m <;> cases n <;> simp [p5,p1,b9,eqI]
     rename_i m n
     by_cases h:m=n
     · subst h; simp
     · have e:Nat.beq m n=false:=Bool.eq_false_iff.mpr (fun q=>h (Nat.eq_of_beq_eq_true q))
       simp [e,h]
   · simp [p5,h,p1,b9]
 · rename_i l r
   simp only [p5,Option.map_some,p1,b9]
   cases eqN l r <;> rfl
theorem b4j {op:BinOp} (ho:op=.lss∨op=.leq∨op=.gtr∨op=.geq) (t:IntKind) (m:Int) (y:AV) (hy:∀ u n,y≠.int u n):p5 op (.int t m) y=none:=by
 cases y <;> first|(exfalso; exact hy _ _ rfl)|(rcases ho with rfl|rfl|rfl|rfl <;> rfl)
theorem g9R {op:BinOp} (ho:op=.lss∨op=.leq∨op=.gtr∨op=.geq) {t u:IntKind} (h:t≠u) (m n:Int):p5 op (.int t m) (.int u n)=none:=by
 rcases ho with rfl|rfl|rfl|rfl <;> simp [p5,h]
theorem a2F (op:BinOp) (g:Nat→Nat→Bool) (ho:op=.lss∨op=.leq∨op=.gtr∨op=.geq) (hg:∀ (t:IntKind) (i j:Nat),p5 op (.int t (.ofNat i)) (.int t (.ofNat j))=some (.bool (g i j))) (x y:AV):a0z c b s f op g x y=b9 (p1 (sem (.bin op) c [x,y] b s)) f:=by
 simp only [a0z,S2,H2,a4S,a2A,a1P]
 cases x <;> try rfl
 rename_i t m
 cases y
 case int u n =>
  simp only
  by_cases h:t=u
  · subst h
    simp only [decide_true,if_true]
    cases m <;> cases n <;> try rfl
    rename_i i j
    simp only [sem,p7,hg,Option.map_some,p1,b9]
  · simp only [h,decide_false,Bool.false_eq_true,if_false,sem,p7,g9R ho h,Option.map_none,p1,b9]
 all_goals (simp only [sem,p7]; rw [b4j ho _ _ _ (by simp)]; rfl)
theorem a4c (t:IntKind) {r:Nat} (h:r < 128):L2 t (Int.ofNat r)=Int.ofNat r:=by
 rw [P6]
 cases t <;> simp [IntKind.wrap,IntKind.signed,IntKind.bits] <;> omega
theorem a5y {r:Nat} (h:r < 9223372036854775808):L2 .i64 (Int.ofNat r)=Int.ofNat r:=by
 simp only [L2]
 rw [if_pos (by simpa using h)]
theorem b5c (t:IntKind):Nat.beq (kIx t) 3=true→t=.i64:=by cases t <;> decide
theorem a4H {op:BinOp} (ho:op=.add∨op=.sub) (t:IntKind) (m:Int) (y:AV) (hy:∀ u n,y≠.int u n):p5 op (.int t m) y=none:=by
 cases y <;> first|(exfalso; exact hy _ _ rfl)|(rcases ho with rfl|rfl <;> rfl)
theorem e2g (x y:AV):b2D c b s f x y=b9 (p1 (sem (.bin .add) c [x,y] b s)) f:=by
 simp only [b2D,S2,H2,a4S,a2A,a1P,P7]
 cases x <;> try rfl
 rename_i t m
 cases y
 case int u n =>
  simp only
  by_cases h:t=u
  · subst h
    simp only [decide_true,if_true]
    cases m <;> cases n <;> try rfl
    rename_i i j
    dsimp only
    have e:∀ r,Nat.add i j=r→L2 t (Int.ofNat r)=Int.ofNat r→f (.int t (.ofNat r))=b9 (p1 (sem (.bin .add) c [.int t (.ofNat i),.int t (.ofNat j)] b s)) f:=fun r hr hw=>by
     subst hr
     simp only [sem,p7,p5,if_true,b31,hw,Option.map_some,p1,b9]
    split
    · rename_i hl
      exact e _ rfl (a4c t (by simpa using hl))
    · split
      · rename_i hk
        have:=b5c t hk
        subst this
        split
        · rename_i hl
          exact e _ rfl (a5y (by simpa using hl))
        · rfl
      · rfl
  · simp only [h,decide_false,Bool.false_eq_true,if_false,sem,p7,p5,Option.map_none,p1,b9]
 all_goals (simp only [sem,p7]; rw [a4H (.inl rfl) _ _ _ (by simp)]; rfl)
theorem d8b (x y:AV):b4d c b s f x y=b9 (p1 (sem (.bin .sub) c [x,y] b s)) f:=by
 simp only [b4d,S2,H2,a4S,a2A,a1P,P7]
 cases x <;> try rfl
 rename_i t m
 cases y
 case int u n =>
  simp only
  by_cases h:t=u
  · subst h
    simp only [decide_true,if_true]
    cases m <;> cases n <;> try rfl
    rename_i i j
    dsimp only
    split
    · rename_i hle
      have e:∀ r,Nat.sub i j=r→L2 t (Int.ofNat r)=Int.ofNat r→f (.int t (.ofNat r))=b9 (p1 (sem (.bin .sub) c [.int t (.ofNat i),.int t (.ofNat j)] b s)) f:=fun r hr hw=>by
       subst hr
       simp only [sem,p7,p5,if_true,b0q,hle,hw,Option.map_some,p1,b9]
      split
      · rename_i hl
        exact e _ rfl (a4c t (by simpa using hl))
      · split
        · rename_i hk
          have:=b5c t hk
          subst this
          split
          · rename_i hl
            exact e _ rfl (a5y (by simpa using hl))
          · rfl
        · rfl
    · rfl
  · simp only [h,decide_false,Bool.false_eq_true,if_false,sem,p7,p5,Option.map_none,p1,b9]
 all_goals (simp only [sem,p7]; rw [a4H (.inr rfl) _ _ _ (by simp)]; rfl)
theorem d7h (x:AV):b2L f x=b9 (p1 (sem (.un .not) c [x] b s)) f:=by
 simp only [b2L,a8e,H2,sem]
 cases x <;> try rfl
 rename_i y; cases y <;> rfl
theorem b2T (x y z:AV):b0V f x y z=b9 (p1 (sem .pick c [x,y,z] b s)) f:=by
 simp only [b0V,a7y,a8e,H2,sem]
 cases x <;> try rfl
 rename_i v
 cases v
 · simp only [E1,Bool.false_eq_true,if_false]; split <;> rfl
 · simp only [E1,if_true]; split <;> rfl
theorem b8W (x:AV):b3R c b s f x=b9 (p1 (sem .nilchk c [x] b s)) f:=by
 simp only [b3R,a3r]
 cases x <;> rfl
theorem e4x (d:Nat) (x:AV):b4n f d x=b9 (p1 (sem (.fad d) c [x] b s)) f:=by
 simp only [b4n,a3r,P7,P9]
 cases x <;> rfl
theorem Y8 (ag:Bool) (n:Nat) (cs:List AV):a2u f ag n cs=match g8 ag n cs with|some v=>f v|none=>none:=by
 simp only [a2u,H2,b3L,x8,a1q,a9v,b09]
 cases ag
 · cases cs <;> rfl
 · simp only [g8,if_true]
   by_cases h:n≤cs.length
   · have e:Nat.ble n cs.length=true:=by simpa using h
     simp only [e,h,if_true]
   · have e:Nat.ble n cs.length=false:=Bool.eq_false_iff.mpr (fun q=>h (Nat.le_of_ble_eq_true q))
     simp only [e,h,Bool.false_eq_true,if_false]
theorem a1Q (x:Obj) (k:List AV→(Option ρ)):a7G x k=match x with|.cells cs=>k cs|_=>none:=by cases x <;> rfl
theorem a7n {x:Option AV}:b9 (p1 (x.map fun v=>(v,b,s))) f=match x with|some v=>f v|none=>none:=by cases x <;> rfl
theorem a6J (ag:Bool) (n:Nat) (x:AV):a1t s f ag n x=b9 (p1 (sem (.ldSt ag n) c [x] b s)) f:=by
 simp only [a1t,a6Y,a4X,a1Q,Y8,P9]
 cases x <;> try rfl
 rename_i o i
 simp only [sem,q7]
 cases s[o]? with
 | none=>rfl
 | some ob=>cases ob <;> first|rfl|exact (a7n b s f).symm
theorem a7h (ag:Bool) (n:Nat) (x:AV):a4v f ag n x=b9 (p1 (sem (.ldRo ag n) c [x] b s)) f:=by
 simp only [a4v,h5B,Y8]
 cases x <;> try rfl
 exact (a7n b s f).symm
theorem b20 (i:Nat) (ag:Bool) (n:Nat) (x:AV):b0z b f i ag n x=b9 (p1 (sem (.ldLc i ag n) c [x] b s)) f:=by
 simp only [b0z,a8P,a4Z,Y8,P9,H2]
 cases x <;> try rfl
 rename_i j off
 cases b <;> try rfl
 rename_i cs
 simp only [sem,G5]
 by_cases h:i=j
 · simp only [h,Nat.beq_refl,if_true]
   exact (a7n _ s f).symm
 · have:Nat.beq i j=false:=Bool.eq_false_iff.mpr (fun q=>h (Nat.eq_of_beq_eq_true q))
   simp only [this,h,Bool.false_eq_true,if_false]
   rfl
theorem b4f (x:AV):b0m f x=b9 (p1 (sem .lenS c [x] b s)) f:=by
 simp only [b0m,a2d,P7,x8]
 cases x <;> rfl
theorem b3H (x:AV):b0k c b s f x=b9 (p1 (sem .lenL c [x] b s)) f:=by
 simp only [b0k,a6W,P7,x8]
 cases x <;> rfl
theorem e57 (x y:AV):b4O f x y=b9 (p1 (sem .idxS c [x,y] b s)) f:=by
 simp only [b4O,a2d,S2,b1r]
 cases x <;> try rfl
 cases y <;> try rfl
 rename_i l k n
 simp only [sem,G4]
 cases n with
 | ofNat i =>
  have e:(Int.ofNat i).toNat=i:=rfl
  simp only [Int.ofNat_eq_natCast,Int.natCast_nonneg,if_true,Int.toNat_natCast]
  cases l[i]? <;> rfl
 | negSucc i=>rfl
theorem d6A (sz:Nat) (x y:AV):b3y c b s f sz x y=b9 (p1 (sem (.iad sz) c [x,y] b s)) f:=by
 simp only [b3y,a6W,S2,b1r,H2,x8]
 cases x <;> try rfl
 cases y <;> try rfl
 rename_i w l k n
 simp only [sem,I1]
 cases n with
 | ofNat i =>
  simp only [Int.ofNat_eq_natCast,Int.natCast_nonneg,if_true,Int.toNat_natCast]
  cases l[i]? with
  | none=>rfl
  | some r =>
   by_cases h:r.length=sz
   · have:Nat.beq r.length sz=true:=by rw [h]; exact Nat.beq_refl sz
     simp only [this,if_true,if_pos h]
     rfl
   · have:Nat.beq r.length sz=false:=Bool.eq_false_iff.mpr (fun q=>h (Nat.eq_of_beq_eq_true q))
     simp only [this,h,Bool.false_eq_true,if_false]
     rfl
 | negSucc i=>rfl
end
noncomputable def qSb (x:AV) (k:AV→AV→(Option ρ)):(Option ρ):=AV.rec (motive_1:=fun _=>(Option ρ)) (motive_2:=fun _=>Unit) (motive_3:=fun _=>Unit)
 (k .undef .undef)
 (fun b=>k (.bool b) (.bool b))
 (fun t n=>k (.int t n) (.int t n))
 (fun s=>k (.str s) (.str s))
 (fun o xs _=>k (.list o xs) (.list false xs))
 (fun o f=>k (.ptr o f) (.ptr o f))
 (k .nilp .nilp)
 (fun cs _=>k (.ro cs) (.ro cs))
 (fun i f=>k (.loc i f) (.loc i f))
 (fun cs _=>k .undef .undef)
 (fun o=>k (.map o) (.map o))
 (k .nilm .nilm)
 (fun f a c _ _=>k (.func f a c) (.func f a c))
 (k .nilf .nilf)
 (fun cs _=>k (.agg cs) (.agg (cs.map AV.weak1)))
 (fun vs _=>k (.tuple vs) (.tuple vs))
 (fun t v _=>k (.iface t v) (.iface t v))
 (k .nili .nili)
 (fun o f n s=>k (.sl o f n s) (.sl o f n s))
 (fun xs _=>k (.fresh xs) (.fresh xs))
 (k .nils .nils)
 () (fun _ _ _ _=>()) () (fun _ _ _ _=>()) x
noncomputable def qSv (x:AV) (k:AV→AV→(Option ρ)):(Option ρ):=AV.rec (motive_1:=fun _=>(Option ρ)) (motive_2:=fun _=>Unit) (motive_3:=fun _=>Unit)
 (k .undef .undef)
 (fun b=>k (.bool b) (.bool b))
 (fun t n=>k (.int t n) (.int t n))
 (fun s=>k (.str s) (.str s))
 (fun o xs _=>k (.list o xs) (.list false xs))
 (fun o f=>k (.ptr o f) (.ptr o f))
 (k .nilp .nilp)
 (fun cs _=>k (.ro cs) (.ro cs))
 (fun i f=>k .undef .undef)
 (fun cs _=>k .undef .undef)
 (fun o=>k (.map o) (.map o))
 (k .nilm .nilm)
 (fun f a c _ _=>k (.func f a c) (.func f a c))
 (k .nilf .nilf)
 (fun cs _=>k (.agg cs) (.agg (cs.map AV.weak1)))
 (fun vs _=>k (.tuple vs) (.tuple vs))
 (fun t v _=>k (.iface t v) (.iface t v))
 (k .nili .nili)
 (fun o f n s=>k (.sl o f n s) (.sl o f n s))
 (fun xs _=>k (.fresh xs) (.fresh xs))
 (k .nils .nils)
 () (fun _ _ _ _=>()) () (fun _ _ _ _=>()) x
noncomputable def qWk (x:AV) (k:AV→(Option ρ)):(Option ρ):=AV.rec (motive_1:=fun _=>(Option ρ)) (motive_2:=fun _=>Unit) (motive_3:=fun _=>Unit)
 (k .undef)
 (fun b=>k (.bool b))
 (fun t n=>k (.int t n))
 (fun s=>k (.str s))
 (fun o xs _=>k (.list false xs))
 (fun o f=>k (.ptr o f))
 (k .nilp)
 (fun cs _=>k (.ro cs))
 (fun i f=>k (.loc i f))
 (fun cs _=>k (.box cs))
 (fun o=>k (.map o))
 (k .nilm)
 (fun f a c _ _=>k (.func f a c))
 (k .nilf)
 (fun cs _=>k (.agg (cs.map AV.weak1)))
 (fun vs _=>k (.tuple vs))
 (fun t v _=>k (.iface t v))
 (k .nili)
 (fun o f n s=>k (.sl o f n s))
 (fun xs _=>k (.fresh xs))
 (k .nils)
 () (fun _ _ _ _=>()) () (fun _ _ _ _=>()) x
theorem b1N (x:AV) (k:AV→AV→(Option ρ)):qSb x k=k (AV.stripB x) (AV.weak (AV.stripB x)):=by cases x <;> rfl
theorem h1n (x:AV) (k:AV→AV→(Option ρ)):qSv x k=k (AV.strip x) (AV.weak (AV.strip x)):=by cases x <;> rfl
theorem X5 (x:AV) (k:AV→(Option ρ)):qWk x k=k (AV.weak x):=by cases x <;> rfl
noncomputable def onT (x:AV) (k:List AV→(Option ρ)):(Option ρ):=AV.rec (motive_1:=fun _=>(Option ρ)) (motive_2:=fun _=>Unit) (motive_3:=fun _=>Unit)
 (none)
 (fun b=>none)
 (fun t n=>none)
 (fun s=>none)
 (fun o xs _=>none)
 (fun o f=>none)
 (none)
 (fun cs _=>none)
 (fun i f=>none)
 (fun cs _=>none)
 (fun o=>none)
 (none)
 (fun f a c _ _=>none)
 (none)
 (fun cs _=>none)
 (fun vs _=>k vs)
 (fun t v _=>none)
 (none)
 (fun o f n s=>none)
 (fun xs _=>none)
 (none)
 () (fun _ _ _ _=>()) () (fun _ _ _ _=>()) x
theorem f4V (x:AV) (k:List AV→(Option ρ)):onT x k=match x with|.tuple vs=>k vs|_=>none:=by cases x <;> rfl
noncomputable def i3g (x:AV) (e:(Option ρ)) (k:Bool→List (List AV)→(Option ρ)):(Option ρ):=AV.rec (motive_1:=fun _=>(Option ρ)) (motive_2:=fun _=>Unit) (motive_3:=fun _=>Unit)
 (e)
 (fun b=>e)
 (fun t n=>e)
 (fun s=>e)
 (fun o xs _=>k o xs)
 (fun o f=>e)
 (e)
 (fun cs _=>e)
 (fun i f=>e)
 (fun cs _=>e)
 (fun o=>e)
 (e)
 (fun f a c _ _=>e)
 (e)
 (fun cs _=>e)
 (fun vs _=>e)
 (fun t v _=>e)
 (e)
 (fun o f n s=>e)
 (fun xs _=>e)
 (e)
 () (fun _ _ _ _=>()) () (fun _ _ _ _=>()) x
theorem c9n (x:AV) (e:(Option ρ)) (k:Bool→List (List AV)→(Option ρ)):i3g x e k=match x with|.list o xs=>k o xs|_=>e:=by cases x <;> rfl
noncomputable def onU (x:AV) (k:(Option ρ)):(Option ρ):=AV.rec (motive_1:=fun _=>(Option ρ)) (motive_2:=fun _=>Unit) (motive_3:=fun _=>Unit)
 (k)
 (fun b=>none)
 (fun t n=>none)
 (fun s=>none)
 (fun o xs _=>none)
 (fun o f=>none)
 (none)
 (fun cs _=>none)
 (fun i f=>none)
 (fun cs _=>none)
 (fun o=>none)
 (none)
 (fun f a c _ _=>none)
 (none)
 (fun cs _=>none)
 (fun vs _=>none)
 (fun t v _=>none)
 (none)
 (fun o f n s=>none)
 (fun xs _=>none)
 (none)
 () (fun _ _ _ _=>()) () (fun _ _ _ _=>()) x
theorem h9h (x:AV) (k:(Option ρ)):onU x k=match x with|.undef=>k|_=>none:=by cases x <;> rfl
noncomputable def onC (x:AV) (k:List AV→(Option ρ)):(Option ρ):=AV.rec (motive_1:=fun _=>(Option ρ)) (motive_2:=fun _=>Unit) (motive_3:=fun _=>Unit)
 (k [.undef])
 (fun b=>k [(.bool b)])
 (fun t n=>k [(.int t n)])
 (fun s=>k [(.str s)])
 (fun o xs _=>k [(.list o xs)])
 (fun o f=>k [(.ptr o f)])
 (k [.nilp])
 (fun cs _=>k [(.ro cs)])
 (fun i f=>k [(.loc i f)])
 (fun cs _=>k [(.box cs)])
 (fun o=>k [(.map o)])
 (k [.nilm])
 (fun f a c _ _=>k [(.func f a c)])
 (k [.nilf])
 (fun cs _=>k cs)
 (fun vs _=>k [(.tuple vs)])
 (fun t v _=>k [(.iface t v)])
 (k [.nili])
 (fun o f n s=>k [(.sl o f n s)])
 (fun xs _=>k [(.fresh xs)])
 (k [.nils])
 () (fun _ _ _ _=>()) () (fun _ _ _ _=>()) x
theorem b01 (x:AV) (k:List AV→(Option ρ)):onC x k=k x.cells:=by cases x <;> rfl
noncomputable def plB (x:AV) (k:(Option ρ)):(Option ρ):=AV.rec (motive_1:=fun _=>(Option ρ)) (motive_2:=fun _=>Unit) (motive_3:=fun _=>Unit)
 (none)
 (fun b=>k)
 (fun t n=>k)
 (fun s=>k)
 (fun o xs _=>k)
 (fun o f=>k)
 (k)
 (fun cs _=>k)
 (fun i f=>none)
 (fun cs _=>none)
 (fun o=>k)
 (k)
 (fun f a c _ _=>k)
 (k)
 (fun cs _=>k)
 (fun vs _=>none)
 (fun t v _=>k)
 (k)
 (fun o f n s=>k)
 (fun xs _=>none)
 (k)
 () (fun _ _ _ _=>()) () (fun _ _ _ _=>()) x
theorem a4U (x:AV) (k:(Option ρ)):plB x k=if x.plain then k else none:=by cases x <;> rfl
noncomputable def b3w (f:AV→(Option ρ)) (d:Nat) (x:AV):(Option ρ):=onT x fun vs=>a2l vs none (fun v=>qWk v f) d
theorem b5Z (c:b5) (b:AV) (s:St) (f:AV→(Option ρ)) (d:Nat) (x:AV):b3w f d x=b9 (p1 (sem (.ext d) c [x] b s)) f:=by
 simp only [b3w,f4V,a07,X5]
 cases x <;> try rfl
 rename_i vs
 simp only [sem,K0]
 cases vs[d]? <;> rfl
noncomputable def a4b (xs:List AV) (k:List AV→(Option ρ)):(Option ρ):=List.rec (motive:=fun _=>(List AV→(Option ρ))→(Option ρ)) (fun k=>k []) (fun a _ ih k=>plB a (qWk a fun w=>ih fun ws=>k (w::ws))) xs k
theorem a2f:∀ (xs:List AV) (k:List AV→(Option ρ)),a4b xs k=if p6 xs then k (xs.map AV.weak) else none
 | [],k=>rfl
 | a::xs,k=>by
  show plB a (qWk a fun w=>a4b xs fun ws=>k (w::ws))=_
  rw [a4U,X5,a2f xs]
  simp only [p6,Bool.and_eq_true,List.map_cons]
  by_cases h1:a.plain=true <;> by_cases h2:p6 xs=true <;> simp [h1,h2]
noncomputable def b4z (x:Option (AV×St)) (k:AV→St→(Option ρ)):(Option ρ):=Option.rec (motive:=fun _=>(Option ρ)) none (fun p=>Prod.rec (motive:=fun _=>(Option ρ)) (fun v s=>k v s) p) x
theorem a9m (x:Option (AV×St)) (k:AV→St→(Option ρ)):b4z x k=match x with|some (v,s)=>k v s|none=>none:=by cases x <;> rfl
noncomputable def b4F (c:b5) (b:AV) (s:St) (f:AV→(Option ρ)) (x y z:AV):(Option ρ):=onS x none fun l=>onI z none fun _ m=>onI y (b9 (p1 (sem (.slS true true) c [x,y,z] b s)) f) fun _ i=>nn i m (b9 (p1 (sem (.slS true true) c [x,y,z] b s)) f) fun i m =>
 cB (Nat.ble m (B3 l)) (cB (Nat.ble i m) (a5K (Nat.sub m i) (a5M i l) fun r=>f (.str r)) none) none
theorem f0N (c:b5) (b:AV) (s:St) (f:AV→(Option ρ)) (x y z:AV):b4F c b s f x y z=b9 (p1 (sem (.slS true true) c [x,y,z] b s)) f:=by
 simp only [b4F,a2d,S2,a2A,H2,a1q,a3L,x8]
 cases x <;> try rfl
 cases z <;> try rfl
 cases y <;> try rfl
 rename_i l _ m _ i
 cases i <;> cases m <;> try rfl
 rename_i i m
 simp only [sem,K8,E7,O0,Int.ofNat_eq_natCast,Int.natCast_nonneg,true_and,Int.toNat_natCast,Int.ofNat_le,Nat.ble_eq]
 by_cases h1:m≤l.length
 · simp only [h1,if_true]
   by_cases h2:i≤m
   · simp only [h2,if_true,Option.map_some,p1,b9]
     rw [List.drop_take]
     rfl
   · simp only [h2,if_false]
     rfl
 · simp only [h1,if_false]
   rfl
noncomputable def b0A (sz:Nat) (l:List (List AV)):Bool:=List.rec (motive:=fun _=>Bool) true (fun r _ _=>Nat.beq (B3 r) sz) l
theorem b2z (sz:Nat) (l:List (List AV)):b0A sz l=m6 sz l:=by
 cases l with
 | nil=>rfl
 | cons r l =>
  show Nat.beq (B3 r) sz=(r.length == sz)
  rw [x8,Bool.eq_iff_iff]
  simp
noncomputable def b3c (b:AV) (s:St) (f:AV×AV×St→(Option ρ)) (d e:Nat) (x y:AV):(Option ρ):=i3g x none fun o xs=>onL y none fun ys=>cB o (cB (b0A d xs) (cB (b0A d ys) (cB (Nat.ble (Nat.mul (Nat.add (B3 xs) (B3 ys)) e) 140737488355328) (a3B xs ys fun r=>f (.list true r,b,s)) none) none) none) none
theorem c1R (c:b5) (b:AV) (s:St) (f:AV×AV×St→(Option ρ)) (d e:Nat) (x y:AV):b3c b s f d e x y=b9 (sem (.app d e) c [x,y] b s) f:=by
 simp only [b3c,c9n,a6W,H2,b2z,x8,a2D]
 cases x <;> try rfl
 rename_i o xs
 cases y <;> try (cases o <;> rfl)
 rename_i o2 ys
 cases o <;> try rfl
 simp only [sem,O4,if_true]
 have e1:(Nat.ble (Nat.mul (Nat.add xs.length ys.length) e) 140737488355328)=decide ((xs.length+ys.length)*e≤2 ^ 47):=by
  rw [Bool.eq_iff_iff]
  simp
 rw [e1]
 cases m6 d xs <;> cases m6 d ys <;> try rfl
 simp only [Bool.true_and,if_true]
 split <;> rfl
noncomputable def a6M (b:AV) (s:St) (f:AV×AV×St→(Option ρ)) (d:List AV):(Option ρ):=onU b (f (.undef,.box d,s))
theorem b1s (c:b5) (b:AV) (s:St) (f:AV×AV×St→(Option ρ)) (d:List AV):a6M b s f d=b9 (sem (.alloc d) c [] b s) f:=by
 simp only [a6M,h9h]
 cases b <;> rfl
noncomputable def a9Q (cs:List AV) (off:Nat) (new:List AV) (k:List AV→(Option ρ)):(Option ρ):=a5K off cs fun a=>a3B new (a4J (Nat.add off (B3 new)) cs) fun t=>a3B a t k
theorem a9r (cs:List AV) (off:Nat) (new:List AV) (k:List AV→(Option ρ)):a9Q cs off new k=k (m3 cs off new):=by
 simp only [a9Q,a1q,a2D,P9,x8,m3,List.append_assoc]
 rfl
noncomputable def b0N (b:AV) (s:St) (f:AV×AV×St→(Option ρ)) (i d:Nat) (x y:AV):(Option ρ):=b2C x none fun j off=>a9C b none fun cs=>cB (Nat.beq i j) (plB y (onC y fun new=>cB (Nat.beq (B3 new) d) (cB (Nat.ble (Nat.add off d) (B3 cs)) (a9Q cs off new fun r=>f (.tuple [],.box r,s)) none) none)) none
theorem b5o (a b:Nat):(Nat.beq a b=true)=(a=b):=by simp
theorem b5K (a b:Nat):(Nat.ble a b=true)=(a≤b):=by simp
theorem b3a (c:b5) (b:AV) (s:St) (f:AV×AV×St→(Option ρ)) (i d:Nat) (x y:AV):b0N b s f i d x y=b9 (sem (.stLc i d) c [x,y] b s) f:=by
 simp only [b0N,a8P,a4Z,H2,a4U,b01,x8,a9r,b5o,b5K]
 cases x <;> try rfl
 rename_i j off
 cases b <;> try rfl
 rename_i cs
 simp only [sem,J0]
 by_cases h1:i=j <;> by_cases h2:y.plain=true <;> by_cases h3:y.cells.length=d <;> by_cases h4:off+d≤cs.length <;> simp [h1,h2,h3,h4,b9]
noncomputable def a7K {β:Type} (l:List β) (i:Nat) (x:β) (k:List β→(Option ρ)):(Option ρ):=List.rec (motive:=fun _=>Nat→(List β→(Option ρ))→(Option ρ)) (fun _ k=>k []) (fun a t ih i k=>Nat.rec (motive:=fun _=>(Option ρ)) (k (x::t)) (fun j _=>ih j fun r=>k (a::r)) i) l i k
theorem a80 {β:Type} (x:β):∀ (l:List β) (i:Nat) (k:List β→(Option ρ)),a7K l i x k=k (l.set i x)
 | [],_,_=>rfl
 | a::l,0,k=>rfl
 | a::l,i+1,k=>a80 x l i fun r=>k (a::r)
noncomputable def b2M {β:Type} (l:List β) (i:Nat) (x:β) (k:List β→(Option ρ)):(Option ρ):=Nat.rec (motive:=fun _=>List β→(List β→(Option ρ))→(Option ρ)) (fun l k=>a7K l (Nat.mod i 8) x k) (fun _ ih l k=>a1o l (k l) ih k) (Nat.div i 8) l k
theorem a9u {β:Type} (x:β) (r:Nat):∀ (q:Nat) (l:List β) (k:List β→(Option ρ)),Nat.rec (motive:=fun _=>List β→(List β→(Option ρ))→(Option ρ)) (fun l k=>a7K l r x k) (fun _ ih l k=>a1o l (k l) ih k) q l k=k (l.set (8*q+r) x)
 | 0,l,k=>by show a7K l r x k=_; rw [a80,Nat.mul_zero,Nat.zero_add]
 | q+1,l,k=>by
  show a1o l (k l) (fun l k=>Nat.rec (motive:=fun _=>List β→(List β→(Option ρ))→(Option ρ)) (fun l k=>a7K l r x k) (fun _ ih l k=>a1o l (k l) ih k) q l k) k=_
  rw [a8O]
  split
  · rename_i h
    rw [a9u x r q (l.drop 8)]
    congr 1
    rw [show 8*(q+1)+r=8+(8*q+r) by omega]
    conv=>rhs; rw [← List.take_append_drop 8 l]
    rw [List.set_append_right _ _ (by rw [List.length_take]; omega),List.length_take,Nat.min_eq_left h,Nat.add_sub_cancel_left]
  · rename_i h
    rw [List.set_eq_of_length_le (by omega)]
theorem e6T {β:Type} (x:β) (l:List β) (i:Nat) (k:List β→(Option ρ)):b2M l i x k=k (l.set i x):=by
 unfold b2M
 rw [a9u x (Nat.mod i 8) (Nat.div i 8) l k,show 8*Nat.div i 8+Nat.mod i 8=i from Nat.div_add_mod i 8]
noncomputable def b0Q (s:St) (f:AV×St→(Option ρ)) (d:Nat) (x y:AV):(Option ρ):=onP x none fun o off=>a9N s none (fun ob=>a7G ob fun cs=>plB y (onC y fun new=>cB (Nat.beq (B3 new) d) (cB (Nat.ble (Nat.add off d) (B3 cs)) (a9Q cs off new fun r=>b2M s o (.cells r) fun s=>f (.tuple [],s)) none) none)) o
theorem b4P (c:b5) (b:AV) (s:St) (f:AV×St→(Option ρ)) (d:Nat) (x y:AV):b0Q s f d x y=b9 (p2 (sem (.stSt d) c [x,y] b s)) f:=by
 simp only [b0Q,a6Y,a4X,a1Q,H2,a4U,b01,x8,a9r,e6T,b5o,b5K]
 cases x <;> try rfl
 rename_i o off
 simp only [sem,A8,fL_eq]
 cases s[o]? with
 | none=>rfl
 | some ob =>
  cases ob <;> try rfl
  rename_i cs
  by_cases h2:y.plain=true <;> by_cases h3:y.cells.length=d <;> by_cases h4:off+d≤cs.length <;> simp [h2,h3,h4,b9,p2]
def gF (q:AV) (w:Bool) (op:(AV→(Option ρ))→(Option ρ)) (f:AV→(Option ρ)):(Option ρ):=match q with
 | .bool v=>if v == w then op f else f (.tuple [])
 | .tuple []=>f (.tuple [])
 | _=>none
noncomputable def bW (v w:Bool) (x y:(Option ρ)):(Option ρ):=Bool.rec (motive:=fun _=>(Option ρ)) (Bool.rec (motive:=fun _=>(Option ρ)) x y w) (Bool.rec (motive:=fun _=>(Option ρ)) y x w) v
theorem j4G (v w:Bool) (x y:(Option ρ)):bW v w x y=if v == w then x else y:=by cases v <;> cases w <;> rfl
theorem nb (i j:Nat):(!Nat.blt j i)=Nat.ble i j:=by
 have h1:(Nat.blt j i=true) ↔ j < i:=by simp
 have h2:(Nat.ble i j=true) ↔ i≤j:=by simp
 cases hb:Nat.blt j i <;> cases hc:Nat.ble i j <;> simp only [hb,hc,true_iff,false_iff,Bool.false_eq_true] at h1 h2 <;> first|rfl|omega
theorem g2n (c:b5) (b:AV) (s:St) (f:AV→(Option ρ)) (x y:AV):a0z c b s f .lss Nat.blt x y=b9 (p1 (sem (.bin .lss) c [x,y] b s)) f:=a2F c b s f .lss _ (by simp) (fun t i j=>by simp [p5,ltI]) x y
theorem i8d (c:b5) (b:AV) (s:St) (f:AV→(Option ρ)) (x y:AV):a0z c b s f .leq Nat.ble x y=b9 (p1 (sem (.bin .leq) c [x,y] b s)) f:=a2F c b s f .leq _ (by simp) (fun t i j=>by simp only [p5,if_true,Int.ofNat_eq_natCast]; rw [show ∀ a b:Nat,ltI (a:Int) (b:Int)=Nat.blt a b from fun _ _=>rfl,nb]) x y
theorem f8u (c:b5) (b:AV) (s:St) (f:AV→(Option ρ)) (x y:AV):a0z c b s f .gtr (fun i j=>Nat.blt j i) x y=b9 (p1 (sem (.bin .gtr) c [x,y] b s)) f:=a2F c b s f .gtr _ (by simp) (fun t i j=>by simp [p5,ltI]) x y
theorem g6e (c:b5) (b:AV) (s:St) (f:AV→(Option ρ)) (x y:AV):a0z c b s f .geq (fun i j=>Nat.ble j i) x y=b9 (p1 (sem (.bin .geq) c [x,y] b s)) f:=a2F c b s f .geq _ (by simp) (fun t i j=>by simp only [p5,if_true,Int.ofNat_eq_natCast]; rw [show ∀ a b:Nat,ltI (a:Int) (b:Int)=Nat.blt a b from fun _ _=>rfl,nb]) x y

end Go.Cb.G
/-
 THE ABSTRACT MACHINE, part 43: frames of eight times eight, whose places are found at once.
-/
set_option maxRecDepth 4000
set_option linter.unusedVariables false
namespace Go.Cb.G
open Go Go.Cb
inductive W8 (α:Type) where
 | mk (x0 x1 x2 x3 x4 x5 x6 x7:α)
abbrev Fr:=W8 (W8 AV)
def pk8 {α:Type} (i:Nat) (w:W8 α):α:=match w with
 | .mk x0 x1 x2 x3 x4 x5 x6 x7=>match i with
  | 0=>x0
  | 1=>x1
  | 2=>x2
  | 3=>x3
  | 4=>x4
  | 5=>x5
  | 6=>x6
  | _=>x7
def st8 {α:Type} (i:Nat) (x:α) (w:W8 α):W8 α:=match w with
 | .mk x0 x1 x2 x3 x4 x5 x6 x7=>match i with
  | 0=>.mk x x1 x2 x3 x4 x5 x6 x7
  | 1=>.mk x0 x x2 x3 x4 x5 x6 x7
  | 2=>.mk x0 x1 x x3 x4 x5 x6 x7
  | 3=>.mk x0 x1 x2 x x4 x5 x6 x7
  | 4=>.mk x0 x1 x2 x3 x x5 x6 x7
  | 5=>.mk x0 x1 x2 x3 x4 x x6 x7
  | 6=>.mk x0 x1 x2 x3 x4 x5 x x7
  | _=>.mk x0 x1 x2 x3 x4 x5 x6 x
theorem lt8 {i:Nat} (h:i < 8):i=0∨i=1∨i=2∨i=3∨i=4∨i=5∨i=6∨i=7:=by omega
theorem b1y {α:Type} {i j:Nat} (hi:i < 8) (hj:j < 8) (x:α) (w:W8 α):pk8 j (st8 i x w)=if j=i then x else pk8 j w:=by
 cases w
 rcases lt8 hi with rfl|rfl|rfl|rfl|rfl|rfl|rfl|rfl <;> rcases lt8 hj with rfl|rfl|rfl|rfl|rfl|rfl|rfl|rfl <;> rfl
def L0 (i:Nat) (fr:Fr):AV:=pk8 (i % 8) (pk8 (i / 8) fr)
def a0a (i:Nat) (x:AV) (fr:Fr):Fr:=st8 (i / 8) (st8 (i % 8) x (pk8 (i / 8) fr)) fr
theorem e8W {i j:Nat} (hi:i < 64) (hj:j < 64) (x:AV) (fr:Fr):L0 j (a0a i x fr)=if j=i then x else L0 j fr:=by
 unfold L0 a0a
 rw [b1y (by omega) (by omega)]
 by_cases h:j / 8=i / 8
 · rw [if_pos h,b1y (by omega) (by omega),← h]
   by_cases h2:j % 8=i % 8
   · rw [if_pos h2,if_pos (by omega)]
   · rw [if_neg h2,if_neg (by omega)]
 · rw [if_neg h,if_neg (by intro e; exact h (by rw [e]))]
def toL (nv:Nat) (fr:Fr):List AV:=(List.range nv).map fun i=>L0 i fr
theorem d1B (nv:Nat) (fr:Fr):(toL nv fr).length=nv:=by simp [toL]
theorem E4 {i nv:Nat} (h:i < nv) (fr:Fr):(toL nv fr).getD i .undef=L0 i fr:=by simp [toL,List.getD,h]
theorem a0O {i nv:Nat} (h:i < nv) (hn:nv≤64) (x:AV) (fr:Fr):(toL nv fr).set i x=toL nv (a0a i x fr):=by
 apply List.ext_getElem
 · simp [toL]
 · intro j h1 h2
   have hj:j < nv:=by simpa [toL] using h1
   rw [List.getElem_set]
   simp only [toL,List.getElem_map,List.getElem_range]
   rw [e8W (by omega) (by omega)]
   by_cases e:i=j
   · rw [if_pos e,if_pos e.symm]
   · rw [if_neg e,if_neg (fun q=>e q.symm)]
theorem a3j {i nv:Nat} (h:¬ i < nv) (x:AV) (fr:Fr):(toL nv fr).set i x=toL nv fr:=List.set_eq_of_length_le (by rw [d1B]; omega)

noncomputable def a7p {α β:Type} (i:Nat) (e:β) (Q:α→β) (x0 x1 x2 x3 x4 x5 x6 x7:α):β :=
 Nat.rec (motive:=fun _=>β) (Q x0) (fun i _=>Nat.rec (motive:=fun _=>β) (Q x1) (fun i _=>Nat.rec (motive:=fun _=>β) (Q x2) (fun i _=>Nat.rec (motive:=fun _=>β) (Q x3) (fun i _=>Nat.rec (motive:=fun _=>β) (Q x4) (fun i _=>Nat.rec (motive:=fun _=>β) (Q x5) (fun i _=>Nat.rec (motive:=fun _=>β) (Q x6) (fun i _=>Nat.rec (motive:=fun _=>β) (Q x7) (fun i _=>e) i) i) i) i) i) i) i) i
theorem a0h {α β:Type} {G:β→Prop} {i:Nat} {e:β} {Q:α→β} {x0 x1 x2 x3 x4 x5 x6 x7:α} (he:G e) (h0:i=0→G (Q x0)) (h1:i=1→G (Q x1)) (h2:i=2→G (Q x2)) (h3:i=3→G (Q x3)) (h4:i=4→G (Q x4)) (h5:i=5→G (Q x5)) (h6:i=6→G (Q x6)) (h7:i=7→G (Q x7)):G (a7p i e Q x0 x1 x2 x3 x4 x5 x6 x7):=by
 match i,h0,h1,h2,h3,h4,h5,h6,h7 with
 | 0,h,_,_,_,_,_,_,_=>exact h rfl
 | 1,_,h,_,_,_,_,_,_=>exact h rfl
 | 2,_,_,h,_,_,_,_,_=>exact h rfl
 | 3,_,_,_,h,_,_,_,_=>exact h rfl
 | 4,_,_,_,_,h,_,_,_=>exact h rfl
 | 5,_,_,_,_,_,h,_,_=>exact h rfl
 | 6,_,_,_,_,_,_,h,_=>exact h rfl
 | 7,_,_,_,_,_,_,_,h=>exact h rfl
 | _+8,_,_,_,_,_,_,_,_=>exact he
abbrev Gt (ρ:Type):=Fr→(AV→Option ρ)→Option ρ
abbrev Wr (ρ:Type):=AV→Fr→(Fr→Option ρ)→Option ρ
section
variable {ρ β:Type}
noncomputable def a0v (i:Nat) (e:β) (Q:Gt ρ→β):β:=a7p (i / 8) e (fun o:Fr→(W8 AV→Option ρ)→Option ρ=>a7p (i % 8) e (fun n:W8 AV→(AV→Option ρ)→Option ρ=>Q fun fr k=>o fr fun w=>n w k)
 (fun w k=>W8.rec (motive:=fun _=>Option ρ) (fun x0 x1 x2 x3 x4 x5 x6 x7=>k x0) w)
 (fun w k=>W8.rec (motive:=fun _=>Option ρ) (fun x0 x1 x2 x3 x4 x5 x6 x7=>k x1) w)
 (fun w k=>W8.rec (motive:=fun _=>Option ρ) (fun x0 x1 x2 x3 x4 x5 x6 x7=>k x2) w)
 (fun w k=>W8.rec (motive:=fun _=>Option ρ) (fun x0 x1 x2 x3 x4 x5 x6 x7=>k x3) w)
 (fun w k=>W8.rec (motive:=fun _=>Option ρ) (fun x0 x1 x2 x3 x4 x5 x6 x7=>k x4) w)
 (fun w k=>W8.rec (motive:=fun _=>Option ρ) (fun x0 x1 x2 x3 x4 x5 x6 x7=>k x5) w)
 (fun w k=>W8.rec (motive:=fun _=>Option ρ) (fun x0 x1 x2 x3 x4 x5 x6 x7=>k x6) w)
 (fun w k=>W8.rec (motive:=fun _=>Option ρ) (fun x0 x1 x2 x3 x4 x5 x6 x7=>k x7) w))
 (fun w k=>W8.rec (motive:=fun _=>Option ρ) (fun x0 x1 x2 x3 x4 x5 x6 x7=>k x0) w)
 (fun w k=>W8.rec (motive:=fun _=>Option ρ) (fun x0 x1 x2 x3 x4 x5 x6 x7=>k x1) w)
 (fun w k=>W8.rec (motive:=fun _=>Option ρ) (fun x0 x1 x2 x3 x4 x5 x6 x7=>k x2) w)
 (fun w k=>W8.rec (motive:=fun _=>Option ρ) (fun x0 x1 x2 x3 x4 x5 x6 x7=>k x3) w)
 (fun w k=>W8.rec (motive:=fun _=>Option ρ) (fun x0 x1 x2 x3 x4 x5 x6 x7=>k x4) w)
 (fun w k=>W8.rec (motive:=fun _=>Option ρ) (fun x0 x1 x2 x3 x4 x5 x6 x7=>k x5) w)
 (fun w k=>W8.rec (motive:=fun _=>Option ρ) (fun x0 x1 x2 x3 x4 x5 x6 x7=>k x6) w)
 (fun w k=>W8.rec (motive:=fun _=>Option ρ) (fun x0 x1 x2 x3 x4 x5 x6 x7=>k x7) w)
theorem D1 {G:β→Prop} {i:Nat} {e:β} {Q:Gt ρ→β} (hi:i < 64) (he:G e) (h:∀ g:Gt ρ,(∀ fr k,g fr k=k (L0 i fr))→G (Q g)):G (a0v i e Q):=by
 refine a0h he ?_ ?_ ?_ ?_ ?_ ?_ ?_ ?_ <;> intro h1 <;> refine a0h he ?_ ?_ ?_ ?_ ?_ ?_ ?_ ?_ <;> intro h2 <;> refine h _ (fun fr k=>?_) <;> unfold L0 <;> rw [h1,h2] <;> cases fr with
  | mk w0 w1 w2 w3 w4 w5 w6 w7=>first|(cases w0; rfl)|(cases w1; rfl)|(cases w2; rfl)|(cases w3; rfl)|(cases w4; rfl)|(cases w5; rfl)|(cases w6; rfl)|(cases w7; rfl)
noncomputable def a5k (i:Nat) (e:β) (Q:Wr ρ→β):β:=a7p (i / 8) e (fun o:Fr→(W8 AV→(W8 AV→Option ρ)→Option ρ)→(Fr→Option ρ)→Option ρ=>a7p (i % 8) e (fun n:AV→W8 AV→(W8 AV→Option ρ)→Option ρ=>Q fun x fr k=>o fr (n x) k)
 (fun y w k=>W8.rec (motive:=fun _=>Option ρ) (fun x0 x1 x2 x3 x4 x5 x6 x7=>k (.mk y x1 x2 x3 x4 x5 x6 x7)) w)
 (fun y w k=>W8.rec (motive:=fun _=>Option ρ) (fun x0 x1 x2 x3 x4 x5 x6 x7=>k (.mk x0 y x2 x3 x4 x5 x6 x7)) w)
 (fun y w k=>W8.rec (motive:=fun _=>Option ρ) (fun x0 x1 x2 x3 x4 x5 x6 x7=>k (.mk x0 x1 y x3 x4 x5 x6 x7)) w)
 (fun y w k=>W8.rec (motive:=fun _=>Option ρ) (fun x0 x1 x2 x3 x4 x5 x6 x7=>k (.mk x0 x1 x2 y x4 x5 x6 x7)) w)
 (fun y w k=>W8.rec (motive:=fun _=>Option ρ) (fun x0 x1 x2 x3 x4 x5 x6 x7=>k (.mk x0 x1 x2 x3 y x5 x6 x7)) w)
 (fun y w k=>W8.rec (motive:=fun _=>Option ρ) (fun x0 x1 x2 x3 x4 x5 x6 x7=>k (.mk x0 x1 x2 x3 x4 y x6 x7)) w)
 (fun y w k=>W8.rec (motive:=fun _=>Option ρ) (fun x0 x1 x2 x3 x4 x5 x6 x7=>k (.mk x0 x1 x2 x3 x4 x5 y x7)) w)
 (fun y w k=>W8.rec (motive:=fun _=>Option ρ) (fun x0 x1 x2 x3 x4 x5 x6 x7=>k (.mk x0 x1 x2 x3 x4 x5 x6 y)) w))
 (fun w u k=>W8.rec (motive:=fun _=>Option ρ) (fun x0 x1 x2 x3 x4 x5 x6 x7=>u x0 fun y=>k (.mk y x1 x2 x3 x4 x5 x6 x7)) w)
 (fun w u k=>W8.rec (motive:=fun _=>Option ρ) (fun x0 x1 x2 x3 x4 x5 x6 x7=>u x1 fun y=>k (.mk x0 y x2 x3 x4 x5 x6 x7)) w)
 (fun w u k=>W8.rec (motive:=fun _=>Option ρ) (fun x0 x1 x2 x3 x4 x5 x6 x7=>u x2 fun y=>k (.mk x0 x1 y x3 x4 x5 x6 x7)) w)
 (fun w u k=>W8.rec (motive:=fun _=>Option ρ) (fun x0 x1 x2 x3 x4 x5 x6 x7=>u x3 fun y=>k (.mk x0 x1 x2 y x4 x5 x6 x7)) w)
 (fun w u k=>W8.rec (motive:=fun _=>Option ρ) (fun x0 x1 x2 x3 x4 x5 x6 x7=>u x4 fun y=>k (.mk x0 x1 x2 x3 y x5 x6 x7)) w)
 (fun w u k=>W8.rec (motive:=fun _=>Option ρ) (fun x0 x1 x2 x3 x4 x5 x6 x7=>u x5 fun y=>k (.mk x0 x1 x2 x3 x4 y x6 x7)) w)
 (fun w u k=>W8.rec (motive:=fun _=>Option ρ) (fun x0 x1 x2 x3 x4 x5 x6 x7=>u x6 fun y=>k (.mk x0 x1 x2 x3 x4 x5 y x7)) w)
 (fun w u k=>W8.rec (motive:=fun _=>Option ρ) (fun x0 x1 x2 x3 x4 x5 x6 x7=>u x7 fun y=>k (.mk x0 x1 x2 x3 x4 x5 x6 y)) w)
theorem a0n {G:β→Prop} {i:Nat} {e:β} {Q:Wr ρ→β} (hi:i < 64) (he:G e) (h:∀ g:Wr ρ,(∀ x fr k,g x fr k=k (a0a i x fr))→G (Q g)):G (a5k i e Q):=by
 refine a0h he ?_ ?_ ?_ ?_ ?_ ?_ ?_ ?_ <;> intro h1 <;> refine a0h he ?_ ?_ ?_ ?_ ?_ ?_ ?_ ?_ <;> intro h2 <;> refine h _ (fun x fr k=>?_) <;> unfold a0a <;> rw [h1,h2] <;> cases fr with
  | mk w0 w1 w2 w3 w4 w5 w6 w7=>first|(cases w0; rfl)|(cases w1; rfl)|(cases w2; rfl)|(cases w3; rfl)|(cases w4; rfl)|(cases w5; rfl)|(cases w6; rfl)|(cases w7; rfl)
noncomputable def a9M (i:Nat) (Q:(List AV→(AV→Option ρ)→Option ρ)→β):β:=Nat.rec (motive:=fun _=>((List AV→(AV→Option ρ)→Option ρ)→β)→β)
 (fun Q=>Q fun l k=>List.rec (motive:=fun _=>Option ρ) none (fun a _ _=>k a) l)
 (fun _ ih Q=>ih fun r=>Q fun l k=>List.rec (motive:=fun _=>Option ρ) none (fun _ t _=>r t k) l) i Q
theorem S9 {G:β→Prop}:∀ (i:Nat) {Q:(List AV→(AV→Option ρ)→Option ρ)→β},(∀ r:List AV→(AV→Option ρ)→Option ρ,(∀ l k,r l k=match l[i]? with|some a=>k a|none=>none)→G (Q r))→G (a9M i Q)
 | 0,Q,h=>h _ fun l k=>by cases l <;> rfl
 | i+1,Q,h=>S9 i fun r hr=>h _ fun l k=>by
  cases l with
  | nil=>rfl
  | cons a t=>show r t k=_; rw [hr]; simp
end
abbrev U:AV:=.undef
def u8:W8 AV:=.mk U U U U U U U U
noncomputable def b3m {ρ:Type} (l:List AV) (k:W8 AV→Option ρ):Option ρ:=List.rec (motive:=fun _=>Option ρ) (k (.mk U U U U U U U U)) (fun y0 l _=>List.rec (motive:=fun _=>Option ρ) (k (.mk y0 U U U U U U U)) (fun y1 l _=>List.rec (motive:=fun _=>Option ρ) (k (.mk y0 y1 U U U U U U)) (fun y2 l _=>List.rec (motive:=fun _=>Option ρ) (k (.mk y0 y1 y2 U U U U U)) (fun y3 l _=>List.rec (motive:=fun _=>Option ρ) (k (.mk y0 y1 y2 y3 U U U U)) (fun y4 l _=>List.rec (motive:=fun _=>Option ρ) (k (.mk y0 y1 y2 y3 y4 U U U)) (fun y5 l _=>List.rec (motive:=fun _=>Option ρ) (k (.mk y0 y1 y2 y3 y4 y5 U U)) (fun y6 l _=>List.rec (motive:=fun _=>Option ρ) (k (.mk y0 y1 y2 y3 y4 y5 y6 U)) (fun y7 l _=>List.rec (motive:=fun _=>Option ρ) (k (.mk y0 y1 y2 y3 y4 y5 y6 y7)) (fun _ _ _=>none) l) l) l) l) l) l) l) l) l
theorem j8P (i:Nat):pk8 i u8=U:=by
 show (match i with|0=>U|1=>U|2=>U|3=>U|4=>U|5=>U|6=>U|_=>U)=U
 split <;> rfl
theorem b6t {ρ:Type} {l:List AV} {k:W8 AV→Option ρ} {r:ρ} (h:b3m l k=some r):∃ w:W8 AV,k w=some r∧l.length≤8∧∀ i,i < 8→pk8 i w=l.getD i .undef:=by
 match l,h with
 | [],h=>exact ⟨_,h,by simp,fun i hi=>by rcases lt8 hi with rfl|rfl|rfl|rfl|rfl|rfl|rfl|rfl <;> rfl⟩
 | [y0],h=>exact ⟨_,h,by simp,fun i hi=>by rcases lt8 hi with rfl|rfl|rfl|rfl|rfl|rfl|rfl|rfl <;> rfl⟩
 | [y0,y1],h=>exact ⟨_,h,by simp,fun i hi=>by rcases lt8 hi with rfl|rfl|rfl|rfl|rfl|rfl|rfl|rfl <;> rfl⟩
 | [y0,y1,y2],h=>exact ⟨_,h,by simp,fun i hi=>by rcases lt8 hi with rfl|rfl|rfl|rfl|rfl|rfl|rfl|rfl <;> rfl⟩
 | [y0,y1,y2,y3],h=>exact ⟨_,h,by simp,fun i hi=>by rcases lt8 hi with rfl|rfl|rfl|rfl|rfl|rfl|rfl|rfl <;> rfl⟩
 | [y0,y1,y2,y3,y4],h=>exact ⟨_,h,by simp,fun i hi=>by rcases lt8 hi with rfl|rfl|rfl|rfl|rfl|rfl|rfl|rfl <;> rfl⟩
 | [y0,y1,y2,y3,y4,y5],h=>exact ⟨_,h,by simp,fun i hi=>by rcases lt8 hi with rfl|rfl|rfl|rfl|rfl|rfl|rfl|rfl <;> rfl⟩
 | [y0,y1,y2,y3,y4,y5,y6],h=>exact ⟨_,h,by simp,fun i hi=>by rcases lt8 hi with rfl|rfl|rfl|rfl|rfl|rfl|rfl|rfl <;> rfl⟩
 | [y0,y1,y2,y3,y4,y5,y6,y7],h=>exact ⟨_,h,by simp,fun i hi=>by rcases lt8 hi with rfl|rfl|rfl|rfl|rfl|rfl|rfl|rfl <;> rfl⟩
 | _::_::_::_::_::_::_::_::_::_,h=>cases h
def fr0 (w:W8 AV):Fr:=.mk w u8 u8 u8 u8 u8 u8 u8
theorem h4D {w:W8 AV} {l:List AV} {np nv:Nat} (hw:∀ i,i < 8→pk8 i w=l.getD i .undef) (hl:l.length=np) (h8:l.length≤8) (hnp:np≤nv) (hn:nv≤64):toL nv (fr0 w)=l++List.replicate (nv - np) .undef:=by
 apply List.ext_getElem
 · simp [toL,hl]; omega
 · intro j h1 h2
   have hj:j < nv:=by simpa [toL] using h1
   have hg:L0 j (fr0 w)=l.getD j .undef:=by
    unfold L0
    rcases Nat.lt_or_ge j 8 with h|h
    · rw [show j / 8=0 by omega,show j % 8=j by omega]
      exact hw j h
    · have:pk8 (j / 8) (fr0 w)=u8:=by
       rcases lt8 (show j / 8 < 8 by omega) with e|e|e|e|e|e|e|e <;> rw [e] <;> first|(exfalso; omega)|rfl
      rw [this,j8P,List.getD_eq_getElem?_getD,List.getElem?_eq_none (by omega)]
      rfl
   simp only [toL,List.getElem_map,List.getElem_range,hg]
   rw [List.getElem_append]
   split
   · rename_i h; simp [List.getD,h]
   · rename_i h; rw [List.getD_eq_getElem?_getD,List.getElem?_eq_none (by omega)]; simp
end Go.Cb.G
/-
 THE ABSTRACT MACHINE, part 44: operations, made ready once, run over fast frames.
-/
set_option maxRecDepth 4000
set_option linter.unusedVariables false
namespace Go.Cb.G
open Go Go.Cb
abbrev RO:=Option (AV×Fr×St)
abbrev Rd:=List AV→Fr→(AV→RO)→RO
inductive Src where
 | w (l:Nat)|s (l:Nat)|d (l:Nat)|k (a:AV)|q (a:AV)
abbrev Scope:=List (Nat×Src)
noncomputable def w9 (s:Nat) (sc:Scope):Option Src:=List.rec (motive:=fun _=>Option Src) none (fun p _ ih=>Prod.rec (motive:=fun _=>Option Src) (fun t x=>Bool.rec (motive:=fun _=>Option Src) ih (some x) (Nat.beq t s)) p) sc
theorem a0E (s t:Nat) (x:Src) (sc:Scope):w9 s ((t,x)::sc)=if t=s then some x else w9 s sc:=by
 show Bool.rec (motive:=fun _=>Option Src) (w9 s sc) (some x) (Nat.beq t s)=_
 by_cases h:t=s
 · rw [if_pos h,show Nat.beq t s=true by simpa using h]
 · rw [if_neg h,show Nat.beq t s=false from Bool.eq_false_iff.2 fun q=>h (Nat.eq_of_beq_eq_true q)]
def lv (env:List AV) (l:Nat):Option AV:=env.reverse[l]?
theorem k0R {env:List AV} {l:Nat} {a:AV} (x:AV) (h:lv env l=some a):lv (x::env) l=some a:=by
 unfold lv at *
 rw [List.reverse_cons,List.getElem?_append_left (by
  rcases Nat.lt_or_ge l env.reverse.length with q|q
  · exact q
  · rw [List.getElem?_eq_none q] at h; cases h)]
 exact h
theorem b07 (x:AV) (env:List AV):lv (x::env) env.length=some x:=by
 unfold lv
 rw [List.reverse_cons,List.getElem?_append_right (by simp)]
 simp
theorem a5O {env:List AV} {l d:Nat} {a:AV} (hd:env.length=d) (h:lv env l=some a):env[d - 1 - l]?=some a:=by
 unfold lv at h
 have hl:l < env.length:=by
  rcases Nat.lt_or_ge l env.reverse.length with q|q
  · simpa using q
  · rw [List.getElem?_eq_none q] at h; cases h
 rw [List.getElem?_reverse hl,hd] at h
 exact h
def SrcOK (env:List AV) (v:AV):Src→Prop
 | .w l=>∃ a,lv env l=some a∧v.weak=a
 | .s l=>∃ a,lv env l=some a∧v=a
 | .d l=>∃ a,lv env l=some a∧v.weak=a.weak
 | .k a=>v=a
 | .q a=>v.weak=a
theorem SrcOK.push {env:List AV} {v:AV} {x:Src} (y:AV) (h:SrcOK env v x):SrcOK (y::env) v x:=by
 cases x <;> simp only [SrcOK] at*<;> first|exact h|(obtain ⟨a,h1,h2⟩:=h; exact ⟨a,k0R y h1,h2⟩)
structure Ag (nv dep:Nat) (sc:Scope) (env:List AV) (fr:Fr) (σ:Sig):Prop where
 f:σ.fr=toL nv fr
 d:env.length=dep
 nb:∀ s,(σ.τ s).stripB=σ.τ s
 t:∀ s x,w9 s sc=some x→SrcOK env (σ.τ s) x

noncomputable def j6b (x:AV) (y z:RO):RO:=AV.rec (motive_1:=fun _=>RO) (motive_2:=fun _=>Unit) (motive_3:=fun _=>Unit)
 z (fun _=>z) (fun _ _=>z) (fun _=>z) (fun _ _ _=>z) (fun _ _=>z) z (fun _ _=>z) (fun _ _=>z) (fun _ _=>y) (fun _=>z) z (fun _ _ _ _ _=>z) z (fun _ _=>z) (fun _ _=>z) (fun _ _ _=>z) z (fun _ _ _ _=>z) (fun _ _=>z) z
 () (fun _ _ _ _=>()) () (fun _ _ _ _=>()) x
noncomputable def b4q (i:Nat) (x:AV) (k:AV→RO):RO:=j6b x (k (.loc i 0)) (k .undef)
theorem e88 (i:Nat) (x:AV) (k:AV→RO):b4q i x k=k (match x with|.box _=>.loc i 0|_=>.undef):=by cases x <;> rfl

section
variable {β:Type}
noncomputable def rdK (nv dep:Nat) (sc:Scope) (x:Opd) (e:β) (Q:Rd→β):β :=
 match x with
 | .t s=>match w9 s sc with
  | some (.w l)=>a9M (dep - 1 - l) fun r=>Q fun env _ k=>r env k
  | some (.s l)|some (.d l)=>a9M (dep - 1 - l) fun r=>Q fun env _ k=>r env fun x=>qWk x k
  | some (.k a)=>Q fun _ _ k=>k a.weak
  | some (.q a)=>Q fun _ _ k=>k a
  | none=>e
 | .ts s=>match w9 s sc with
  | some (.s l)=>a9M (dep - 1 - l) fun r=>Q fun env _ k=>r env k
  | some (.k a)=>Q fun _ _ k=>k a
  | _=>e
 | .v i=>match Nat.blt i nv with
  | true=>a0v i e fun g=>Q fun _ fr k=>g fr fun x=>qWk x k
  | false=>e
 | .vs i=>match Nat.blt i nv with
  | true=>a0v i e fun g=>Q fun _ fr k=>g fr k
  | false=>e
 | .l i=>match Nat.blt i nv with
  | true=>a0v i e fun g=>Q fun _ fr k=>g fr fun x=>b4q i x k
  | false=>e
 | .c a=>Q fun _ _ k=>k a
def f3t (nv dep:Nat) (sc:Scope) (x:Opd) (r:Rd):Prop:=∀ env fr σ,Ag nv dep sc env fr σ→∀ k,r env fr k=k (x.read σ)
theorem H6 {i n:Nat} (h:Nat.blt i n=true):i < n:=by simpa using h
theorem a3H {G:β→Prop} {nv dep:Nat} {sc:Scope} {x:Opd} {e:β} {Q:Rd→β} (hn:nv≤64) (he:G e) (h:∀ r,f3t nv dep sc x r→G (Q r)):G (rdK nv dep sc x e Q):=by
 unfold rdK
 cases x with
 | t s =>
  dsimp only
  cases hs:w9 s sc with
  | none=>exact he
  | some y =>
   cases y with
   | w l =>
    refine S9 _ fun r hr=>h _ fun env fr σ ha k=>?_
    obtain ⟨a,h1,h2⟩:=ha.t _ _ hs
    show r env k=_
    rw [hr,a5O ha.d h1,← h2]; rfl
   | s l =>
    refine S9 _ fun r hr=>h _ fun env fr σ ha k=>?_
    obtain ⟨a,h1,h2⟩:=ha.t _ _ hs
    show r env _=_
    rw [hr,a5O ha.d h1]
    show qWk a k=_
    rw [X5,← h2]; rfl
   | d l =>
    refine S9 _ fun r hr=>h _ fun env fr σ ha k=>?_
    obtain ⟨a,h1,h2⟩:=ha.t _ _ hs
    show r env _=_
    rw [hr,a5O ha.d h1]
    show qWk a k=_
    rw [X5,← h2]; rfl
   | k a =>
    refine h _ fun env fr σ ha k=>?_
    have:=ha.t _ _ hs
    show k a.weak=k (σ.τ s).weak
    rw [show σ.τ s=a from this]
   | q a =>
    refine h _ fun env fr σ ha k=>?_
    have:=ha.t _ _ hs
    show k a=k (σ.τ s).weak
    rw [show (σ.τ s).weak=a from this]
 | ts s =>
  dsimp only
  cases hs:w9 s sc with
  | none=>exact he
  | some y =>
   cases y with
   | s l =>
    refine S9 _ fun r hr=>h _ fun env fr σ ha k=>?_
    obtain ⟨a,h1,h2⟩:=ha.t _ _ hs
    show r env k=_
    rw [hr,a5O ha.d h1,← h2]; rfl
   | k a =>
    refine h _ fun env fr σ ha k=>?_
    have:=ha.t _ _ hs
    show k a=k (σ.τ s)
    rw [show σ.τ s=a from this]
   | _=>exact he
 | v i =>
  dsimp only
  cases hb:Nat.blt i nv with
  | false=>exact he
  | true =>
   have hi:=H6 hb
   refine D1 (by omega) he fun g hg=>h _ fun env fr σ ha k=>?_
   show g fr (fun x=>qWk x k)=k (σ.fr.getD i .undef).weak
   rw [hg,X5,ha.f,E4 hi]
 | vs i =>
  dsimp only
  cases hb:Nat.blt i nv with
  | false=>exact he
  | true =>
   have hi:=H6 hb
   refine D1 (by omega) he fun g hg=>h _ fun env fr σ ha k=>?_
   show g fr k=k (σ.fr.getD i .undef)
   rw [hg,ha.f,E4 hi]
 | l i =>
  dsimp only
  cases hb:Nat.blt i nv with
  | false=>exact he
  | true =>
   have hi:=H6 hb
   refine D1 (by omega) he fun g hg=>h _ fun env fr σ ha k=>?_
   show g fr (fun x=>b4q i x k)=_
   rw [hg,e88]
   show _=k (match σ.fr.getD i .undef with|.box _=>.loc i 0|_=>.undef)
   rw [ha.f,E4 hi]
 | c a=>exact h _ fun _ _ _ _ _=>rfl

def rdL (nv dep:Nat) (sc:Scope) (rd:Opd→β→(Rd→β)→β):List Opd→β→(List Rd→β)→β
 | [],_,Q=>Q []
 | x::xs,e,Q=>rd x e fun r=>rdL nv dep sc rd xs e fun rs=>Q (r::rs)
def a5Z (nv dep:Nat) (sc:Scope):List Opd→List Rd→Prop
 | [],[]=>True
 | x::xs,r::rs=>f3t nv dep sc x r∧a5Z nv dep sc xs rs
 | _,_=>False
theorem a6K {G:β→Prop} {nv dep:Nat} {sc:Scope} (hn:nv≤64):∀ {xs:List Opd} {e:β} {Q:List Rd→β},G e→(∀ rs,a5Z nv dep sc xs rs→G (Q rs))→G (rdL nv dep sc (fun x e Q=>rdK nv dep sc x e Q) xs e Q)
 | [],e,Q,he,h=>h [] trivial
 | x::xs,e,Q,he,h=>by
  unfold rdL
  exact a3H hn he fun r hr=>a6K hn he fun rs hrs=>h _ ⟨hr,hrs⟩
end
def a0s:List Rd→List AV→Fr→(List AV→RO)→RO
 | [],_,_,k=>k []
 | r::rs,env,fr,k=>r env fr fun x=>a0s rs env fr fun xs=>k (x::xs)
theorem X6 {nv dep:Nat} {sc:Scope} {env:List AV} {fr:Fr} {σ:Sig} (ha:Ag nv dep sc env fr σ):∀ {xs:List Opd} {rs:List Rd} {k:List AV→RO},a5Z nv dep sc xs rs→a0s rs env fr k=k (xs.map (·.read σ))
 | [],[],k,_=>rfl
 | x::xs,r::rs,k,h=>by
  show r env fr _=_
  rw [h.1 env fr σ ha,X6 ha h.2]
  rfl
 | [],_::_,_,h=>h.elim
 | _::_,[],_,h=>h.elim
section
variable {β:Type}
abbrev RdA:=List AV→Fr→(List AV→RO)→RO
noncomputable def b0P (rs:List Rd) (Q:RdA→β):β:=List.rec (motive:=fun _=>(RdA→β)→β) (fun Q=>Q fun _ _ k=>k []) (fun r _ ih Q=>ih fun ra=>Q fun env fr k=>r env fr fun x=>ra env fr fun xs=>k (x::xs)) rs Q
theorem a0c {G:β→Prop}:∀ {rs:List Rd} {Q:RdA→β},(∀ ra:RdA,(∀ env fr k,ra env fr k=a0s rs env fr k)→G (Q ra))→G (b0P rs Q)
 | [],Q,h=>h _ fun _ _ _=>rfl
 | r::rs,Q,h=>a0c (rs:=rs) fun ra hra=>h _ fun env fr k=>by
  show r env fr _=r env fr _
  congr
  funext x
  exact hra _ _ _

/-! kinds -/
abbrev KF:=b5→List AV→Fr→AV→St→(AV→AV→St→RO)→RO
def b4C (kd:Kind) (rs:List Rd) (kf:KF):Prop:=∀ c env fr b s K,kf c env fr b s K=a0s rs env fr fun as=>b9 (sem kd c as b s) fun p=>K p.1 p.2.1 p.2.2
theorem l7 {kd:Kind} (h1:kd.setSt=false) (h2:kd.alters=false) (c:b5) (as:List AV) (b:AV) (s:St) (K:AV→AV→St→RO):b9 (p1 (sem kd c as b s)) (fun r=>K r b s)=b9 (sem kd c as b s) fun p=>K p.1 p.2.1 p.2.2:=by
 cases hs:sem kd c as b s with
 | none=>rfl
 | some p =>
  obtain ⟨r,b',s'⟩:=p
  have e1:=a0F h1 hs
  have e2:=a0Y h2 hs
  subst e1 e2
  rfl
theorem a1z {kd:Kind} (h2:kd.alters=false) (c:b5) (as:List AV) (b:AV) (s:St) (K:AV→AV→St→RO):b9 (p2 (sem kd c as b s)) (fun r=>K r.1 b r.2)=b9 (sem kd c as b s) fun p=>K p.1 p.2.1 p.2.2:=by
 cases hs:sem kd c as b s with
 | none=>rfl
 | some p =>
  obtain ⟨r,b',s'⟩:=p
  have e2:=a0Y h2 hs
  subst e2
  rfl
noncomputable def a6R (c:b5) (s:St) (K:AV→St→RO) (i:Nat) (xs:List AV):RO:=a4b xs fun ws=>b4z (c i ws s) fun v s=>K v s
noncomputable def b0M (c:b5) (b:AV) (s:St) (f:AV→RO) (g:Bool) (d:Nat) (x:AV):RO:=a5U x (b9 (p1 (sem (.ldAn g d) c [x] b s)) f) (fun o i=>a1t s f g d (.ptr o i)) (fun cs=>a4v f g d (.ro cs)) (fun _ _=>b9 (p1 (sem (.ldAn g d) c [x] b s)) f)
theorem b26 (c:b5) (b:AV) (s:St) (f:AV→RO) (g:Bool) (d:Nat) (x:AV):b0M c b s f g d x=b9 (p1 (sem (.ldAn g d) c [x] b s)) f:=by
 unfold b0M
 rw [a3r]
 cases x <;> try rfl
 · rename_i o i
   show a1t s f g d (.ptr o i)=_
   rw [a6J c b s]; rfl
 · rename_i cs
   show a4v f g d (.ro cs)=_
   rw [a7h c b s]; rfl
noncomputable def b4o {β:Type} (l:List β) (x:β) (k:List β→RO):RO:=Nat.rec (motive:=fun _=>List β→(List β→RO)→RO) (fun l k=>a3B l [x] k) (fun _ ih l k=>a1o l (k (l++[x])) ih k) (Nat.div (B3 l) 8) l k
theorem a8X {β:Type} (x:β):∀ (q:Nat) (l:List β) (k:List β→RO),Nat.rec (motive:=fun _=>List β→(List β→RO)→RO) (fun l k=>a3B l [x] k) (fun _ ih l k=>a1o l (k (l++[x])) ih k) q l k=k (l++[x])
 | 0,l,k=>a2D [x] l k
 | q+1,l,k=>by
  show a1o l (k (l++[x])) (fun l k=>Nat.rec (motive:=fun _=>List β→(List β→RO)→RO) (fun l k=>a3B l [x] k) (fun _ ih l k=>a1o l (k (l++[x])) ih k) q l k) k=_
  rw [a8O]
  split
  · rw [a8X x q (l.drop 8),← List.append_assoc,List.take_append_drop]
  · rfl
theorem a9x {β:Type} (l:List β) (x:β) (k:List β→RO):b4o l x k=k (l++[x]):=a8X x _ l k
noncomputable def b0O (s:St) (f:AV×St→RO) (x:AV):RO:=plB x (fL x.cellsW fun cs=>a1y (B3 s) fun n=>b4o s (.cells cs) fun s'=>f (.ptr n 0,s'))
theorem b4D (c:b5) (b:AV) (s:St) (f:AV×St→RO) (x:AV):b0O s f x=b9 (p2 (sem .boxO c [x] b s)) f:=by
 simp only [b0O,a4U,fL_eq,P7,x8,a9x,sem,I9]
 by_cases h:x.plain=true <;> simp [h,b9,p2]
noncomputable def a2E (s:St) (f:AV×St→RO) (z:List AV):RO:=a1y (B3 s) fun n=>b4o s (.cells z) fun s'=>f (.ptr n 0,s')
theorem b0l (c:b5) (b:AV) (s:St) (f:AV×St→RO) (z:List AV):a2E s f z=b9 (p2 (sem (.allocO z) c [] b s)) f:=by
 simp only [a2E,P7,x8,a9x,sem,C6]
 rfl
noncomputable def a6O (c:b5) (s:St) (K:AV→St→RO) (as:List AV):RO:=match as with
 | .func f a cs::xs=>a4b xs fun _=>b4z (c f ((a++xs++cs).map AV.weak) s) fun v s=>K v s
 | _=>none
noncomputable def b4p (kd:Kind) (ra:RdA) (Q:KF→β):β:=match kd.alters with
 | true=>Q fun c env fr b s K=>ra env fr fun as=>b9 (sem kd c as b s) fun p=>a0B p.1 fun r=>a0B p.2.1 fun b=>fL p.2.2 fun s=>K r b s
 | false=>match kd.setSt with
  | true=>Q fun c env fr b s K=>ra env fr fun as=>b9 (p2 (sem kd c as b s)) fun p=>a0B p.1 fun r=>fL p.2 fun s=>K r b s
  | false=>Q fun c env fr b s K=>ra env fr fun as=>b9 (p1 (sem kd c as b s)) fun x=>a0B x fun r=>K r b s
noncomputable def b0S (kd:Kind) (rs:List Rd) (Q:KF→β):β :=
 match kd,rs with
 | .mv,[x]=>Q fun c env fr b s K=>x env fr fun x=>K x b s
 | .bin .eql,[x,y]=>Q fun c env fr b s K=>x env fr fun x=>y env fr fun y=>b2H (fun r=>K r b s) x y
 | .bin .neq,[x,y]=>Q fun c env fr b s K=>x env fr fun x=>y env fr fun y=>b4e (fun r=>K r b s) x y
 | .bin .lss,[x,y]=>Q fun c env fr b s K=>x env fr fun x=>y env fr fun y=>a0z c b s (fun r=>K r b s) .lss Nat.blt x y
 | .bin .leq,[x,y]=>Q fun c env fr b s K=>x env fr fun x=>y env fr fun y=>a0z c b s (fun r=>K r b s) .leq Nat.ble x y
 | .bin .gtr,[x,y]=>Q fun c env fr b s K=>x env fr fun x=>y env fr fun y=>a0z c b s (fun r=>K r b s) .gtr (fun i j=>Nat.blt j i) x y
 | .bin .geq,[x,y]=>Q fun c env fr b s K=>x env fr fun x=>y env fr fun y=>a0z c b s (fun r=>K r b s) .geq (fun i j=>Nat.ble j i) x y
 | .bin .add,[x,y]=>Q fun c env fr b s K=>x env fr fun x=>y env fr fun y=>b2D c b s (fun r=>K r b s) x y
 | .bin .sub,[x,y]=>Q fun c env fr b s K=>x env fr fun x=>y env fr fun y=>b4d c b s (fun r=>K r b s) x y
 | .un .not,[x]=>Q fun c env fr b s K=>x env fr fun x=>b2L (fun r=>K r b s) x
 | .nilchk,[x]=>Q fun c env fr b s K=>x env fr fun x=>b3R c b s (fun r=>K r b s) x
 | .lenS,[x]=>Q fun c env fr b s K=>x env fr fun x=>b0m (fun r=>K r b s) x
 | .lenL,[x]=>Q fun c env fr b s K=>x env fr fun x=>b0k c b s (fun r=>K r b s) x
 | .idxS,[x,y]=>Q fun c env fr b s K=>x env fr fun x=>y env fr fun y=>b4O (fun r=>K r b s) x y
 | .pick,[x,y,z]=>Q fun c env fr b s K=>x env fr fun x=>y env fr fun y=>z env fr fun z=>b0V (fun r=>K r b s) x y z
 | .fad d,[x]=>Q fun c env fr b s K=>x env fr fun x=>b4n (fun r=>K r b s) d x
 | .iad d,[x,y]=>Q fun c env fr b s K=>x env fr fun x=>y env fr fun y=>b3y c b s (fun r=>K r b s) d x y
 | .ldSt g d,[x]=>Q fun c env fr b s K=>x env fr fun x=>a1t s (fun r=>K r b s) g d x
 | .ldRo g d,[x]=>Q fun c env fr b s K=>x env fr fun x=>a4v (fun r=>K r b s) g d x
 | .ldAn g d,[x]=>Q fun c env fr b s K=>x env fr fun x=>b0M c b s (fun r=>K r b s) g d x
 | .ldLc i g d,[x]=>Q fun c env fr b s K=>x env fr fun x=>b0z b (fun r=>K r b s) i g d x
 | .ext d,[x]=>Q fun c env fr b s K=>x env fr fun x=>b3w (fun r=>K r b s) d x
 | .slS true true,[x,y,z]=>Q fun c env fr b s K=>x env fr fun x=>y env fr fun y=>z env fr fun z=>b4F c b s (fun r=>K r b s) x y z
 | .app d e,[x,y]=>Q fun c env fr b s K=>x env fr fun x=>y env fr fun y=>b3c b s (fun p=>K p.1 p.2.1 p.2.2) d e x y
 | .alloc d,[]=>Q fun c env fr b s K=>a6M b s (fun p=>K p.1 p.2.1 p.2.2) d
 | .stLc i d,[x,y]=>Q fun c env fr b s K=>x env fr fun x=>y env fr fun y=>b0N b s (fun p=>K p.1 p.2.1 p.2.2) i d x y
 | .stSt d,[x,y]=>Q fun c env fr b s K=>x env fr fun x=>y env fr fun y=>b0Q s (fun p=>K p.1 b p.2) d x y
 | .boxO,[x]=>Q fun c env fr b s K=>x env fr fun x=>b0O s (fun p=>K p.1 b p.2) x
 | .allocO z,[]=>Q fun c env fr b s K=>a2E s (fun p=>K p.1 b p.2) z
 | .callV,rs=>b0P rs fun ra=>Q fun c env fr b s K=>ra env fr fun as=>a6O c s (fun v s=>K v b s) as
 | .call f,rs=>b0P rs fun ra=>Q fun c env fr b s K=>ra env fr fun as=>a6R c s (fun v s=>K v b s) f as
 | kd,rs=>b0P rs fun ra=>b4p kd ra Q
theorem b2t {G:β→Prop} {kd:Kind} {rs:List Rd} {ra:RdA} {Q:KF→β} (hra:∀ env fr k,ra env fr k=a0s rs env fr k) (h:∀ kf,b4C kd rs kf→G (Q kf)):G (b4p kd ra Q):=by
 unfold b4p
 cases h2:kd.alters with
 | true=>exact h _ fun c env fr b s K=>by rw [hra]; simp only [fNew_eq,fL_eq]
 | false =>
  cases h1:kd.setSt with
  | true =>
   refine h _ fun c env fr b s K=>?_
   rw [hra]; simp only [fNew_eq,fL_eq]
   congr; funext as
   exact a1z h2 c as b s K
  | false =>
   refine h _ fun c env fr b s K=>?_
   rw [hra]; simp only [fNew_eq]
   congr; funext as
   exact l7 h1 h2 c as b s K
theorem I0 (x:Rd) (env:List AV) (fr:Fr) (k:List AV→RO):a0s [x] env fr k=x env fr fun x=>k [x]:=rfl
theorem E2 (x y:Rd) (env:List AV) (fr:Fr) (k:List AV→RO):a0s [x,y] env fr k=x env fr fun x=>y env fr fun y=>k [x,y]:=rfl
theorem b1R (x y z:Rd) (env:List AV) (fr:Fr) (k:List AV→RO):a0s [x,y,z] env fr k=x env fr fun x=>y env fr fun y=>z env fr fun z=>k [x,y,z]:=rfl
theorem a9L {G:β→Prop} {kd:Kind} {rs:List Rd} {Q:KF→β} (h:∀ kf,b4C kd rs kf→G (Q kf)):G (b0S kd rs Q):=by
 unfold b0S
 split
 · exact h _ fun c env fr b s K=>rfl
 · exact h _ fun c env fr b s K=>by rw [E2]; congr; funext x; congr; funext y; rw [d6f c b s]; exact l7 rfl rfl ..
 · exact h _ fun c env fr b s K=>by rw [E2]; congr; funext x; congr; funext y; rw [e8r c b s]; exact l7 rfl rfl ..
 · exact h _ fun c env fr b s K=>by rw [E2]; congr; funext x; congr; funext y; rw [g2n c b s]; exact l7 rfl rfl ..
 · exact h _ fun c env fr b s K=>by rw [E2]; congr; funext x; congr; funext y; rw [i8d c b s]; exact l7 rfl rfl ..
 · exact h _ fun c env fr b s K=>by rw [E2]; congr; funext x; congr; funext y; rw [f8u c b s]; exact l7 rfl rfl ..
 · exact h _ fun c env fr b s K=>by rw [E2]; congr; funext x; congr; funext y; rw [g6e c b s]; exact l7 rfl rfl ..
 · exact h _ fun c env fr b s K=>by rw [E2]; congr; funext x; congr; funext y; rw [e2g c b s]; exact l7 rfl rfl ..
 · exact h _ fun c env fr b s K=>by rw [E2]; congr; funext x; congr; funext y; rw [d8b c b s]; exact l7 rfl rfl ..
 · exact h _ fun c env fr b s K=>by rw [I0]; congr; funext x; rw [d7h c b s]; exact l7 rfl rfl ..
 · exact h _ fun c env fr b s K=>by rw [I0]; congr; funext x; rw [b8W c b s]; exact l7 rfl rfl ..
 · exact h _ fun c env fr b s K=>by rw [I0]; congr; funext x; rw [b4f c b s]; exact l7 rfl rfl ..
 · exact h _ fun c env fr b s K=>by rw [I0]; congr; funext x; rw [b3H c b s]; exact l7 rfl rfl ..
 · exact h _ fun c env fr b s K=>by rw [E2]; congr; funext x; congr; funext y; rw [e57 c b s]; exact l7 rfl rfl ..
 · exact h _ fun c env fr b s K=>by rw [b1R]; congr; funext x; congr; funext y; congr; funext z; rw [b2T c b s]; exact l7 rfl rfl ..
 · exact h _ fun c env fr b s K=>by rw [I0]; congr; funext x; rw [e4x c b s]; exact l7 rfl rfl ..
 · exact h _ fun c env fr b s K=>by rw [E2]; congr; funext x; congr; funext y; rw [d6A c b s]; exact l7 rfl rfl ..
 · exact h _ fun c env fr b s K=>by rw [I0]; congr; funext x; rw [a6J c b s]; exact l7 rfl rfl ..
 · exact h _ fun c env fr b s K=>by rw [I0]; congr; funext x; rw [a7h c b s]; exact l7 rfl rfl ..
 · exact h _ fun c env fr b s K=>by rw [I0]; congr; funext x; rw [b26 c b s]; exact l7 rfl rfl ..
 · exact h _ fun c env fr b s K=>by rw [I0]; congr; funext x; rw [b20 c b s]; exact l7 rfl rfl ..
 · exact h _ fun c env fr b s K=>by rw [I0]; congr; funext x; rw [b5Z c b s]; exact l7 rfl rfl ..
 · exact h _ fun c env fr b s K=>by rw [b1R]; congr; funext x; congr; funext y; congr; funext z; rw [f0N c b s]; exact l7 rfl rfl ..
 · exact h _ fun c env fr b s K=>by rw [E2]; congr; funext x; congr; funext y; exact c1R c b s ..
 · exact h _ fun c env fr b s K=>b1s c b s ..
 · exact h _ fun c env fr b s K=>by rw [E2]; congr; funext x; congr; funext y; exact b3a c b s ..
 · exact h _ fun c env fr b s K=>by rw [E2]; congr; funext x; congr; funext y; rw [b4P c b s]; exact a1z rfl ..
 · exact h _ fun c env fr b s K=>by rw [I0]; congr; funext x; rw [b4D c b s]; exact a1z rfl ..
 · exact h _ fun c env fr b s K=>by show a2E s (fun p=>K p.1 b p.2) _=_; rw [b0l c b s]; exact a1z rfl ..
 · refine a0c fun ra hra=>h _ fun c env fr b s K=>?_
   rw [hra]
   congr; funext as
   show a6O c s (fun v s=>K v b s) as=_
   unfold a6O
   simp only [sem,D5]
   split
   · rename_i f a cs xs
     rw [a2f]
     dsimp only
     split
     · rw [a9m]
       cases c f ((a++xs++cs).map AV.weak) s <;> rfl
     · rfl
   · rename_i hno
     split
     · rename_i f a cs xs
       exact absurd rfl (hno f a cs xs)
     · rfl
 · refine a0c fun ra hra=>h _ fun c env fr b s K=>?_
   rw [hra]
   congr; funext as
   show a6R c s (fun v s=>K v b s) _ as=_
   unfold a6R
   rw [a2f]
   simp only [sem,l3]
   split
   · rw [a9m]
     cases c _ (as.map AV.weak) s <;> rfl
   · rfl
 · exact a0c fun ra hra=>b2t hra h
end
end Go.Cb.G
/-
 THE ABSTRACT MACHINE, part 45: regions, made ready once.
-/
set_option maxRecDepth 4000
set_option linter.unusedVariables false
namespace Go.Cb.G
open Go Go.Cb
inductive Clo where
 | mk (f:b5→List AV→Fr→St→RO)
noncomputable def Clo.run (x:Clo):b5→List AV→Fr→St→RO:=Clo.rec (motive:=fun _=>b5→List AV→Fr→St→RO) (fun f=>f) x
noncomputable def S6:Clo:=.mk fun _ _ _ _=>none
abbrev OpF:=b5→List AV→Fr→St→(List AV→Fr→St→RO)→RO
abbrev CF:=b5→List AV→Fr→St→(AV→Fr→St→RO)→RO
section
variable {β:Type}
noncomputable def a2i:List Opd→Scope→Scope
 | [],sc=>sc
 | .ts s::xs,sc=>a2i xs (match w9 s sc with
  | some (.s l)=>(s,.d l)::sc
  | some (.k a)=>(s,.q a.weak)::sc
  | _=>sc)
 | _::xs,sc=>a2i xs sc
noncomputable def a1a (nv:Nat):List Opd→β→((Fr→(Fr→RO)→RO)→β)→β
 | [],_,Q=>Q fun fr k=>k fr
 | .vs i::xs,e,Q=>match Nat.blt i nv with
  | true=>a0v i e fun g=>a5k i e fun p=>a1a nv xs e fun r=>Q fun fr k=>g fr fun x=>qWk x fun x=>p x fr fun fr=>r fr k
  | false=>e
 | _::xs,e,Q=>a1a nv xs e Q
def b0v:List Opd→Bool
 | []=>false
 | .vs _::_=>true
 | _::xs=>b0v xs
noncomputable def b0b (nv:Nat) (kd:Kind) (args:List Opd) (box:Option Nat) (kf:KF) (e:β) (Q:CF→β):β :=
 match b0v args,box with
 | false,none=>Q fun c env fr st K=>kf c env fr .undef st fun r _ s=>K r fr s
 | true,none=>a1a nv args e fun sp=>Q fun c env fr st K=>kf c env fr .undef st fun r _ s=>sp fr fun fr=>K r fr s
 | vs,some i=>match Nat.blt i nv with
  | false=>e
  | true=>a0v i e fun g=>match kd.alters || vs with
   | false=>Q fun c env fr st K=>g fr fun b=>kf c env fr b st fun r _ s=>K r fr s
   | true=>a1a nv args e fun sp=>a5k i e fun p=>Q fun c env fr st K=>g fr fun b=>kf c env fr b st fun r b s=>sp fr fun fr=>p b fr fun fr=>K r fr s
abbrev PF:=AV→List AV→Fr→St→(List AV→Fr→St→RO)→RO
def b35 (x:Nat):List Nat→Bool
 | []=>false
 | y::ys=>Nat.beq x y || b35 x ys
noncomputable def b25 (nv dep:Nat) (tss:List Nat) (d:Dst) (sc:Scope) (e:β) (Q:PF→Nat→Scope→β):β :=
 match d with
 | .t s=>match b35 s tss with
  | true=>Q (fun r env fr s k=>qSb r fun v _=>k (v::env) fr s) (dep+1) ((s,.s dep)::sc)
  | false=>Q (fun r env fr s k=>qSb r fun _ w=>k (w::env) fr s) (dep+1) ((s,.w dep)::sc)
 | .v i=>match Nat.blt i nv with
  | true=>a5k i e fun p=>Q (fun r env fr s k=>qSv r fun v _=>p v fr fun fr=>k env fr s) dep sc
  | false=>e
 | _=>Q (fun r env fr s k=>k env fr s) dep sc
noncomputable def qGd (q:AV) (w:Bool) (x y:RO):RO:=f4r q none (fun v=>bW v w x y) (fun vs=>List.rec (motive:=fun _=>RO) y (fun _ _ _=>none) vs)
theorem h7E (q:AV) (w:Bool) (x y:RO):qGd q w x y=match q with|.bool b=>if b == w then x else y|.tuple []=>y|_=>none:=by
 simp only [qGd,c5y,j4G]
 cases q <;> try rfl
 rename_i vs; cases vs <;> rfl
def a4Y (o:AOper):Option (Nat×Opd):=match o with
 | ⟨.t s,.mv,[.t s'],none,none⟩=>some (s,.t s')
 | ⟨.t s,.mv,[.c a],none,none⟩=>some (s,.c a)
 | _=>none
noncomputable def opK (nv dep:Nat) (sc:Scope) (tss:List Nat) (o:AOper) (e:β) (Q0:Scope→β) (Q:OpF→Nat→Scope→β):β :=
 match a4Y o with
 | some (s,.t s')=>match w9 s' sc with
  | some (.w l)=>Q0 ((s,.w l)::sc)
  | some (.s l)|some (.d l)=>Q0 ((s,.d l)::sc)
  | some (.k a)=>Q0 ((s,.q a.weak)::sc)
  | some (.q a)=>Q0 ((s,.q a)::sc)
  | none=>e
 | some (s,.c a)=>Q0 ((s,.k a.stripB)::sc)
 | _=>rdL nv dep sc (fun x e Q=>rdK nv dep sc x e Q) o.args e fun rs=>b0S o.kind rs fun kf=>b0b nv o.kind o.args o.box kf e fun cf =>
  b25 nv dep tss o.dst (a2i o.args sc) e fun pf dep' sc'=>match o.guard with
   | none=>Q (fun c env fr st k=>cf c env fr st fun r fr s=>pf r env fr s k) dep' sc'
   | some (x,w)=>rdK nv dep sc x e fun g=>Q (fun c env fr st k=>g env fr fun q=>qGd q w (cf c env fr st fun r fr s=>pf r env fr s k) (pf (.tuple []) env fr st k)) dep' sc'

/-! what is true of them -/
theorem a9j {v:AV} (h:v.stripB=v):v.weak.stripB=v.weak:=by cases v <;> first|rfl|cases h
theorem a3a (v:AV):v.stripB.stripB=v.stripB:=by cases v <;> rfl
theorem X2 (τ:Nat→AV) (s:Nat) (a:AV) (j:Nat):m4 τ s a j=if j=s then a else τ j:=by
 unfold m4
 by_cases h:j=s
 · subst h; simp
 · rw [if_neg h]; simp [h]
theorem B1 {nv:Nat} (hn:nv≤64):∀ (xs:List Opd) {G:β→Prop} {e:β} {Q:(Fr→(Fr→RO)→RO)→β},G e →
 (∀ sp:Fr→(Fr→RO)→RO,(∀ fr σ,σ.fr=toL nv fr→∃ fr',(∀ k,sp fr k=k fr')∧(b6 xs σ).fr=toL nv fr')→G (Q sp))→G (a1a nv xs e Q)
 | [],G,e,Q,he,h=>h _ fun fr σ hf=>⟨fr,fun _=>rfl,hf⟩
 | x::xs,G,e,Q,he,h=>by
  cases x with
  | vs i =>
   unfold a1a
   cases hb:Nat.blt i nv with
   | false=>exact he
   | true =>
    have hi:=H6 hb
    refine D1 (by omega) he fun g hg=>a0n (by omega) he fun p hp=>B1 hn xs he fun sp hsp=>h _ fun fr σ hf=>?_
    obtain ⟨fr',h1,h2⟩:=hsp (a0a i (L0 i fr).weak fr) (Opd.spend (.vs i) σ) (by
     show σ.fr.set i (σ.fr.getD i .undef).weak=_
     rw [hf,E4 hi,a0O hi hn])
    refine ⟨fr',fun k=>?_,h2⟩
    show g fr (fun x=>qWk x fun x=>p x fr fun fr=>sp fr k)=_
    rw [hg,X5,hp,h1]
  | ts s=>exact B1 hn xs he fun sp hsp=>h sp fun fr σ hf=>hsp fr (Opd.spend (.ts s) σ) hf
  | t s=>exact B1 hn xs he fun sp hsp=>h sp fun fr σ hf=>hsp fr σ hf
  | v s=>exact B1 hn xs he fun sp hsp=>h sp fun fr σ hf=>hsp fr σ hf
  | l s=>exact B1 hn xs he fun sp hsp=>h sp fun fr σ hf=>hsp fr σ hf
  | c s=>exact B1 hn xs he fun sp hsp=>h sp fun fr σ hf=>hsp fr σ hf
def a2p (sc:Scope) (env:List AV) (τ:Nat→AV):Prop:=∀ s x,w9 s sc=some x→SrcOK env (τ s) x
theorem A5 {env:List AV}:∀ {xs:List Opd} {sc:Scope} {σ:Sig},a2p sc env σ.τ→(∀ s,(σ.τ s).stripB=σ.τ s) →
 a2p (a2i xs sc) env σ.τ∧a2p (a2i xs sc) env (b6 xs σ).τ∧(∀ s,((b6 xs σ).τ s).stripB=(b6 xs σ).τ s)∧(b6 xs σ).st=σ.st
 | [],sc,σ,h,hb=>⟨h,h,hb,rfl⟩
 | x::xs,sc,σ,h,hb=>by
  cases x with
  | ts s =>
   have hw:∀ (v:AV),v=σ.τ s∨v=(σ.τ s).weak→∀ y,w9 s (match w9 s sc with|some (.s l)=>(s,.d l)::sc|some (.k a)=>(s,.q a.weak)::sc|_=>sc)=some y→SrcOK env v y:=by
    intro v hv y hy
    have hw':v.weak=(σ.τ s).weak:=by rcases hv with rfl|rfl; rfl; exact r5 _
    cases hs:w9 s sc with
    | none=>rw [hs] at hy; dsimp only at hy; rw [hs] at hy; cases hy
    | some z =>
     have hz:=h _ _ hs
     rw [hs] at hy
     cases z with
     | s l =>
      dsimp only at hy
      rw [a0E,if_pos rfl] at hy
      cases hy
      obtain ⟨a,h1,h2⟩:=hz
      exact ⟨a,h1,by rw [hw',h2]⟩
     | k a =>
      dsimp only at hy
      rw [a0E,if_pos rfl] at hy
      cases hy
      show v.weak=a.weak
      rw [hw',show σ.τ s=a from hz]
     | w l =>
      dsimp only at hy
      rw [hs] at hy
      cases hy
      obtain ⟨a,h1,h2⟩:=hz
      exact ⟨a,h1,by rw [hw',h2]⟩
     | d l =>
      dsimp only at hy
      rw [hs] at hy
      cases hy
      obtain ⟨a,h1,h2⟩:=hz
      exact ⟨a,h1,by rw [hw',h2]⟩
     | q a =>
      dsimp only at hy
      rw [hs] at hy
      cases hy
      show v.weak=a
      rw [hw']
      exact hz
   have ho:∀ t,t≠s→∀ y,w9 t (match w9 s sc with|some (.s l)=>(s,.d l)::sc|some (.k a)=>(s,.q a.weak)::sc|_=>sc)=some y→w9 t sc=some y:=by
    intro t ht y hy
    cases hs:w9 s sc with
    | none=>rw [hs] at hy; exact hy
    | some z =>
     rw [hs] at hy
     cases z <;> dsimp only at hy <;> first|exact hy|(rw [a0E,if_neg (fun q=>ht q.symm)] at hy; exact hy)
   have h1:a2p (match w9 s sc with|some (.s l)=>(s,.d l)::sc|some (.k a)=>(s,.q a.weak)::sc|_=>sc) env σ.τ:=fun t y hy=>by
    by_cases e:t=s
    · subst e; exact hw _ (.inl rfl) y hy
    · exact h _ _ (ho t e y hy)
   have h2:a2p (match w9 s sc with|some (.s l)=>(s,.d l)::sc|some (.k a)=>(s,.q a.weak)::sc|_=>sc) env (Opd.spend (.ts s) σ).τ:=fun t y hy=>by
    show SrcOK env (m4 σ.τ s (σ.τ s).weak t) y
    rw [X2]
    by_cases e:t=s
    · subst e; rw [if_pos rfl]; exact hw _ (.inr rfl) y hy
    · rw [if_neg e]; exact h _ _ (ho t e y hy)
   have hb2:∀ t,((Opd.spend (.ts s) σ).τ t).stripB=(Opd.spend (.ts s) σ).τ t:=fun t=>by
    show (m4 σ.τ s (σ.τ s).weak t).stripB=m4 σ.τ s (σ.τ s).weak t
    rw [X2]
    split
    · exact a9j (hb s)
    · exact hb t
   have a:=A5 (xs:=xs) h1 hb
   have b:=A5 (xs:=xs) h2 hb2
   exact ⟨a.1,b.2.1,b.2.2.1,b.2.2.2⟩
  | vs i =>
   have a:=A5 (xs:=xs) h hb
   have b:=A5 (xs:=xs) (σ:=Opd.spend (.vs i) σ) h hb
   exact ⟨a.1,b.2.1,b.2.2.1,b.2.2.2⟩
  | t s=>exact A5 (xs:=xs) h hb
  | v s=>exact A5 (xs:=xs) h hb
  | l s=>exact A5 (xs:=xs) h hb
  | c s=>exact A5 (xs:=xs) h hb
theorem a7E {xs:List Opd} (h:b0v xs=false):∀ σ:Sig,(b6 xs σ).fr=σ.fr:=by
 induction xs with
 | nil=>intro σ; rfl
 | cons x xs ih=>intro σ; cases x <;> first|exact ih h _|cases h

def k0M (nv dep:Nat) (sc:Scope) (o:AOper) (cf:CF):Prop:=∀ c env fr st σ,Ag nv dep sc env fr σ→σ.st=st→∀ (K:AV→Fr→St→RO) out,cf c env fr st K=some out →
 ∃ r b st' fr',sem o.kind c (o.args.map (·.read σ)) (match o.box with|some i=>σ.fr.getD i .undef|none=>.undef) st=some (r,b,st')∧K r fr' st'=some out ∧
  (match o.box with|some i=>(b6 o.args σ).fr.set i b|none=>(b6 o.args σ).fr)=toL nv fr'
theorem a2C {α γ:Type} {x:Option α} {f:α→Option γ} {r:γ} (h:b9 x f=some r):∃ a,x=some a∧f a=some r:=by
 cases x with
 | none=>cases h
 | some a=>exact ⟨a,rfl,h⟩
theorem a9D {G:β→Prop} {nv dep:Nat} {sc:Scope} {o:AOper} {rs:List Rd} {kf:KF} {e:β} {Q:CF→β} (hn:nv≤64) (hrs:a5Z nv dep sc o.args rs) (hkf:b4C o.kind rs kf) (he:G e) (h:∀ cf,k0M nv dep sc o cf→G (Q cf)) :
 G (b0b nv o.kind o.args o.box kf e Q):=by
 unfold b0b
 split
 · rename_i hv hb
   refine h _ fun c env fr st σ ha hst K out hout=>?_
   rw [hkf,X6 ha hrs] at hout
   obtain ⟨⟨r,b,st'⟩,h1,h2⟩:=a2C hout
   exact ⟨r,b,st',fr,by rw [hb]; exact h1,h2,by rw [hb]; dsimp only; rw [a7E hv,ha.f]⟩
 · rename_i hv hb
   refine B1 hn o.args he fun sp hsp=>h _ fun c env fr st σ ha hst K out hout=>?_
   rw [hkf,X6 ha hrs] at hout
   obtain ⟨⟨r,b,st'⟩,h1,h2⟩:=a2C hout
   obtain ⟨fr',h3,h4⟩:=hsp fr σ ha.f
   dsimp only at h2
   rw [h3] at h2
   exact ⟨r,b,st',fr',by rw [hb]; exact h1,h2,by rw [hb]; exact h4⟩
 · rename_i i hb
   cases hbi:Nat.blt i nv with
   | false=>exact he
   | true =>
    have hi:=H6 hbi
    refine D1 (by omega) he fun g hg=>?_
    split
    · rename_i hal
      simp only [Bool.or_eq_false_iff] at hal
      refine h _ fun c env fr st σ ha hst K out hout=>?_
      rw [hg,hkf,X6 ha hrs] at hout
      obtain ⟨⟨r,b,st'⟩,h1,h2⟩:=a2C hout
      refine ⟨r,b,st',fr,by rw [hb]; dsimp only; rw [ha.f,E4 hi]; exact h1,h2,?_⟩
      rw [hb]
      have:=a0Y hal.1 h1
      subst this
      dsimp only
      rw [a7E hal.2,ha.f,← E4 hi fr]
      exact a2k _ _
    · refine B1 hn o.args he fun sp hsp=>a0n (by omega) he fun p hp=>h _ fun c env fr st σ ha hst K out hout=>?_
      rw [hg,hkf,X6 ha hrs] at hout
      obtain ⟨⟨r,b,st'⟩,h1,h2⟩:=a2C hout
      obtain ⟨fr',h3,h4⟩:=hsp fr σ ha.f
      dsimp only at h2
      rw [h3,hp] at h2
      refine ⟨r,b,st',_,by rw [hb]; dsimp only; rw [ha.f,E4 hi]; exact h1,h2,?_⟩
      rw [hb]
      dsimp only
      rw [h4,a0O hi hn]

def k0m (nv dep:Nat) (o:AOper) (sc:Scope) (pf:PF) (dep':Nat) (sc':Scope):Prop:=∀ r env fr s (k:List AV→Fr→St→RO) out,pf r env fr s k=some out→∀ σ:Sig,σ.fr=toL nv fr→env.length=dep→(∀ t,(σ.τ t).stripB=σ.τ t)→a2p sc env σ.τ→σ.st=s →
 ∃ env' fr',k env' fr' s=some out∧Ag nv dep' sc' env' fr' (o.dst.put r σ)∧(o.dst.put r σ).st=s
theorem b2d {G:β→Prop} {nv dep:Nat} {tss:List Nat} {o:AOper} {sc:Scope} {e:β} {Q:PF→Nat→Scope→β} (hn:nv≤64) (he:G e) (h:∀ pf dep' sc',k0m nv dep o sc pf dep' sc'→G (Q pf dep' sc')):G (b25 nv dep tss o.dst sc e Q):=by
 unfold b25
 cases hd:o.dst with
 | t s =>
  dsimp only
  have nb':∀ (σ:Sig) (r:AV),(∀ t,(σ.τ t).stripB=σ.τ t)→∀ t,(m4 σ.τ s r.stripB t).stripB=m4 σ.τ s r.stripB t:=fun σ r hb t=>by
   rw [X2]; split
   · exact a3a r
   · exact hb t
  have sc1:∀ (σ:Sig) (r:AV) (env:List AV) (y:Src) (v:AV),env.length=dep→a2p sc env σ.τ→SrcOK (v::env) r.stripB y→a2p ((s,y)::sc) (v::env) (m4 σ.τ s r.stripB):=fun σ r env y v hl hsc hy t x hx=>by
   rw [a0E] at hx
   rw [X2]
   split at hx
   · rename_i e; cases hx; rw [if_pos e.symm]; exact hy
   · rename_i e; rw [if_neg (fun q=>e q.symm)]; exact (hsc _ _ hx).push v
  cases b35 s tss with
  | true =>
   refine h _ _ _ fun r env fr s' k out hout σ hf hl hb hsc hst=>?_
   rw [b1N] at hout
   refine ⟨_,_,hout,?_,by rw [hd]; exact hst⟩
   rw [hd]
   exact ⟨hf,by simp [hl],nb' σ r hb,sc1 σ r env _ _ hl hsc ⟨_,by rw [← hl]; exact b07 _ _,rfl⟩⟩
  | false =>
   refine h _ _ _ fun r env fr s' k out hout σ hf hl hb hsc hst=>?_
   rw [b1N] at hout
   refine ⟨_,_,hout,?_,by rw [hd]; exact hst⟩
   rw [hd]
   exact ⟨hf,by simp [hl],nb' σ r hb,sc1 σ r env _ _ hl hsc ⟨_,by rw [← hl]; exact b07 _ _,rfl⟩⟩
 | v i =>
  dsimp only
  cases hbi:Nat.blt i nv with
  | false=>exact he
  | true =>
   have hi:=H6 hbi
   refine a0n (by omega) he fun p hp=>h _ _ _ fun r env fr s' k out hout σ hf hl hb hsc hst=>?_
   rw [h1n,hp] at hout
   refine ⟨_,_,hout,?_,by rw [hd]; exact hst⟩
   rw [hd]
   exact ⟨by show σ.fr.set i r.strip=_; rw [hf,a0O hi hn],hl,hb,hsc⟩
 | none =>
  refine h _ _ _ fun r env fr s' k out hout σ hf hl hb hsc hst=>?_
  refine ⟨_,_,hout,?_,by rw [hd]; exact hst⟩
  rw [hd]
  exact ⟨hf,hl,hb,hsc⟩
 | bx =>
  refine h _ _ _ fun r env fr s' k out hout σ hf hl hb hsc hst=>?_
  refine ⟨_,_,hout,?_,by rw [hd]; exact hst⟩
  rw [hd]
  exact ⟨hf,hl,hb,hsc⟩

def j9m (nv dep:Nat) (sc:Scope) (o:AOper) (opf:OpF) (dep':Nat) (sc':Scope):Prop:=∀ c env fr st σ,Ag nv dep sc env fr σ→σ.st=st→∀ (k:List AV→Fr→St→RO) out,opf c env fr st k=some out →
 ∃ σ' env' fr',d8 c o σ=some σ'∧Ag nv dep' sc' env' fr' σ'∧k env' fr' σ'.st=some out
def h6G (nv dep:Nat) (sc:Scope) (o:AOper) (sc':Scope):Prop:=∀ c env fr σ,Ag nv dep sc env fr σ→∃ σ',d8 c o σ=some σ'∧Ag nv dep sc' env fr σ'∧σ'.st=σ.st
theorem a5F {nv dep:Nat} {sc:Scope} {env:List AV} {fr:Fr} {σ:Sig} (ha:Ag nv dep sc env fr σ) (s:Nat) (v:AV) (y:Src) (hy:SrcOK env v.stripB y):Ag nv dep ((s,y)::sc) env fr ({ σ with τ:=m4 σ.τ s v.stripB }) :=
 ⟨ha.f,ha.d,fun t=>by
  show (m4 σ.τ s v.stripB t).stripB=m4 σ.τ s v.stripB t
  rw [X2]; split
  · exact a3a v
  · exact ha.nb t,fun t x hx=>by
  show SrcOK env (m4 σ.τ s v.stripB t) x
  rw [a0E] at hx
  rw [X2]
  split at hx
  · rename_i e; cases hx; rw [if_pos e.symm]; exact hy
  · rename_i e; rw [if_neg (fun q=>e q.symm)]; exact ha.t _ _ hx⟩
theorem a4p (c:b5) (s:Nat) (x:Opd) (hx:x.steals=false) (σ:Sig):d8 c ⟨.t s,.mv,[x],none,none⟩ σ=some { σ with τ:=m4 σ.τ s (x.read σ).stripB }:=by
 have e:b6 [x] σ=σ:=K9 (by simp [H9,hx])
 show m9 c _ σ=_
 rw [G9]
 show some (Dst.put (.t s) (x.read σ) { b6 [x] σ with st:=σ.st })=_
 rw [e]
 rfl
theorem b2R {G:β→Prop} {nv dep:Nat} {sc:Scope} {tss:List Nat} {o:AOper} {e:β} {Q0:Scope→β} {Q:OpF→Nat→Scope→β} (hn:nv≤64) (he:G e) (h0:∀ sc',h6G nv dep sc o sc'→G (Q0 sc'))
 (h:∀ opf dep' sc',j9m nv dep sc o opf dep' sc'→G (Q opf dep' sc')):G (opK nv dep sc tss o e Q0 Q):=by
 unfold opK
 split
 · rename_i s s' hal
   have ho:o=⟨.t s,.mv,[.t s'],none,none⟩:=by
    unfold a4Y at hal
    split at hal <;> first|(cases hal; rfl)|cases hal
   subst ho
   have go:∀ y,(∀ env fr σ,Ag nv dep sc env fr σ→SrcOK env (σ.τ s').weak y)→h6G nv dep sc ⟨.t s,.mv,[.t s'],none,none⟩ ((s,y)::sc):=fun y hy c env fr σ ha=>by
    refine ⟨_,a4p c s (.t s') rfl σ,a5F ha s _ y ?_,rfl⟩
    show SrcOK env ((σ.τ s').weak).stripB y
    rw [a9j (ha.nb s')]
    exact hy env fr σ ha
   split
   · rename_i l hs
     exact h0 _ (go _ fun env fr σ ha=>by obtain ⟨a,h1,h2⟩:=ha.t _ _ hs; exact ⟨a,h1,by rw [r5,h2]⟩)
   · rename_i l hs
     exact h0 _ (go _ fun env fr σ ha=>by obtain ⟨a,h1,h2⟩:=ha.t _ _ hs; exact ⟨a,h1,by rw [r5,h2]⟩)
   · rename_i l hs
     exact h0 _ (go _ fun env fr σ ha=>by obtain ⟨a,h1,h2⟩:=ha.t _ _ hs; exact ⟨a,h1,by rw [r5,h2]⟩)
   · rename_i a hs
     exact h0 _ (go _ fun env fr σ ha=>by
      have:=ha.t _ _ hs
      show (σ.τ s').weak.weak=a.weak
      rw [r5,show σ.τ s'=a from this])
   · rename_i a hs
     exact h0 _ (go _ fun env fr σ ha=>by
      have:=ha.t _ _ hs
      show (σ.τ s').weak.weak=a
      rw [r5]
      exact this)
   · exact he
 · rename_i s a hal
   have ho:o=⟨.t s,.mv,[.c a],none,none⟩:=by
    unfold a4Y at hal
    split at hal <;> first|(cases hal; rfl)|cases hal
   subst ho
   exact h0 _ fun c env fr σ ha=>⟨_,a4p c s (.c a) rfl σ,a5F ha s _ _ rfl,rfl⟩
 · refine a6K hn he fun rs hrs=>a9L fun kf hkf=>a9D hn hrs hkf he fun cf hcf=>b2d hn he fun pf dep' sc' hpf=>?_
   have body:∀ c env fr st σ,Ag nv dep sc env fr σ→σ.st=st→∀ (k:List AV→Fr→St→RO) out,(cf c env fr st fun r fr s=>pf r env fr s k)=some out →
    ∃ σ' env' fr',m9 c o σ=some σ'∧Ag nv dep' sc' env' fr' σ'∧k env' fr' σ'.st=some out:=fun c env fr st σ ha hst k out hout=>by
    obtain ⟨r,b,st',fr',h1,h2,h3⟩:=hcf c env fr st σ ha hst _ out hout
    obtain ⟨e1,e2,e3,e4⟩:=A5 (xs:=o.args) (σ:=σ) ha.t ha.nb
    let σ1:Sig:=match o.box with
     | some i=>{ b6 o.args σ with fr:=(b6 o.args σ).fr.set i b,st:=st' }
     | none=>{ b6 o.args σ with st:=st' }
    have hfr:σ1.fr=toL nv fr':=by
     rw [← h3]; simp only [σ1]; cases o.box <;> rfl
    have hτ:σ1.τ=(b6 o.args σ).τ:=by simp only [σ1]; cases o.box <;> rfl
    have hs1:σ1.st=st':=by simp only [σ1]; cases o.box <;> rfl
    obtain ⟨env2,fr2,g1,g2,g3⟩:=hpf r env fr' st' k out h2 σ1 hfr ha.d (by rw [hτ]; exact e3) (by rw [hτ]; exact e2) hs1
    refine ⟨_,env2,fr2,?_,g2,by rw [g3]; exact g1⟩
    rw [G9,hst]
    simp only [σ1]
    cases hb:o.box <;> rw [hb] at h1 <;> dsimp only at h1 ⊢ <;> rw [h1]
   split
   · rename_i hg
     refine h _ _ _ fun c env fr st σ ha hst k out hout=>?_
     unfold d8
     rw [hg]
     exact body c env fr st σ ha hst k out hout
   · rename_i x w hg
     refine a3H hn he fun g hgr=>h _ _ _ fun c env fr st σ ha hst k out hout=>?_
     rw [hgr env fr σ ha,h7E] at hout
     unfold d8
     rw [hg]
     dsimp only
     have skip:pf (.tuple []) env fr st k=some out→∃ σ' env' fr',some (o.dst.put (.tuple []) σ)=some σ'∧Ag nv dep' sc' env' fr' σ'∧k env' fr' σ'.st=some out:=fun hout=>by
      obtain ⟨env2,fr2,g1,g2,g3⟩:=hpf _ env fr st k out hout σ ha.f ha.d ha.nb (A5 (xs:=o.args) (σ:=σ) ha.t ha.nb).1 hst
      exact ⟨_,env2,fr2,rfl,g2,by rw [g3]; exact g1⟩
     cases hx:x.read σ <;> rw [hx] at hout <;> (try dsimp only at hout ⊢) <;> try cases hout
     · rename_i b
       split at hout
       · rename_i hbw; rw [if_pos hbw]; exact body c env fr st σ ha hst k out hout
       · rename_i hbw; rw [if_neg hbw]; exact skip hout
     · rename_i vs
       cases vs with
       | nil=>exact skip hout
       | cons=>cases hout
end

noncomputable def a2S (nv:Nat) (tss:List Nat) (cond:Opd) (ops:List AOper):Nat→Scope→Clo:=List.rec (motive:=fun _=>Nat→Scope→Clo)
 (fun dep sc=>rdK nv dep sc cond S6 fun r=>.mk fun c env fr st=>r env fr fun x=>some (x,fr,st))
 (fun o _ ih dep sc=>opK nv dep sc tss o S6 (fun sc'=>ih dep sc') fun opf dep' sc'=>.mk fun c env fr st=>opf c env fr st fun env fr st=>(ih dep' sc').run c env fr st) ops
def a2s (nv dep:Nat) (sc:Scope) (cond:Opd) (ops:List AOper) (x:Clo):Prop:=∀ c env fr st σ v fr' st',Ag nv dep sc env fr σ→σ.st=st→x.run c env fr st=some (v,fr',st') →
 ∃ σ',b7 c ops σ=some σ'∧σ'.fr=toL nv fr'∧σ'.st=st'∧cond.read σ'=v
theorem a8v {nv dep:Nat} {sc:Scope} {cond:Opd} {ops:List AOper}:a2s nv dep sc cond ops S6:=fun c env fr st σ v fr' st' ha hst h=>by cases (show (none:RO)=some _ from h)
theorem a1c {nv:Nat} (hn:nv≤64) {tss:List Nat} {cond:Opd}:∀ (ops:List AOper) (dep:Nat) (sc:Scope),a2s nv dep sc cond ops (a2S nv tss cond ops dep sc)
 | [],dep,sc=>by
  show a2s nv dep sc cond [] (rdK nv dep sc cond S6 fun r=>.mk fun c env fr st=>r env fr fun x=>some (x,fr,st))
  refine a3H (G:=a2s nv dep sc cond []) hn a8v fun r hr c env fr st σ v fr' st' ha hst h=>?_
  have h:r env fr (fun x=>some (x,fr,st))=some (v,fr',st'):=h
  rw [hr env fr σ ha] at h
  cases h
  exact ⟨σ,rfl,ha.f,hst,rfl⟩
 | o::ops,dep,sc=>by
  show a2s nv dep sc cond (o::ops) (opK nv dep sc tss o S6 (fun sc'=>a2S nv tss cond ops dep sc') fun opf dep' sc'=>.mk fun c env fr st=>opf c env fr st fun env fr st=>(a2S nv tss cond ops dep' sc').run c env fr st)
  refine b2R (G:=a2s nv dep sc cond (o::ops)) hn a8v (fun sc' hal c env fr st σ v fr' st' ha hst h=>?_) fun opf dep' sc' ho c env fr st σ v fr' st' ha hst h=>?_
  · obtain ⟨σ1,h1,h2,h3⟩:=hal c env fr σ ha
    obtain ⟨σ2,g1,g2⟩:=a1c hn ops dep sc' c env fr st σ1 v fr' st' h2 (h3.trans hst) h
    exact ⟨σ2,by rw [b7,h1]; exact g1,g2⟩
  · obtain ⟨σ1,env1,fr1,h1,h2,h3⟩:=ho c env fr st σ ha hst _ _ h
    obtain ⟨σ2,g1,g2⟩:=a1c hn ops dep' sc' c env1 fr1 σ1.st σ1 v fr' st' h2 rfl h3
    exact ⟨σ2,by rw [b7,h1]; exact g1,g2⟩
end Go.Cb.G
/-
 THE ABSTRACT MACHINE, part 46: code and functions, made ready once; what they answer is the machine's answer.
-/
set_option maxRecDepth 4000
set_option linter.unusedVariables false
namespace Go.Cb.G
open Go Go.Cb
/-! regions -/
noncomputable def a5N (nv:Nat) (kill:List Nat) (Q:(Fr→(Fr→RO)→RO)→Clo):Clo:=List.rec (motive:=fun _=>((Fr→(Fr→RO)→RO)→Clo)→Clo) (fun Q=>Q fun fr k=>k fr)
 (fun i _ ih Q=>Bool.rec (motive:=fun _=>Clo) (ih Q) (a5k i S6 fun p=>ih fun r=>Q fun fr k=>p .undef fr fun fr=>r fr k) (Nat.blt i nv)) kill Q
def tsL:List Opd→List Nat
 | []=>[]
 | .ts s::xs=>s::tsL xs
 | _::xs=>tsL xs
def a9B:List AOper→List Nat
 | []=>[]
 | o::os=>match tsL o.args with
  | []=>a9B os
  | l=>l++a9B os
noncomputable def a4T (nv:Nat) (kill:List Nat) (ops:List AOper) (cond:Opd):Clo :=
 a5N nv kill fun kf=>.mk fun c _ fr st=>kf fr fun fr=>(a2S nv (tsL [cond]++a9B ops) cond ops 0 []).run c [] fr st
theorem a1m {G:Clo→Prop} {nv:Nat} (hn:nv≤64) (hs:G S6):∀ {kill:List Nat} {Q:(Fr→(Fr→RO)→RO)→Clo},(∀ r:Fr→(Fr→RO)→RO,(∀ fr,∃ fr',(∀ k,r fr k=k fr')∧d9 kill (toL nv fr)=toL nv fr')→G (Q r))→G (a5N nv kill Q)
 | [],Q,h=>h _ fun fr=>⟨fr,fun _=>rfl,rfl⟩
 | i::is,Q,h=>by
  show G (Bool.rec (motive:=fun _=>Clo) (a5N nv is Q) (a5k i S6 fun p=>a5N nv is fun r=>Q fun fr k=>p .undef fr fun fr=>r fr k) (Nat.blt i nv))
  cases hb:Nat.blt i nv with
  | false =>
   have hi:¬ i < nv:=fun q=>by rw [show Nat.blt i nv=true by simpa using q] at hb; cases hb
   exact a1m hn hs (kill:=is) fun r hr=>h r fun fr=>by
    obtain ⟨fr',h1,h2⟩:=hr fr
    exact ⟨fr',h1,by rw [d9,a3j hi]; exact h2⟩
  | true =>
   have hi:=H6 hb
   exact a0n (by omega) hs fun p hp=>a1m hn hs (kill:=is) fun r hr=>h _ fun fr=>by
    obtain ⟨fr',h1,h2⟩:=hr (a0a i .undef fr)
    exact ⟨fr',fun k=>by show p .undef fr _=_; rw [hp,h1],by rw [d9,a0O hi hn]; exact h2⟩
def a9b (nv:Nat) (kill:List Nat) (ops:List AOper) (cond:Opd) (x:Clo):Prop:=∀ c env fr st v fr' st',x.run c env fr st=some (v,fr',st') →
 ∃ σ',b7 c ops ⟨d9 kill (toL nv fr),fun _=>.undef,st⟩=some σ'∧σ'.fr=toL nv fr'∧σ'.st=st'∧cond.read σ'=v
theorem a8l {nv:Nat} (hn:nv≤64) {kill:List Nat} {ops:List AOper} {cond:Opd}:a9b nv kill ops cond (a4T nv kill ops cond):=by
 refine a1m (G:=a9b nv kill ops cond) hn (fun c env fr st v fr' st' h=>by cases (show (none:RO)=some _ from h)) fun r hr c env fr st v fr' st' h=>?_
 obtain ⟨fr1,h1,h2⟩:=hr fr
 have h:r fr _=_:=h
 rw [h1] at h
 exact a1c hn ops 0 [] c [] fr1 st ⟨d9 kill (toL nv fr),fun _=>.undef,st⟩ v fr' st' ⟨h2,rfl,fun _=>rfl,fun s x hx=>by cases (show (none:Option Src)=some x from hx)⟩ rfl h

/-! code -/
abbrev CO:=Option (Ex×Fr×St)
inductive CloC where
 | mk (f:b5→Nat→Fr→St→CO)
noncomputable def CloC.run (x:CloC):b5→Nat→Fr→St→CO:=CloC.rec (motive:=fun _=>b5→Nat→Fr→St→CO) (fun f=>f) x
section
variable {ρ:Type}
noncomputable def a6S (x:RO) (k:AV→Fr→St→Option ρ):Option ρ:=Option.rec (motive:=fun _=>Option ρ) none (fun p=>Prod.rec (motive:=fun _=>Option ρ) (fun v q=>Prod.rec (motive:=fun _=>Option ρ) (fun fr st=>k v fr st) q) p) x
noncomputable def Z2 (x:CO) (k:Ex→Fr→St→Option ρ):Option ρ:=Option.rec (motive:=fun _=>Option ρ) none (fun p=>Prod.rec (motive:=fun _=>Option ρ) (fun v q=>Prod.rec (motive:=fun _=>Option ρ) (fun fr st=>k v fr st) q) p) x
noncomputable def Z7 (e:Ex) (n:Option ρ) (x:Nat→Option ρ) (r:Option ρ):Option ρ:=Ex.rec (motive:=fun _=>Option ρ) n x r e
theorem a5H {x:RO} {k:AV→Fr→St→Option ρ} {r:ρ} (h:a6S x k=some r):∃ v fr st,x=some (v,fr,st)∧k v fr st=some r:=by
 cases x with
 | none=>cases h
 | some p=>obtain ⟨v,fr,st⟩:=p; exact ⟨v,fr,st,rfl,h⟩
theorem N4 {x:CO} {k:Ex→Fr→St→Option ρ} {r:ρ} (h:Z2 x k=some r):∃ v fr st,x=some (v,fr,st)∧k v fr st=some r:=by
 cases x with
 | none=>cases h
 | some p=>obtain ⟨v,fr,st⟩:=p; exact ⟨v,fr,st,rfl,h⟩
end
noncomputable def b0h (b:b5→Nat→Fr→St→CO) (c:b5) (n m:Nat):Fr→St→CO:=Nat.rec (motive:=fun _=>Fr→St→CO) (fun _ _=>none) (fun _ ih fr st=>Z2 (b c n fr st) fun e fr st=>Z7 e (ih fr st) (fun i=>some (.exit i,fr,st)) (some (.ret,fr,st))) m
def a4j (nv:Nat):List Nat→Fr→Fr
 | [],fr=>fr
 | i::is,fr=>a4j nv is (if i < nv then a0a i .undef fr else fr)
theorem a1F {nv:Nat} (hn:nv≤64):∀ {is:List Nat} {fr:Fr},d9 is (toL nv fr)=toL nv (a4j nv is fr)
 | [],fr=>rfl
 | i::is,fr=>by
  rw [d9,a4j]
  split
  · rename_i h; rw [a0O h hn]; exact a1F hn
  · rename_i h; rw [a3j h]; exact a1F hn
noncomputable def b1k (nv:Nat) (kill:List Nat) (x y:CO):CO:=Z2 x fun e fr st=>Z2 y fun e' fr' st' =>
 if a6j (n6 kill (e,toL nv fr,st)) (n6 kill (e',toL nv fr',st')) then some (e,a4j nv kill fr,st) else none
noncomputable def N7 (nv:Nat) (x:ACode):CloC:=ACode.rec (motive:=fun _=>CloC)
 (.mk fun _ _ fr st=>some (.normal,fr,st))
 (fun kill ops=>.mk fun c _ fr st=>a6S ((a4T nv kill ops (.c .undef)).run c [] fr st) fun _ fr st=>some (.normal,fr,st))
 (fun kill ops x _ _ a b=>.mk fun c n fr st=>a6S ((a4T nv kill ops x).run c [] fr st) fun v fr st=>onB v none fun y=>Bool.rec (motive:=fun _=>CO) (b.run c n fr st) (a.run c n fr st) y)
 (fun _ _ a b=>.mk fun c n fr st=>Z2 (a.run c n fr st) fun e fr st=>Z7 e (b.run c n fr st) (fun i=>some (.exit i,fr,st)) (some (.ret,fr,st)))
 (fun id _ a=>.mk fun c n fr st=>Z2 (a.run c n fr st) fun e fr st=>Z7 e (some (.normal,fr,st)) (fun i=>Bool.rec (motive:=fun _=>CO) (some (.exit i,fr,st)) (some (.normal,fr,st)) (Nat.beq i id)) (some (.ret,fr,st)))
 (fun _ a=>.mk fun c n fr st=>b0h (fun c n fr st=>a.run c n fr st) c n n fr st)
 (fun kill _ _ a b=>.mk fun c n fr st=>b1k nv kill (a.run c n fr st) (b.run c n fr st))
 (fun id=>.mk fun _ _ fr st=>some (.exit id,fr,st))
 (.mk fun _ _ fr st=>some (.ret,fr,st)) x
def f0U (nv:Nat) (x:ACode) (y:CloC):Prop:=∀ c n fr st e fr' st',y.run c n fr st=some (e,fr',st')→exec c n x (toL nv fr) st=some (e,toL nv fr',st')
theorem a7C {nv:Nat} {a:ACode} {b:b5→Nat→Fr→St→CO} {c:b5} {n:Nat} (h:∀ fr st e fr' st',b c n fr st=some (e,fr',st')→exec c n a (toL nv fr) st=some (e,toL nv fr',st')):∀ (m:Nat) (fr:Fr) (st:St) (e:Ex) (fr':Fr) (st':St),b0h b c n m fr st=some (e,fr',st')→r7 (exec c n a) m (toL nv fr) st=some (e,toL nv fr',st')
 | 0,fr,st,e,fr',st',hs=>by cases (show (none:CO)=some _ from hs)
 | m+1,fr,st,e,fr',st',hs=>by
  obtain ⟨e1,fr1,st1,h1,h2⟩:=N4 (show Z2 (b c n fr st) (fun e fr st=>Z7 e (b0h b c n m fr st) (fun i=>some (.exit i,fr,st)) (some (.ret,fr,st)))=some (e,fr',st') from hs)
  rw [r7,h _ _ _ _ _ h1]
  cases e1 with
  | normal=>exact a7C h m fr1 st1 e fr' st' h2
  | exit i=>cases (show some (Ex.exit i,fr1,st1)=some (e,fr',st') from h2); rfl
  | ret=>cases (show some (Ex.ret,fr1,st1)=some (e,fr',st') from h2); rfl
theorem F7 {nv:Nat} (hn:nv≤64):∀ x:ACode,f0U nv x (N7 nv x)
 | .skip,c,n,fr,st,e,fr',st',h=>by cases (show some (Ex.normal,fr,st)=some (e,fr',st') from h); rfl
 | .ret,c,n,fr,st,e,fr',st',h=>by cases (show some (Ex.ret,fr,st)=some (e,fr',st') from h); rfl
 | .exit id,c,n,fr,st,e,fr',st',h=>by cases (show some (Ex.exit id,fr,st)=some (e,fr',st') from h); rfl
 | .reg kill ops,c,n,fr,st,e,fr',st',h=>by
  obtain ⟨v,fr1,st1,h1,h2⟩:=a5H (show a6S ((a4T nv kill ops (.c .undef)).run c [] fr st) (fun _ fr st=>some (Ex.normal,fr,st))=some (e,fr',st') from h)
  cases h2
  obtain ⟨σ,g1,g2,g3,g4⟩:=a8l hn _ _ _ _ _ _ _ h1
  rw [exec,g1]
  simp only [fL_eq,g2,g3]
 | .test kill ops x a b,c,n,fr,st,e,fr',st',h=>by
  obtain ⟨v,fr1,st1,h1,h2⟩:=a5H (show a6S ((a4T nv kill ops x).run c [] fr st) (fun v fr st=>onB v none fun y=>Bool.rec (motive:=fun _=>CO) ((N7 nv b).run c n fr st) ((N7 nv a).run c n fr st) y)=some (e,fr',st') from h)
  obtain ⟨σ,g1,g2,g3,g4⟩:=a8l hn _ _ _ _ _ _ _ h1
  rw [a8e] at h2
  rw [exec,g1]
  dsimp only
  rw [g4]
  cases v <;> try (cases h2; done)
  rename_i y
  cases y
  · simp only [fL_eq,g2,g3]; exact F7 hn b _ _ _ _ _ _ _ h2
  · simp only [fL_eq,g2,g3]; exact F7 hn a _ _ _ _ _ _ _ h2
 | .seq a b,c,n,fr,st,e,fr',st',h=>by
  obtain ⟨e1,fr1,st1,h1,h2⟩:=N4 (show Z2 ((N7 nv a).run c n fr st) (fun e fr st=>Z7 e ((N7 nv b).run c n fr st) (fun i=>some (.exit i,fr,st)) (some (.ret,fr,st)))=some (e,fr',st') from h)
  rw [exec,F7 hn a _ _ _ _ _ _ _ h1]
  cases e1 with
  | normal=>exact F7 hn b _ _ _ _ _ _ _ h2
  | exit i=>cases (show some (Ex.exit i,fr1,st1)=some (e,fr',st') from h2); rfl
  | ret=>cases (show some (Ex.ret,fr1,st1)=some (e,fr',st') from h2); rfl
 | .blk id a,c,n,fr,st,e,fr',st',h=>by
  obtain ⟨e1,fr1,st1,h1,h2⟩:=N4 (show Z2 ((N7 nv a).run c n fr st) (fun e fr st=>Z7 e (some (.normal,fr,st)) (fun i=>Bool.rec (motive:=fun _=>CO) (some (.exit i,fr,st)) (some (.normal,fr,st)) (Nat.beq i id)) (some (.ret,fr,st)))=some (e,fr',st') from h)
  rw [exec,F7 hn a _ _ _ _ _ _ _ h1]
  cases e1 with
  | normal=>cases (show some (Ex.normal,fr1,st1)=some (e,fr',st') from h2); rfl
  | exit i =>
   have h2:Bool.rec (motive:=fun _=>CO) (some (.exit i,fr1,st1)) (some (.normal,fr1,st1)) (Nat.beq i id)=some (e,fr',st'):=h2
   dsimp only
   cases hb:Nat.beq i id with
   | true=>rw [hb] at h2; cases h2; rw [if_pos (Nat.eq_of_beq_eq_true hb)]
   | false=>rw [hb] at h2; cases h2; rw [if_neg (Nat.ne_of_beq_eq_false hb)]
  | ret=>cases (show some (Ex.ret,fr1,st1)=some (e,fr',st') from h2); rfl
 | .loop a,c,n,fr,st,e,fr',st',h=>by
  rw [exec]
  exact a7C (b:=fun c n fr st=>(N7 nv a).run c n fr st) (fun fr st e fr' st' h=>F7 hn a _ _ _ _ _ _ _ h) n fr st e fr' st' h
 | .either kill a b,c,n,fr,st,e,fr',st',h=>by
  have h:b1k nv kill ((N7 nv a).run c n fr st) ((N7 nv b).run c n fr st)=some (e,fr',st'):=h
  obtain ⟨e1,fr1,st1,h1,h2⟩:=N4 h
  obtain ⟨e2,fr2,st2,h3,h4⟩:=N4 h2
  rw [exec,F7 hn a _ _ _ _ _ _ _ h1,F7 hn b _ _ _ _ _ _ _ h3]
  unfold a2t
  split at h4
  · rename_i hq
    cases h4
    dsimp only
    rw [if_pos hq]
    show some (_,d9 kill (toL nv fr1),_)=_
    rw [a1F hn]
  · cases h4

/-! functions -/
inductive FnC where
 | mk (f:b5→Nat→List AV→St→Option (AV×St))
noncomputable def FnC.run (x:FnC):b5→Nat→List AV→St→Option (AV×St):=FnC.rec (motive:=fun _=>b5→Nat→List AV→St→Option (AV×St)) (fun f=>f) x
noncomputable def D9:FnC:=.mk fun _ _ _ _=>none
noncomputable def b2W (nv:Nat) (r:ResK) (Q:(Fr→St→(AV→Option (AV×St))→Option (AV×St))→FnC):FnC :=
 match r with
 | .v i=>match Nat.blt i nv with
  | true=>a0v i D9 fun g=>Q fun fr _ k=>g fr fun x=>qWk x k
  | false=>D9
 | .vs i=>match Nat.blt i nv with
  | true=>a0v i D9 fun g=>Q fun fr _ k=>g fr k
  | false=>D9
 | .bx i agg n=>match Nat.blt i nv with
  | true=>a0v i D9 fun g=>Q fun fr st k=>g fr fun x=>a9C x none fun cs=>a2u k agg n cs
  | false=>D9
 | .po i agg n=>match Nat.blt i nv with
  | true=>a0v i D9 fun g=>Q fun fr st k=>g fr fun x=>a1t st k agg n x
  | false=>D9
theorem b1g {G:FnC→Prop} {nv:Nat} (hn:nv≤64) (hs:G D9) {r:ResK} {Q:(Fr→St→(AV→Option (AV×St))→Option (AV×St))→FnC} (h:∀ g:Fr→St→(AV→Option (AV×St))→Option (AV×St),(∀ fr st k out,g fr st k=some out→∃ v,r.get (toL nv fr) st=some v∧k v=some out)→G (Q g)):G (b2W nv r Q):=by
 unfold b2W
 cases r with
 | v i =>
  dsimp only
  cases hb:Nat.blt i nv with
  | false=>exact hs
  | true =>
   have hi:=H6 hb
   refine D1 (by omega) hs fun g hg=>h _ fun fr st k out ho=>?_
   rw [hg,X5] at ho
   exact ⟨_,by rw [ResK.get,E4 hi],ho⟩
 | vs i =>
  dsimp only
  cases hb:Nat.blt i nv with
  | false=>exact hs
  | true =>
   have hi:=H6 hb
   refine D1 (by omega) hs fun g hg=>h _ fun fr st k out ho=>?_
   rw [hg] at ho
   exact ⟨_,by rw [ResK.get,E4 hi],ho⟩
 | bx i agg n =>
  dsimp only
  cases hb:Nat.blt i nv with
  | false=>exact hs
  | true =>
   have hi:=H6 hb
   refine D1 (by omega) hs fun g hg=>h _ fun fr st k out ho=>?_
   rw [hg,a4Z] at ho
   rw [ResK.get,E4 hi]
   cases hx:L0 i fr <;> rw [hx] at ho <;> try (cases ho; done)
   rename_i cs
   dsimp only at ho ⊢
   rw [Y8] at ho
   cases ht:g8 agg n cs with
   | none=>rw [ht] at ho; cases ho
   | some v=>rw [ht] at ho; exact ⟨v,rfl,ho⟩
 | po i agg n =>
  dsimp only
  cases hb:Nat.blt i nv with
  | false=>exact hs
  | true =>
   have hi:=H6 hb
   refine D1 (by omega) hs fun g hg=>h _ fun fr st k out ho=>?_
   rw [hg] at ho
   rw [ResK.get,E4 hi]
   simp only [a1t,a6Y,a4X,a1Q,Y8,P9] at ho
   cases hx:L0 i fr <;> rw [hx] at ho <;> try (cases ho; done)
   rename_i o off
   dsimp only at ho ⊢
   cases hq:st[o]? with
   | none=>rw [hq] at ho; cases ho
   | some ob =>
    rw [hq] at ho
    cases ob with
    | cells cs =>
     dsimp only at ho ⊢
     cases ht:g8 agg n (cs.drop off) with
     | none=>rw [ht] at ho; cases ho
     | some v=>rw [ht] at ho; exact ⟨v,rfl,ho⟩
    | map _=>cases ho
    | dead=>cases ho
noncomputable def b0X (nv:Nat):List ResK→((Fr→St→(List AV→Option (AV×St))→Option (AV×St))→FnC)→FnC
 | [],Q=>Q fun _ _ k=>k []
 | r::rs,Q=>b2W nv r fun g=>b0X nv rs fun gs=>Q fun fr st k=>g fr st fun v=>gs fr st fun vs=>k (v::vs)
theorem a5B {G:FnC→Prop} {nv:Nat} (hn:nv≤64) (hs:G D9):∀ {rs:List ResK} {Q:(Fr→St→(List AV→Option (AV×St))→Option (AV×St))→FnC},(∀ g:Fr→St→(List AV→Option (AV×St))→Option (AV×St),(∀ fr st k out,g fr st k=some out→∃ vs,n4 rs (toL nv fr) st=some vs∧k vs=some out)→G (Q g))→G (b0X nv rs Q)
 | [],Q,h=>h _ fun fr st k out ho=>⟨[],rfl,ho⟩
 | r::rs,Q,h=>by
  unfold b0X
  exact b1g hn hs fun g hg=>a5B hn hs fun gs hgs=>h _ fun fr st k out ho=>by
   obtain ⟨v,h1,h2⟩:=hg fr st _ _ ho
   obtain ⟨vs,h3,h4⟩:=hgs fr st _ _ h2
   exact ⟨v::vs,by rw [n4,h1,h3],h4⟩
noncomputable def a5m (vs:List AV) (st:St):Option (AV×St):=List.rec (motive:=fun _=>Option (AV×St)) (some (.tuple [],st)) (fun v ws _=>List.rec (motive:=fun _=>Option (AV×St)) (some (v,st)) (fun _ _ _=>some (.tuple vs,st)) ws) vs
noncomputable def a9T (fn:AFn):FnC:=match Nat.ble fn.nv 64 && Nat.ble fn.np fn.nv with
 | true=>b0X fn.nv fn.results fun g=>.mk fun c n as st=>Bool.rec (motive:=fun _=>Option (AV×St)) none (b3m as fun w=>Z2 ((N7 fn.nv fn.code).run c n (fr0 w) st) fun e fr st=>Z7 e (g fr st fun vs=>a5m vs st) (fun _=>none) (g fr st fun vs=>a5m vs st)) (Nat.beq (B3 as) fn.np)
 | false=>D9
noncomputable def fnC (x:Option AFn):FnC:=match x with
 | none=>D9
 | some fn=>match fn.ext with
  | some e=>.mk fun _ _ as st=>e as st
  | none=>a9T fn
theorem e9d {vs:List AV} {st:St}:a5m vs st=(match (some vs:Option (List AV)) with|some [v]=>some (v,st)|some vs=>some (.tuple vs,st)|none=>none):=by
 match vs with
 | []=>rfl
 | [_]=>rfl
 | _::_::_=>rfl
def b1K (fn:AFn) (x:FnC):Prop:=∀ c n as st out,x.run c n as st=some out→fn.run c n as st=some out
theorem b3S (fn:AFn):b1K fn (a9T fn):=by
 have hs:b1K fn D9:=fun c n as st out h=>by cases (show (none:Option (AV×St))=some _ from h)
 unfold a9T
 cases hb:Nat.ble fn.nv 64 && Nat.ble fn.np fn.nv with
 | false=>exact hs
 | true =>
  simp only [Bool.and_eq_true,Nat.ble_eq] at hb
  refine a5B hb.1 hs fun g hg c n as st out h=>?_
  have h:Bool.rec (motive:=fun _=>Option (AV×St)) none (b3m as fun w=>Z2 ((N7 fn.nv fn.code).run c n (fr0 w) st) fun e fr st=>Z7 e (g fr st fun vs=>a5m vs st) (fun _=>none) (g fr st fun vs=>a5m vs st)) (Nat.beq (B3 as) fn.np)=some out:=h
  cases hl:Nat.beq (B3 as) fn.np with
  | false=>rw [hl] at h; cases h
  | true =>
   rw [hl] at h
   have hl:=Nat.eq_of_beq_eq_true hl
   rw [x8] at hl
   obtain ⟨w,h1,h2,h3⟩:=b6t h
   obtain ⟨e,fr',st',h4,h5⟩:=N4 h1
   have h6:=F7 hb.1 fn.code _ _ _ _ _ _ _ h4
   rw [h4D h3 hl h2 hb.2 hb.1] at h6
   unfold AFn.run
   rw [if_pos hl,h6]
   have fin:(g fr' st' fun vs=>a5m vs st')=some out→(match n4 fn.results (toL fn.nv fr') st' with|some [v]=>some (v,st')|some vs=>some (.tuple vs,st')|none=>none)=some out:=fun h=>by
    obtain ⟨vs,h7,h8⟩:=hg fr' st' _ _ h
    rw [h7,← h8,e9d]
   cases e with
   | normal=>exact fin h5
   | exit i=>cases (show (none:Option (AV×St))=some _ from h5)
   | ret=>exact fin h5

noncomputable def callG (tbl:Nat→Option AFn) (n:Nat):b5:=Nat.rec (motive:=fun _=>b5) (fun _ _ _=>none) (fun n ih f as st=>(fnC (tbl f)).run ih n as st) n
theorem L8 {tbl:Nat→Option AFn}:∀ n,E6 (callG tbl n) (g9 tbl n)
 | 0,f,as,st,r,h=>by cases (show (none:Option (AV×St))=some _ from h)
 | n+1,f,as,st,r,h=>by
  have h:(fnC (tbl f)).run (callG tbl n) n as st=some r:=h
  unfold g9
  cases ht:tbl f with
  | none=>rw [ht] at h; cases (show (none:Option (AV×St))=some _ from h)
  | some fn =>
   rw [ht] at h
   unfold fnC at h
   dsimp only at h ⊢
   cases he:fn.ext with
   | some e=>rw [he] at h; exact h
   | none =>
    rw [he] at h
    exact a7Z (L8 n) (Nat.le_refl _) (b3S fn _ _ _ _ _ h)
theorem a4R {tbl:Nat→Option AFn} {k f:Nat} {as:List AV} {st:St} {r:AV} {st':St} (h:callG tbl k f as st=some (r,st')):Ev tbl f as st r st':=⟨k,L8 k _ _ _ _ h⟩
end Go.Cb.G
/-
 THE ABSTRACT MACHINE, part 47: a law's own code, step by step, over calls of which the answers are known.
-/
set_option maxRecDepth 4000
set_option linter.unusedVariables false
namespace Go.Cb.G
open Go Go.Cb
def N:b5:=fun _ _ _=>none
theorem b38 (c:b5):E6 N c:=fun _ _ _ _ h=>by cases h
theorem a1p (c:b5):∀ (a b:List AOper) (σ:Sig),b7 c (a++b) σ=match b7 c a σ with|some σ=>b7 c b σ|none=>none
 | [],b,σ=>rfl
 | o::a,b,σ=>by
  show b7 c (o::(a++b)) σ=_
  rw [b7,b7]
  cases d8 c o σ with
  | none=>rfl
  | some σ=>exact a1p c a b σ
def sp (kill:List Nat) (ops:List AOper) (i:Nat) (fr:List AV) (st:St):Option (Sig×AOper×List AOper):=match b7 N (ops.take i) ⟨d9 kill fr,fun _=>.undef,st⟩,ops.drop i with
 | some σ,o::os=>some (σ,o,os)
 | _,_=>none
def a3T (kill:List Nat) (ops:List AOper) (i:Nat) (fr:List AV) (st:St):Option (Nat×List AV×St):=match sp kill ops i fr st with
 | some (σ,⟨_,.call f,args,none,none⟩,_)=>if p6 (args.map (·.read σ)) then some (f,(args.map (·.read σ)).map AV.weak,σ.st) else none
 | _=>none
def after (kill:List Nat) (ops:List AOper) (i:Nat) (x:Opd) (fr:List AV) (st:St) (r:AV) (st1:St):Option (AV×List AV×St):=match sp kill ops i fr st with
 | some (σ,o,os)=>match b7 N os (o.dst.put r { b6 o.args σ with st:=st1 }) with
  | some σ=>some (x.read σ,σ.fr,σ.st)
  | none=>none
 | none=>none
theorem a8q {c:b5} {kill:List Nat} {ops:List AOper} {i f:Nat} {as:List AV} {st0:St} {r:AV} {st1:St} {fr:List AV} {st:St} {x:Opd} {v:AV} {fr':List AV} {st':St}
 (h1:a3T kill ops i fr st=some (f,as,st0)) (hE:c f as st0=some (r,st1)) (h2:after kill ops i x fr st r st1=some (v,fr',st')) :
 ∃ σ,b7 c ops ⟨d9 kill fr,fun _=>.undef,st⟩=some σ∧x.read σ=v∧σ.fr=fr'∧σ.st=st':=by
 unfold a3T at h1
 unfold after at h2
 cases hs:sp kill ops i fr st with
 | none=>rw [hs] at h2; cases h2
 | some p =>
  obtain ⟨σ,o,os⟩:=p
  rw [hs] at h1 h2
  dsimp only at h1 h2
  unfold sp at hs
  split at hs <;> try (cases hs; done)
  rename_i σ0 o0 os0 hr hd
  cases hs
  split at h1 <;> try (cases h1; done)
  rename_i heq
  obtain ⟨⟩:=Prod.mk.inj (Option.some.inj heq)
  rename_i dst f' args _ e1 e2
  obtain ⟨rfl,rfl⟩:=Prod.mk.inj e2
  subst e1
  split at h1 <;> try (cases h1; done)
  rename_i hp
  cases h1
  cases h3:b7 N os ((Dst.put dst r { b6 args σ with st:=st1 })) with
  | none=>rw [h3] at h2; cases h2
  | some σ2 =>
   rw [h3] at h2
   cases h2
   refine ⟨σ2,?_,rfl,rfl,rfl⟩
   rw [← List.take_append_drop i ops,a1p,C8 (b38 c) hr,hd]
   dsimp only
   rw [b7]
   have hst:d8 c ⟨dst,.call f,args,none,none⟩ σ=some (Dst.put dst r { b6 args σ with st:=st1 }):=by
    show m9 c _ σ=_
    rw [G9]
    simp only [sem,l3,hp,if_true,hE,Option.map_some]
   rw [hst]
   exact C8 (b38 c) h3
section
variable {tbl:Nat→Option AFn}
theorem b1z {kill:List Nat} {ops:List AOper} {i f:Nat} {as:List AV} {st0:St} {r:AV} {st1:St} {fr:List AV} {st:St} {v:AV} {fr':List AV} {st':St}
 (h1:a3T kill ops i fr st=some (f,as,st0)) (hE:Ev tbl f as st0 r st1) (h2:after kill ops i (.c .undef) fr st r st1=some (v,fr',st')):XC tbl (.reg kill ops) fr st (.normal,fr',st'):=by
 obtain ⟨m,hm⟩:=hE
 obtain ⟨σ,g1,g2,g3,g4⟩:=a8q (c:=g9 tbl m) h1 hm h2
 exact ⟨m,by rw [exec,g1]; simp only [fL_eq,g3,g4]⟩
theorem b8i {kill:List Nat} {ops:List AOper} {i f:Nat} {as:List AV} {st0:St} {r:AV} {st1:St} {fr:List AV} {st:St} {x:Opd} {a b:ACode} {y:Bool} {fr':List AV} {st':St} {out:Out}
 (h1:a3T kill ops i fr st=some (f,as,st0)) (hE:Ev tbl f as st0 r st1) (h2:after kill ops i x fr st r st1=some (.bool y,fr',st')) (h3:XC tbl (if y then a else b) fr' st' out):XC tbl (.test kill ops x a b) fr st out:=by
 obtain ⟨m,hm⟩:=hE
 obtain ⟨k,hk⟩:=h3
 have hm2:=s5 (Nat.le_max_left m k) _ _ _ _ hm
 obtain ⟨σ,g1,g2,g3,g4⟩:=a8q (c:=g9 tbl (max m k)) h1 hm2 h2
 refine ⟨max m k,?_⟩
 have hk2:=l4 (s5 (tbl:=tbl) (Nat.le_max_right m k)) (Nat.le_max_right m k) hk
 rw [exec,g1]
 dsimp only
 rw [g2]
 cases y
 · have hk2:exec (g9 tbl (max m k)) (max m k) b fr' st'=some out:=hk2
   simpa only [fL_eq,g3,g4] using hk2
 · have hk2:exec (g9 tbl (max m k)) (max m k) a fr' st'=some out:=hk2
   simpa only [fL_eq,g3,g4] using hk2
theorem a2e {code:ACode} {k:Nat} {fr:List AV} {st:St} {out:Out} (h:exec N k code fr st=some out):XC tbl code fr st out:=⟨k,l4 (b38 _) (Nat.le_refl _) h⟩
theorem a8u {code:ACode} {k:Nat} {fr:List AV} {st:St} {out:Out} (h:exec (callG tbl k) k code fr st=some out):XC tbl code fr st out:=⟨k,l4 (L8 k) (Nat.le_refl _) h⟩
def fin (rs:List ResK) (o:Option Out):Option (AV×St):=match o with
 | some (.exit _,_,_)=>none
 | some (_,fr,st)=>match n4 rs fr st with
  | some [v]=>some (v,st)
  | some vs=>some (.tuple vs,st)
  | none=>none
 | none=>none
def j99 (x:Option (AV×St)):Option AV:=match x with
 | some (v,_)=>some v
 | none=>none
def FX (tbl:Nat→Option AFn) (rs:List ResK) (code:ACode) (fr:List AV) (st:St) (v:AV):Prop:=∃ out st',XC tbl code fr st out∧fin rs (some out)=some (v,st')
theorem FX.seq {rs:List ResK} {a b:ACode} {fr fr1:List AV} {st st1:St} {v:AV} (h:XC tbl a fr st (.normal,fr1,st1)) (h':FX tbl rs b fr1 st1 v):FX tbl rs (.seq a b) fr st v:=by
 obtain ⟨⟨e,fr',st'⟩,s,h1,h2⟩:=h'
 exact ⟨_,s,XC.seq h h1,h2⟩
theorem FX.G {rs:List ResK} {code:ACode} {k:Nat} {fr:List AV} {st:St} {v:AV} (h:j99 (fin rs (exec (callG tbl k) k code fr st))=some v):FX tbl rs code fr st v:=by
 cases hz:exec (callG tbl k) k code fr st with
 | none=>rw [hz] at h; cases h
 | some o =>
  rw [hz] at h
  cases hf:fin rs (some o) with
  | none=>rw [hf] at h; cases h
  | some p =>
   obtain ⟨w,s⟩:=p
   rw [hf] at h
   cases (show some w=some v from h)
   exact ⟨o,s,a8u hz,hf⟩
theorem FX.run {rs:List ResK} {code:ACode} {fr:List AV} {st:St} {v:AV} {f:Nat} {fn:AFn} {as:List AV} (htb:tbl f=some fn) (he:fn.ext=none) (hl:as.length=fn.np) (hr:fn.results=rs) (hc:fn.code=code)
 (hfr:as++List.replicate (fn.nv - fn.np) .undef=fr) (h:FX tbl rs code fr st v):∃ n st',g9 tbl n f as st=some (v,st'):=by
 obtain ⟨⟨e,fr',st1⟩,s,⟨n,h1⟩,h2⟩:=h
 refine ⟨n+1,s,?_⟩
 unfold g9
 rw [htb]
 dsimp only
 rw [he]
 dsimp only
 unfold AFn.run
 rw [if_pos hl,hc,hfr,h1,hr]
 cases e with
 | exit i=>cases h2
 | normal=>exact h2
 | ret=>exact h2
end
end Go.Cb.G
/-
 THE ABSTRACT MACHINE, part 51: the same run at a store that has more in it.
-/
set_option maxRecDepth 4000
set_option linter.unusedVariables false
set_option linter.unusedSimpArgs false
namespace Go.Cb
open Classical

def shN (L d a:Nat):Nat:=if a < L then a else a+d
mutual
def AV.sh (L d:Nat):AV→AV
 | .undef=>.undef
 | .bool b=>.bool b
 | .int k n=>.int k n
 | .str s=>.str s
 | .list o xs=>.list o (a1f L d xs)
 | .ptr o f=>.ptr (shN L d o) f
 | .nilp=>.nilp
 | .ro cs=>.ro (D7 L d cs)
 | .loc i f=>.loc i f
 | .box cs=>.box (D7 L d cs)
 | .map o=>.map (shN L d o)
 | .nilm=>.nilm
 | .func f a c=>.func f (D7 L d a) (D7 L d c)
 | .nilf=>.nilf
 | .agg cs=>.agg (D7 L d cs)
 | .tuple vs=>.tuple (D7 L d vs)
 | .iface t v=>.iface t (v.sh L d)
 | .nili=>.nili
 | .sl o f n s=>.sl (shN L d o) f n s
 | .fresh xs=>.fresh (a1f L d xs)
 | .nils=>.nils
def D7 (L d:Nat):List AV→List AV
 | []=>[]
 | a::as=>a.sh L d::D7 L d as
def a1f (L d:Nat):List (List AV)→List (List AV)
 | []=>[]
 | r::rs=>D7 L d r::a1f L d rs
end
def Obj.sh (L d:Nat):Obj→Obj
 | .cells cs=>.cells (cs.map (AV.sh L d))
 | .map es=>.map (es.map fun e=>(e.1.sh L d,e.2.sh L d))
 | .dead=>.dead
def shS (L:Nat) (ext st:St):St:=(st.take L).map (Obj.sh L ext.length)++ext++(st.drop L).map (Obj.sh L ext.length)

section
variable {L d:Nat}
theorem i8:∀ as:List AV,D7 L d as=as.map (AV.sh L d)
 | []=>rfl
 | a::as=>by rw [D7,i8 as]; rfl
theorem m7:∀ rs:List (List AV),a1f L d rs=rs.map (·.map (AV.sh L d))
 | []=>rfl
 | r::rs=>by rw [a1f,m7 rs,i8]; rfl
theorem b2w {a b:Nat}:Nat.beq a b=false ↔ a≠b:=by
 rw [← Bool.not_eq_true,Nat.beq_eq]
theorem shN_inj {a b:Nat}:shN L d a=shN L d b ↔ a=b:=by
 unfold shN
 split <;> split <;> omega
theorem a1u (a:AV):(a.weak1).sh L d=(a.sh L d).weak1:=by cases a <;> simp only [AV.weak1,AV.sh]
theorem M5 (cs:List AV):(cs.map AV.weak1).map (AV.sh L d)=(cs.map (AV.sh L d)).map AV.weak1:=by
 rw [List.map_map,List.map_map]
 exact List.map_congr_left fun a _=>a1u a
theorem J6 (a:AV):(a.weak).sh L d=(a.sh L d).weak:=by
 cases a <;> simp only [AV.weak,AV.sh,i8,M5]
theorem a3z (cs:List AV):(cs.map AV.weak).map (AV.sh L d)=(cs.map (AV.sh L d)).map AV.weak:=by
 rw [List.map_map,List.map_map]
 exact List.map_congr_left fun a _=>J6 a
theorem Y5 (a:AV):(a.sh L d).cells=a.cells.map (AV.sh L d):=by cases a <;> simp only [AV.cells,AV.sh,i8,List.map_cons,List.map_nil]
theorem a5z (a:AV):(a.sh L d).cellsW=a.cellsW.map (AV.sh L d):=by
 cases a <;> simp only [AV.cellsW,AV.sh,i8,m7,List.map_cons,List.map_nil,List.isEmpty_map]
theorem b1M (a:AV):(a.sh L d).cellW1=a.cellW1.sh L d:=by
 cases a <;> simp only [AV.cellW1,AV.sh,i8,m7,List.isEmpty_map]
theorem b0B (cs:List AV):(cs.map (AV.sh L d)).map AV.cellW1=(cs.map AV.cellW1).map (AV.sh L d):=by
 rw [List.map_map,List.map_map]
 exact List.map_congr_left fun a _=>b1M a
theorem D6 (a:AV):(a.sh L d).plain=a.plain:=by cases a <;> rfl
theorem R6:∀ as:List AV,p6 (as.map (AV.sh L d))=p6 as
 | []=>rfl
 | a::as=>by rw [List.map_cons,p6,p6,D6,R6 as]
theorem b2X (a:AV):(a.strip).sh L d=(a.sh L d).strip:=by cases a <;> rfl
theorem b1I (a:AV):(a.stripB).sh L d=(a.sh L d).stripB:=by cases a <;> rfl
theorem A0 (ag:Bool) (n:Nat) (cs:List AV):g8 ag n (cs.map (AV.sh L d))=(g8 ag n cs).map (AV.sh L d):=by
 unfold g8
 rw [List.length_map]
 split
 · split
   · rw [Option.map_some,← List.map_take,AV.sh,i8,M5]
   · rfl
 · cases cs with
   | nil=>rfl
   | cons c cs=>rw [List.map_cons]; dsimp only; rw [Option.map_some,a1u]
theorem M8 (n:Nat) (cs:List AV):(cs.map (AV.sh L d)).drop n=(cs.drop n).map (AV.sh L d):=(List.map_drop).symm
theorem a1S (cs new:List AV) (off:Nat):m3 (cs.map (AV.sh L d)) off (new.map (AV.sh L d))=(m3 cs off new).map (AV.sh L d):=by
 unfold m3
 rw [List.map_append,List.map_append,List.length_map,List.map_take,List.map_drop]
theorem F2 (sz:Nat) (xs:List (List AV)):m6 sz (xs.map (·.map (AV.sh L d)))=m6 sz xs:=by
 cases xs with
 | nil=>rfl
 | cons r rs=>simp only [List.map_cons,m6,List.length_map]
theorem a3f:∀ (offs:List (Nat×Nat)) (ps cs out:List AV),q5 offs ps cs=some out→q5 offs (ps.map (AV.sh L d)) (cs.map (AV.sh L d))=some (out.map (AV.sh L d))
 | [],[],cs,out,h=>by simp only [q5] at h ⊢; cases h; rfl
 | (off,n)::offs,p::ps,cs,out,h=>by
  rw [q5] at h
  split at h
  · rename_i hc
    rw [List.map_cons,q5,D6,Y5,List.length_map,List.length_map,if_pos hc,a1S]
    exact a3f offs ps _ out h
  · cases h
 | [],_::_,_,_,h=>by simp [q5] at h
 | _::_,[],_,_,h=>by simp [q5] at h
theorem a3q (sz:Nat):∀ (is:List Nat) (ps:List AV) (rs out:List (List AV)),n9 sz is ps rs=some out→n9 sz is (ps.map (AV.sh L d)) (rs.map (·.map (AV.sh L d)))=some (out.map (·.map (AV.sh L d)))
 | [],[],rs,out,h=>by simp only [n9] at h ⊢; cases h; rfl
 | i::is,p::ps,rs,out,h=>by
  rw [n9] at h
  split at h
  · rename_i hc
    rw [List.map_cons,n9,D6,Y5,List.length_map,List.length_map,if_pos hc,← M5,← List.map_set]
    exact a3q sz is ps _ out h
  · cases h
 | [],_::_,_,_,h=>by simp [n9] at h
 | _::_,[],_,_,h=>by simp [n9] at h
theorem Z3 (sz:Nat):∀ (is:List Nat) (ps:List AV) (rs out:List (List AV)),l9 sz is ps rs=some out→l9 sz is (ps.map (AV.sh L d)) (rs.map (·.map (AV.sh L d)))=some (out.map (·.map (AV.sh L d)))
 | [],[],rs,out,h=>by simp only [l9] at h ⊢; cases h; rfl
 | i::is,p::ps,rs,out,h=>by
  rw [l9] at h
  split at h
  · rename_i hc
    rw [List.map_cons,l9,D6,Y5,List.length_map,List.length_map,if_pos hc,b0B,← List.map_set]
    exact Z3 sz is ps _ out h
  · cases h
 | [],_::_,_,_,h=>by simp [l9] at h
 | _::_,[],_,_,h=>by simp [l9] at h
theorem b3B (x:AV) (n:Nat):O0 (x.sh L d) n=O0 x n:=by cases x <;> rfl
theorem a0b (lo hi:Bool) (as:List AV) (n:Nat):E7 lo hi (as.map (AV.sh L d)) n=E7 lo hi as n:=by
 cases lo <;> cases hi <;> rcases as with _|⟨a,_|⟨b,_|⟨c,as⟩⟩⟩ <;> simp only [List.map_cons,List.map_nil,E7,b3B]
theorem a7a (kc:Nat) (a b:AV):C3 kc (a.sh L d) (b.sh L d)=C3 kc a b:=by
 cases a <;> cases b <;> rfl
theorem a3y (kc:Nat) (k:AV):∀ (es:List (AV×AV)) (i:Nat),q6 kc (k.sh L d) (es.map fun e=>(e.1.sh L d,e.2.sh L d)) i=(q6 kc k es i).map (Option.map fun r=>(r.1,r.2.sh L d))
 | [],_=>rfl
 | (k',v)::es,i=>by
  rw [List.map_cons,q6,q6,a7a]
  cases C3 kc k k' with
  | none=>rfl
  | some b=>cases b with
   | true=>rfl
   | false=>exact a3y kc k es (i+1)
theorem a4P:∀ xs:List (List AV),B7 (xs.map (·.map (AV.sh L d)))=B7 xs
 | []=>rfl
 | []::_=>rfl
 | [a]::rs=>by
  have ih:=a4P rs
  cases a <;> simp only [List.map_cons,List.map_nil,AV.sh,B7]
  rename_i k n
  cases k <;> simp only [B7]
  rw [ih]
 | (a::b::c)::r=>by
  have h:∀ (x y:AV) (u:List AV) (w:List (List AV)),B7 ((x::y::u)::w)=none:=fun x y u w=>by cases x <;> simp only [B7]
  rw [List.map_cons,List.map_cons,List.map_cons,h,h]
theorem a5C (sz:Nat):∀ (n:Nat) (cs:List AV),I3 sz n (cs.map (AV.sh L d))=(I3 sz n cs).map (·.map (AV.sh L d))
 | 0,_=>rfl
 | n+1,cs=>by rw [I3,I3,List.map_cons,M8,a5C sz n,List.map_take]
theorem U6 (xs:List (List AV)):(xs.map (·.map (AV.sh L d))).flatten=xs.flatten.map (AV.sh L d):=by rw [List.map_flatten]
theorem d07 (op:BinOp) (a b r:AV) (h:p5 op a b=some r):p5 op (a.sh L d) (b.sh L d)=some (r.sh L d):=by
 have hr:r.sh L d=r:=by
  unfold p5 at h
  split at h
  · cases op <;> dsimp only at h <;> (repeat' split at h) <;> first|(cases h; rfl)|cases h
  · cases op <;> dsimp only at h <;> (repeat' split at h) <;> first|(cases h; rfl)|cases h
  · cases h
 rw [hr,← h]
 unfold p5 at h
 split at h
 · rfl
 · rfl
 · cases h
theorem Z9 (a:AV):C4 (a.sh L d)=(C4 a).map (shN L d):=by cases a <;> rfl
end

section
variable {L:Nat} {ext:St}
theorem a9t {st:St} (h:L≤st.length):(shS L ext st).length=st.length+ext.length:=by
 unfold shS
 simp only [List.length_append,List.length_map,List.length_take,List.length_drop]
 omega
theorem B9 {st:St} (h:L≤st.length):shN L ext.length st.length=(shS L ext st).length:=by
 rw [a9t h,shN,if_neg (by omega)]
theorem Q4 {st:St} (h:L≤st.length) (o:Nat):(shS L ext st)[shN L ext.length o]?=(st[o]?).map (Obj.sh L ext.length):=by
 unfold shS shN
 split
 · rename_i ho
   rw [List.append_assoc,List.getElem?_append_left (by simp; omega),List.getElem?_map,List.getElem?_take,if_pos ho]
 · rename_i ho
   have e1:((st.take L).map (Obj.sh L ext.length)++ext).length=L+ext.length:=by simp; omega
   rw [List.getElem?_append_right (by rw [e1]; omega),e1,List.getElem?_map,List.getElem?_drop]
   congr 2
   omega
theorem E9 {st:St} (h:L≤st.length) (x:Obj):shS L ext (st++[x])=shS L ext st++[x.sh L ext.length]:=by
 unfold shS
 rw [List.take_append_of_le_length h,List.drop_append_of_le_length h,List.map_append,← List.append_assoc]
 rfl
theorem Q7 {st:St} (h:L≤st.length) (o:Nat) (x:Obj):shS L ext (st.set o x)=(shS L ext st).set (shN L ext.length o) (x.sh L ext.length):=by
 apply List.ext_getElem?
 intro j
 by_cases hj:∃ i,j=shN L ext.length i
 · obtain ⟨i,rfl⟩:=hj
   rw [Q4 (by simpa using h),List.getElem?_set,List.getElem?_set]
   by_cases e:o=i
   · subst e
     rw [if_pos rfl,if_pos rfl,a9t h]
     by_cases hl:o < st.length
     · rw [if_pos hl,if_pos (by unfold shN; split <;> omega)]; rfl
     · rw [if_neg hl,if_neg (by unfold shN; split <;> omega)]; rfl
   · rw [if_neg e,if_neg (fun h=>e (shN_inj.1 h)),Q4 h]
 · have hj2:L≤j∧j < L+ext.length:=by
    refine Decidable.byContradiction fun hc=>hj ?_
    by_cases h1:j < L
    · exact ⟨j,by rw [shN,if_pos h1]⟩
    · exact ⟨j - ext.length,by rw [shN,if_neg (by omega)]; omega⟩
   have hne:shN L ext.length o≠j:=fun e=>hj ⟨o,e.symm⟩
   rw [List.getElem?_set,if_neg hne]
   have gen:∀ s:St,L≤s.length→(shS L ext s)[j]?=ext[j - L]?:=by
    intro s hs
    unfold shS
    have e1:((s.take L).map (Obj.sh L ext.length)).length=L:=by simp; omega
    rw [List.append_assoc,List.getElem?_append_right (by rw [e1]; omega),e1,List.getElem?_append_left (by omega)]
   rw [gen _ (by simpa using h),gen _ h]

def shR (L:Nat) (ext:St) (r:AV×AV×St):AV×AV×St:=(r.1.sh L ext.length,r.2.1.sh L ext.length,shS L ext r.2.2)
def K5 (L:Nat) (ext:St) (call:b5):Prop:=∀ f as st r st',L≤st.length→call f as st=some (r,st')→call f (as.map (AV.sh L ext.length)) (shS L ext st)=some (r.sh L ext.length,shS L ext st')∧L≤st'.length
def SemSh (L:Nat) (ext:St) (f:List AV→AV→St→Option (AV×AV×St)) (as:List AV) (bx:AV) (st:St):Prop :=
 ∀ r,f as bx st=some r→f (as.map (AV.sh L ext.length)) (bx.sh L ext.length) (shS L ext st)=some (shR L ext r)∧L≤r.2.2.length

mutual
def AV.shut:AV→Bool
 | .list _ xs=>P0 xs
 | .ptr ..=>false
 | .ro cs=>B2 cs
 | .box cs=>B2 cs
 | .map _=>false
 | .func _ a c=>B2 a && B2 c
 | .agg cs=>B2 cs
 | .tuple vs=>B2 vs
 | .iface _ v=>v.shut
 | .sl ..=>false
 | .fresh xs=>P0 xs
 | _=>true
def B2:List AV→Bool
 | []=>true
 | a::as=>a.shut && B2 as
def P0:List (List AV)→Bool
 | []=>true
 | r::rs=>B2 r && P0 rs
end
end
mutual
theorem a5e (L d:Nat):∀ a:AV,a.shut=true→a.sh L d=a
 | .undef,_=>rfl
 | .bool b,_=>rfl
 | .int k n,_=>rfl
 | .str s,_=>rfl
 | .list o xs,h=>by rw [AV.sh,N0 L d xs (by simpa [AV.shut] using h)]
 | .ptr o f,h=>by simp [AV.shut] at h
 | .nilp,_=>rfl
 | .ro cs,h=>by rw [AV.sh,r6 L d cs (by simpa [AV.shut] using h)]
 | .loc i f,_=>rfl
 | .box cs,h=>by rw [AV.sh,r6 L d cs (by simpa [AV.shut] using h)]
 | .map o,h=>by simp [AV.shut] at h
 | .nilm,_=>rfl
 | .func f a c,h=>by
  simp only [AV.shut,Bool.and_eq_true] at h
  rw [AV.sh,r6 L d a h.1,r6 L d c h.2]
 | .nilf,_=>rfl
 | .agg cs,h=>by rw [AV.sh,r6 L d cs (by simpa [AV.shut] using h)]
 | .tuple vs,h=>by rw [AV.sh,r6 L d vs (by simpa [AV.shut] using h)]
 | .iface t v,h=>by rw [AV.sh,a5e L d v (by simpa [AV.shut] using h)]
 | .nili,_=>rfl
 | .sl o f n s,h=>by simp [AV.shut] at h
 | .fresh xs,h=>by rw [AV.sh,N0 L d xs (by simpa [AV.shut] using h)]
 | .nils,_=>rfl
theorem r6 (L d:Nat):∀ as:List AV,B2 as=true→D7 L d as=as
 | [],_=>rfl
 | a::as,h=>by
  simp only [B2,Bool.and_eq_true] at h
  rw [D7,a5e L d a h.1,r6 L d as h.2]
theorem N0 (L d:Nat):∀ rs:List (List AV),P0 rs=true→a1f L d rs=rs
 | [],_=>rfl
 | r::rs,h=>by
  simp only [P0,Bool.and_eq_true] at h
  rw [a1f,r6 L d r h.1,N0 L d rs h.2]
end
def Kind.shut:Kind→Bool
 | .alloc z|.allocO z|.build z _|.mget _ z _ _=>B2 z
 | .bslice _ z _|.bsliceM _ z _|.bsliceO _ z _=>P0 z
 | _=>true
section
variable {L:Nat} {ext:St}
theorem a8R {st st':St} (h:L≤st.length) (h':L≤st'.length):∀ gs:List AV,kept st st' gs=true→kept (shS L ext st) (shS L ext st') (gs.map (AV.sh L ext.length))=true
 | [],_=>rfl
 | g::gs,hk=>by
  rw [List.map_cons]
  simp only [kept,Bool.and_eq_true] at hk ⊢
  refine ⟨?_,a8R h h' gs hk.2⟩
  have hk:=hk.1
  rw [Z9]
  cases hr:C4 g with
  | none=>rw [hr] at hk; cases hk
  | some p =>
   rw [hr] at hk
   simp only [Option.map_some,Q4 h,Q4 h'] at hk ⊢
   cases h1:st[p]? with
   | none=>rw [h1] at hk; cases hk
   | some a =>
    cases h2:st'[p]? with
    | none=>rw [h1,h2] at hk; cases hk
    | some b =>
     rw [h1,h2] at hk
     simp only [Option.map_some] at hk ⊢
     rw [(S1 _ _).1 hk]
     exact (S1 _ _).2 rfl
theorem Q5 {st:St} (h:L≤st.length) (o:Option Nat):∀ gs:List AV,L6 o st.length gs=true→L6 (o.map (shN L ext.length)) (shS L ext st).length (gs.map (AV.sh L ext.length))=true
 | [],_=>rfl
 | g::gs,hk=>by
  rw [List.map_cons]
  simp only [L6,Bool.and_eq_true] at hk ⊢
  refine ⟨?_,Q5 h o gs hk.2⟩
  have hk:=hk.1
  rw [Z9]
  cases hr:C4 g with
  | none=>rw [hr] at hk; cases hk
  | some p =>
   rw [hr] at hk
   simp only [Option.map_some,Bool.and_eq_true] at hk ⊢
   obtain ⟨h1,h2⟩:=hk
   refine ⟨?_,?_⟩
   · rw [Nat.blt_eq] at h1 ⊢
     rw [← B9 h]
     unfold shN
     split <;> split <;> omega
   · cases o with
     | none=>rfl
     | some q =>
      simp only [Option.map_some,Bool.not_eq_true',b2w] at h2 ⊢
      exact fun e=>h2 (shN_inj.1 e)
end
end Go.Cb
/-
 THE ABSTRACT MACHINE, part 52: each operation at a store that has more in it.
-/
set_option maxRecDepth 4000
set_option linter.unusedVariables false
set_option linter.unusedSimpArgs false
namespace Go.Cb
open Classical
section
variable {L:Nat} {ext:St} {call:b5} {as:List AV} {bx:AV} {st:St}
theorem k9 {α β:Type} {x:Option α} {f:α→β} {r:β} (h:x.map f=some r):∃ a,x=some a∧f a=r:=Option.map_eq_some_iff.1 h
theorem SemSh.of (hL:L≤st.length) {f:List AV→AV→St→Option (AV×AV×St)} (h:∀ r b s,f as bx st=some (r,b,s)→s=st∧f (as.map (AV.sh L ext.length)) (bx.sh L ext.length) (shS L ext st)=some (r.sh L ext.length,b.sh L ext.length,shS L ext st)):SemSh L ext f as bx st:=by
 rintro ⟨r,b,s⟩ hr
 obtain ⟨rfl,h2⟩:=h r b s hr
 exact ⟨h2,hL⟩
theorem j16 (hL:L≤st.length):SemSh L ext (a1v call) as bx st:=SemSh.of hL fun r b s h=>by
 unfold a1v at h
 split at h
 · cases h; exact ⟨rfl,rfl⟩
 · cases h
theorem d05 (hL:L≤st.length):SemSh L ext (E1 call) as bx st:=SemSh.of hL fun r b s h=>by
 unfold E1 at h
 split at h
 · rename_i c x y
   have:AV.sh L ext.length (.bool c)=.bool c:=rfl
   simp only [E1,List.map_cons,List.map_nil,AV.sh,D6]
   split at h
   · rename_i hc
     rw [if_pos hc]
     split at h
     · rename_i hp; rw [if_pos hp]; cases h; exact ⟨rfl,rfl⟩
     · cases h
   · rename_i hc
     rw [if_neg hc]
     split at h
     · rename_i hp; rw [if_pos hp]; cases h; exact ⟨rfl,rfl⟩
     · cases h
 · cases h
theorem b1t (hL:L≤st.length):SemSh L ext (F1 call) as bx st:=SemSh.of hL fun r b s h=>by
 unfold F1 at h
 split at h <;> first|(cases h; exact ⟨rfl,rfl⟩)|cases h
theorem b4W {z:List AV} (hz:B2 z=true) (hL:L≤st.length):SemSh L ext (M0 z call) as bx st:=SemSh.of hL fun r b s h=>by
 unfold M0 at h
 split at h
 · cases h
   refine ⟨rfl,?_⟩
   show some (AV.undef,AV.box z,_)=some (AV.undef,AV.box (D7 L ext.length z),_)
   rw [r6 _ _ _ hz]
 · cases h
theorem f0P (hL:L≤st.length):SemSh L ext (M2 call) as bx st:=SemSh.of hL fun r b s h=>by
 unfold M2 at h
 split at h
 · rename_i a
   split at h
   · rename_i hp
     cases h
     refine ⟨rfl,?_⟩
     simp only [M2,List.map_cons,List.map_nil,AV.sh,D6,hp,if_true,a5z,i8]
   · cases h
 · cases h
theorem b4u {z:List AV} {offs:List (Nat×Nat)} (hz:B2 z=true) (hL:L≤st.length):SemSh L ext (H3 z offs call) as bx st:=SemSh.of hL fun r b s h=>by
 unfold H3 at h ⊢
 obtain ⟨cs,h1,h2⟩:=k9 h
 cases h2
 refine ⟨rfl,?_⟩
 have:=a3f (L:=L) (d:=ext.length) offs as z cs h1
 rw [← i8 z,r6 _ _ _ hz] at this
 rw [this,Option.map_some,AV.sh,i8]
theorem b1U {n:Nat} {z:List (List AV)} {at_:List Nat} (hz:P0 z=true) (hL:L≤st.length):SemSh L ext (H4 n z at_ call) as bx st:=SemSh.of hL fun r b s h=>by
 unfold H4 at h ⊢
 obtain ⟨cs,h1,h2⟩:=k9 h
 cases h2
 refine ⟨rfl,?_⟩
 have:=a3q (L:=L) (d:=ext.length) n at_ as z cs h1
 rw [← m7 z,N0 _ _ _ hz] at this
 rw [this,Option.map_some,AV.sh,m7]
theorem b0o {n:Nat} {z:List (List AV)} {at_:List Nat} (hz:P0 z=true) (hL:L≤st.length):SemSh L ext (F4 n z at_ call) as bx st:=SemSh.of hL fun r b s h=>by
 unfold F4 at h ⊢
 obtain ⟨cs,h1,h2⟩:=k9 h
 cases h2
 refine ⟨rfl,?_⟩
 have:=Z3 (L:=L) (d:=ext.length) n at_ as z cs h1
 rw [← m7 z,N0 _ _ _ hz] at this
 rw [this,Option.map_some,AV.sh,m7]
theorem b0L {n:Nat} {z:List (List AV)} {at_:List Nat} (hz:P0 z=true) (hL:L≤st.length):SemSh L ext (F6 n z at_ call) as bx st:=by
 rintro r h
 unfold F6 at h ⊢
 obtain ⟨cs,h1,rfl⟩:=k9 h
 have:=Z3 (L:=L) (d:=ext.length) n at_ as z cs h1
 rw [← m7 z,N0 _ _ _ hz] at this
 refine ⟨?_,by simp; omega⟩
 rw [this,Option.map_some,shR,E9 hL,AV.sh,B9 hL]
 simp only [Obj.sh,U6]
theorem d9L (hL:L≤st.length):SemSh L ext (J1 call) as bx st:=SemSh.of hL fun r b s h=>by
 unfold J1 at h
 split at h
 · rename_i k a k' c
   split at h
   · rename_i hk; cases h; subst hk; exact ⟨rfl,by simp only [J1,List.map_cons,List.map_nil,AV.sh,if_true]⟩
   · cases h
 · cases h
theorem d62 {neg:Bool} (hL:L≤st.length):SemSh L ext (J2 neg call) as bx st:=SemSh.of hL fun r b s h=>by
 unfold J2 at h
 split at h
 · split at h
   · rename_i hk; cases h; subst hk; exact ⟨rfl,by simp only [J2,List.map_cons,List.map_nil,AV.sh,D7,if_true]⟩
   · cases h
 · cases h
theorem e0D {i n:Nat} {ag:Bool} (hL:L≤st.length):SemSh L ext (G5 i ag n call) as bx st:=SemSh.of hL fun r b s h=>by
 unfold G5 at h
 split at h
 · rename_i j off cs
   split at h
   · rename_i hj
     obtain ⟨a,h1,h2⟩:=k9 h
     cases h2
     refine ⟨rfl,?_⟩
     simp only [G5,List.map_cons,List.map_nil,AV.sh,hj,if_true,i8,M8,A0,h1,Option.map_some]
   · cases h
 · cases h
theorem J7 {o:Nat} {cs:List AV} (hL:L≤st.length) (h:st[o]?=some (.cells cs)):(shS L ext st)[shN L ext.length o]?=some (.cells (cs.map (AV.sh L ext.length))):=by rw [Q4 hL,h]; rfl
theorem b5E {o:Nat} {es:List (AV×AV)} (hL:L≤st.length) (h:st[o]?=some (.map es)):(shS L ext st)[shN L ext.length o]?=some (.map (es.map fun e=>(e.1.sh L ext.length,e.2.sh L ext.length))):=by rw [Q4 hL,h]; rfl
theorem a8S {n:Nat} {ag:Bool} (hL:L≤st.length):SemSh L ext (q7 ag n call) as bx st:=SemSh.of hL fun r b s h=>by
 unfold q7 at h
 split at h
 · rename_i o off
   split at h
   · rename_i cs hc
     obtain ⟨a,h1,h2⟩:=k9 h
     cases h2
     refine ⟨rfl,?_⟩
     simp only [q7,List.map_cons,List.map_nil,AV.sh,J7 hL hc,M8,A0,h1,Option.map_some]
   · cases h
 · cases h
theorem e4f {n:Nat} {ag:Bool} (hL:L≤st.length):SemSh L ext (I7 ag n call) as bx st:=SemSh.of hL fun r b s h=>by
 unfold I7 at h
 split at h
 · obtain ⟨a,h1,h2⟩:=k9 h
   cases h2
   refine ⟨rfl,?_⟩
   simp only [I7,List.map_cons,List.map_nil,AV.sh,i8,A0,h1,Option.map_some]
 · cases h
theorem e6Y {n:Nat} {ag:Bool} (hL:L≤st.length):SemSh L ext (C0 ag n call) as bx st:=SemSh.of hL fun r b s h=>by
 unfold C0 at h
 split at h
 · obtain ⟨a,h1,h2⟩:=k9 h
   cases h2
   refine ⟨rfl,?_⟩
   simp only [C0,List.map_cons,List.map_nil,AV.sh,i8,A0,h1,Option.map_some]
 · rename_i o off
   split at h
   · rename_i cs hc
     obtain ⟨a,h1,h2⟩:=k9 h
     cases h2
     refine ⟨rfl,?_⟩
     simp only [C0,List.map_cons,List.map_nil,AV.sh,J7 hL hc,M8,A0,h1,Option.map_some]
   · cases h
 · cases h
theorem b3t {i:Nat} (hL:L≤st.length):SemSh L ext (H8 i call) as bx st:=SemSh.of hL fun r b s h=>by
 unfold H8 at h
 split at h
 · rename_i j off cs
   split at h
   · rename_i hj
     split at h
     · rename_i c hc
       cases h
       refine ⟨rfl,?_⟩
       simp only [H8,List.map_cons,List.map_nil,AV.sh,hj,if_true,i8,List.getElem?_map,hc,Option.map_some,List.map_set,a1u]
     · cases h
   · cases h
 · cases h
theorem a7u (hL:L≤st.length):SemSh L ext (s4 call) as bx st:=by
 rintro ⟨r,b,s⟩ h
 unfold s4 at h
 split at h
 · rename_i o off
   split at h
   · rename_i cs hc
     split at h
     · rename_i c hcc
       cases h
       refine ⟨?_,by simpa using hL⟩
       simp only [s4,List.map_cons,List.map_nil,AV.sh,J7 hL hc,List.getElem?_map,hcc,Option.map_some,shR,Q7 hL,Obj.sh,List.map_set,a1u]
     · cases h
   · cases h
 · cases h
theorem d5R {i n:Nat} (hL:L≤st.length):SemSh L ext (J0 i n call) as bx st:=SemSh.of hL fun r b s h=>by
 unfold J0 at h
 split at h
 · rename_i j off x cs
   split at h
   · rename_i hc
     cases h
     refine ⟨rfl,?_⟩
     simp only [J0,List.map_cons,List.map_nil,AV.sh,D6,Y5,List.length_map,i8]
     rw [if_pos hc,a1S]
   · cases h
 · cases h
theorem a9f {n:Nat} (hL:L≤st.length):SemSh L ext (A8 n call) as bx st:=by
 rintro ⟨r,b,s⟩ h
 unfold A8 at h
 split at h
 · rename_i o off x
   split at h
   · rename_i cs hc
     split at h
     · rename_i hp
       rw [fL_eq] at h
       cases h
       refine ⟨?_,by simpa using hL⟩
       simp only [A8,List.map_cons,List.map_nil,AV.sh,J7 hL hc,D6,Y5,List.length_map,fL_eq]
       rw [if_pos hp,a1S,shR,Q7 hL]
       rfl
     · cases h
   · cases h
 · cases h
theorem h9k {n:Nat} (hL:L≤st.length):SemSh L ext (P2 n call) as bx st:=SemSh.of hL fun r b s h=>by
 unfold P2 at h
 split at h
 · cases h; exact ⟨rfl,rfl⟩
 · cases h; exact ⟨rfl,rfl⟩
 · cases h; exact ⟨rfl,by simp only [P2,List.map_cons,List.map_nil,AV.sh,i8,M8]⟩
 · cases h
theorem g4A {o n:Nat} {ag:Bool} (hL:L≤st.length):SemSh L ext (P3 o n ag call) as bx st:=SemSh.of hL fun r b s h=>by
 unfold P3 at h
 split at h
 · split at h
   · rename_i hc
     obtain ⟨a,h1,h2⟩:=k9 h
     cases h2
     refine ⟨rfl,?_⟩
     simp only [P3,List.map_cons,List.map_nil,AV.sh,i8,List.length_map,hc,if_true,M8,A0,h1,Option.map_some]
   · cases h
 · cases h
theorem f8D {n:Nat} (hL:L≤st.length):SemSh L ext (I1 n call) as bx st:=SemSh.of hL fun r b s h=>by
 unfold I1 at h
 split at h
 · rename_i xs k i
   split at h
   · rename_i h0
     split at h
     · rename_i r' hr
       split at h
       · rename_i hl
         cases h
         refine ⟨rfl,?_⟩
         simp only [I1,List.map_cons,List.map_nil,AV.sh,m7,h0,if_true,List.getElem?_map,hr,Option.map_some,List.length_map,hl,i8]
       · cases h
     · cases h
   · cases h
 · rename_i h0
   split at h
   · rename_i hc
     cases h
     refine ⟨rfl,?_⟩
     simp only [I1,List.map_cons,List.map_nil,AV.sh]
     rw [if_pos hc]
   · cases h
 · cases h
theorem c5z {l n:Nat} (hL:L≤st.length):SemSh L ext (E8 l n call) as bx st:=SemSh.of hL fun r b s h=>by
 unfold E8 at h
 split at h
 · split at h
   · rename_i hc; cases h; refine ⟨rfl,?_⟩; simp only [E8,List.map_cons,List.map_nil,AV.sh,i8]; rw [if_pos hc,M8]
   · cases h
 · split at h
   · rename_i hc; cases h; refine ⟨rfl,?_⟩; simp only [E8,List.map_cons,List.map_nil,AV.sh]; rw [if_pos hc]
   · cases h
 · split at h
   · rename_i hc; cases h; refine ⟨rfl,?_⟩; simp only [E8,List.map_cons,List.map_nil,AV.sh]; rw [if_pos hc]
   · cases h
 · cases h
theorem e0x (hL:L≤st.length):SemSh L ext (G4 call) as bx st:=SemSh.of hL fun r b s h=>by
 unfold G4 at h
 split at h
 · split at h
   · rename_i h0
     split at h
     · rename_i hb; cases h; refine ⟨rfl,?_⟩; simp only [G4,List.map_cons,List.map_nil,AV.sh,h0,if_true,hb]
     · cases h
   · cases h
 · cases h
theorem h2J {lo hi:Bool} (hL:L≤st.length):SemSh L ext (K8 lo hi call) as bx st:=SemSh.of hL fun r b s h=>by
 unfold K8 at h
 split at h
 · obtain ⟨p,h1,h2⟩:=k9 h
   cases h2
   refine ⟨rfl,?_⟩
   simp only [K8,List.map_cons,AV.sh,a0b,h1,Option.map_some]
 · cases h
theorem f6i {n:Nat} {lo hi:Bool} (hL:L≤st.length):SemSh L ext (K3 n lo hi call) as bx st:=SemSh.of hL fun r b s h=>by
 unfold K3 at h
 split at h
 · split at h
   · rename_i hr
     obtain ⟨p,h1,h2⟩:=k9 h
     cases h2
     refine ⟨rfl,?_⟩
     simp only [K3,List.map_cons,AV.sh,m7,F2,hr,if_true,List.length_map,a0b,h1,Option.map_some,List.map_take,List.map_drop]
   · cases h
 · split at h
   · rename_i hr
     obtain ⟨p,h1,h2⟩:=k9 h
     cases h2
     refine ⟨rfl,?_⟩
     simp only [K3,List.map_cons,AV.sh,hr,if_true]
     unfold slB at h1 ⊢
     rw [a0b,h1]
     rfl
   · cases h
 · cases h
theorem f3Q (hL:L≤st.length):SemSh L ext (T1 call) as bx st:=SemSh.of hL fun r b s h=>by
 unfold T1 at h
 split at h
 · cases h; exact ⟨rfl,rfl⟩
 · cases h
theorem g44 {l n:Nat} {lo hi:Bool} (hL:L≤st.length):SemSh L ext (N8 l n lo hi call) as bx st:=SemSh.of hL fun r b s h=>by
 unfold N8 at h
 split at h
 · split at h
   · rename_i hr
     obtain ⟨p,h1,h2⟩:=k9 h
     cases h2
     refine ⟨rfl,?_⟩
     simp only [N8,List.map_cons,AV.sh,i8,List.length_map,hr,if_true,a0b,h1,Option.map_some,a5C,m7,List.map_take,List.map_drop]
   · cases h
 · cases h
theorem f2V {op:BinOp} (hL:L≤st.length):SemSh L ext (p7 op call) as bx st:=SemSh.of hL fun r b s h=>by
 unfold p7 at h
 split at h
 · obtain ⟨p,h1,h2⟩:=k9 h
   cases h2
   refine ⟨rfl,?_⟩
   simp only [p7,List.map_cons,List.map_nil,d07 op _ _ _ h1,Option.map_some]
 · cases h
theorem d4x {op:BinOp} (hL:L≤st.length):SemSh L ext (M1 op call) as bx st:=SemSh.of hL fun r b s h=>by
 unfold M1 at h
 split at h
 · rename_i x y
   obtain ⟨p,h1,h2⟩:=k9 h
   cases h2
   refine ⟨rfl,?_⟩
   unfold a9G at h1
   split at h1
   · split at h1 <;> first|(cases h1; rfl)|cases h1
   · cases h1
 · cases h
theorem e8b {op:BinOp} (hL:L≤st.length):SemSh L ext (G8 op call) as bx st:=SemSh.of hL fun r b s h=>by
 unfold G8 at h
 split at h
 · rename_i x y
   obtain ⟨p,h1,h2⟩:=k9 h
   cases h2
   refine ⟨rfl,?_⟩
   unfold a6g at h1
   split at h1
   all_goals first|cases h1|skip
   all_goals (split at h1 <;> first|(cases h1; rfl)|cases h1)
 · cases h
theorem j29 {op:UnOp} (hL:L≤st.length):SemSh L ext (a0f op call) as bx st:=SemSh.of hL fun r b s h=>by
 unfold a0f at h
 split at h <;> first|(cases h; exact ⟨rfl,rfl⟩)|cases h
theorem d0U {k:IntKind} (hL:L≤st.length):SemSh L ext (N5 k call) as bx st:=SemSh.of hL fun r b s h=>by
 unfold N5 at h
 split at h <;> first|(cases h; exact ⟨rfl,rfl⟩)|cases h
theorem i2n {f n:Nat} (hL:L≤st.length):SemSh L ext (T4 f n call) as bx st:=SemSh.of hL fun r b s h=>by
 unfold T4 at h ⊢
 split at h
 · rename_i hp
   cases h
   refine ⟨rfl,?_⟩
   rw [R6,if_pos hp,AV.sh,i8,i8,← a3z,List.map_take,List.map_drop]
 · cases h
theorem h2j (hL:L≤st.length):SemSh L ext (S7 call) as bx st:=by
 rintro ⟨r,b,s⟩ h
 unfold S7 at h
 split at h
 · cases h
   refine ⟨?_,by simp; omega⟩
   simp only [S7,List.map_nil,shR,E9 hL,AV.sh,B9 hL]
   rfl
 · cases h
theorem b14 {z:List AV} (hz:B2 z=true) (hL:L≤st.length):SemSh L ext (C6 z call) as bx st:=by
 rintro ⟨r,b,s⟩ h
 unfold C6 at h
 split at h
 · cases h
   refine ⟨?_,by simp; omega⟩
   simp only [C6,List.map_nil,shR,E9 hL,AV.sh,B9 hL,Obj.sh,← i8,r6 _ _ _ hz]
 · cases h
theorem b9A (hL:L≤st.length):SemSh L ext (I9 call) as bx st:=by
 rintro ⟨r,b,s⟩ h
 unfold I9 at h
 split at h
 · split at h
   · rename_i hp
     cases h
     refine ⟨?_,by simp; omega⟩
     simp only [I9,List.map_cons,List.map_nil,D6,hp,if_true,shR,E9 hL,AV.sh,B9 hL,Obj.sh,a5z]
   · cases h
 · cases h
end
end Go.Cb
