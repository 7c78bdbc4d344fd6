import Derived.Test.YtendfdoplhhjbaaGreatDoorXAms2
import Derived.Test.YtendfdoplhhjbaaGreatDoorXAms1
/-
 THE ABSTRACT MACHINE, part 27: functions, and calls at every depth.
-/
set_option maxRecDepth 4000
set_option linter.unusedSimpArgs false
set_option linter.unusedVariables false
namespace Go.Cb
open Classical

def a2O:List Nat→Bool
 | []=>true
 | x::xs=>!xs.any (Nat.beq x) && a2O xs

def O1 (c:Cx):List ResultVar→List ResK→Bool
 | [],[]=>true
 | .tmp t::rs,.v i::ks=>c.slots[i]? == some t && !c.bxs.contains i && O1 c rs ks
 | .tmp t::rs,.vs i::ks=>c.slots[i]? == some t && !c.bxs.contains i && O1 c rs ks
 | .cell a t::rs,.bx i agg n::ks=>c.slots[i]? == some a && k9 c t == some agg && k7 c t == some n && O1 c rs ks
 | _,_=>false

def b09 (P:Program) (gt:List (Nat×List AV)) (slots bxs:List Nat) (fn:Func) (f:AFn) (A:Nat→Prop):Bool :=
 f.ext.isNone && a2O slots && slots.all (fun s=>Nat.blt s fn.ntmps) && slots.take f.np == List.range f.np && Nat.ble f.np slots.length && Nat.beq f.nv slots.length &&
  (match fn.body with|some x=>m8 ⟨P,slots,bxs,fn.ntmps,gt,A⟩ x f.code|none=>false) && O1 ⟨P,slots,bxs,fn.ntmps,gt,A⟩ fn.results.toList f.results

def a2z (P:Program) (gt:List (Nat×List AV)) (f:Nat) (e:List AV→St→Option (AV×St)):Prop :=
 ∀ (args:List AV) (st:St) (res:AV) (st':St),e args st=some (res,st')→(∀ x∈args,x.weak=x) →
  ∀ (g:Gh) (w:World) (vs:List Value),SRel g w st→Globs gt g w→RelL g w args vs→Calls P f vs.toArray w (K3 g w st' res)

structure ProgOK (P:Program) (gt:List (Nat×List AV)) (tbl:Nat→Option AFn):Prop where
 mixed:P.follows .mixedOrders=true
 fn:∀ f af,tbl f=some af→W3 P f=true∧((∃ slots bxs fn,P.funcs[f]?=some fn∧∀ A,b09 P gt slots bxs fn af A=true)∨(∃ e,af.ext=some e∧a2z P gt f e))

theorem a1A:∀ {xs:List Nat},a2O xs=true→xs.Nodup
 | [],_=>List.nodup_nil
 | x::xs,h=>by
  simp only [a2O,Bool.and_eq_true,Bool.not_eq_true',List.any_eq_false,Nat.beq_eq] at h
  exact List.nodup_cons.2 ⟨fun hm=>h.1 x hm rfl,a1A h.2⟩

section
variable {c:Cx} {g:Gh} {w:World} {pr:Nat→Option Pl} {bx:Nat→Nat} {σ:Sig} {a:Act}

theorem b4U {t:TypeId} {n bb f:Nat} {ag:Bool} {cs:List AV} {us:List Value} {r:AV} (hag:k9 c t=some ag) (hn:k7 c t=some n) (hl:RelL g w cs us) (hc:w.rangeAt bb f us) (h1:∀ u∈us,u.oneCell'=true) (ht:g9 ag n cs=some r) :
 ∃ v,(loadVar t (ad bb f)).run c.P w=.ok v w∧ValOK g w No r v:=by
 obtain ⟨v,hrun,hr⟩:=J6 (c:=c) (g:=g) (bx:=fun _=>0) (fr:=[]) (a:={ tmps:=#[.pointer (some (ad bb f))],defers:=[] }) (o:={ (default:Oper) with op:=.load t (.tmp 0) }) (x:=.tmp 0) rfl hag hn (by simp [Act.eval]) hl hc h1 ht
 refine ⟨v,?_,?_⟩
 · simp only [execOp,Instr.loadAt,Instr.sureAddr,Act.eval,Sem.run_bind,Sem.run_pure] at hrun
   have e:(Array.getD #[Value.pointer (some (ad bb f))] 0 undef)=.pointer (some (ad bb f)):=rfl
   rw [e] at hrun
   simp only [Sem.run_pure,Result.andThen_ok] at hrun
   cases hq:(loadVar t (ad bb f)).run c.P w with
   | ok u w' =>
    rw [hq] at hrun
    simp only [Result.andThen_ok,Result.ok.injEq,Next.value.injEq] at hrun
    obtain ⟨rfl,rfl⟩:=hrun
    rfl
   | halt x w'=>rw [hq] at hrun; cases hrun
 · cases r <;> first|exact hr|skip
   · exfalso
     unfold g9 at ht
     split at ht
     · split at ht <;> simp at ht
     · split at ht
       · rename_i y ys
         simp only [Option.some.injEq] at ht
         simp only [RelL] at hl
         obtain ⟨v',r',_,hr',_⟩:=hl
         cases y <;> simp only [AV.weak1,reduceCtorEq] at ht
         simp [Rel] at hr'
       · cases ht
   · exfalso
     unfold g9 at ht
     split at ht
     · split at ht <;> simp at ht
     · split at ht
       · rename_i y ys
         simp only [Option.some.injEq] at ht
         simp only [RelL] at hl
         obtain ⟨v',r',_,hr',_⟩:=hl
         cases y <;> simp only [AV.weak1,reduceCtorEq] at ht
         simp [Rel] at hr'
       · cases ht

theorem VarOK.val {i:Nat} {x:AV} {v:Value} (h:VarOK g w pr bx i x v) (hb:∀ cs,x≠.box cs):ValOK g w (fun b=>pr b=some (.var i)) x v:=by
 cases x <;> first|exact h|exact absurd rfl (hb _)|exact h.elim

theorem a6I (h:S c g w pr bx σ a):∀ {rs:List ResultVar} {ks:List ResK} {vs:List AV},O1 c rs ks=true→D3 ks σ.fr=some vs →
 ∃ us:List Value,(rs.mapM fun (r:ResultVar)=>(match r with|.tmp t=>pure (a.tmps.getD t undef)|.cell x t=>do loadVar t (← asAddr (a.tmps.getD x undef)):Sem Value)).run c.P w=.ok us w ∧
  us.length=vs.length∧∀ (k:Nat) (x:AV) (u:Value),vs[k]?=some x→us[k]?=some u→ValOK g w (fun b=>∃ p,pr b=some p) x u
 | [],[],vs,_,hg=>by
  simp only [D3,Option.some.injEq] at hg
  subst hg
  exact ⟨[],rfl,rfl,fun k x u hx=>by simp at hx⟩
 | r::rs,k::ks,vs,hok,hg=>by
  simp only [D3] at hg
  split at hg
  case h_2=>cases hg
  rename_i x xs hx hxs
  simp only [Option.some.injEq] at hg
  subst hg
  have one:∃ u,((match r with|.tmp t=>pure (a.tmps.getD t undef)|.cell x t=>do loadVar t (← asAddr (a.tmps.getD x undef)):Sem Value)).run c.P w=.ok u w∧ValOK g w (fun b=>∃ p,pr b=some p) x u∧O1 c rs ks=true:=by
   have nobox:∀ i,i ∉ c.bxs→∀ cs,σ.fr.getD i .undef≠.box cs:=fun i hi cs hc=>hi (h.fr.bxs i cs hc)
   unfold O1 at hok
   split at hok <;> first|(rename_i e1 e2; cases e1; cases e2; done)|skip
   · rename_i e1 e2; cases e1
   · rename_i t rs' i ks' e1 e2
     cases e1; cases e2
     simp only [Bool.and_eq_true,beq_iff_eq] at hok
     simp only [ResK.get,Option.some.injEq] at hx
     subst hx
     have hv:=h.fr.var i t hok.1.1
     have hnbx:=nobox i (by simpa using hok.1.2)
     refine ⟨_,rfl,?_,hok.2⟩
     cases hq:σ.fr.getD i .undef <;> rw [hq] at hv <;> first
      | exact ValOK.of_weak (ValOK.rel hv)
      | exact hv.elim
      | exact absurd hq (hnbx _)
   · rename_i t rs' i ks' e1 e2
     cases e1; cases e2
     simp only [Bool.and_eq_true,beq_iff_eq] at hok
     simp only [ResK.get,Option.some.injEq] at hx
     subst hx
     have hv:=(h.fr.var i t hok.1.1).val (nobox i (by simpa using hok.1.2))
     exact ⟨_,rfl,hv.mono (Ext.refl _ _) fun b hb=>⟨⟨_,hb⟩,rfl,fun _ x=>x⟩,hok.2⟩
   · rename_i y t rs' i ag n ks' e1 e2
     cases e1; cases e2
     simp only [Bool.and_eq_true,beq_iff_eq] at hok
     obtain ⟨⟨⟨h1,h2⟩,h3⟩,h4⟩:=hok
     simp only [ResK.get] at hx
     split at hx
     · rename_i cs hcs
       have hvar:=h.fr.var i y h1
       rw [hcs] at hvar
       obtain ⟨hptr,_,_,arr,T,hh,hl,h1c,_⟩:=hvar
       obtain ⟨u,hu,hval⟩:=b4U (c:=c) h2 h3 hl (by simpa using a1m hh 0) h1c hx
       refine ⟨u,?_,hval.mono (Ext.refl _ _) fun b hb=>hb.elim,h4⟩
       simp only [hptr,asAddr,Sem.run_bind,Sem.run_pure,Result.andThen_ok]
       exact hu
     · cases hx
   · cases hok
  obtain ⟨u,hu,hval,hrest⟩:=one
  obtain ⟨us,hus,hlen,hall⟩:=a6I h hrest hxs
  refine ⟨u::us,?_,by simp [hlen],fun j y v hy hv=>?_⟩
  · rw [List.mapM_cons]
    simp only [Sem.run_bind,hu,hus,Result.andThen_ok,Sem.run_pure]
  · cases j with
    | zero=>simp at hy hv; subst hy; subst hv; exact hval
    | succ j=>exact hall j y v (by simpa using hy) (by simpa using hv)
 | [],_::_,_,hok,_=>by simp [O1] at hok
 | r::_,[],_,hok,_=>by cases r <;> simp [O1] at hok

def c3W:List Value→Value
 | [v]=>v
 | us=>.tuple us.toArray

theorem a1K {P:Program} {fn:Func} {tmps:Array Value} {us:List Value} {w:World}
 (h:(fn.results.toList.mapM fun (r:ResultVar)=>(match r with|.tmp t=>pure (tmps.getD t undef)|.cell x t=>do loadVar t (← asAddr (tmps.getD x undef)):Sem Value)).run P w=.ok us w) :
 (results fn tmps).run P w=.ok (c3W us) w:=by
 unfold results
 rw [Array.mapM_eq_mapM_toList]
 simp only [map_eq_pure_bind,bind_assoc,pure_bind,Sem.run_bind]
 erw [h]
 simp only [Result.andThen_ok,Sem.run_pure]
 match us with
 | []=>rfl
 | [v]=>rfl
 | u::v::us=>simp [c3W]

theorem b4A {P:Program} {gt:List (Nat×List AV)} {tbl:Nat→Option AFn} (hP:ProgOK P gt tbl):∀ n,H0 P gt (e8 tbl n):=by
 intro n
 induction n with
 | zero=>intro f args st res st' h; simp [e8] at h
 | succ n ih =>
  intro f args st res st' h hweak
  simp only [e8] at h
  cases htbl:tbl f with
  | none=>simp [htbl] at h
  | some af =>
   simp only [htbl] at h
   obtain ⟨hen,hfn⟩:=hP.fn f af htbl
   refine ⟨hen,fun g w vs hst hgl hrel=>?_⟩
   rcases hfn with ⟨slots,bxs,fn,hf,hok⟩|⟨e,he,hext⟩
   case inr =>
    simp only [he] at h
    exact hext args st res st' h hweak g w vs hst hgl hrel
   let A:Nat→Prop:=fun b=>w.heap.size≤b∨g.sr b≠none
   have hok:=hok A
   simp only [b09,Bool.and_eq_true,Option.isNone_iff_eq_none,beq_iff_eq,Nat.beq_eq] at hok
   obtain ⟨⟨⟨⟨⟨⟨⟨o1,o2⟩,o3⟩,o4⟩,o5⟩,o6⟩,o7⟩,o8⟩:=hok
   have o5:=Nat.le_of_ble_eq_true o5
   rw [o1] at h
   simp only at h
   split at o7
   case h_2=>cases o7
   rename_i body hbody
   unfold AFn.run at h
   split at h
   case isFalse=>cases h
   rename_i hlen
   split at h
   · cases h
   · rename_i ex fr' st1 hnex hexec
     let c:Cx:=⟨P,slots,bxs,fn.ntmps,gt,A⟩
     have hlt:∀ s∈slots,s < fn.ntmps:=fun s hs=>by
      have:=List.all_eq_true.1 o3 s hs
      simpa using this
     have fx:Fx c:=⟨a1A o2,hlt⟩
     have hvl:vs.length=af.np:=by rw [← hrel.length]; exact hlen
     have hnp:af.np≤fn.ntmps:=by
      rcases Nat.eq_zero_or_pos af.np with h0|h0
      · omega
      · have hm:af.np - 1∈slots:=by
         have:af.np - 1∈slots.take af.np:=by rw [o4]; simp; omega
         exact List.mem_of_mem_take this
        have:=hlt _ hm
        omega
     have hslot:∀ i s,slots[i]?=some s→i < af.np→s=i:=fun i s hs hi=>by
      have h1:(slots.take af.np)[i]?=some s:=by rw [List.getElem?_take,if_pos hi]; exact hs
      rw [o4] at h1
      simp [hi] at h1
      exact h1.symm
     let tm:Array Value:=vs.toArray++Array.replicate (fn.ntmps - vs.toArray.size) undef
     have hS:S c g w (fun _=>none) (fun _=>0) ⟨args++List.replicate (af.nv - af.np) .undef,fun _=>.undef,st⟩ { tmps:=tm,defers:=[] }:=by
      refine ⟨⟨by simp [tm,c]; omega,by simp [c,hlen,o6]; omega,fun i s hs=>?_,fun s _=>ValOK.undef,fun b p hb=>(by cases hb),fun i cs hi=>?_⟩,hst,hgl,fun b hb=>.inl hb,fun b p hb=>.inr (by rw [hb]; simp)⟩
      · rcases Nat.lt_or_ge i af.np with hi|hi
        · have hs':=hslot i s hs hi
          subst hs'
          have ha:s < args.length:=by omega
          have hv:s < vs.length:=by omega
          obtain ⟨v,hv1,hv2⟩:=hrel.get (List.getElem?_eq_getElem ha)
          have e1:(args++List.replicate (af.nv - af.np) AV.undef).getD s .undef=args[s]:=by
           rw [List.getD_eq_getElem?_getD,List.getElem?_append_left ha,List.getElem?_eq_getElem ha]; rfl
          have e2:tm.getD s undef=v:=by
           simp only [tm,Array.getD_eq_getD_getElem?]
           rw [Array.getElem?_append_left (by simpa using hv)]
           simp [hv1]
          rw [e1,e2]
          have hw:=hweak args[s] (List.getElem_mem ha)
          have hval:ValOK g w (fun b=>(fun _=>none:Nat→Option Pl) b=some (.var s)) args[s].weak v:=ValOK.of_weak hv2
          rw [hw] at hval
          revert hval
          cases args[s] <;> intro hval <;> first|exact hval|exact hval.rel.elim
        · have e1:(args++List.replicate (af.nv - af.np) AV.undef).getD i .undef=.undef:=by
           rw [List.getD_eq_getElem?_getD,List.getElem?_append_right (by omega)]
           cases hq:(List.replicate (af.nv - af.np) AV.undef)[i - args.length]? with
           | none=>rfl
           | some x=>rw [List.eq_of_mem_replicate (List.mem_of_getElem? hq)]; rfl
          rw [e1]
          exact VarOK.undef
      · exfalso
        rcases Nat.lt_or_ge i args.length with hi'|hi'
        · obtain ⟨v,hv1,hv2⟩:=hrel.get (List.getElem?_eq_getElem hi')
          rw [List.getD_eq_getElem?_getD,List.getElem?_append_left hi',List.getElem?_eq_getElem hi'] at hi
          simp only [Option.getD_some] at hi
          rw [hi] at hv2
          exact hv2
        · rw [List.getD_eq_getElem?_getD,List.getElem?_append_right hi'] at hi
          cases hq:(List.replicate (af.nv - af.np) AV.undef)[i - args.length]? with
          | none=>rw [hq] at hi; cases hi
          | some x=>rw [hq,List.eq_of_mem_replicate (List.mem_of_getElem? hq)] at hi; cases hi
     refine calls_of_wp hf hbody ?_
     refine k4 (c:=c) _ _ o7 fx hP.mixed ih hS hexec fun a' w' g' pr' bx' τ' hd hS' ht=>?_
     have hbp:bodyPost P fn (K3 g w st' res) .ret a' w':=by
      refine ⟨hd,?_⟩
      have hgo:∀ vs',D3 af.results fr'=some vs'→some ((match vs' with|[v]=>v|vs'=>AV.tuple vs'),st1)=some (res,st')→∃ v,(results fn a'.tmps).run P w'=.ok v w'∧K3 g w st' res (.returned v) w':=by
       intro vs' hg hres
       simp only [Option.some.injEq,Prod.mk.injEq] at hres
       obtain ⟨rfl,rfl⟩:=hres
       obtain ⟨us,hus,hul,hall⟩:=a6I (c:=c) hS' o8 hg
       refine ⟨_,a1K hus,_,g',rfl,hS'.st,⟨ht.ext,ht.size,ht.env,fun b hb hs _=>ht.keep b hb hs fun hA=>?_⟩,?_⟩
       · rcases hA with hA|hA
         · omega
         · exact hA hs
       · match vs',us,hul,hall with
         | [],[],_,_=>exact ValOK.mk' (by simp only [Rel]; exact ⟨#[],rfl,by simp [RelL]⟩) (by simp) (by simp)
         | [x],[u],_,hall =>
          refine (hall 0 x u rfl rfl).mono (Ext.refl _ _) fun b hb=>⟨?_,rfl,fun _ x=>x⟩
          obtain ⟨p,hp⟩:=hb
          obtain ⟨q1,q2,q3⟩:=hS'.fr.prv b p hp
          exact ⟨q1,q2,q3⟩
         | x::y::xs,u::v::us,hul,hall =>
          refine ValOK.mk' ?_ (by simp) (by simp)
          simp only [Rel]
          exact ⟨_,rfl,RelL.of_get (by simpa using hul.symm) fun i x u hx hu=>(hall i x u hx hu).rel⟩
      split at h
      · rename_i v hg
        exact hgo [v] hg h
      · rename_i vs' hne hg
        refine hgo vs' hg ?_
        rw [← h]
        match vs',hne with
        | [],_=>rfl
        | [v],hne=>exact absurd rfl (hne v)
        | _::_::_,_=>rfl
      · cases h
     cases ex with
     | normal=>exact hbp
     | ret=>exact hbp
     | exit id=>exact (hnex id rfl).elim
   · cases h
end
end Go.Cb
/-
 THE ABSTRACT MACHINE, part 29: slices.Clone.
-/
set_option maxRecDepth 4000
set_option linter.unusedSimpArgs false
set_option linter.unusedVariables false
namespace Go.Cb
open Classical

section
variable {c:Cx} {g:Gh} {w:World} {pr:Nat→Option Pl} {bx:Nat→Nat} {σ:Sig} {a:Act} {o:Oper}

theorem c6b (fx:Fx c) (h:S c g w pr bx σ a) {t e:TypeId} {i:TypeInfo} {d:Dst} (ho:o.op=.buildSlice t 0 #[]) (hu:c.P.underlying t=some (.slice e)) (hi:c.P.info? e=some i) (hd:j9 c o.dst d=true)
 {next:Act→World→Prop} {Q:Exit→Act→World→Prop} (hnext:Post c g w a (d.put (.list true []) σ) next):o.wp c.P a w next Q:=by
 have hrun:(execOp a.eval o).run c.P w=.ok (.value (.slice (some (ad w.heap.size 0)) 0 0)) (w.alloc (.cells #[] e)):=by
  have e0:(Array.map (fun _:Nat=>(default:Value)) (Array.range 0))=#[]:=by apply Array.ext'; simp
  simp [execOp,ho,Instr.buildSlice,run_underlying hu,sizeOf,typeInfo,hi,Instr.fill,newRow,e0]
 unfold Oper.wp
 rw [hrun]
 refine hnext _ _ g pr bx (l0 _ _ _) (I6 fx (h.alloc _ _) hd (mine:=No) (r:=.list true []) ?_ fun _ x=>x.elim) (Tr.alloc _ h.st.cli _)
 refine (show ValOK g _ No (.list true []) _ from ⟨?_,fun _ _=>.inl ⟨_,_,rfl⟩,fun _ e=>(by cases e)⟩)
 simp only [Rel]
 exact ⟨_,0,0,rfl,rfl,Nat.le_refl _,fun _=>rfl,fun h=>absurd rfl h⟩

theorem c9l (fx:Fx c) (h:S c g w pr bx σ a) {t t' e:TypeId} {x:Operand} {d:Dst} {ad0:Option Addr} {n cap:Nat} (ho:o.op=.binOp .eql t x (.const (.slice none 0 0)) t') (hu:c.P.underlying t=some (.slice e))
 (hx:a.eval x=.slice ad0 n cap) (hd:j9 c o.dst d=true) {next:Act→World→Prop} {Q:Exit→Act→World→Prop} (hnext:Post c g w a (d.put (.bool ad0.isNone) σ) next):o.wp c.P a w next Q:=by
 have hrun:(execOp a.eval o).run c.P w=.ok (.value (.bool ad0.isNone)) w:=by
  have hg:∀ v:Value,(eqGuard .eql t x (.const (.slice none 0 0)) (.slice ad0 n cap) (.slice none 0 0)).run c.P w=.ok () w:=fun _=>rfl
  have hy:a.eval (.const (.slice none 0 0))=.slice none 0 0:=rfl
  have heq:(Op.equal t (.slice ad0 n cap) (.slice none 0 0)).run c.P w=.ok ad0.isNone w:=by
   rw [P8,Op.equalIn,Sem.run_bind,run_underlying hu,Result.andThen_ok]
   cases ad0 <;> rfl
  simp only [execOp,ho,hx,hy,hg (.bool true),binOp,Sem.run_bind,heq,Result.andThen_ok,Sem.run_pure]
 exact a9V fx h hd (r:=.bool ad0.isNone) hrun (show ValOK g w No (.bool ad0.isNone) (.bool ad0.isNone) from ValOK.mk' (by simp [Rel]) (by simp) (by simp)) hnext

def a7V (P:Program) (t sz bytes:Nat):Bool:=match P.underlying t with
 | some (.slice e)=>match P.info? e with
  | some ie=>ie.size == sz && ie.bytes == bytes && decide (0 < bytes) && (match ie.zero with|some z=>z.cells.size == sz|none=>false)
  | none=>false
 | _=>false

structure CloneShape (P:Program) (fn:Func) (t sz bytes:Nat) where
 i0:Nat
 i1:Nat
 i2:Nat
 i3:Nat
 o0:Oper
 o1:Oper
 o2:Oper
 o3:Oper
 o4:Oper
 o5:Oper
 o6:Oper
 o7:Oper
 ty:TypeId
 body:fn.body=some (.seq (.region i0 #[o0] false) (.seq (.seq (.region i1 #[o1,o2] false) (.cond (.tmp 4) (.seq (.region i2 #[o3] false) .ret) .skip)) (.seq (.region i3 #[o4,o5,o6,o7] false) .ret)))
 nt:fn.ntmps=8
 res:fn.results=#[.tmp 2]
 d0:o0.dst=some 2∧o0.op=.assign (.const (.slice none 0 0))∧o0.guard=none
 d1:o1.dst=some 3∧o1.op=.move (.tmp 0)∧o1.guard=none
 d2:o2.dst=some 4∧o2.op=.binOp .eql t (.tmp 3) (.const (.slice none 0 0)) ty∧o2.guard=none
 d3:o3.dst=some 2∧o3.op=.assign (.const (.slice none 0 0))∧o3.guard=none
 d4:o4.dst=some 5∧o4.op=.buildSlice t 0 #[]∧o4.guard=none
 d5:o5.dst=some 6∧o5.op=.move (.tmp 0)∧o5.guard=none
 d6:o6.dst=some 7∧o6.op=.call { callee:=.builtin .append,args:=#[.tmp 5,.tmp 6],argTypes:=#[t,t] }∧o6.guard=none
 d7:o7.dst=some 2∧o7.op=.assign (.tmp 7)∧o7.guard=none
 tb:a7V P t sz bytes=true

theorem a8O {P:Program} {t sz bytes:Nat} (h:a7V P t sz bytes=true):∃ e ie z,P.underlying t=some (.slice e)∧P.info? e=some ie∧ie.zero=some z∧ie.size=sz∧ie.bytes=bytes∧z.cells.size=sz∧0 < bytes:=by
 unfold a7V at h
 split at h
 case h_2=>cases h
 rename_i e hu
 split at h
 case h_2=>cases h
 rename_i ie hi
 simp only [Bool.and_eq_true,beq_iff_eq,decide_eq_true_eq] at h
 obtain ⟨⟨⟨h1,h2⟩,h3⟩,h4⟩:=h
 split at h4
 case h_2=>cases h4
 rename_i z hz
 exact ⟨e,ie,z,hu,hi,hz,h1,h2,by simpa using h4,h3⟩

theorem a7n {P:Program} {gt:List (Nat×List AV)} {f t sz bytes:Nat} {fn:Func} (hf:P.funcs[f]?=some fn) (C:CloneShape P fn t sz bytes):a2z P gt f (U9 sz bytes):=by
 intro args st res st' h hweak g w vs hst _ hrel
 obtain ⟨e,ie,z,tu,ti,tz,tsz,tby,tzs,tb1⟩:=a8O C.tb
 unfold U9 at h
 split at h
 case h_2=>cases h
 rename_i own xs
 split at h
 case isFalse=>cases h
 rename_i hcond
 simp only [Bool.and_eq_true,decide_eq_true_eq] at hcond
 obtain ⟨hrows,hbytes⟩:=hcond
 simp only [Option.some.injEq,Prod.mk.injEq] at h
 obtain ⟨rfl,rfl⟩:=h
 simp only [RelL] at hrel
 obtain ⟨v,_,rfl,hv,rfl⟩:=hrel
 have hvs:=hv
 simp only [Rel] at hvs
 obtain ⟨ad0,n,cap,rfl,rfl,hcap,hnil,hne⟩:=hvs
 let A:Nat→Prop:=fun b=>w.heap.size≤b∨g.sr b≠none
 let c:Cx:=⟨P,[0,2],[],8,[],A⟩
 have fx:Fx c:=⟨show ([0,2]:List Nat).Nodup by decide,show ∀ s∈([0,2]:List Nat),s < 8 by decide⟩
 have hown:own=false:=by
  have:=hweak (.list own xs) (by simp)
  simpa [AV.weak] using this.symm
 subst hown
 refine calls_of_wp hf C.body ?_
 have hS:S c g w (fun _=>none) (fun _=>0) ⟨[.list false xs,.undef],fun _=>.undef,st⟩ { tmps:=#[Value.slice ad0 xs.length cap]++Array.replicate (fn.ntmps - 1) undef,defers:=[] }:=by
  refine ⟨⟨by simp [c,C.nt],rfl,fun i s hs=>?_,fun s _=>ValOK.undef,fun b p hb=>(by cases hb),fun i cs hi=>?_⟩,hst,fun e he=>(by cases he),fun b hb=>.inl hb,fun b p hb=>.inr (by rw [hb]; simp)⟩
  · match i,hs with
    | 0,hs =>
     simp only [c,List.getElem?_cons_zero,Option.some.injEq] at hs
     subst hs
     have hval:ValOK g w (fun b=>(fun _=>none:Nat→Option Pl) b=some (.var 0)) (AV.list false xs).weak (.slice ad0 xs.length cap):=ValOK.of_weak hv
     have e0:(#[Value.slice ad0 xs.length cap]++Array.replicate (fn.ntmps - 1) undef).getD 0 undef=.slice ad0 xs.length cap:=by rw [C.nt]; rfl
     show VarOK g w (fun _=>none) (fun _=>0) 0 (.list false xs) ((#[Value.slice ad0 xs.length cap]++Array.replicate (fn.ntmps - 1) undef).getD 0 undef)
     rw [e0]
     exact hval
    | 1,hs=>exact VarOK.undef
    | i+2,hs=>simp [c] at hs
  · match i,hi with
    | 0,hi=>simp at hi
    | 1,hi=>simp at hi
    | i+2,hi=>simp at hi
 -- the end
 have fin:∀ (x:AV) (a':Act) (w':World) (g':Gh) (pr':Nat→Option Pl) (bx':Nat→Nat) (τ':Nat→AV),a'.defers=[]→S c g' w' pr' bx' ⟨[x,.list true xs],τ',st⟩ a'→Tr c.A g w g' w' →
  bodyPost P fn (K3 g w st (.list true xs)) .ret a' w':=by
  intro x a' w' g' pr' bx' τ' hd hS' ht
  refine ⟨hd,?_⟩
  obtain ⟨us,hus,hul,hall⟩:=a6I (c:=c) hS' (rs:=fn.results.toList) (ks:=[.vs 1]) (vs:=[.list true xs]) (by rw [C.res]; rfl) rfl
  refine ⟨_,a1K hus,_,g',rfl,hS'.st,⟨ht.ext,ht.size,ht.env,fun b hb hs _=>ht.keep b hb hs fun hA=>?_⟩,?_⟩
  · rcases hA with hA|hA
    · omega
    · exact hA hs
  · match us,hul,hall with
    | [u],_,hall =>
     refine (hall 0 (.list true xs) u rfl rfl).mono (Ext.refl _ _) fun b hb=>⟨?_,rfl,fun _ x=>x⟩
     obtain ⟨p,hp⟩:=hb
     obtain ⟨q1,q2,q3⟩:=hS'.fr.prv b p hp
     exact ⟨q1,q2,q3⟩
 refine wp_seq (wp_region ?_)
 show wpOps P #[C.o0] _ [0] _ _
 rw [wpOps_cons]
 refine J7 rfl C.d0.2.2 (a0T (c:=c) fx hS (.inr C.d0.2.1) (p:=.c (.list true [])) (d:=.v 1) rfl (by rw [C.d0.1]; rfl) fun a1 w1 g1 pr1 bx1 hd1 hS1 ht1=>?_)
 show (Code.seq _ _).wp P _ a1 w1
 refine wp_seq (wp_seq (wp_region ?_))
 show wpOps P #[C.o1,C.o2] _ [0,1] _ _
 rw [wpOps_cons]
 refine J7 rfl C.d1.2.2 (a0T (c:=c) fx hS1 (.inl C.d1.2.1) (p:=.v 0) (d:=.t 3) rfl (by rw [C.d1.1]; rfl) fun a2 w2 g2 pr2 bx2 hd2 hS2 ht2=>?_)
 rw [wpOps_cons]
 have hA2:=C0 hS2 (x:=.tmp 3) (p:=.t 3) rfl
 have hr2:Rel g2 w2 (.list false xs) (a2.eval (.tmp 3)):=ValOK.rel hA2
 have hr2':=hr2
 simp only [Rel] at hr2'
 obtain ⟨ad2,n2,cap2,hev2,hn2,hcap2,hnil2,hne2⟩:=hr2'
 refine J7 rfl C.d2.2.2 (c9l (c:=c) fx hS2 C.d2.2.1 tu hev2 (d:=.t 4) (by rw [C.d2.1]; rfl) fun a3 w3 g3 pr3 bx3 hd3 hS3 ht3=>?_)
 show (Code.cond _ _ _).wp P _ a3 w3
 have ht03:=(ht1.trans ht2).trans ht3
 have hd03:a3.defers=[]:=hd3.trans (hd2.trans hd1)
 have hb:=V5 hS3 (x:=.tmp 4) (y:=.t 4) rfl (b:=ad2.isNone) rfl
 refine wp_cond hb ?_
 cases ad2 with
 | none =>
  have hx0:xs=[]:=by
   have:=hnil2 rfl
   exact List.eq_nil_of_length_eq_zero (by omega)
  refine wp_seq (wp_region ?_)
  show wpOps P #[C.o3] _ [0] _ _
  rw [wpOps_cons]
  refine J7 rfl C.d3.2.2 (a0T (c:=c) fx hS3 (.inr C.d3.2.1) (p:=.c (.list true [])) (d:=.v 1) rfl (by rw [C.d3.1]; rfl) fun a4 w4 g4 pr4 bx4 hd4 hS4 ht4=>?_)
  show Code.ret.wp P _ a4 w4
  refine wp_ret ?_
  show bodyPost P fn _ .ret a4 w4
  subst hx0
  exact fin _ a4 w4 g4 pr4 bx4 _ (hd4.trans hd03) hS4 (ht03.trans ht4)
 | some ad3 =>
  refine wp_skip ?_
  show (Code.seq _ _).wp P _ a3 w3
  refine wp_seq (wp_region ?_)
  show wpOps P #[C.o4,C.o5,C.o6,C.o7] _ [0,1,2,3] _ _
  rw [wpOps_cons]
  refine J7 rfl C.d4.2.2 (c6b (c:=c) fx hS3 C.d4.2.1 tu ti (d:=.t 5) (by rw [C.d4.1]; rfl) fun a4 w4 g4 pr4 bx4 hd4 hS4 ht4=>?_)
  rw [wpOps_cons]
  refine J7 rfl C.d5.2.2 (a0T (c:=c) fx hS4 (.inl C.d5.2.1) (p:=.v 0) (d:=.t 6) rfl (by rw [C.d5.1]; rfl) fun a5 w5 g5 pr5 bx5 hd5 hS5 ht5=>?_)
  rw [wpOps_cons]
  refine J7 rfl C.d6.2.2 (b1G (c:=c) fx hS5 C.d6.2.1 rfl tu ti tz tsz tby tzs tb1 (p0:=.ts 5) (p1:=.t 6) (d:=.t 7) rfl rfl (by rw [C.d6.1]; rfl) (by rw [C.d6.1]; rfl) (xs:=[]) (ys:=xs) (own:=false) rfl rfl rfl hrows (by simpa using hbytes) fun a6 w6 g6 pr6 bx6 hd6 hS6 ht6=>?_)
  rw [wpOps_cons]
  refine J7 rfl C.d7.2.2 (a0T (c:=c) fx hS6 (.inr C.d7.2.1) (p:=.ts 7) (d:=.v 1) rfl (by rw [C.d7.1]; rfl) fun a7 w7 g7 pr7 bx7 hd7 hS7 ht7=>?_)
  show Code.ret.wp P _ a7 w7
  refine wp_ret ?_
  show bodyPost P fn _ .ret a7 w7
  exact fin _ a7 w7 g7 pr7 bx7 _ (hd7.trans (hd6.trans (hd5.trans (hd4.trans hd03)))) hS7 ((((ht03.trans ht4).trans ht5).trans ht6).trans ht7)
end
end Go.Cb
/-
 THE ABSTRACT MACHINE, part 30: from an abstract answer to the model's call.
-/
set_option maxRecDepth 4000
set_option linter.unusedVariables false
namespace Go.Cb
open Classical

def gh0 (W:World):Gh:={ n:=0,m:=fun _=>0,cl:=fun b _=>b < W.heap.size,sr:=fun _=>none,cp:=fun _=>0 }

theorem e4m (W:World):SRel (gh0 W) W []:=⟨rfl,fun o ob h=>by simp at h,fun b p h=>(by cases h),fun b f h=>h⟩

structure Kept (W W':World):Prop where
 kept:W.keptBut W' (fun _=>False)
 fz:∀ a:Addr,a.block < W.heap.size→W'.frozen? a=W.frozen? a
 size:W.heap.size≤W'.heap.size
 old:∀ b,b < W.heap.size→W'.heap[b]?=W.heap[b]?

theorem F1 {P:Program} {gt:List (Nat×List AV)} {tbl:Nat→Option AFn} (hP:ProgOK P gt tbl) {n f:Nat} {args:List AV} {b:Bool} {st':St} (h:e8 tbl n f args []=some (.bool b,st')) (hw:∀ x∈args,x.weak=x)
 {W:World} {vs:List Value} (hg:Globs gt (gh0 W) W) (hr:RelL (gh0 W) W args vs):Calls P f vs.toArray W (fun e W'=>e=.returned (.bool b)∧Kept W W'):=by
 refine ((b4A hP n f args [] _ _ h hw).2 (gh0 W) W vs (e4m W) hg hr).mono fun e W' he=>?_
 obtain ⟨v,g',rfl,_,ht,hv⟩:=he
 have hv:=hv.rel
 simp only [Rel] at hv
 subst hv
 have hold:∀ b,b < W.heap.size→W'.heap[b]?=W.heap[b]?:=fun b hb=>(ht.keep b hb rfl fun x=>x).1.1
 refine ⟨rfl,⟨ht.env.os,ht.env.out,fun i hi=>?_⟩,ht.env.fz,ht.size,hold⟩
 rw [hold i hi]
 cases hq:W.heap[i]? with
 | none=>simp
 | some o=>cases o <;> simp
end Go.Cb
/-
 THE ABSTRACT MACHINE, part 28: running told as a chain, for reckoning with unknowns.
-/
set_option maxRecDepth 4000
set_option linter.unusedSimpArgs false
set_option linter.unusedVariables false
namespace Go.Cb
open Classical

theorem b6 {α:Sort _} {a b:α} (h:a=b):a=b:=by
 cases h
 rfl

def obind {α β:Type} (x:Option α) (f:α→Option β):Option β:=match x with
 | some a=>f a
 | none=>none
theorem j4 {α β:Type} (a:α) (f:α→Option β):obind (some a) f=f a:=b6 rfl
theorem L8 {α β:Type} {x x':Option α} {f:α→Option β} (h:x=x'):obind x f=obind x' f:=by rw [h]

def p1 (x:Option (AV×AV×St)):Option AV:=match x with
 | some (r,_,_)=>some r
 | none=>none
theorem b0g (r b:AV) (st:St):p1 (some (r,b,st))=some r:=b6 rfl
def p2 (x:Option (AV×AV×St)):Option (AV×St):=match x with
 | some (r,_,st)=>some (r,st)
 | none=>none
theorem V0 (r b:AV) (st:St):p2 (some (r,b,st))=some (r,st):=b6 rfl

def gv (x:AV) (want:Bool) (e:Option AV):Option AV:=match x with
 | .bool b=>if b == want then e else some (.tuple [])
 | .tuple []=>some (.tuple [])
 | _=>none
def gv2 (x:AV) (want:Bool) (st:St) (e:Option (AV×St)):Option (AV×St):=match x with
 | .bool b=>if b == want then e else some (.tuple [],st)
 | .tuple []=>some (.tuple [],st)
 | _=>none
theorem a4g (want:Bool) (e:Option AV):gv (.tuple []) want e=some (.tuple []):=b6 rfl

theorem b56 (e:Option AV):gv (.bool true) true e=e:=b6 rfl
theorem b6L (e:Option AV):gv (.bool true) false e=some (.tuple []):=b6 rfl
theorem b5Q (e:Option AV):gv (.bool false) false e=e:=b6 rfl
theorem b5u (e:Option AV):gv (.bool false) true e=some (.tuple []):=b6 rfl
theorem b3u (st:St) (e:Option (AV×St)):gv2 (.bool true) true st e=e:=b6 rfl
theorem b2t (st:St) (e:Option (AV×St)):gv2 (.bool true) false st e=some (.tuple [],st):=b6 rfl
theorem b3b (st:St) (e:Option (AV×St)):gv2 (.bool false) false st e=e:=b6 rfl
theorem b3p (st:St) (e:Option (AV×St)):gv2 (.bool false) true st e=some (.tuple [],st):=b6 rfl
theorem a8w (want:Bool) (st:St) (e:Option (AV×St)):gv2 (.tuple []) want st e=some (.tuple [],st):=b6 rfl
theorem Q9 {x:AV} {want:Bool} {st:St} {e:Option (AV×St)} {x':AV} (h:x=x'):gv2 x want st e=gv2 x' want st e:=by rw [h]

def c0 (xs:List Opd):Bool:=xs.any Opd.steals

theorem H5:∀ {xs:List Opd} {σ:Sig},c0 xs=false→b8 xs σ=σ
 | [],_,_=>rfl
 | x::xs,σ,h=>by
  simp only [c0,List.any_cons,Bool.or_eq_false_iff] at h
  have e:x.spend σ=σ:=by cases x <;> simp_all [Opd.spend,Opd.steals]
  rw [b8,e]
  exact H5 (xs:=xs) h.2

def goK (call:b7) {α:Type} (o:AOper) (σ:Sig) (k:Sig→Option α):Option α :=
 match o.kind.setSt || o.kind.alters || c0 o.args with
 | false=>obind (p1 (sem o.kind call (o.args.map (·.read σ)) (boxOf' o.box σ) σ.st)) fun r=>k (o.dst.put r σ)
 | true=>match o.kind.alters || c0 o.args with
  | false=>obind (p2 (sem o.kind call (o.args.map (·.read σ)) (boxOf' o.box σ) σ.st)) fun r=>k (o.dst.put r.1 { σ with st:=r.2 })
  | true=>obind (sem o.kind call (o.args.map (·.read σ)) (boxOf' o.box σ) σ.st) fun r =>
   let σ:=b8 o.args σ
   match o.box with
   | some i=>k (o.dst.put r.1 { σ with fr:=σ.fr.set i r.2.1,st:=r.2.2 })
   | none=>k (o.dst.put r.1 { σ with st:=r.2.2 })
where boxOf' (b:Option Nat) (σ:Sig):AV:=match b with|some i=>σ.fr.getD i .undef|none=>.undef

def a0Q (call:b7) {α:Type} (o:AOper) (σ:Sig) (k:Sig→Option α):Option α :=
 match o.guard with
 | none=>goK call o σ k
 | some (x,want)=>match o.kind.setSt || o.kind.alters || c0 o.args with
  | false=>obind (gv (x.read σ) want (p1 (sem o.kind call (o.args.map (·.read σ)) (goK.boxOf' o.box σ) σ.st))) fun r=>k (o.dst.put r σ)
  | true=>match o.kind.alters || c0 o.args with
   | false=>obind (gv2 (x.read σ) want σ.st (p2 (sem o.kind call (o.args.map (·.read σ)) (goK.boxOf' o.box σ) σ.st))) fun r=>k (o.dst.put r.1 { σ with st:=r.2 })
   | true=>match x.read σ with
    | .bool b=>if b == want then goK call o σ k else k (o.dst.put (.tuple []) σ)
    | .tuple []=>k (o.dst.put (.tuple []) σ)
    | _=>none

def a4d (call:b7) {α:Type}:List AOper→Sig→(Sig→Option α)→Option α
 | [],σ,k=>k σ
 | o::os,σ,k=>a0Q call o σ fun σ=>a4d call os σ k

theorem a0h (fr:List AV) (i:Nat):fr.set i (fr.getD i .undef)=fr:=by
 apply List.ext_getElem?
 intro j
 rw [List.getElem?_set]
 by_cases e:i=j
 · subst e
   rw [if_pos rfl]
   split
   · rename_i h; simp [h]
   · rename_i h; rw [List.getElem?_eq_none (by omega)]
 · rw [if_neg e]

theorem a3F {call:b7} {α:Type} {o:AOper} {σ:Sig} {k:Sig→Option α}:goK call o σ k=obind (n5 call o σ) k:=by
 have hb:goK.boxOf' o.box σ=(match o.box with|some i=>σ.fr.getD i .undef|none=>.undef):=rfl
 unfold goK
 rw [B8,hb]
 split
 · rename_i hp
   simp only [Bool.or_eq_false_iff] at hp
   obtain ⟨⟨h1,h2⟩,h3⟩:=hp
   cases hs:sem o.kind call (o.args.map (·.read σ)) (match o.box with|some i=>σ.fr.getD i .undef|none=>.undef) σ.st with
   | none=>rfl
   | some x =>
    obtain ⟨r,b',st'⟩:=x
    have e1:=a0g h1 hs
    have e2:=U1 h2 hs
    subst e1
    simp only [p1,j4,H5 h3]
    cases hbx:o.box with
    | none=>rfl
    | some i =>
     simp only [hbx] at e2
     rw [e2]
     simp only [a0h,j4]
 · rename_i hp
   split
   · rename_i hq
     simp only [Bool.or_eq_false_iff] at hq
     obtain ⟨h2,h3⟩:=hq
     cases hs:sem o.kind call (o.args.map (·.read σ)) (match o.box with|some i=>σ.fr.getD i .undef|none=>.undef) σ.st with
     | none=>rfl
     | some x =>
      obtain ⟨r,b',st'⟩:=x
      have e2:=U1 h2 hs
      simp only [p2,j4,H5 h3]
      cases hbx:o.box with
      | none=>rfl
      | some i =>
       simp only [hbx] at e2
       rw [e2]
       simp only [a0h,j4]
   · cases hs:sem o.kind call (o.args.map (·.read σ)) (match o.box with|some i=>σ.fr.getD i .undef|none=>.undef) σ.st with
     | none=>rfl
     | some x =>
      obtain ⟨r,b',st'⟩:=x
      simp only [j4]
      cases hbx:o.box with
      | none=>rfl
      | some i=>rfl

theorem c2H {α:Type} {x:AV} {want:Bool} {e:Option AV} {f:AV→Option α}:obind (gv x want e) f =
 (match x with|.bool b=>if b == want then obind e f else f (.tuple [])|.tuple []=>f (.tuple [])|_=>none):=by
 unfold gv
 split
 · split <;> rfl
 · rfl
 · rfl

theorem b5j {α:Type} {x:AV} {want:Bool} {st:St} {e:Option (AV×St)} {f:AV×St→Option α}:obind (gv2 x want st e) f =
 (match x with|.bool b=>if b == want then obind e f else f (.tuple [],st)|.tuple []=>f (.tuple [],st)|_=>none):=by
 unfold gv2
 split
 · split <;> rfl
 · rfl
 · rfl

theorem Y1 {call:b7} {α:Type} {o:AOper} {σ:Sig} {k:Sig→Option α}:a0Q call o σ k=obind (d9 call o σ) k:=by
 unfold a0Q d9
 cases hg:o.guard with
 | none=>exact a3F
 | some xw =>
  obtain ⟨x,want⟩:=xw
  simp only
  split
  · rename_i hp
    have hgo:obind (p1 (sem o.kind call (o.args.map (·.read σ)) (goK.boxOf' o.box σ) σ.st)) (fun r=>k (o.dst.put r σ))=obind (n5 call o σ) k:=by
     have:=a3F (call:=call) (o:=o) (σ:=σ) (k:=k)
     unfold goK at this
     rw [hp] at this
     exact this
    rw [c2H]
    cases hx:x.read σ <;> try rfl
    · dsimp only
      split
      · exact hgo
      · rfl
    · rename_i vs
      cases vs <;> rfl
  · rename_i hp
    split
    · rename_i hq
      have hgo:obind (p2 (sem o.kind call (o.args.map (·.read σ)) (goK.boxOf' o.box σ) σ.st)) (fun r=>k (o.dst.put r.1 { σ with st:=r.2 }))=obind (n5 call o σ) k:=by
       have:=a3F (call:=call) (o:=o) (σ:=σ) (k:=k)
       unfold goK at this
       rw [hp,hq] at this
       exact this
      rw [b5j]
      cases hx:x.read σ <;> try rfl
      · dsimp only
        split
        · exact hgo
        · rfl
      · rename_i vs
        cases vs <;> rfl
    · cases hx:x.read σ <;> try rfl
      · dsimp only
        split
        · exact a3F
        · rfl
      · rename_i vs
        cases vs <;> rfl

theorem H9 {call:b7} {α:Type} {k:Sig→Option α}:∀ {ops:List AOper} {σ:Sig},a4d call ops σ k=obind (e9 call ops σ) k
 | [],σ=>rfl
 | o::os,σ=>by
  simp only [a4d,e9,Y1]
  cases hs:d9 call o σ with
  | none=>rfl
  | some σ1=>exact H9

def br (c:AV) (a b:Option Out):Option Out:=match c with
 | .bool true=>a
 | .bool false=>b
 | _=>none
theorem b4o (call:b7) (n:Nat) (kill:List Nat) (ps:List AOper) (fr:List AV) (st:St) :
 d8 call n (.reg kill ps) fr st=a4d call ps ⟨i5 kill fr,fun _=>.undef,st⟩ fun σ=>some (.normal,σ.fr,σ.st):=by
 rw [H9]
 simp only [d8,fL_eq]
 cases e9 call ps ⟨i5 kill fr,fun _=>.undef,st⟩ <;> rfl
theorem S9 (call:b7) (n:Nat) (kill:List Nat) (ps:List AOper) (c:Opd) (a b:ACode) (fr:List AV) (st:St) :
 d8 call n (.test kill ps c a b) fr st=a4d call ps ⟨i5 kill fr,fun _=>.undef,st⟩ fun σ=>br (c.read σ) (d8 call n a σ.fr σ.st) (d8 call n b σ.fr σ.st):=by
 rw [H9]
 simp only [d8,fL_eq]
 cases e9 call ps ⟨i5 kill fr,fun _=>.undef,st⟩ with
 | none=>rfl
 | some σ =>
  simp only [j4]
  generalize c.read σ=y
  cases y <;> rfl

def b6t (i:Nat) (x:AV):AV:=match x with
 | .box _=>.loc i 0
 | _=>.undef

def seqK (x:Option Out) (f:List AV→St→Option Out):Option Out:=match x with
 | some (.normal,fr,st)=>f fr st
 | r=>r
theorem T0 (fr:List AV) (st:St) (f:List AV→St→Option Out):seqK (some (.normal,fr,st)) f=f fr st:=b6 rfl
theorem a5I (id:Nat) (fr:List AV) (st:St) (f:List AV→St→Option Out):seqK (some (.exit id,fr,st)) f=some (.exit id,fr,st):=b6 rfl
theorem a7I (fr:List AV) (st:St) (f:List AV→St→Option Out):seqK (some (.ret,fr,st)) f=some (.ret,fr,st):=b6 rfl
theorem O5 {x x':Option Out} {f:List AV→St→Option Out} (h:x=x'):seqK x f=seqK x' f:=by rw [h]
theorem exec_seqK (call:b7) (n:Nat) (a b:ACode) (fr:List AV) (st:St):d8 call n (.seq a b) fr st=seqK (d8 call n a fr st) (d8 call n b):=by
 simp only [d8,seqK]
 split <;> rename_i h <;> simp only [h]

def finK (rs:List ResK) (x:Option Out):Option (AV×St):=match x with
 | some (.exit _,_,_)=>none
 | some (_,fr,st)=>match D3 rs fr with
  | some [v]=>some (v,st)
  | some vs=>some (.tuple vs,st)
  | none=>none
 | none=>none
theorem P6 (fn:AFn) (call:b7) (n:Nat) (args:List AV) (st:St) (h:args.length=fn.np) :
 fn.run call n args st=finK fn.results (d8 call n fn.code (args++List.replicate (fn.nv - fn.np) .undef) st):=by
 unfold AFn.run finK
 rw [if_pos h]
 cases d8 call n fn.code (args++List.replicate (fn.nv - fn.np) .undef) st with
 | none=>rfl
 | some x =>
  obtain ⟨e,fr,st'⟩:=x
  cases e <;> dsimp only <;> cases D3 fn.results fr with
  | none=>rfl
  | some vs =>
   match vs with
   | []=>rfl
   | [v]=>rfl
   | _::_::_=>rfl
theorem a6P (call:b7) (n:Nat) (fr:List AV) (st:St):d8 call n .ret fr st=some (.ret,fr,st):=by simp only [d8]
theorem a5C (call:b7) (n id:Nat) (fr:List AV) (st:St):d8 call n (.exit id) fr st=some (.exit id,fr,st):=by simp only [d8]
theorem a5i (call:b7) (n:Nat) (fr:List AV) (st:St):d8 call n .skip fr st=some (.normal,fr,st):=by simp only [d8]
end Go.Cb
/-
 THE ABSTRACT MACHINE, part 31: more fuel does no harm.
-/
set_option maxRecDepth 4000
set_option linter.unusedSimpArgs false
set_option linter.unusedVariables false
namespace Go.Cb
open Classical

def J2 (c c':b7):Prop:=∀ f as st r,c f as st=some r→c' f as st=some r

theorem c9t {c c':b7} (h:J2 c c') {k:Kind} {as:List AV} {b:AV} {st:St} {r:AV×AV×St} (hs:sem k c as b st=some r):sem k c' as b st=some r:=by
 cases k
 case call f =>
  simp only [sem,k5] at hs ⊢
  split at hs
  · rename_i hp
    rw [if_pos hp]
    obtain ⟨x,hx,rfl⟩:=Option.map_eq_some_iff.1 hs
    rw [h _ _ _ _ hx]
    rfl
  · cases hs
 case callA f m =>
  simp only [sem,n4] at hs ⊢
  cases hc:k5 f c (as.take m) b st with
  | none=>rw [hc] at hs; cases hs
  | some x =>
   rw [hc] at hs
   have:k5 f c' (as.take m) b st=some x:=by
    unfold k5 at hc ⊢
    split at hc
    · rename_i hp
      rw [if_pos hp]
      obtain ⟨y,hy,rfl⟩:=Option.map_eq_some_iff.1 hc
      rw [h _ _ _ _ hy]
      rfl
    · cases hc
   rw [this]
   exact hs
 case callV =>
  simp only [sem] at hs ⊢
  unfold s5 at hs ⊢
  split at hs
  · split at hs
    · rename_i hp
      simp only [if_pos hp]
      obtain ⟨x,hx,rfl⟩:=Option.map_eq_some_iff.1 hs
      rw [h _ _ _ _ hx]
      rfl
    · cases hs
  · cases hs
 all_goals exact hs

theorem a9g {c c':b7} (h:J2 c c') {o:AOper} {σ σ':Sig} (hs:n5 c o σ=some σ'):n5 c' o σ=some σ':=by
 obtain ⟨r,b',st',h1,rfl⟩:=i6 hs
 exact W5 (c9t h h1)
theorem b13 {c c':b7} (h:J2 c c') {o:AOper} {σ σ':Sig} (hs:d9 c o σ=some σ'):d9 c' o σ=some σ':=by
 unfold d9 at hs ⊢
 split at hs
 · exact a9g h hs
 · split at hs
   · split at hs
     · rename_i hc; rw [if_pos hc]; exact a9g h hs
     · rename_i hc; rw [if_neg hc]; exact hs
   · exact hs
   · cases hs
theorem M8 {c c':b7} (h:J2 c c'):∀ {os:List AOper} {σ σ':Sig},e9 c os σ=some σ'→e9 c' os σ=some σ'
 | [],_,_,hs=>hs
 | o::os,σ,σ',hs=>by
  simp only [e9] at hs ⊢
  cases hq:d9 c o σ with
  | none=>simp [hq] at hs
  | some σ1 =>
   simp only [hq] at hs
   simp only [b13 h hq]
   exact M8 h hs
theorem V4 {body body':List AV→St→Option Out} (h:∀ fr st r,body fr st=some r→body' fr st=some r):∀ {n m:Nat} {fr:List AV} {st:St} {r:Out},n≤m→z9 body n fr st=some r→z9 body' m fr st=some r
 | 0,_,_,_,_,_,hs=>by simp [z9] at hs
 | n+1,0,_,_,_,hle,_=>by omega
 | n+1,m+1,fr,st,r,hle,hs=>by
  simp only [z9] at hs ⊢
  cases hq:body fr st with
  | none=>simp [hq] at hs
  | some o =>
   rw [hq] at hs
   rw [h _ _ _ hq]
   obtain ⟨e,fr1,st1⟩:=o
   cases e with
   | normal=>exact V4 h (by omega) hs
   | exit id=>exact hs
   | ret=>exact hs
theorem l9 {c c':b7} (h:J2 c c') {n m:Nat} (hle:n≤m):∀ {x:ACode} {fr:List AV} {st:St} {r:Out},d8 c n x fr st=some r→d8 c' m x fr st=some r
 | .skip,_,_,_,hs=>hs
 | .exit _,_,_,_,hs=>hs
 | .ret,_,_,_,hs=>hs
 | .reg kill ops,fr,st,r,hs=>by
  simp only [d8] at hs ⊢
  cases hq:e9 c ops ⟨i5 kill fr,fun _=>.undef,st⟩ with
  | none=>simp [hq] at hs
  | some σ=>rw [hq] at hs; rw [M8 h hq]; exact hs
 | .test kill ops x a b,fr,st,r,hs=>by
  rw [S9] at hs ⊢
  rw [H9] at hs ⊢
  cases hq:e9 c ops ⟨i5 kill fr,fun _=>.undef,st⟩ with
  | none=>rw [hq] at hs; cases hs
  | some σ =>
   rw [hq] at hs
   rw [M8 h hq]
   rw [j4] at hs ⊢
   unfold br at hs ⊢
   split at hs
   · exact l9 h hle hs
   · exact l9 h hle hs
   · cases hs
 | .either kill a b,fr,st,r,hs=>by
  simp only [d8] at hs ⊢
  obtain ⟨oa,ob,ea,eb,ka,kb⟩:=Y5 hs
  rw [l9 h hle ea,l9 h hle eb,a3n (ka.trans kb.symm),ka]
 | .seq a b,fr,st,r,hs=>by
  rw [exec_seqK] at hs ⊢
  cases hq:d8 c n a fr st with
  | none=>rw [hq] at hs; cases hs
  | some o =>
   rw [hq] at hs
   rw [l9 h hle hq]
   obtain ⟨e,fr1,st1⟩:=o
   cases e with
   | normal=>exact l9 h hle hs
   | exit id=>exact hs
   | ret=>exact hs
 | .blk id a,fr,st,r,hs=>by
  simp only [d8] at hs ⊢
  cases hq:d8 c n a fr st with
  | none=>rw [hq] at hs; cases hs
  | some o=>rw [hq] at hs; rw [l9 h hle hq]; exact hs
 | .loop a,fr,st,r,hs=>by
  simp only [d8] at hs ⊢
  exact V4 (fun _ _ _ hb=>l9 h hle hb) hle hs
theorem b3C {c c':b7} (h:J2 c c') {n m:Nat} (hle:n≤m) {fn:AFn} {args:List AV} {st:St} {r:AV×St} (hs:fn.run c n args st=some r):fn.run c' m args st=some r:=by
 have hl:args.length=fn.np:=by
  unfold AFn.run at hs
  split at hs
  · assumption
  · cases hs
 rw [P6 _ _ _ _ _ hl] at hs ⊢
 cases hq:d8 c n fn.code (args++List.replicate (fn.nv - fn.np) .undef) st with
 | none=>rw [hq] at hs; cases hs
 | some o=>rw [hq] at hs; rw [l9 h hle hq]; exact hs
theorem p6 {tbl:Nat→Option AFn}:∀ {n m:Nat},n≤m→J2 (e8 tbl n) (e8 tbl m)
 | 0,_,_,_,_,_,_,hs=>by simp [e8] at hs
 | n+1,0,hle,_,_,_,_,_=>by omega
 | n+1,m+1,hle,f,as,st,r,hs=>by
  simp only [e8] at hs ⊢
  cases htb:tbl f with
  | none=>simp [htb] at hs
  | some fn =>
   simp only [htb] at hs ⊢
   cases he:fn.ext with
   | some e=>simp only [he] at hs ⊢; exact hs
   | none =>
    simp only [he] at hs ⊢
    exact b3C (p6 (by omega)) (by omega) hs

def Ev (tbl:Nat→Option AFn) (f:Nat) (as:List AV) (st:St) (r:AV) (st':St):Prop:=∃ n,e8 tbl n f as st=some (r,st')
theorem Ev.ge {tbl:Nat→Option AFn} {f:Nat} {as:List AV} {st:St} {r:AV} {st':St} (h:Ev tbl f as st r st'):∃ n0,∀ n,n0≤n→e8 tbl n f as st=some (r,st') :=
 let ⟨n,hn⟩:=h; ⟨n,fun m hm=>p6 hm _ _ _ _ hn⟩
end Go.Cb
/-
 THE ABSTRACT MACHINE, part 32: rules for what code comes to, with enough fuel.
-/
set_option maxRecDepth 4000
set_option linter.unusedVariables false
namespace Go.Cb
open Classical

section
variable {tbl:Nat→Option AFn}

def XC (tbl:Nat→Option AFn) (x:ACode) (fr:List AV) (st:St) (out:Out):Prop:=∃ n,d8 (e8 tbl n) n x fr st=some out
theorem XC.ge {x:ACode} {fr:List AV} {st:St} {out:Out} (h:XC tbl x fr st out):∃ n0,∀ n,n0≤n→d8 (e8 tbl n) n x fr st=some out :=
 let ⟨n,hn⟩:=h; ⟨n,fun m hm=>l9 (p6 hm) hm hn⟩

def LX (tbl:Nat→Option AFn) (x:ACode) (fr:List AV) (st:St) (out:Out):Prop:=∃ n k,z9 (d8 (e8 tbl n) n x) k fr st=some out

theorem LX.done {x:ACode} {fr:List AV} {st:St} {e:Ex} {fr':List AV} {st':St} (h:XC tbl x fr st (e,fr',st')) (he:e≠.normal):LX tbl x fr st (e,fr',st'):=by
 obtain ⟨n,hn⟩:=h
 refine ⟨n,1,?_⟩
 simp only [z9,hn]
 cases e with
 | normal=>exact absurd rfl he
 | exit id=>rfl
 | ret=>rfl
theorem LX.step {x:ACode} {fr fr1:List AV} {st st1:St} {out:Out} (h:XC tbl x fr st (.normal,fr1,st1)) (h':LX tbl x fr1 st1 out):LX tbl x fr st out:=by
 obtain ⟨n,hn⟩:=h
 obtain ⟨m,k,hm⟩:=h'
 refine ⟨max n m,k+1,?_⟩
 have h1:=l9 (p6 (tbl:=tbl) (Nat.le_max_left n m)) (Nat.le_max_left n m) hn
 simp only [z9,h1]
 exact V4 (fun _ _ _ hb=>l9 (p6 (Nat.le_max_right n m)) (Nat.le_max_right n m) hb) (Nat.le_refl k) hm
theorem XC.loop {x:ACode} {fr:List AV} {st:St} {out:Out} (h:LX tbl x fr st out):XC tbl (.loop x) fr st out:=by
 obtain ⟨n,k,h⟩:=h
 refine ⟨max n k,?_⟩
 simp only [d8]
 exact V4 (fun _ _ _ hb=>l9 (p6 (Nat.le_max_left n k)) (Nat.le_max_left n k) hb) (Nat.le_max_right n k) h
theorem XC.seq {a b:ACode} {fr fr1:List AV} {st st1:St} {out:Out} (h:XC tbl a fr st (.normal,fr1,st1)) (h':XC tbl b fr1 st1 out):XC tbl (.seq a b) fr st out:=by
 obtain ⟨n,hn⟩:=h
 obtain ⟨m,hm⟩:=h'
 refine ⟨max n m,?_⟩
 rw [exec_seqK,l9 (p6 (Nat.le_max_left n m)) (Nat.le_max_left n m) hn,T0]
 exact l9 (p6 (Nat.le_max_right n m)) (Nat.le_max_right n m) hm
theorem XC.blk {id:Nat} {a:ACode} {fr fr1:List AV} {st st1:St} {e:Ex} (h:XC tbl a fr st (e,fr1,st1)):XC tbl (.blk id a) fr st (if e=.exit id then .normal else e,fr1,st1):=by
 obtain ⟨n,hn⟩:=h
 refine ⟨n,?_⟩
 simp only [d8,hn]
 cases e with
 | normal=>rfl
 | exit id' =>
  by_cases hid:id'=id
  · subst hid; simp
  · simp [hid]
 | ret=>rfl
theorem XC.skip {fr:List AV} {st:St}:XC tbl .skip fr st (.normal,fr,st):=⟨0,rfl⟩
theorem XC.exit {id:Nat} {fr:List AV} {st:St}:XC tbl (.exit id) fr st (.exit id,fr,st):=⟨0,rfl⟩
theorem XC.ret {fr:List AV} {st:St}:XC tbl .ret fr st (.ret,fr,st):=⟨0,rfl⟩

theorem XC.of {x:ACode} {fr:List AV} {st:St} {out:Out} (h:∃ n0,∀ n,n0≤n→d8 (e8 tbl n) n x fr st=some out):XC tbl x fr st out :=
 let ⟨n,hn⟩:=h; ⟨n,hn n (Nat.le_refl n)⟩
theorem XC.goes {x a:ACode} {fr fr1:List AV} {st st1:St} {out:Out} (h:∃ n0,∀ n,n0≤n→d8 (e8 tbl n) n x fr st=d8 (e8 tbl n) n a fr1 st1) (h':XC tbl a fr1 st1 out):XC tbl x fr st out:=by
 obtain ⟨n,hn⟩:=h
 obtain ⟨m,hm⟩:=h'.ge
 exact ⟨max n m,by rw [hn _ (Nat.le_max_left n m)]; exact hm _ (Nat.le_max_right n m)⟩

theorem Ev.of_body {f:Nat} {fn:AFn} {as:List AV} {st:St} {e:Ex} {fr':List AV} {st':St} {r:AV×St} (htb:tbl f=some fn) (he:fn.ext=none) (hl:as.length=fn.np)
 (h:XC tbl fn.code (as++List.replicate (fn.nv - fn.np) .undef) st (e,fr',st')) (hr:finK fn.results (some (e,fr',st'))=some r):Ev tbl f as st r.1 r.2:=by
 obtain ⟨n,hn⟩:=h
 refine ⟨n+1,?_⟩
 simp only [e8,htb,he]
 rw [P6 _ _ _ _ _ hl,hn,hr]
theorem Ev.of_ext {f:Nat} {fn:AFn} {as:List AV} {st:St} {e:List AV→St→Option (AV×St)} {r:AV×St} (htb:tbl f=some fn) (he:fn.ext=some e) (h:e as st=some r):Ev tbl f as st r.1 r.2 :=
 ⟨1,by simp only [e8,htb,he]; exact h⟩
end
end Go.Cb
/-
 THE ABSTRACT MACHINE, part 33: with enough fuel it comes to something of that sort.
-/
set_option maxRecDepth 4000
set_option linter.unusedVariables false
namespace Go.Cb
open Classical

def WC {α:Type} (c:Nat→Option α) (Q:α→Prop):Prop:=∃ n0 a,(∀ n,n0≤n→c n=some a)∧Q a
def EvQ (tbl:Nat→Option AFn) (f:Nat) (as:List AV) (st:St) (Q:AV→St→Prop):Prop:=∃ r st',Ev tbl f as st r st'∧Q r st'

theorem WC.ret {α:Type} {a:α} {Q:α→Prop} (h:Q a):WC (fun _=>some a) Q:=⟨0,a,fun _ _=>rfl,h⟩
theorem WC.mono {α:Type} {c:Nat→Option α} {P Q:α→Prop} (h:WC c P) (hq:∀ a,P a→Q a):WC c Q :=
 let ⟨n,a,ha,hp⟩:=h; ⟨n,a,ha,hq a hp⟩
theorem WC.obind {α β:Type} {c:Nat→Option α} {k:Nat→α→Option β} {P:α→Prop} {Q:β→Prop} (h:WC c P) (hk:∀ a,P a→WC (fun n=>k n a) Q):WC (fun n=>Go.Cb.obind (c n) (k n)) Q:=by
 obtain ⟨n,a,ha,hp⟩:=h
 obtain ⟨m,b,hb,hq⟩:=hk a hp
 refine ⟨max n m,b,fun j hj=>?_,hq⟩
 show Go.Cb.obind (c j) (k j)=some b
 rw [ha j (by omega),j4]
 exact hb j (Nat.le_trans (Nat.le_max_right n m) hj)
theorem EvQ.mono {tbl:Nat→Option AFn} {f:Nat} {as:List AV} {st:St} {P Q:AV→St→Prop} (h:EvQ tbl f as st P) (hq:∀ r st',P r st'→Q r st'):EvQ tbl f as st Q :=
 let ⟨r,st',he,hp⟩:=h; ⟨r,st',he,hq r st' hp⟩

section
variable {tbl:Nat→Option AFn}
theorem WC.call {β:Type} {f:Nat} {as as':List AV} {bx:AV} {st:St} {k:Nat→AV×St→Option β} {P:AV→St→Prop} {Q:β→Prop}
 (h:EvQ tbl f as' st P) (hp:l7 as=true) (hw:as.map AV.weak=as') (hk:∀ r st',P r st'→WC (fun n=>k n (r,st')) Q):WC (fun n=>Go.Cb.obind (p2 (k5 f (e8 tbl n) as bx st)) (k n)) Q:=by
 obtain ⟨r,st',he,hq⟩:=h
 obtain ⟨n0,h0⟩:=he.ge
 refine WC.obind (P:=fun x=>x=(r,st')) ⟨n0,(r,st'),fun n hn=>?_,rfl⟩ (fun a ha=>ha ▸ hk r st' hq)
 simp only [k5,hp,if_true,hw,h0 n hn,Option.map_some,V0]
theorem WC.callV {β:Type} {f:Nat} {first caps as as':List AV} {bx:AV} {st:St} {k:Nat→AV×St→Option β} {P:AV→St→Prop} {Q:β→Prop}
 (h:EvQ tbl f as' st P) (hp:l7 as=true) (hw:(first++as++caps).map AV.weak=as') (hk:∀ r st',P r st'→WC (fun n=>k n (r,st')) Q):WC (fun n=>Go.Cb.obind (p2 (s5 (e8 tbl n) (.func f first caps::as) bx st)) (k n)) Q:=by
 obtain ⟨r,st',he,hq⟩:=h
 obtain ⟨n0,h0⟩:=he.ge
 refine WC.obind (P:=fun x=>x=(r,st')) ⟨n0,(r,st'),fun n hn=>?_,rfl⟩ (fun a ha=>ha ▸ hk r st' hq)
 simp only [s5,hp,if_true,hw,h0 n hn,Option.map_some,V0]

def P5 (id:Nat) (o:Out):Out:=match o with
 | (.exit id',fr,st)=>if id'=id then (.normal,fr,st) else (.exit id',fr,st)
 | o=>o
def blkK (id:Nat) (x:Option Out):Option Out:=match x with
 | some o=>some (P5 id o)
 | none=>none
theorem a0w (id:Nat) (o:Out):blkK id (some o)=some (P5 id o):=b6 rfl
theorem Z4 (id:Nat) (fr:List AV) (st:St):P5 id (.normal,fr,st)=(.normal,fr,st):=b6 rfl
theorem a3t (id:Nat) (fr:List AV) (st:St):P5 id (.ret,fr,st)=(.ret,fr,st):=b6 rfl
theorem a1L (id id':Nat) (fr:List AV) (st:St):P5 id (.exit id',fr,st)=if id'=id then (.normal,fr,st) else (.exit id',fr,st):=b6 rfl
theorem N9 {id:Nat} {x x':Option Out} (h:x=x'):blkK id x=blkK id x':=by rw [h]
theorem a4R (call:b7) (n id:Nat) (a:ACode) (fr:List AV) (st:St):d8 call n (.blk id a) fr st=blkK id (d8 call n a fr st):=by
 simp only [d8,blkK]
 cases d8 call n a fr st with
 | none=>rfl
 | some o =>
  obtain ⟨e,fr',st'⟩:=o
  cases e with
  | normal=>rfl
  | ret=>rfl
  | exit id'=>by_cases h:id'=id <;> simp [P5,h]
theorem WC.seqK {c:Nat→Option Out} {g:Nat→List AV→St→Option Out} {P Q:Out→Prop} (h:WC c P) (hk:∀ o,P o→WC (fun n=>Go.Cb.seqK (some o) (g n)) Q):WC (fun n=>Go.Cb.seqK (c n) (g n)) Q:=by
 obtain ⟨n,a,ha,hp⟩:=h
 obtain ⟨m,b,hb,hq⟩:=hk a hp
 exact ⟨max n m,b,fun j hj=>by dsimp only; rw [ha j (by omega)]; exact hb j (by omega),hq⟩
theorem WC.blkK {id:Nat} {c:Nat→Option Out} {Q:Out→Prop} (h:WC c (fun o=>Q (P5 id o))):WC (fun n=>Go.Cb.blkK id (c n)) Q:=by
 obtain ⟨n,a,ha,hp⟩:=h
 exact ⟨n,_,fun j hj=>by dsimp only; rw [ha j hj,a0w],hp⟩
theorem WC.finK {rs:List ResK} {c:Nat→Option Out} {P:Out→Prop} {Q:AV×St→Prop} (h:WC c P) (hk:∀ o,P o→WC (fun n=>Go.Cb.finK rs (some o)) Q):WC (fun n=>Go.Cb.finK rs (c n)) Q:=by
 obtain ⟨n,a,ha,hp⟩:=h
 obtain ⟨m,b,hb,hq⟩:=hk a hp
 exact ⟨max n m,b,fun j hj=>by dsimp only; rw [ha j (by omega)]; exact hb j (by omega),hq⟩

theorem WC.of_xc {x:ACode} {fr:List AV} {st:St} {out:Out} {Q:Out→Prop} (h:XC tbl x fr st out) (hq:Q out):WC (fun n=>d8 (e8 tbl n) n x fr st) Q:=by
 obtain ⟨n,hn⟩:=h.ge
 exact ⟨n,out,hn,hq⟩
theorem WC.xc {x:ACode} {fr:List AV} {st:St} {Q:Out→Prop} (h:WC (fun n=>d8 (e8 tbl n) n x fr st) Q):∃ out,XC tbl x fr st out∧Q out:=by
 obtain ⟨n,a,ha,hq⟩:=h
 exact ⟨a,⟨n,ha n (Nat.le_refl n)⟩,hq⟩

theorem WC.loop {x:ACode} {Q:Out→Prop} (I:Nat→List AV→St→Prop) {m:Nat} {fr:List AV} {st:St} (h0:I m fr st)
 (hI:∀ m fr st,I m fr st→WC (fun n=>d8 (e8 tbl n) n x fr st) (fun o=>(∃ m' fr' st',o=(.normal,fr',st')∧m' < m∧I m' fr' st')∨(o.1≠.normal∧Q o))) :
 WC (fun n=>d8 (e8 tbl n) n (.loop x) fr st) Q:=by
 have key:∀ m fr st,I m fr st→∃ out,LX tbl x fr st out∧Q out:=by
  intro m
  induction m using Nat.strongRecOn with
  | ind m ih =>
   intro fr st h
   obtain ⟨out,hx,hc⟩:=(hI m fr st h).xc
   rcases hc with ⟨m',fr',st',rfl,hlt,hi⟩|⟨hne,hq⟩
   · obtain ⟨out,hl,hq⟩:=ih m' hlt fr' st' hi
     exact ⟨out,LX.step hx hl,hq⟩
   · obtain ⟨e,fr',st'⟩:=out
     exact ⟨_,LX.done hx hne,hq⟩
 obtain ⟨out,hl,hq⟩:=key m fr st h0
 exact WC.of_xc (XC.loop hl) hq

theorem EvQ.of_body {f:Nat} {fn:AFn} {as:List AV} {st:St} {Q:AV→St→Prop} (htb:tbl f=some fn) (he:fn.ext=none) (hl:as.length=fn.np)
 (h:WC (fun n=>Go.Cb.finK fn.results (d8 (e8 tbl n) n fn.code (as++List.replicate (fn.nv - fn.np) .undef) st)) (fun r=>Q r.1 r.2)):EvQ tbl f as st Q:=by
 obtain ⟨n,a,ha,hq⟩:=h
 refine ⟨a.1,a.2,⟨n+1,?_⟩,hq⟩
 simp only [e8,htb,he]
 rw [P6 _ _ _ _ _ hl]
 exact ha n (Nat.le_refl n)
theorem EvQ.of_ext {f:Nat} {fn:AFn} {as:List AV} {st:St} {e:List AV→St→Option (AV×St)} {r:AV×St} {Q:AV→St→Prop} (htb:tbl f=some fn) (he:fn.ext=some e) (h:e as st=some r) (hq:Q r.1 r.2):EvQ tbl f as st Q :=
 ⟨_,_,Ev.of_ext htb he h,hq⟩
end
end Go.Cb
/-
 THE ABSTRACT MACHINE, part 34: rules for loops within blocks, and for a body's end.
-/
set_option maxRecDepth 4000
set_option linter.unusedVariables false
namespace Go.Cb
open Classical
section
variable {tbl:Nat→Option AFn}

theorem WC.next {I:Nat→List AV→St→Prop} {m m':Nat} {fr':List AV} {st':St} {R:Out→Prop} (hm:m' < m) (hi:I m' fr' st') :
 WC (fun _=>some (Ex.normal,fr',st')) (fun o=>(∃ m' fr' st',o=(.normal,fr',st')∧m' < m∧I m' fr' st')∨(o.1≠.normal∧R o)):=WC.ret (Or.inl ⟨m',fr',st',rfl,hm,hi⟩)
theorem WC.leave {I:Nat→List AV→St→Prop} {m id:Nat} {fr':List AV} {st':St} {R:Out→Prop} (h:R (.exit id,fr',st')) :
 WC (fun _=>some (Ex.exit id,fr',st')) (fun o=>(∃ m' fr' st',o=(.normal,fr',st')∧m' < m∧I m' fr' st')∨(o.1≠.normal∧R o)):=WC.ret (Or.inr ⟨fun h=>by simp at h,h⟩)
theorem WC.leaveR {I:Nat→List AV→St→Prop} {m:Nat} {fr':List AV} {st':St} {R:Out→Prop} (h:R (.ret,fr',st')) :
 WC (fun _=>some (Ex.ret,fr',st')) (fun o=>(∃ m' fr' st',o=(.normal,fr',st')∧m' < m∧I m' fr' st')∨(o.1≠.normal∧R o)):=WC.ret (Or.inr ⟨fun h=>by simp at h,h⟩)

theorem EvQ.body {f:Nat} {fn:AFn} {as:List AV} {st:St} {Q:AV→St→Prop} (htb:tbl f=some fn) (he:fn.ext=none) (hl:as.length=fn.np)
 (h:WC (fun n=>d8 (e8 tbl n) n fn.code (as++List.replicate (fn.nv - fn.np) .undef) st) (fun o=>∃ r st',Go.Cb.finK fn.results (some o)=some (r,st')∧Q r st')):EvQ tbl f as st Q :=
 EvQ.of_body htb he hl (WC.finK h fun o ⟨r,st',hr,hq⟩=>⟨0,(r,st'),fun _ _=>hr,hq⟩)
end
end Go.Cb
/-
 THE ABSTRACT MACHINE, part 35: small laws on numbers and rows, for walks with unknowns.
-/
set_option maxRecDepth 4000
set_option linter.unusedVariables false
namespace Go.Cb
open Classical

theorem d7O {n:Int} (h1:-9223372036854775808≤n) (h2:n < 9223372036854775808):s8 .i64 n=n:=by
 rw [H8]
 simp only [IntKind.wrap,IntKind.signed,IntKind.bits,Bool.true_and]
 split
 · rename_i h; have h:=of_decide_eq_true h; omega
 · rename_i h; have h:¬ (n % 2 ^ 64 ≥ 2 ^ (64 - 1)):=fun x=>h (decide_eq_true x); omega
theorem E4 {i:Nat} (h:i+1 < 2 ^ 63):s8 .i64 (a8F (i:Int) 1)=((i+1:Nat):Int):=by
 rw [addI_eq,d7O (by omega) (by omega)]
 omega
theorem ltN (i j:Nat):ltI (i:Int) (j:Int)=decide (i < j):=by
 rw [ltI_eq]
 by_cases h:i < j
 · simp [h]
 · simp [h]
theorem f1N (i j:Nat):eqI (i:Int) (j:Int)=decide (i=j):=by
 rw [eqI_eq]
 by_cases h:i=j
 · simp [h]
 · simp [h]; omega
end Go.Cb
/-
 THE ABSTRACT MACHINE, part 36: guarded values, reckoned without splitting; copies, form by form; tests as rules.
-/
set_option maxRecDepth 4000
set_option linter.unusedVariables false
namespace Go.Cb
open Classical

def gV (x:AV) (want:Bool) (v:AV):AV:=match x with
 | .bool b=>if b == want then v else .tuple []
 | _=>.tuple []
theorem b6a (v:AV):gV (.bool true) true v=v:=b6 rfl
theorem b5x (v:AV):gV (.bool false) false v=v:=b6 rfl
theorem b6C (v:AV):gV (.bool true) false v=.tuple []:=b6 rfl
theorem b5S (v:AV):gV (.bool false) true v=.tuple []:=b6 rfl
theorem b0o (want:Bool) (v:AV):gV (.tuple []) want v=.tuple []:=b6 rfl
theorem a4m (c want:Bool) (v:AV):gv (.bool c) want (some v)=some (gV (.bool c) want v):=by
 cases c <;> cases want <;> rfl
theorem a1S (x:AV) (w b want:Bool) (v:AV):gv (gV x w (.bool b)) want (some v)=some (gV (gV x w (.bool b)) want v):=by
 unfold gV
 cases x with
 | bool c=>cases c <;> cases w <;> cases b <;> cases want <;> rfl
 | _=>rfl
theorem M4 {x x':AV} {want:Bool} {e e':Option AV} (h1:x=x') (h2:x'=.bool want→e=e'):gv x want e=gv x' want e':=by
 subst h1
 unfold gv
 split
 · rename_i b
   by_cases hb:b=want
   · rw [h2 (by rw [hb])]
   · simp [hb]
 · rfl
 · rfl
theorem a9K (x:AV) (w:Bool) (v:AV):(gV x w v).weak=gV x w v.weak:=by
 unfold gV
 cases x with
 | bool c=>dsimp only; split <;> rfl
 | _=>rfl
theorem a7d (x:AV) (w:Bool) (v:AV):(gV x w v).strip=gV x w v.strip:=by
 unfold gV
 cases x with
 | bool c=>dsimp only; split <;> rfl
 | _=>rfl
theorem a5n (x:AV) (w:Bool) (v:AV):(gV x w v).stripB=gV x w v.stripB:=by
 unfold gV
 cases x with
 | bool c=>dsimp only; split <;> rfl
 | _=>rfl
theorem b2X (call:b7) (a b bx:AV) (st:St):p1 (n8 call [.bool true,a,b] bx st)=if a.plain then some a else none:=by
 unfold n8; dsimp only; by_cases h:a.plain=true <;> simp [h,p1]
theorem b3i (call:b7) (a b bx:AV) (st:St):p1 (n8 call [.bool false,a,b] bx st)=if b.plain then some b else none:=by
 unfold n8; dsimp only; by_cases h:b.plain=true <;> simp [h,p1]
theorem a9T (call:b7) (c d:Bool) (bx:AV) (st:St):p1 (n8 call [.bool c,.bool true,gV (.bool c) false (.bool d)] bx st)=some (.bool (c || d)):=by
 cases c <;> rfl
theorem a8I (call:b7) (c d:Bool) (bx:AV) (st:St):p1 (n8 call [.bool c,gV (.bool c) true (.bool d),.bool false] bx st)=some (.bool (c && d)):=by
 cases c <;> rfl

theorem a4G (b:Bool):(AV.bool b).weak=.bool b:=b6 rfl
theorem a7a (k:IntKind) (n:Int):(AV.int k n).weak=.int k n:=b6 rfl
theorem a6w (s:List Nat):(AV.str s).weak=.str s:=b6 rfl
theorem a5q (o:Bool) (xs:List (List AV)):(AV.list o xs).weak=.list false xs:=b6 rfl
theorem a7L (o f:Nat):(AV.ptr o f).weak=.ptr o f:=b6 rfl
theorem a4x:AV.nilp.weak=.nilp:=b6 rfl
theorem a4E:AV.nils.weak=.nils:=b6 rfl
theorem a9m (cs:List AV):(AV.ro cs).weak=.ro cs:=b6 rfl
theorem a8f (i f:Nat):(AV.loc i f).weak=.loc i f:=b6 rfl
theorem a7U (o:Nat):(AV.map o).weak=.map o:=b6 rfl
theorem a5H:AV.nilm.weak=.nilm:=b6 rfl
theorem a4y (f:Nat) (a b:List AV):(AV.func f a b).weak=.func f a b:=b6 rfl
theorem a5t:AV.nilf.weak=.nilf:=b6 rfl
theorem a7N (cs:List AV):(AV.agg cs).weak=.agg (cs.map AV.weak1):=b6 rfl
theorem a8R (o f n s:Nat):(AV.sl o f n s).weak=.sl o f n s:=b6 rfl
theorem a2r (t:Nat) (v:AV):(AV.iface t v).weak=.iface t v:=b6 rfl
theorem a5s:AV.nili.weak=.nili:=b6 rfl
theorem a3v (vs:List AV):(AV.tuple vs).weak=.tuple vs:=b6 rfl
theorem a3y:AV.undef.weak=.undef:=b6 rfl
theorem a7G (cs:List AV):(AV.box cs).weak=.box cs:=b6 rfl
theorem a3c (b:Bool):(AV.bool b).weak1=.bool b:=b6 rfl
theorem a4u (k:IntKind) (n:Int):(AV.int k n).weak1=.int k n:=b6 rfl
theorem a5r (s:List Nat):(AV.str s).weak1=.str s:=b6 rfl
theorem a2N (o:Bool) (xs:List (List AV)):(AV.list o xs).weak1=.list false xs:=b6 rfl
theorem a6F (o f n s:Nat):(AV.sl o f n s).weak1=.sl o f n s:=b6 rfl
theorem a2u (f:Nat) (a b:List AV):(AV.func f a b).weak1=.func f a b:=b6 rfl
theorem a5G (o f:Nat):(AV.ptr o f).weak1=.ptr o f:=b6 rfl
theorem a3f:AV.nilp.weak1=.nilp:=b6 rfl
theorem a2D:AV.nils.weak1=.nils:=b6 rfl
theorem a4T (o:Nat):(AV.map o).weak1=.map o:=b6 rfl
theorem a2B:AV.nilm.weak1=.nilm:=b6 rfl
theorem a3B (b:Bool):(AV.bool b).strip=.bool b:=b6 rfl
theorem a4U (k:IntKind) (n:Int):(AV.int k n).strip=.int k n:=b6 rfl
theorem a5d (s:List Nat):(AV.str s).strip=.str s:=b6 rfl
theorem a3L (o:Bool) (xs:List (List AV)):(AV.list o xs).strip=.list o xs:=b6 rfl
theorem a5Q (o f:Nat):(AV.ptr o f).strip=.ptr o f:=b6 rfl
theorem a3k:AV.nilp.strip=.nilp:=b6 rfl
theorem a2w:AV.nils.strip=.nils:=b6 rfl
theorem a6S (cs:List AV):(AV.ro cs).strip=.ro cs:=b6 rfl
theorem a5N (i f:Nat):(AV.loc i f).strip=.undef:=b6 rfl
theorem a4Z (o:Nat):(AV.map o).strip=.map o:=b6 rfl
theorem a3b:AV.nilm.strip=.nilm:=b6 rfl
theorem a3P (f:Nat) (a b:List AV):(AV.func f a b).strip=.func f a b:=b6 rfl
theorem a3S:AV.nilf.strip=.nilf:=b6 rfl
theorem a4M (cs:List AV):(AV.agg cs).strip=.agg cs:=b6 rfl
theorem a6T (o f n s:Nat):(AV.sl o f n s).strip=.sl o f n s:=b6 rfl
theorem a04 (vs:List AV):(AV.tuple vs).strip=.tuple vs:=b6 rfl
theorem a07:AV.undef.strip=.undef:=b6 rfl
theorem a1v (b:Bool):(AV.bool b).stripB=.bool b:=b6 rfl
theorem a3q (k:IntKind) (n:Int):(AV.int k n).stripB=.int k n:=b6 rfl
theorem a2q (s:List Nat):(AV.str s).stripB=.str s:=b6 rfl
theorem a1f (o:Bool) (xs:List (List AV)):(AV.list o xs).stripB=.list o xs:=b6 rfl
theorem a3G (o f:Nat):(AV.ptr o f).stripB=.ptr o f:=b6 rfl
theorem a1F:AV.nilp.stripB=.nilp:=b6 rfl
theorem a1p:AV.nils.stripB=.nils:=b6 rfl
theorem a4z (cs:List AV):(AV.ro cs).stripB=.ro cs:=b6 rfl
theorem a3T (i f:Nat):(AV.loc i f).stripB=.loc i f:=b6 rfl
theorem a2Q (o:Nat):(AV.map o).stripB=.map o:=b6 rfl
theorem a1i:AV.nilm.stripB=.nilm:=b6 rfl
theorem a1t (f:Nat) (a b:List AV):(AV.func f a b).stripB=.func f a b:=b6 rfl
theorem a1o:AV.nilf.stripB=.nilf:=b6 rfl
theorem a3w (cs:List AV):(AV.agg cs).stripB=.agg cs:=b6 rfl
theorem a2W (xs:List (List AV)):(AV.fresh xs).weak=.fresh xs:=b6 rfl
theorem a1b (xs:List (List AV)):(AV.fresh xs).strip=.fresh xs:=b6 rfl
theorem a0y (xs:List (List AV)):(AV.fresh xs).stripB=.fresh xs:=b6 rfl
theorem a5j (o f n s:Nat):(AV.sl o f n s).stripB=.sl o f n s:=b6 rfl
theorem Z7 (vs:List AV):(AV.tuple vs).stripB=.tuple vs:=b6 rfl
theorem a0l:AV.undef.stripB=.undef:=b6 rfl

/-! what comes behind, as constants that wait: nothing of it is reckoned ahead of its time -/
def c8C {α:Type} (K:α→Option Out) (g:List AV→St→Option Out) (a:α):Option Out:=Go.Cb.seqK (K a) g
def d4J {α:Type} (id:Nat) (K:α→Option Out) (a:α):Option Out:=Go.Cb.blkK id (K a)
theorem b2r {α:Type} (K:α→Option Out) (g:List AV→St→Option Out) (a:α):c8C K g a=Go.Cb.seqK (K a) g:=b6 rfl
theorem b2N {α:Type} (id:Nat) (K:α→Option Out) (a:α):d4J id K a=Go.Cb.blkK id (K a):=b6 rfl
theorem a05 {α:Type} (x:Option α) (f:α→Option Out) (g:List AV→St→Option Out):Go.Cb.seqK (Go.Cb.obind x f) g=Go.Cb.obind x (c8C f g):=by cases x <;> rfl
theorem a1J {α:Type} (id:Nat) (x:Option α) (f:α→Option Out):Go.Cb.blkK id (Go.Cb.obind x f)=Go.Cb.obind x (d4J id f):=by cases x <;> rfl

def X9 (call:b7) (n:Nat) (a:ACode) (fr:List AV) (st:St) (_:Unit):Option Out:=d8 call n a fr st
def b32 (A:Unit→Option Out) (g:List AV→St→Option Out) (u:Unit):Option Out:=Go.Cb.seqK (A u) g
def b4S (id:Nat) (A:Unit→Option Out) (u:Unit):Option Out:=Go.Cb.blkK id (A u)
theorem b2Y (call:b7) (n:Nat) (a:ACode) (fr:List AV) (st:St) (u:Unit):X9 call n a fr st u=d8 call n a fr st:=b6 rfl
theorem b1Y (A:Unit→Option Out) (g:List AV→St→Option Out) (u:Unit):b32 A g u=Go.Cb.seqK (A u) g:=b6 rfl
theorem b1W (id:Nat) (A:Unit→Option Out) (u:Unit):b4S id A u=Go.Cb.blkK id (A u):=b6 rfl
def brT (c:AV) (A B:Unit→Option Out):Option Out:=match c with
 | .bool true=>A ()
 | .bool false=>B ()
 | _=>none
theorem a8C (A B:Unit→Option Out):brT (.bool true) A B=A ():=b6 rfl
theorem a5z (A B:Unit→Option Out):brT (.bool false) A B=B ():=b6 rfl
theorem R5 {c c':AV} {A B:Unit→Option Out} (h:c=c'):brT c A B=brT c' A B:=by rw [h]
theorem a6m (c:AV) (A B:Unit→Option Out) (g:List AV→St→Option Out):Go.Cb.seqK (brT c A B) g=brT c (b32 A g) (b32 B g):=by
 cases c <;> try rfl
 rename_i b; cases b <;> rfl
theorem a7x (id:Nat) (c:AV) (A B:Unit→Option Out):Go.Cb.blkK id (brT c A B)=brT c (b4S id A) (b4S id B):=by
 cases c <;> try rfl
 rename_i b; cases b <;> rfl
theorem d5p (call:b7) (n:Nat) (c:AV) (a b:ACode) (fr:List AV) (st:St):Go.Cb.br c (d8 call n a fr st) (d8 call n b fr st)=brT c (X9 call n a fr st) (X9 call n b fr st):=by
 cases c <;> try rfl
theorem b05 (call:b7) (n:Nat) (kill:List Nat) (ps:List AOper) (c:Opd) (a b:ACode) (fr:List AV) (st:St) :
 d8 call n (.test kill ps c a b) fr st=a4d call ps ⟨i5 kill fr,fun _=>.undef,st⟩ fun σ=>brT (c.read σ) (X9 call n a σ.fr σ.st) (X9 call n b σ.fr σ.st):=by
 rw [S9]
 simp only [d5p]
def b1i (call:b7) (n:Nat) (x:ACode) (fr:List AV) (st:St):Option Out:=d8 call n (.loop x) fr st
theorem a3E (call:b7) (n:Nat) (x:ACode) (fr:List AV) (st:St):d8 call n (.loop x) fr st=Go.Cb.obind (b1i call n x fr st) some:=by
 unfold b1i; cases d8 call n (.loop x) fr st <;> rfl

theorem WC.br {c:Bool} {A B:Nat→Unit→Option Out} {Q:Out→Prop} (ht:c=true→WC (fun n=>A n ()) Q) (hf:c=false→WC (fun n=>B n ()) Q):WC (fun n=>brT (.bool c) (A n) (B n)) Q:=by
 cases c with
 | true=>exact ht rfl
 | false=>exact hf rfl
theorem WC.loopR {tbl:Nat→Option AFn} {β:Type} {x:ACode} {K:Nat→Out→Option β} {Q:β→Prop} (I:Nat→List AV→St→Prop) {m:Nat} {fr:List AV} {st:St} (h0:I m fr st)
 (hI:∀ m fr st,I m fr st→WC (fun n=>d8 (e8 tbl n) n x fr st) (fun o=>(∃ m' fr' st',o=(.normal,fr',st')∧m' < m∧I m' fr' st')∨(o.1≠.normal∧WC (fun n=>K n o) Q))) :
 WC (fun n=>Go.Cb.obind (b1i (e8 tbl n) n x fr st) (K n)) Q:=WC.obind (WC.loop I h0 hI) fun _ ho=>ho
theorem WC.g2 {β:Type} {c want:Bool} {st:St} {E:Nat→Option (AV×St)} {k:Nat→AV×St→Option β} {Q:β→Prop} (ht:c=want→WC (fun n=>Go.Cb.obind (E n) (k n)) Q) (hf:c=!want→WC (fun n=>k n (.tuple [],st)) Q) :
 WC (fun n=>Go.Cb.obind (gv2 (.bool c) want st (E n)) (k n)) Q:=by
 by_cases h:c=want
 · subst h
   have e:∀ n,gv2 (.bool c) c st (E n)=E n:=fun n=>by cases c <;> rfl
   simp only [e]
   exact ht rfl
 · have h':c=!want:=by cases c <;> cases want <;> simp_all
   have e:∀ n,gv2 (.bool c) want st (E n)=some (.tuple [],st):=fun n=>by subst h'; cases want <;> rfl
   simp only [e,j4]
   exact hf h'
end Go.Cb
/-
 THE ABSTRACT MACHINE, part 37: what operations come to, form by form; all of it under one name.
-/
set_option maxRecDepth 4000
set_option linter.unusedVariables false
set_option linter.unusedSimpArgs false
namespace Go.Cb
def W (a:AV):AV:=AV.weak (AV.stripB a)
def brE (c:AV) (call:b7) (n:Nat) (a b:ACode) (fr:List AV) (st:St):Option Out:=brT c (X9 call n a fr st) (X9 call n b fr st)
def m1 {β:Type} (a:AV) (f:AV→Option β):Option β:=obind (p1 (some (a,AV.undef,([]:St)))) f
def gm {β:Type} (x:AV) (w:Bool) (a:AV) (f:AV→Option β):Option β:=obind (gv x w (some a)) f
theorem Y9 {β:Type} {a a':AV} {f:AV→Option β} (h:a=a'):m1 a f=m1 a' f:=by rw [h]
theorem Y8 {β:Type} {x x' a a':AV} {w:Bool} {f:AV→Option β} (h1:x=x') (h2:x'=.bool w→a=a'):gm x w a f=gm x' w a' f:=by
 unfold gm
 rw [M4 (e:=some a) (e':=some a') h1 (fun h=>by rw [h2 h])]
end Go.Cb
namespace Go.Cb.R
open Go.Cb
theorem d6t (call:b7) (bx:AV) (st:St) (a:AV):R1 call [a] bx st=some (a,bx,st):=b6 rfl
theorem a3g (call:b7) (bx:AV) (st:St) (o f:Nat):o9 call [.ptr o f] bx st=some (.ptr o f,bx,st):=b6 rfl
theorem a2L (call:b7) (bx:AV) (st:St) (o f:Nat):o9 call [.loc o f] bx st=some (.loc o f,bx,st):=b6 rfl
theorem a5a (call:b7) (bx:AV) (st:St) (cs:List AV):o9 call [.ro cs] bx st=some (.ro cs,bx,st):=b6 rfl
theorem a1s (call:b7) (bx:AV) (st:St) (f:Nat) (a b:List AV):o9 call [.func f a b] bx st=some (.func f a b,bx,st):=b6 rfl
theorem a9h (call:b7) (st:St) (zero:List AV):H7 zero call [] .undef st=some (.undef,.box zero,st):=b6 rfl
theorem b1N (call:b7) (st:St) (a:AV):K5 call [a] .undef st=if a.plain then some (.undef,.box a.cellsW,st) else none:=b6 rfl
theorem a6L (call:b7) (bx:AV) (st:St) (zero:List AV):w9 zero call [] bx st=some (.ptr st.length 0,bx,st++[.cells zero]):=b6 rfl
theorem b3H (call:b7) (bx:AV) (st:St) (a:AV):F6 call [a] bx st=if a.plain then some (.ptr st.length 0,bx,st++[.cells a.cellsW]) else none:=b6 rfl
theorem b0l (call:b7) (bx:AV) (st:St) (zero:List AV) (offs:List (Nat×Nat)) (as:List AV):C7 zero offs call as bx st=(t8 offs as zero).map fun cs=>(.agg cs,bx,st):=b6 rfl
theorem a8l (call:b7) (bx:AV) (st:St) (sz:Nat) (zero:List (List AV)) (at_:List Nat) (as:List AV):C4 sz zero at_ call as bx st=(r9 sz at_ as zero).map fun rs=>(.list true rs,bx,st):=b6 rfl
theorem b1t (call:b7) (st:St) (i off n:Nat) (agg:Bool) (cs:List AV):B2 i agg n call [.loc i off] (.box cs) st=(g9 agg n (cs.drop off)).map (fun v=>(v,.box cs,st)):=by unfold B2; simp only [if_true]
theorem b3o (call:b7) (bx:AV) (st:St) (o off n:Nat) (agg:Bool):n9 agg n call [.ptr o off] bx st=match st[o]? with|some (.cells cs)=>(g9 agg n (cs.drop off)).map (fun v=>(v,bx,st))|_=>none:=b6 rfl
theorem b3w (call:b7) (bx:AV) (st:St) (n:Nat) (agg:Bool) (cs:List AV):G2 agg n call [.ro cs] bx st=(g9 agg n cs).map (fun v=>(v,bx,st)):=b6 rfl
theorem b0r (call:b7) (bx:AV) (st:St) (n:Nat) (agg:Bool) (cs:List AV):v8 agg n call [.ro cs] bx st=(g9 agg n cs).map (fun v=>(v,bx,st)):=b6 rfl
theorem a8a (call:b7) (bx:AV) (st:St) (o off n:Nat) (agg:Bool):v8 agg n call [.ptr o off] bx st=match st[o]? with|some (.cells cs)=>(g9 agg n (cs.drop off)).map (fun v=>(v,bx,st))|_=>none:=b6 rfl
theorem a9s (call:b7) (st:St) (i off:Nat) (cs:List AV):E8 i call [.loc i off] (.box cs) st=match cs[off]? with|some c=>some (c,.box (cs.set off c.weak1),st)|none=>none:=by unfold E8; simp only [if_true]; rfl
theorem b0i (call:b7) (bx:AV) (st:St) (o off:Nat):p5 call [.ptr o off] bx st=match st[o]? with|some (.cells cs)=>(match cs[off]? with|some c=>some (c,bx,st.set o (.cells (cs.set off c.weak1)))|none=>none)|_=>none:=b6 rfl
theorem b15 (call:b7) (st:St) (i n off:Nat) (x:AV) (cs:List AV):G1 i n call [.loc i off,x] (.box cs) st=if x.plain=true∧x.cells.length=n∧off+n≤cs.length then some (.tuple [],.box (k8 cs off x.cells),st) else none:=by unfold G1; simp only [true_and]
theorem b1T (call:b7) (bx:AV) (st:St) (o off n:Nat) (x:AV):r5 n call [.ptr o off,x] bx st=match st[o]? with|some (.cells cs)=>(if x.plain=true∧x.cells.length=n∧off+n≤cs.length then some (.tuple [],bx,st.set o (.cells (k8 cs off x.cells))) else none)|_=>none:=by unfold r5; simp only [fL_eq]; rfl
theorem a9B (call:b7) (bx:AV) (st:St) (off o f:Nat):F0 off call [.ptr o f] bx st=some (.ptr o (f+off),bx,st):=b6 rfl
theorem a9e (call:b7) (bx:AV) (st:St) (off o f:Nat):F0 off call [.loc o f] bx st=some (.loc o (f+off),bx,st):=b6 rfl
theorem b1U (call:b7) (bx:AV) (st:St) (off:Nat) (cs:List AV):F0 off call [.ro cs] bx st=some (.ro (cs.drop off),bx,st):=b6 rfl
theorem b6E (call:b7) (bx:AV) (st:St) (off n:Nat) (agg:Bool) (cs:List AV):J5 off n agg call [.agg cs] bx st=if off+n≤cs.length then (g9 agg n (cs.drop off)).map (fun v=>(v,bx,st)) else none:=b6 rfl
theorem b5E (call:b7) (bx:AV) (st:St) (sz:Nat) (w:Bool) (xs:List (List AV)) (k:IntKind) (i:Int):F2 sz call [.list w xs,.int k i] bx st=if 0≤i then (match xs[i.toNat]? with|some r=>if r.length=sz then some (.ro r,bx,st) else none|none=>none) else none:=b6 rfl
theorem b3E (call:b7) (bx:AV) (st:St) (sz o f n s:Nat) (k:IntKind) (i:Int):F2 sz call [.sl o f n s,.int k i] bx st=if 0≤i∧i < (n:Int)∧s=sz then some (.ptr o (f+i.toNat*sz),bx,st) else none:=b6 rfl
theorem a5e (call:b7) (bx:AV) (st:St):B1 call [.nils] bx st=some (.int .i64 0,bx,st):=b6 rfl
theorem a9E (call:b7) (bx:AV) (st:St) (o f n s:Nat):B1 call [.sl o f n s] bx st=some (.int .i64 n,bx,st):=b6 rfl
theorem a4J (call:b7) (bx:AV) (st:St) (sz:Nat) (zero:List (List AV)) (at_:List Nat) (as:List AV):y8 sz zero at_ call as bx st=(l8 sz at_ as zero).map fun rs=>(.fresh rs,bx,st):=b6 rfl
theorem a5P (call:b7) (bx:AV) (st:St) (sz:Nat) (zero:List (List AV)) (at_:List Nat) (as:List AV):y9 sz zero at_ call as bx st=(l8 sz at_ as zero).map fun rs=>(.sl st.length 0 zero.length sz,bx,st++[.cells rs.flatten]):=b6 rfl
theorem b1M (call:b7) (bx:AV) (st:St) (k k':IntKind) (a b:Int):K2 call [.int k a,.int k' b] bx st=if k=k' then some (.int k (b1c a b),bx,st) else none:=b6 rfl
theorem b2p (call:b7) (bx:AV) (st:St) (neg:Bool) (k k':IntKind) (a b:Int) (s t:List Nat):L0 neg call [.agg [.int k a,.str s],.agg [.int k' b,.str t]] bx st=if k=k' then some (.bool (a2m neg a b s t),bx,st) else none:=b6 rfl
theorem a1h (sz:Nat) (rs:List (List AV)):l8 sz [] [] rs=some rs:=b6 rfl
theorem a1w (sz i:Nat) (is:List Nat) (p:AV) (ps:List AV) (rs:List (List AV)):l8 sz (i::is) (p::ps) rs=if p.plain=true∧p.cells.length=sz∧i < rs.length then l8 sz is ps (rs.set i (p.cells.map AV.cellW1)) else none:=b6 rfl
theorem a6G (call:b7) (bx:AV) (st:St) (sz bytes:Nat) (ys:List (List AV)) (gs:List AV):w8 sz bytes call (.list true []::.fresh ys::gs) bx st=if ys.isEmpty=false∧j6 sz ys=true∧ys.length*bytes≤2 ^ 47∧E2 none st.length gs=true then some (.sl st.length 0 ys.length sz,bx,st++[.cells ys.flatten]) else none:=b6 rfl
theorem a4F (call:b7) (bx:AV) (st:St) (sz bytes:Nat) (ys:List (List AV)) (gs:List AV):w8 sz bytes call (.nils::.fresh ys::gs) bx st=if ys.isEmpty=false∧j6 sz ys=true∧ys.length*bytes≤2 ^ 47∧E2 none st.length gs=true then some (.sl st.length 0 ys.length sz,bx,st++[.cells ys.flatten]) else none:=b6 rfl
theorem b0j (call:b7) (bx:AV) (st:St) (sz bytes o n s:Nat) (ys:List (List AV)) (gs:List AV):w8 sz bytes call (.sl o 0 n s::.fresh ys::gs) bx st=match st[o]? with|some (.cells xs)=>(if s=sz∧ys.isEmpty=false∧j6 sz ys=true∧xs.length=n*sz∧(n+ys.length)*bytes≤2 ^ 47∧E2 (some o) st.length gs=true then some (.sl st.length 0 (n+ys.length) sz,bx,st.set o .dead++[.cells (xs++ys.flatten)]) else none)|_=>none:=b6 rfl
theorem a9W (o:Option Nat) (n:Nat):E2 o n []=true:=b6 rfl
theorem a8U (o:Option Nat) (n p f:Nat) (gs:List AV):E2 o n (.ptr p f::gs)=(Nat.blt p n && (match o with|some o=>!Nat.beq p o|none=>true) && E2 o n gs):=b6 rfl
theorem b3y {α:Type}:([]:List (List α)).flatten=[]:=b6 rfl
theorem b1P {α:Type} (a:List α) (l:List (List α)):(a::l).flatten=a++l.flatten:=b6 rfl
theorem b5K (call:b7) (bx:AV) (st:St) (w:Bool) (xs:List (List AV)):J1 call [.list w xs] bx st=(D7 xs).map fun s=>(.str s,bx,st):=b6 rfl
theorem a4C:D7 []=some []:=b6 rfl
theorem a4S (n:Int) (rs:List (List AV)):D7 ([.int .u8 n]::rs)=if 0≤n∧n < 256 then (D7 rs).map (n.toNat::·) else none:=b6 rfl
theorem a9f (call:b7) (bx:AV) (st:St) (len sz:Nat) (cs:List AV) (k:IntKind) (i:Int):B6 len sz call [.ro cs,.int k i] bx st=if 0≤i∧i < (len:Int) then some (.ro (cs.drop (i.toNat*sz)),bx,st) else none:=b6 rfl
theorem a7D (call:b7) (bx:AV) (st:St) (len sz o f:Nat) (k:IntKind) (i:Int):B6 len sz call [.ptr o f,.int k i] bx st=if 0≤i∧i < (len:Int) then some (.ptr o (f+i.toNat*sz),bx,st) else none:=b6 rfl
theorem a6N (call:b7) (bx:AV) (st:St) (len sz o f:Nat) (k:IntKind) (i:Int):B6 len sz call [.loc o f,.int k i] bx st=if 0≤i∧i < (len:Int) then some (.loc o (f+i.toNat*sz),bx,st) else none:=b6 rfl
theorem b2R (call:b7) (bx:AV) (st:St) (s:List Nat) (k:IntKind) (i:Int):D8 call [.str s,.int k i] bx st=if 0≤i then (match s[i.toNat]? with|some b=>some (.int .u8 b,bx,st)|none=>none) else none:=b6 rfl
theorem b6b (call:b7) (bx:AV) (st:St) (lo hi:Bool) (s:List Nat) (r:List AV):H1 lo hi call (.str s::r) bx st=(q7 lo hi r s.length).map fun p=>(.str ((s.take p.2).drop p.1),bx,st):=b6 rfl
theorem b26 (call:b7) (bx:AV) (st:St) (sz:Nat) (lo hi:Bool) (o f n s:Nat) (r:List AV):H3 sz lo hi call (.sl o f n s::r) bx st=if s=sz then (slB lo hi r n).map fun p=>(.sl o (f+p.1*sz) (p.2 - p.1) s,bx,st) else none:=b6 rfl
theorem b6v (call:b7) (bx:AV) (st:St) (sz:Nat) (lo hi:Bool) (w:Bool) (xs:List (List AV)) (r:List AV):H3 sz lo hi call (.list w xs::r) bx st=if j6 sz xs then (q7 lo hi r xs.length).map fun p=>(.list false ((xs.take p.2).drop p.1),bx,st) else none:=b6 rfl
theorem b5P (call:b7) (bx:AV) (st:St) (w:Bool) (xs:List (List AV)):J4 call [.list w xs] bx st=some (.list true [],bx,st):=b6 rfl
theorem b5V (call:b7) (bx:AV) (st:St) (len sz:Nat) (lo hi:Bool) (cs r:List AV):J0 len sz lo hi call (.ro cs::r) bx st=if cs.length=len*sz then (q7 lo hi r len).map fun p=>(.list false (((M3 sz len cs).take p.2).drop p.1),bx,st) else none:=b6 rfl
theorem b6N (call:b7) (bx:AV) (st:St) (op:BinOp) (a b:AV):m7 op call [a,b] bx st=(j1 op a b).map (fun v=>(v,bx,st)):=b6 rfl
theorem b3I (call:b7) (bx:AV) (st:St) (op:BinOp) (a b:AV):G3 op call [a,b] bx st=(a3K op a b).map (fun v=>(v,bx,st)):=b6 rfl
theorem b1H (call:b7) (bx:AV) (st:St) (op:BinOp) (a b:AV):F9 op call [a,b] bx st=(O4 op a b).map (fun v=>(v,bx,st)):=b6 rfl
theorem b2j (k:IntKind) (a b:Int):j1 .add (.int k a) (.int k b)=some (.int k (s8 k (a8F a b))):=by simp only [j1,if_true]
theorem b1K (k:IntKind) (a b:Int):j1 .sub (.int k a) (.int k b)=some (.int k (s8 k (a8D a b))):=by simp only [j1,if_true]
theorem b2I (k:IntKind) (a b:Int):j1 .mul (.int k a) (.int k b)=some (.int k (s8 k (a*b))):=by simp only [j1,if_true]
theorem b2Z (k:IntKind) (a b:Int):j1 .quo (.int k a) (.int k b)=if b=0 then none else some (.int k (k.wrap (a.tdiv b))):=by simp only [j1,if_true]
theorem b1v (k:IntKind) (a b:Int):j1 .rem (.int k a) (.int k b)=if b=0 then none else some (.int k (a.tmod b)):=by simp only [j1,if_true]
theorem b3J (k:IntKind) (a b:Int):j1 .eql (.int k a) (.int k b)=some (.bool (eqI a b)):=by simp only [j1,if_true]
theorem b3a (k:IntKind) (a b:Int):j1 .neq (.int k a) (.int k b)=some (.bool !(eqI a b)):=by simp only [j1,if_true]
theorem b1O (k:IntKind) (a b:Int):j1 .lss (.int k a) (.int k b)=some (.bool (ltI a b)):=by simp only [j1,if_true]
theorem b2A (k:IntKind) (a b:Int):j1 .leq (.int k a) (.int k b)=some (.bool !(ltI b a)):=by simp only [j1,if_true]
theorem b2O (k:IntKind) (a b:Int):j1 .gtr (.int k a) (.int k b)=some (.bool (ltI b a)):=by simp only [j1,if_true]
theorem b2h (k:IntKind) (a b:Int):j1 .geq (.int k a) (.int k b)=some (.bool !(ltI a b)):=by simp only [j1,if_true]
theorem b3B (a b:List Nat):j1 .add (.str a) (.str b)=if a.length+b.length≤2 ^ 62 then some (.str (a++b)) else none:=b6 rfl
theorem b1y (a b:List Nat):j1 .eql (.str a) (.str b)=some (.bool (eqN a b)):=b6 rfl
theorem b10 (a b:List Nat):j1 .neq (.str a) (.str b)=some (.bool !(eqN a b)):=b6 rfl
theorem b2y (a b:List Nat):j1 .lss (.str a) (.str b)=some (.bool (S1 a b)):=b6 rfl
theorem b1F (a b:Bool):a3K .eql (.bool a) (.bool b)=some (.bool (a == b)):=b6 rfl
theorem b21 (a b:Bool):a3K .neq (.bool a) (.bool b)=some (.bool !(a == b)):=b6 rfl
theorem a9O (o f:Nat):O4 .eql (.ptr o f) .nilp=some (.bool false):=b6 rfl
theorem b0s (o f:Nat):O4 .eql .nilp (.ptr o f)=some (.bool false):=b6 rfl
theorem b0h:O4 .eql .nilp .nilp=some (.bool true):=b6 rfl
theorem b0b (o f:Nat):O4 .neq (.ptr o f) .nilp=some (.bool true):=b6 rfl
theorem b0q (o f:Nat):O4 .neq .nilp (.ptr o f)=some (.bool true):=b6 rfl
theorem a9J:O4 .neq .nilp .nilp=some (.bool false):=b6 rfl
theorem b3d (call:b7) (bx:AV) (st:St) (b:Bool):L7 .not call [.bool b] bx st=some (.bool !b,bx,st):=b6 rfl
theorem b3G (call:b7) (bx:AV) (st:St) (k:IntKind) (n:Int):L7 .neg call [.int k n] bx st=some (.int k (s8 k (0 - n)),bx,st):=b6 rfl
theorem b3n (call:b7) (bx:AV) (st:St) (k k':IntKind) (n:Int):F8 k call [.int k' n] bx st=some (.int k (s8 k n),bx,st):=b6 rfl
theorem b5M (call:b7) (bx:AV) (st:St) (f n:Nat) (as:List AV):I8 f n call as bx st=if l7 as then some (.func f ((as.map AV.weak).take n) ((as.map AV.weak).drop n),bx,st) else none:=b6 rfl
theorem b6D (call:b7) (bx:AV) (st:St):M6 call [] bx st=some (.map st.length,bx,st++[.map []]):=b6 rfl
theorem b5A (call:b7) (bx:AV) (st:St) (i:Nat) (vs:List AV):G8 i call [.tuple vs] bx st=match vs[i]? with|some v=>some (v.weak,bx,st)|none=>none:=b6 rfl
theorem b1A (call:b7) (bx:AV) (st:St) (s:List Nat):F7 call [.str s] bx st=some (.int .i64 s.length,bx,st):=b6 rfl
theorem b2W (call:b7) (bx:AV) (st:St) (w:Bool) (xs:List (List AV)):B1 call [.list w xs] bx st=some (.int .i64 xs.length,bx,st):=b6 rfl
theorem b5W (call:b7) (bx:AV) (st:St) (sz bytes:Nat) (w:Bool) (xs ys:List (List AV)):I5 sz bytes call [.list true xs,.list w ys] bx st=if j6 sz xs && j6 sz ys && decide ((xs.length+ys.length)*bytes≤2 ^ 47) then some (.list true (xs++ys),bx,st) else none:=b6 rfl
theorem a5p (n:Nat) (cs:List AV):g9 true n cs=if n≤cs.length then some (.agg ((cs.take n).map AV.weak1)) else none:=b6 rfl
theorem a4t (n:Nat) (c:AV) (cs:List AV):g9 false n (c::cs)=some c.weak1:=b6 rfl
theorem a3J (cs:List AV):t8 [] [] cs=some cs:=b6 rfl
theorem a3z (off n:Nat) (offs:List (Nat×Nat)) (p:AV) (ps cs:List AV):t8 ((off,n)::offs) (p::ps) cs=if p.plain=true∧p.cells.length=n∧off+n≤cs.length then t8 offs ps (k8 cs off p.cells) else none:=b6 rfl
theorem a2p (sz:Nat) (rs:List (List AV)):r9 sz [] [] rs=some rs:=b6 rfl
theorem a2K (sz i:Nat) (is:List Nat) (p:AV) (ps:List AV) (rs:List (List AV)):r9 sz (i::is) (p::ps) rs=if p.plain=true∧p.cells.length=sz∧i < rs.length then r9 sz is ps (rs.set i (p.cells.map AV.weak1)) else none:=b6 rfl
theorem a7h (cs:List AV) (off:Nat) (new:List AV):k8 cs off new=cs.take off++new++cs.drop (off+new.length):=b6 rfl
theorem a4P (n:Nat):q7 false false [] n=some (0,n):=b6 rfl
theorem a4Q (l:AV) (n:Nat):q7 true false [l] n=(E1 l n).map fun l=>(l,n):=b6 rfl
theorem a5E (h:AV) (n:Nat):q7 false true [h] n=(E1 h n).map fun h=>(0,h):=b6 rfl
theorem a4O (l h:AV) (n:Nat):q7 true true [l,h] n=match E1 h n with|some h=>(E1 l h).map (fun l=>(l,h))|none=>none:=b6 rfl
theorem a9H (k:IntKind) (i:Int) (top:Nat):E1 (.int k i) top=if 0≤i∧i≤(top:Int) then some i.toNat else none:=b6 rfl
theorem a6O (sz:Nat):j6 sz []=true:=b6 rfl
theorem a7e (sz:Nat) (r:List AV) (rs:List (List AV)):j6 sz (r::rs)=(r.length == sz):=b6 rfl
theorem a9Y (i:Nat) (cs:List AV):b6t i (.box cs)=.loc i 0:=b6 rfl
theorem a3A (b:Bool):AV.plain (.bool b)=true:=b6 rfl
theorem a3m (b:Bool):AV.cells (.bool b)=[.bool b]:=b6 rfl
theorem a1G (b:Bool):AV.cellW1 (.bool b)=.bool b:=b6 rfl
theorem a1k (b:Bool):AV.cellsW (.bool b)=[.bool b]:=b6 rfl
theorem a4w (k:IntKind) (n:Int):AV.plain (.int k n)=true:=b6 rfl
theorem a5L (k:IntKind) (n:Int):AV.cells (.int k n)=[.int k n]:=b6 rfl
theorem a2S (k:IntKind) (n:Int):AV.cellW1 (.int k n)=.int k n:=b6 rfl
theorem a3C (k:IntKind) (n:Int):AV.cellsW (.int k n)=[.int k n]:=b6 rfl
theorem a4B (s:List Nat):AV.plain (.str s)=true:=b6 rfl
theorem a5K (s:List Nat):AV.cells (.str s)=[.str s]:=b6 rfl
theorem a3e (s:List Nat):AV.cellW1 (.str s)=.str s:=b6 rfl
theorem a2Z (s:List Nat):AV.cellsW (.str s)=[.str s]:=b6 rfl
theorem a3U (w:Bool) (xs:List (List AV)):AV.plain (.list w xs)=true:=b6 rfl
theorem a3u (w:Bool) (xs:List (List AV)):AV.cells (.list w xs)=[.list w xs]:=b6 rfl
theorem a5M (o f:Nat):AV.plain (.ptr o f)=true:=b6 rfl
theorem a5f (o f:Nat):AV.cells (.ptr o f)=[.ptr o f]:=b6 rfl
theorem a2R (o f:Nat):AV.cellW1 (.ptr o f)=.ptr o f:=b6 rfl
theorem a2E (o f:Nat):AV.cellsW (.ptr o f)=[.ptr o f]:=b6 rfl
theorem a3R :AV.plain (.nilp)=true:=b6 rfl
theorem a3o :AV.cells (.nilp)=[.nilp]:=b6 rfl
theorem a03 :AV.cellW1 (.nilp)=.nilp:=b6 rfl
theorem a1e :AV.cellsW (.nilp)=[.nilp]:=b6 rfl
theorem a6j (cs:List AV):AV.plain (.ro cs)=true:=b6 rfl
theorem a7f (cs:List AV):AV.cells (.ro cs)=[.ro cs]:=b6 rfl
theorem a5y (cs:List AV):AV.cellW1 (.ro cs)=.ro cs:=b6 rfl
theorem a5k (cs:List AV):AV.cellsW (.ro cs)=[.ro cs]:=b6 rfl
theorem a4N (o:Nat):AV.plain (.map o)=true:=b6 rfl
theorem a4W (o:Nat):AV.cells (.map o)=[.map o]:=b6 rfl
theorem a3h (o:Nat):AV.cellW1 (.map o)=.map o:=b6 rfl
theorem a3a (o:Nat):AV.cellsW (.map o)=[.map o]:=b6 rfl
theorem a3s :AV.plain (.nilm)=true:=b6 rfl
theorem a3H :AV.cells (.nilm)=[.nilm]:=b6 rfl
theorem a1z :AV.cellW1 (.nilm)=.nilm:=b6 rfl
theorem a1D :AV.cellsW (.nilm)=[.nilm]:=b6 rfl
theorem a2Y (f:Nat) (a b:List AV):AV.plain (.func f a b)=true:=b6 rfl
theorem a2x (f:Nat) (a b:List AV):AV.cells (.func f a b)=[.func f a b]:=b6 rfl
theorem a06 (f:Nat) (a b:List AV):AV.cellW1 (.func f a b)=.func f a b:=b6 rfl
theorem a1B (f:Nat) (a b:List AV):AV.cellsW (.func f a b)=[.func f a b]:=b6 rfl
theorem a3r :AV.plain (.nilf)=true:=b6 rfl
theorem a2I :AV.cells (.nilf)=[.nilf]:=b6 rfl
theorem a1d :AV.cellW1 (.nilf)=.nilf:=b6 rfl
theorem a02 :AV.cellsW (.nilf)=[.nilf]:=b6 rfl
theorem a7p (o f n s:Nat):AV.plain (.sl o f n s)=true:=b6 rfl
theorem a6X (o f n s:Nat):AV.cells (.sl o f n s)=[.sl o f n s]:=b6 rfl
theorem a4H (o f n s:Nat):AV.cellW1 (.sl o f n s)=.sl o f n s:=b6 rfl
theorem a4V (o f n s:Nat):AV.cellsW (.sl o f n s)=[.sl o f n s]:=b6 rfl
theorem a09 (t:Nat) (v:AV):AV.plain (.iface t v)=true:=b6 rfl
theorem a1q (t:Nat) (v:AV):AV.cells (.iface t v)=[.iface t v]:=b6 rfl
theorem a0q (t:Nat) (v:AV):AV.cellW1 (.iface t v)=.iface t v:=b6 rfl
theorem a0z (t:Nat) (v:AV):AV.cellsW (.iface t v)=[.iface t v]:=b6 rfl
theorem a2v :AV.plain (.nili)=true:=b6 rfl
theorem a3j :AV.cells (.nili)=[.nili]:=b6 rfl
theorem a08 :AV.cellW1 (.nili)=.nili:=b6 rfl
theorem a1I :AV.cellsW (.nili)=[.nili]:=b6 rfl
theorem a2X :AV.plain (.nils)=true:=b6 rfl
theorem a3N :AV.cells (.nils)=[.nils]:=b6 rfl
theorem a1x :AV.cellW1 (.nils)=.nils:=b6 rfl
theorem a1y :AV.cellsW (.nils)=[.nils]:=b6 rfl
theorem a1E (w:Bool) (xs:List (List AV)):AV.cellW1 (.list w xs)=.list (w && xs.isEmpty) xs:=b6 rfl
theorem a5J (cs:List AV):AV.plain (.agg cs)=true:=b6 rfl
theorem a5m (cs:List AV):AV.cells (.agg cs)=cs:=b6 rfl
theorem a3V (cs:List AV):AV.cellsW (.agg cs)=cs:=b6 rfl
theorem a1H (w:Bool) (xs:List (List AV)):AV.cellsW (.list w xs)=[.list (w && xs.isEmpty) xs]:=b6 rfl
theorem a3i:l7 []=true:=b6 rfl
theorem a2P (a:AV) (as:List AV):l7 (a::as)=(a.plain && l7 as):=b6 rfl
theorem b51 {α β:Type} (f:α→β):List.map f []=[]:=b6 rfl
theorem b55 {α β:Type} (f:α→β) (a:α) (l:List α):List.map f (a::l)=f a::l.map f:=b6 rfl
theorem b2J {α:Type} (l:List α):List.drop 0 l=l:=b6 rfl
theorem b2b {α:Type} (n:Nat) (a:α) (l:List α):List.drop (n+1) (a::l)=l.drop n:=b6 rfl
theorem b2f {α:Type} (n:Nat):List.drop n ([]:List α)=[]:=by cases n <;> rfl
theorem b2c {α:Type} (l:List α):List.take 0 l=[]:=b6 rfl
theorem b1z {α:Type} (n:Nat) (a:α) (l:List α):List.take (n+1) (a::l)=a::l.take n:=b6 rfl
theorem b12 {α:Type} (n:Nat):List.take n ([]:List α)=[]:=by cases n <;> rfl
theorem b5J {α:Type}:([]:List α).length=0:=b6 rfl
theorem b5G {α:Type} (a:α) (l:List α):(a::l).length=l.length+1:=b6 rfl
theorem b5Z {α:Type} (a:α) (l m:List α):(a::l)++m=a::(l++m):=b6 rfl
theorem b6V {α:Type} (l:List α):[]++l=l:=b6 rfl
theorem a9Z {α:Type} (l:List α):l++[]=l:=List.append_nil l
theorem b58 {α:Type} (a:α) (l:List α):(a::l)[0]?=some a:=b6 rfl
theorem b5X {α:Type} (n:Nat) (a:α) (l:List α):(a::l)[n+1]?=l[n]?:=b6 rfl
theorem b6l {α:Type} (a b:α) (l:List α):(a::l).set 0 b=b::l:=b6 rfl
theorem b6R {α:Type} (n:Nat) (a b:α) (l:List α):(a::l).set (n+1) b=a::l.set n b:=b6 rfl
theorem b57 {α:Type} (a:α):List.replicate 0 a=[]:=b6 rfl
theorem b5F {α:Type} (n:Nat) (a:α):List.replicate (n+1) a=a::List.replicate n a:=b6 rfl
theorem b3s {α β:Type} (f:α→β) (a:α):Option.map f (some a)=some (f a):=b6 rfl
theorem b2e {α β:Type} (f:α→β):Option.map f none=none:=b6 rfl
theorem b6S {α:Type}:([]:List α).isEmpty=true:=b6 rfl
theorem b6y {α:Type} (a:α) (l:List α):(a::l).isEmpty=false:=b6 rfl
theorem b6r {α:Type} (a b:α):(if True then a else b)=a:=if_pos trivial
theorem b50 {α:Type} (a b:α):(if False then a else b)=b:=if_neg (fun h=>h)
theorem b5z {α:Type} (a b:α):(if true=true then a else b)=a:=if_pos rfl
theorem b5N {α:Type} (a b:α):(if false=true then a else b)=b:=if_neg (fun h=>by cases h)
theorem b24:(true=false)=False:=by simp
theorem b1u:(false=true)=False:=by simp
theorem b6z:(!true)=false:=b6 rfl
theorem b5I:(!false)=true:=b6 rfl
theorem b5U (b:Bool):(true && b)=b:=b6 rfl
theorem b6K (b:Bool):(b && true)=b:=by cases b <;> rfl
theorem b5H (b:Bool):(false && b)=false:=b6 rfl
theorem b5Y (b:Bool):(b && false)=false:=by cases b <;> rfl
theorem c5s (b:Bool):(true || b)=true:=b6 rfl
theorem c9q (b:Bool):(b || true)=true:=by cases b <;> rfl
theorem d15 (b:Bool):(false || b)=b:=b6 rfl
theorem d4f (b:Bool):(b || false)=b:=by cases b <;> rfl
theorem b5B (p:Prop):(p∧True)=p:=by simp
theorem b6j (p:Prop):(True∧p)=p:=by simp
theorem b6U:decide True=true:=b6 rfl
theorem b6A:decide False=false:=b6 rfl
theorem eqs {α:Type} (a:α):(a=a)=True:=by simp
theorem nn (n:Nat):(0≤(n:Int))=True:=by simp
theorem tn (n:Nat):(n:Int).toNat=n:=Int.toNat_natCast n
theorem b2Q (m n:Nat):((m:Int)≤(n:Int))=(m≤n):=by simp
theorem b2F (n:Nat):(n≤n)=True:=by simp
theorem c4p (i j:Nat):ltI (i:Int) (j:Int)=decide (i < j):=ltN i j
theorem c6T (i j:Nat):eqI (i:Int) (j:Int)=decide (i=j):=f1N i j
theorem b5D (c:AV) (call:b7) (n:Nat) (a b:ACode) (fr:List AV) (st:St):brE c call n a b fr st=brT c (X9 call n a fr st) (X9 call n b fr st):=b6 rfl
theorem d5y:(0 < (1:Nat))=True:=by simp
theorem c5m:(0 < (3:Nat))=True:=by simp
theorem d0C:(1 < (3:Nat))=True:=by simp
theorem c5a:(2 < (3:Nat))=True:=by simp
theorem il0:(0≤(0:Int))=True:=by simp
theorem it0:(0:Int).toNat=0:=b6 rfl
theorem il1:(0≤(1:Int))=True:=by simp
theorem it1:(1:Int).toNat=1:=b6 rfl
theorem il2:(0≤(2:Int))=True:=by simp
theorem it2:(2:Int).toNat=2:=b6 rfl
theorem m41:4*1=(4:Nat):=b6 rfl
theorem W_e (a:AV):W a=AV.weak (AV.stripB a):=b6 rfl
theorem d0c {β:Type} (a:AV) (f:AV→Option β):m1 a f=f a:=b6 rfl
theorem a9G {β:Type} (c w:Bool) (a:AV) (f:AV→Option β):gm (.bool c) w a f=f (gV (.bool c) w a):=by unfold gm; rw [a4m,j4]
theorem a8n {β:Type} (x:AV) (w b want:Bool) (a:AV) (f:AV→Option β):gm (gV x w (.bool b)) want a f=f (gV (gV x w (.bool b)) want a):=by unfold gm; rw [a1S,j4]
theorem b0m {β:Type} (w:Bool) (a:AV) (f:AV→Option β):gm (.tuple []) w a f=f (.tuple []):=by unfold gm; rw [a4g,j4]
theorem b6q (n:Nat):0+n=n:=Nat.zero_add n
theorem b6Q (n:Nat):n+0=n:=b6 rfl
theorem d2V (n:Nat):(n == n)=true:=by simp
end Go.Cb.R
namespace Go.Cb
open Go.Cb.R
theorem SS:type_of% (And.intro (And.intro (And.intro (And.intro (And.intro (And.intro (And.intro (And.intro (@exec_seqK) (@a4R)) (And.intro (@a6P) (And.intro (@a5C) (@a5i)))) (And.intro (And.intro (@T0) (And.intro (@a5I) (@a7I))) (And.intro (@a0w) (And.intro (@Z4) (@a3t))))) (And.intro (And.intro (And.intro (@a1L) (@b2r)) (And.intro (@b2N) (And.intro (@a05) (@a1J)))) (And.intro (And.intro (@b2Y) (And.intro (@b1Y) (@b1W))) (And.intro (@a8C) (And.intro (@a5z) (@a6m)))))) (And.intro (And.intro (And.intro (And.intro (@a7x) (@a3E)) (And.intro (@b0g) (And.intro (@V0) (@j4)))) (And.intro (And.intro (@b56) (And.intro (@b6L) (@b5Q))) (And.intro (@b5u) (And.intro (@a4g) (@b3u))))) (And.intro (And.intro (And.intro (@b2t) (@b3b)) (And.intro (@b3p) (And.intro (@a8w) (@b6a)))) (And.intro (And.intro (@b5x) (And.intro (@b6C) (@b5S))) (And.intro (@b0o) (And.intro (@a4m) (@a1S))))))) (And.intro (And.intro (And.intro (And.intro (And.intro (@a9K) (@a7d)) (And.intro (@a5n) (And.intro (@b2X) (@b3i)))) (And.intro (And.intro (@a9T) (And.intro (@a8I) (@a4G))) (And.intro (@a7a) (And.intro (@a6w) (@a5q))))) (And.intro (And.intro (And.intro (@a7L) (@a4x)) (And.intro (@a4E) (And.intro (@a9m) (@a8f)))) (And.intro (And.intro (@a7U) (And.intro (@a5H) (@a4y))) (And.intro (@a5t) (And.intro (@a7N) (@a8R)))))) (And.intro (And.intro (And.intro (And.intro (@a2r) (@a5s)) (And.intro (@a3v) (And.intro (@a3y) (@a7G)))) (And.intro (And.intro (@a3c) (And.intro (@a4u) (@a5r))) (And.intro (@a2N) (And.intro (@a6F) (@a2u))))) (And.intro (And.intro (And.intro (@a5G) (And.intro (@a3f) (@a2D))) (And.intro (@a4T) (And.intro (@a2B) (@a3B)))) (And.intro (And.intro (@a4U) (And.intro (@a5d) (@a3L))) (And.intro (@a5Q) (And.intro (@a3k) (@a2w)))))))) (And.intro (And.intro (And.intro (And.intro (And.intro (And.intro (@a6S) (@a5N)) (And.intro (@a4Z) (And.intro (@a3b) (@a3P)))) (And.intro (And.intro (@a3S) (And.intro (@a4M) (@a6T))) (And.intro (@a04) (And.intro (@a07) (@a1v))))) (And.intro (And.intro (And.intro (@a3q) (@a2q)) (And.intro (@a1f) (And.intro (@a3G) (@a1F)))) (And.intro (And.intro (@a1p) (And.intro (@a4z) (@a3T))) (And.intro (@a2Q) (And.intro (@a1i) (@a1t)))))) (And.intro (And.intro (And.intro (And.intro (@a1o) (@a3w)) (And.intro (@a2W) (And.intro (@a1b) (@a0y)))) (And.intro (And.intro (@a5j) (And.intro (@Z7) (@a0l))) (And.intro (@d6t) (And.intro (@a3g) (@a2L))))) (And.intro (And.intro (And.intro (@a5a) (@a1s)) (And.intro (@a9h) (And.intro (@b1N) (@a6L)))) (And.intro (And.intro (@b3H) (And.intro (@b0l) (@a8l))) (And.intro (@b1t) (And.intro (@b3o) (@b3w))))))) (And.intro (And.intro (And.intro (And.intro (And.intro (@b0r) (@a8a)) (And.intro (@a9s) (And.intro (@b0i) (@b15)))) (And.intro (And.intro (@b1T) (And.intro (@a9B) (@a9e))) (And.intro (@b1U) (And.intro (@b6E) (@b5E))))) (And.intro (And.intro (And.intro (@b3E) (@a5e)) (And.intro (@a9E) (And.intro (@a4J) (@a5P)))) (And.intro (And.intro (@b1M) (And.intro (@b2p) (@a1h))) (And.intro (@a1w) (And.intro (@a6G) (@a4F)))))) (And.intro (And.intro (And.intro (And.intro (@b0j) (@a9W)) (And.intro (@a8U) (And.intro (@b3y) (@b1P)))) (And.intro (And.intro (@b5K) (And.intro (@a4C) (@a4S))) (And.intro (@a9f) (And.intro (@a7D) (@a6N))))) (And.intro (And.intro (And.intro (@b2R) (And.intro (@b6b) (@b26))) (And.intro (@b6v) (And.intro (@b5P) (@b5V)))) (And.intro (And.intro (@b6N) (And.intro (@b3I) (@b1H))) (And.intro (@b2j) (And.intro (@b1K) (@b2I))))))))) (And.intro (And.intro (And.intro (And.intro (And.intro (And.intro (And.intro (@b2Z) (@b1v)) (And.intro (@b3J) (And.intro (@b3a) (@b1O)))) (And.intro (And.intro (@b2A) (And.intro (@b2O) (@b2h))) (And.intro (@b3B) (And.intro (@b1y) (@b10))))) (And.intro (And.intro (And.intro (@b2y) (@b1F)) (And.intro (@b21) (And.intro (@a9O) (@b0s)))) (And.intro (And.intro (@b0h) (And.intro (@b0b) (@b0q))) (And.intro (@a9J) (And.intro (@b3d) (@b3G)))))) (And.intro (And.intro (And.intro (And.intro (@b3n) (@b5M)) (And.intro (@b6D) (And.intro (@b5A) (@b1A)))) (And.intro (And.intro (@b2W) (And.intro (@b5W) (@a5p))) (And.intro (@a4t) (And.intro (@a3J) (@a3z))))) (And.intro (And.intro (And.intro (@a2p) (@a2K)) (And.intro (@a7h) (And.intro (@a4P) (@a4Q)))) (And.intro (And.intro (@a5E) (And.intro (@a4O) (@a9H))) (And.intro (@a6O) (And.intro (@a7e) (@a9Y))))))) (And.intro (And.intro (And.intro (And.intro (And.intro (@a3A) (@a3m)) (And.intro (@a1G) (And.intro (@a1k) (@a4w)))) (And.intro (And.intro (@a5L) (And.intro (@a2S) (@a3C))) (And.intro (@a4B) (And.intro (@a5K) (@a3e))))) (And.intro (And.intro (And.intro (@a2Z) (@a3U)) (And.intro (@a3u) (And.intro (@a5M) (@a5f)))) (And.intro (And.intro (@a2R) (And.intro (@a2E) (@a3R))) (And.intro (@a3o) (And.intro (@a03) (@a1e)))))) (And.intro (And.intro (And.intro (And.intro (@a6j) (@a7f)) (And.intro (@a5y) (And.intro (@a5k) (@a4N)))) (And.intro (And.intro (@a4W) (And.intro (@a3h) (@a3a))) (And.intro (@a3s) (And.intro (@a3H) (@a1z))))) (And.intro (And.intro (And.intro (@a1D) (And.intro (@a2Y) (@a2x))) (And.intro (@a06) (And.intro (@a1B) (@a3r)))) (And.intro (And.intro (@a2I) (And.intro (@a1d) (@a02))) (And.intro (@a7p) (And.intro (@a6X) (@a4H)))))))) (And.intro (And.intro (And.intro (And.intro (And.intro (And.intro (@a4V) (@a09)) (And.intro (@a1q) (And.intro (@a0q) (@a0z)))) (And.intro (And.intro (@a2v) (And.intro (@a3j) (@a08))) (And.intro (@a1I) (And.intro (@a2X) (@a3N))))) (And.intro (And.intro (And.intro (@a1x) (@a1y)) (And.intro (@a1E) (And.intro (@a5J) (@a5m)))) (And.intro (And.intro (@a3V) (And.intro (@a1H) (@a3i))) (And.intro (@a2P) (And.intro (@b51) (@b55)))))) (And.intro (And.intro (And.intro (And.intro (@b2J) (@b2b)) (And.intro (@b2f) (And.intro (@b2c) (@b1z)))) (And.intro (And.intro (@b12) (And.intro (@b5J) (@b5G))) (And.intro (@b5Z) (And.intro (@b6V) (@a9Z))))) (And.intro (And.intro (And.intro (@b58) (And.intro (@b5X) (@b6l))) (And.intro (@b6R) (And.intro (@b57) (@b5F)))) (And.intro (And.intro (@b3s) (And.intro (@b2e) (@b6S))) (And.intro (@b6y) (And.intro (@b6r) (@b50))))))) (And.intro (And.intro (And.intro (And.intro (And.intro (@b5z) (@b5N)) (And.intro (@b24) (And.intro (@b1u) (@b6z)))) (And.intro (And.intro (@b5I) (And.intro (@b5U) (@b6K))) (And.intro (@b5H) (And.intro (@b5Y) (@c5s))))) (And.intro (And.intro (And.intro (@c9q) (@d15)) (And.intro (@d4f) (And.intro (@b5B) (@b6j)))) (And.intro (And.intro (@b6U) (And.intro (@b6A) (@eqs))) (And.intro (@nn) (And.intro (@tn) (@b2Q)))))) (And.intro (And.intro (And.intro (And.intro (@b2F) (@c4p)) (And.intro (@c6T) (And.intro (@b5D) (@d5y)))) (And.intro (And.intro (@c5m) (And.intro (@d0C) (@c5a))) (And.intro (@il0) (And.intro (@it0) (@il1))))) (And.intro (And.intro (And.intro (@it1) (And.intro (@il2) (@it2))) (And.intro (@m41) (And.intro (@W_e) (@d0c)))) (And.intro (And.intro (@a9G) (And.intro (@a8n) (@b0m))) (And.intro (@b6q) (And.intro (@b6Q) (@d2V)))))))))):=And.intro (And.intro (And.intro (And.intro (And.intro (And.intro (And.intro (And.intro (@exec_seqK) (@a4R)) (And.intro (@a6P) (And.intro (@a5C) (@a5i)))) (And.intro (And.intro (@T0) (And.intro (@a5I) (@a7I))) (And.intro (@a0w) (And.intro (@Z4) (@a3t))))) (And.intro (And.intro (And.intro (@a1L) (@b2r)) (And.intro (@b2N) (And.intro (@a05) (@a1J)))) (And.intro (And.intro (@b2Y) (And.intro (@b1Y) (@b1W))) (And.intro (@a8C) (And.intro (@a5z) (@a6m)))))) (And.intro (And.intro (And.intro (And.intro (@a7x) (@a3E)) (And.intro (@b0g) (And.intro (@V0) (@j4)))) (And.intro (And.intro (@b56) (And.intro (@b6L) (@b5Q))) (And.intro (@b5u) (And.intro (@a4g) (@b3u))))) (And.intro (And.intro (And.intro (@b2t) (@b3b)) (And.intro (@b3p) (And.intro (@a8w) (@b6a)))) (And.intro (And.intro (@b5x) (And.intro (@b6C) (@b5S))) (And.intro (@b0o) (And.intro (@a4m) (@a1S))))))) (And.intro (And.intro (And.intro (And.intro (And.intro (@a9K) (@a7d)) (And.intro (@a5n) (And.intro (@b2X) (@b3i)))) (And.intro (And.intro (@a9T) (And.intro (@a8I) (@a4G))) (And.intro (@a7a) (And.intro (@a6w) (@a5q))))) (And.intro (And.intro (And.intro (@a7L) (@a4x)) (And.intro (@a4E) (And.intro (@a9m) (@a8f)))) (And.intro (And.intro (@a7U) (And.intro (@a5H) (@a4y))) (And.intro (@a5t) (And.intro (@a7N) (@a8R)))))) (And.intro (And.intro (And.intro (And.intro (@a2r) (@a5s)) (And.intro (@a3v) (And.intro (@a3y) (@a7G)))) (And.intro (And.intro (@a3c) (And.intro (@a4u) (@a5r))) (And.intro (@a2N) (And.intro (@a6F) (@a2u))))) (And.intro (And.intro (And.intro (@a5G) (And.intro (@a3f) (@a2D))) (And.intro (@a4T) (And.intro (@a2B) (@a3B)))) (And.intro (And.intro (@a4U) (And.intro (@a5d) (@a3L))) (And.intro (@a5Q) (And.intro (@a3k) (@a2w)))))))) (And.intro (And.intro (And.intro (And.intro (And.intro (And.intro (@a6S) (@a5N)) (And.intro (@a4Z) (And.intro (@a3b) (@a3P)))) (And.intro (And.intro (@a3S) (And.intro (@a4M) (@a6T))) (And.intro (@a04) (And.intro (@a07) (@a1v))))) (And.intro (And.intro (And.intro (@a3q) (@a2q)) (And.intro (@a1f) (And.intro (@a3G) (@a1F)))) (And.intro (And.intro (@a1p) (And.intro (@a4z) (@a3T))) (And.intro (@a2Q) (And.intro (@a1i) (@a1t)))))) (And.intro (And.intro (And.intro (And.intro (@a1o) (@a3w)) (And.intro (@a2W) (And.intro (@a1b) (@a0y)))) (And.intro (And.intro (@a5j) (And.intro (@Z7) (@a0l))) (And.intro (@d6t) (And.intro (@a3g) (@a2L))))) (And.intro (And.intro (And.intro (@a5a) (@a1s)) (And.intro (@a9h) (And.intro (@b1N) (@a6L)))) (And.intro (And.intro (@b3H) (And.intro (@b0l) (@a8l))) (And.intro (@b1t) (And.intro (@b3o) (@b3w))))))) (And.intro (And.intro (And.intro (And.intro (And.intro (@b0r) (@a8a)) (And.intro (@a9s) (And.intro (@b0i) (@b15)))) (And.intro (And.intro (@b1T) (And.intro (@a9B) (@a9e))) (And.intro (@b1U) (And.intro (@b6E) (@b5E))))) (And.intro (And.intro (And.intro (@b3E) (@a5e)) (And.intro (@a9E) (And.intro (@a4J) (@a5P)))) (And.intro (And.intro (@b1M) (And.intro (@b2p) (@a1h))) (And.intro (@a1w) (And.intro (@a6G) (@a4F)))))) (And.intro (And.intro (And.intro (And.intro (@b0j) (@a9W)) (And.intro (@a8U) (And.intro (@b3y) (@b1P)))) (And.intro (And.intro (@b5K) (And.intro (@a4C) (@a4S))) (And.intro (@a9f) (And.intro (@a7D) (@a6N))))) (And.intro (And.intro (And.intro (@b2R) (And.intro (@b6b) (@b26))) (And.intro (@b6v) (And.intro (@b5P) (@b5V)))) (And.intro (And.intro (@b6N) (And.intro (@b3I) (@b1H))) (And.intro (@b2j) (And.intro (@b1K) (@b2I))))))))) (And.intro (And.intro (And.intro (And.intro (And.intro (And.intro (And.intro (@b2Z) (@b1v)) (And.intro (@b3J) (And.intro (@b3a) (@b1O)))) (And.intro (And.intro (@b2A) (And.intro (@b2O) (@b2h))) (And.intro (@b3B) (And.intro (@b1y) (@b10))))) (And.intro (And.intro (And.intro (@b2y) (@b1F)) (And.intro (@b21) (And.intro (@a9O) (@b0s)))) (And.intro (And.intro (@b0h) (And.intro (@b0b) (@b0q))) (And.intro (@a9J) (And.intro (@b3d) (@b3G)))))) (And.intro (And.intro (And.intro (And.intro (@b3n) (@b5M)) (And.intro (@b6D) (And.intro (@b5A) (@b1A)))) (And.intro (And.intro (@b2W) (And.intro (@b5W) (@a5p))) (And.intro (@a4t) (And.intro (@a3J) (@a3z))))) (And.intro (And.intro (And.intro (@a2p) (@a2K)) (And.intro (@a7h) (And.intro (@a4P) (@a4Q)))) (And.intro (And.intro (@a5E) (And.intro (@a4O) (@a9H))) (And.intro (@a6O) (And.intro (@a7e) (@a9Y))))))) (And.intro (And.intro (And.intro (And.intro (And.intro (@a3A) (@a3m)) (And.intro (@a1G) (And.intro (@a1k) (@a4w)))) (And.intro (And.intro (@a5L) (And.intro (@a2S) (@a3C))) (And.intro (@a4B) (And.intro (@a5K) (@a3e))))) (And.intro (And.intro (And.intro (@a2Z) (@a3U)) (And.intro (@a3u) (And.intro (@a5M) (@a5f)))) (And.intro (And.intro (@a2R) (And.intro (@a2E) (@a3R))) (And.intro (@a3o) (And.intro (@a03) (@a1e)))))) (And.intro (And.intro (And.intro (And.intro (@a6j) (@a7f)) (And.intro (@a5y) (And.intro (@a5k) (@a4N)))) (And.intro (And.intro (@a4W) (And.intro (@a3h) (@a3a))) (And.intro (@a3s) (And.intro (@a3H) (@a1z))))) (And.intro (And.intro (And.intro (@a1D) (And.intro (@a2Y) (@a2x))) (And.intro (@a06) (And.intro (@a1B) (@a3r)))) (And.intro (And.intro (@a2I) (And.intro (@a1d) (@a02))) (And.intro (@a7p) (And.intro (@a6X) (@a4H)))))))) (And.intro (And.intro (And.intro (And.intro (And.intro (And.intro (@a4V) (@a09)) (And.intro (@a1q) (And.intro (@a0q) (@a0z)))) (And.intro (And.intro (@a2v) (And.intro (@a3j) (@a08))) (And.intro (@a1I) (And.intro (@a2X) (@a3N))))) (And.intro (And.intro (And.intro (@a1x) (@a1y)) (And.intro (@a1E) (And.intro (@a5J) (@a5m)))) (And.intro (And.intro (@a3V) (And.intro (@a1H) (@a3i))) (And.intro (@a2P) (And.intro (@b51) (@b55)))))) (And.intro (And.intro (And.intro (And.intro (@b2J) (@b2b)) (And.intro (@b2f) (And.intro (@b2c) (@b1z)))) (And.intro (And.intro (@b12) (And.intro (@b5J) (@b5G))) (And.intro (@b5Z) (And.intro (@b6V) (@a9Z))))) (And.intro (And.intro (And.intro (@b58) (And.intro (@b5X) (@b6l))) (And.intro (@b6R) (And.intro (@b57) (@b5F)))) (And.intro (And.intro (@b3s) (And.intro (@b2e) (@b6S))) (And.intro (@b6y) (And.intro (@b6r) (@b50))))))) (And.intro (And.intro (And.intro (And.intro (And.intro (@b5z) (@b5N)) (And.intro (@b24) (And.intro (@b1u) (@b6z)))) (And.intro (And.intro (@b5I) (And.intro (@b5U) (@b6K))) (And.intro (@b5H) (And.intro (@b5Y) (@c5s))))) (And.intro (And.intro (And.intro (@c9q) (@d15)) (And.intro (@d4f) (And.intro (@b5B) (@b6j)))) (And.intro (And.intro (@b6U) (And.intro (@b6A) (@eqs))) (And.intro (@nn) (And.intro (@tn) (@b2Q)))))) (And.intro (And.intro (And.intro (And.intro (@b2F) (@c4p)) (And.intro (@c6T) (And.intro (@b5D) (@d5y)))) (And.intro (And.intro (@c5m) (And.intro (@d0C) (@c5a))) (And.intro (@il0) (And.intro (@it0) (@il1))))) (And.intro (And.intro (And.intro (@it1) (And.intro (@il2) (@it2))) (And.intro (@m41) (And.intro (@W_e) (@d0c)))) (And.intro (And.intro (@a9G) (And.intro (@a8n) (@b0m))) (And.intro (@b6q) (And.intro (@b6Q) (@d2V)))))))))
end Go.Cb
/-
 THE ABSTRACT MACHINE, part 48: running told by rules, operation by operation, in place of printed chains.
-/
set_option maxRecDepth 4000
set_option linter.unusedSimpArgs false
set_option linter.unusedVariables false
namespace Go.Cb.V
open Go Go.Cb
def b9 (call:b7) (ops:List AOper) (σ:Sig) (k:Sig→Option Out):Option Out:=obind (e9 call ops σ) k
theorem runR_congr {call:b7} {ops:List AOper} {σ σ':Sig} {k:Sig→Option Out} (h:σ=σ'):b9 call ops σ k=b9 call ops σ' k:=by rw [h]
theorem b3c (call:b7) (σ:Sig) (k:Sig→Option Out):b9 call [] σ k=k σ:=b6 rfl
theorem O9 (call:b7) (o:AOper) (os:List AOper) (σ:Sig) (k:Sig→Option Out):b9 call (o::os) σ k=obind (d9 call o σ) fun σ=>b9 call os σ k:=by
 unfold b9
 simp only [e9]
 cases d9 call o σ <;> rfl
theorem L6:∀ (as:List Opd) (σ:Sig),(b8 as σ).st=σ.st
 | [],_=>rfl
 | x::xs,σ=>by rw [b8,L6 xs]; cases x <;> rfl
section
variable (call:b7) (d:Dst) (as:List Opd) (os:List AOper) (σ:Sig) (k:Sig→Option Out)
theorem j8 {K:Kind} (h1:K.setSt=false):b9 call (⟨d,K,as,none,none⟩::os) σ k=obind (p1 (sem K call (as.map (·.read σ)) .undef σ.st)) fun x=>b9 call os (d.put x (b8 as σ)) k:=by
 rw [O9]
 simp only [d9]
 rw [B8]
 dsimp only
 cases hs:sem K call (as.map (·.read σ)) .undef σ.st with
 | none=>rfl
 | some x =>
  obtain ⟨r,b,st⟩:=x
  obtain rfl:=a0g h1 hs
  simp only [p1,j4]
  have e:({ b8 as σ with st:=σ.st }:Sig)=b8 as σ:=by
   have:=L6 as σ
   cases h:b8 as σ
   rw [h] at this
   simp only at this
   rw [this]
  rw [e]
theorem F5 {K:Kind}:b9 call (⟨d,K,as,none,none⟩::os) σ k=obind (p2 (sem K call (as.map (·.read σ)) .undef σ.st)) fun x=>b9 call os (d.put x.1 { b8 as σ with st:=x.2 }) k:=by
 rw [O9]
 simp only [d9]
 rw [B8]
 dsimp only
 cases hs:sem K call (as.map (·.read σ)) .undef σ.st with
 | none=>rfl
 | some x =>
  obtain ⟨r,b,st⟩:=x
  simp only [p2,j4]
theorem a5V {K:Kind} (i:Nat):b9 call (⟨d,K,as,some i,none⟩::os) σ k=obind (sem K call (as.map (·.read σ)) (σ.fr.getD i .undef) σ.st) fun x=>b9 call os (d.put x.1 { b8 as σ with fr:=(b8 as σ).fr.set i x.2.1,st:=x.2.2 }) k:=by
 rw [O9]
 simp only [d9]
 rw [B8]
 dsimp only
 cases hs:sem K call (as.map (·.read σ)) (σ.fr.getD i .undef) σ.st with
 | none=>rfl
 | some x =>
  obtain ⟨r,b,st⟩:=x
  simp only [j4]
end
theorem e9j {call:b7} {d:Dst} {as:List Opd} {os:List AOper} {σ:Sig} {k:Sig→Option Out} {K:Kind} {box:Option Nat} (h:(K.setSt || K.alters || c0 as)=false) :
 b9 call (⟨d,K,as,box,none⟩::os) σ k=obind (p1 (sem K call (as.map (·.read σ)) (goK.boxOf' box σ) σ.st)) fun r=>b9 call os (d.put r σ) k:=by
 rw [O9,← Y1]
 simp only [a0Q,goK,h]
theorem j5 {call:b7} {d:Dst} {as:List Opd} {os:List AOper} {σ:Sig} {k:Sig→Option Out} {K:Kind} {box:Option Nat} {x:Opd} {w:Bool} (h:(K.setSt || K.alters || c0 as)=false) :
 b9 call (⟨d,K,as,box,some (x,w)⟩::os) σ k=obind (gv (x.read σ) w (p1 (sem K call (as.map (·.read σ)) (goK.boxOf' box σ) σ.st))) fun r=>b9 call os (d.put r σ) k:=by
 rw [O9,← Y1]
 simp only [a0Q,h]
theorem A1 {call:b7} {d:Dst} {as:List Opd} {os:List AOper} {σ:Sig} {k:Sig→Option Out} {K:Kind} {box:Option Nat} {x:Opd} {w:Bool} (h1:K.setSt=true) (h2:K.alters=false) (h:c0 as=false) :
 b9 call (⟨d,K,as,box,some (x,w)⟩::os) σ k=obind (gv2 (x.read σ) w σ.st (p2 (sem K call (as.map (·.read σ)) (goK.boxOf' box σ) σ.st))) fun r=>b9 call os (d.put r.1 { σ with st:=r.2 }) k:=by
 rw [O9,← Y1]
 simp only [a0Q,h1,h2,h,Bool.true_or,Bool.or_false]
theorem c8m:c0 []=false:=b6 rfl
theorem d2r (s:Nat) (xs:List Opd):c0 (.t s::xs)=c0 xs:=b6 rfl
theorem c8G (s:Nat) (xs:List Opd):c0 (.v s::xs)=c0 xs:=b6 rfl
theorem d43 (s:Nat) (xs:List Opd):c0 (.l s::xs)=c0 xs:=b6 rfl
theorem d33 (a:AV) (xs:List Opd):c0 (.c a::xs)=c0 xs:=b6 rfl
theorem a4X (call:b7) (n:Nat) (kill:List Nat) (ps:List AOper) (fr:List AV) (st:St) :
 d8 call n (.reg kill ps) fr st=b9 call ps ⟨i5 kill fr,fun _=>.undef,st⟩ fun σ=>some (.normal,σ.fr,σ.st):=by
 rw [b4o,H9]; rfl
theorem a2C (call:b7) (n:Nat) (kill:List Nat) (ps:List AOper) (c:Opd) (a b:ACode) (fr:List AV) (st:St) :
 d8 call n (.test kill ps c a b) fr st=b9 call ps ⟨i5 kill fr,fun _=>.undef,st⟩ fun σ=>brE (c.read σ) call n a b σ.fr σ.st:=by
 rw [b05,H9]; rfl
theorem d6x (s:Nat) (fr:List AV) (τ:Nat→AV) (st:St):Opd.read (.t s) ⟨fr,τ,st⟩=(τ s).weak:=b6 rfl
theorem b6o (s:Nat) (fr:List AV) (τ:Nat→AV) (st:St):Opd.read (.ts s) ⟨fr,τ,st⟩=τ s:=b6 rfl
theorem d8Z (s:Nat) (fr:List AV) (τ:Nat→AV) (st:St):Opd.read (.v s) ⟨fr,τ,st⟩=(fr.getD s .undef).weak:=b6 rfl
theorem b5R (s:Nat) (fr:List AV) (τ:Nat→AV) (st:St):Opd.read (.vs s) ⟨fr,τ,st⟩=fr.getD s .undef:=b6 rfl
theorem d5c (s:Nat) (fr:List AV) (τ:Nat→AV) (st:St):Opd.read (.l s) ⟨fr,τ,st⟩=b6t s (fr.getD s .undef):=b6 rfl
theorem d6V (a:AV) (σ:Sig):Opd.read (.c a) σ=a:=b6 rfl
theorem b6m (τ:Nat→AV) (s:Nat) (a:AV) (j:Nat):l6 τ s a j=if j=s then a else τ j:=by
 unfold l6
 by_cases h:j=s
 · subst h; simp
 · rw [if_neg h,if_neg]; intro e; exact h (Nat.eq_of_beq_eq_true e)
theorem put_t (s:Nat) (a:AV) (fr:List AV) (τ:Nat→AV) (st:St):Dst.put (.t s) a ⟨fr,τ,st⟩=⟨fr,l6 τ s a.stripB,st⟩:=b6 rfl
theorem put_v (s:Nat) (a:AV) (fr:List AV) (τ:Nat→AV) (st:St):Dst.put (.v s) a ⟨fr,τ,st⟩=⟨fr.set s a.strip,τ,st⟩:=b6 rfl
theorem b53 (a:AV) (σ:Sig):Dst.put .none a σ=σ:=b6 rfl
theorem b6n (a:AV) (σ:Sig):Dst.put .bx a σ=σ:=b6 rfl
theorem d9c (σ:Sig):b8 [] σ=σ:=b6 rfl
theorem c4q (x:Opd) (xs:List Opd) (σ:Sig):b8 (x::xs) σ=b8 xs (x.spend σ):=b6 rfl
theorem c7t (s:Nat) (σ:Sig):Opd.spend (.t s) σ=σ:=b6 rfl
theorem c74 (s:Nat) (σ:Sig):Opd.spend (.v s) σ=σ:=b6 rfl
theorem d1L (s:Nat) (σ:Sig):Opd.spend (.l s) σ=σ:=b6 rfl
theorem c78 (a:AV) (σ:Sig):Opd.spend (.c a) σ=σ:=b6 rfl
theorem b6s (s:Nat) (fr:List AV) (τ:Nat→AV) (st:St):Opd.spend (.ts s) ⟨fr,τ,st⟩=⟨fr,l6 τ s (τ s).weak,st⟩:=b6 rfl
theorem b6d (s:Nat) (fr:List AV) (τ:Nat→AV) (st:St):Opd.spend (.vs s) ⟨fr,τ,st⟩=⟨fr.set s (fr.getD s .undef).weak,τ,st⟩:=b6 rfl
theorem c68 (a d:AV) (l:List AV):(a::l).getD 0 d=a:=b6 rfl
theorem d7e (a d:AV) (l:List AV) (n:Nat):(a::l).getD (n+1) d=l.getD n d:=b6 rfl
theorem d3H (fr:List AV):i5 [] fr=fr:=b6 rfl
theorem d4T (i:Nat) (is:List Nat) (fr:List AV):i5 (i::is) fr=i5 is (fr.set i .undef):=b6 rfl
section
variable (call:b7) (d:Dst) (as:List Opd) (os:List AOper) (fr:List AV) (τ:Nat→AV) (s:St) (k:Sig→Option Out)
theorem c6w :b9 call (⟨d,.mv,as,none,none⟩::os) ⟨fr,τ,s⟩ k=obind (p1 (R1 call (as.map (·.read ⟨fr,τ,s⟩)) .undef s)) fun x=>b9 call os (d.put x (b8 as ⟨fr,τ,s⟩)) k:=j8 call d as os ⟨fr,τ,s⟩ k rfl
theorem b2l :b9 call (⟨d,.pick,as,none,none⟩::os) ⟨fr,τ,s⟩ k=obind (p1 (n8 call (as.map (·.read ⟨fr,τ,s⟩)) .undef s)) fun x=>b9 call os (d.put x (b8 as ⟨fr,τ,s⟩)) k:=j8 call d as os ⟨fr,τ,s⟩ k rfl
theorem a8j :b9 call (⟨d,.nilchk,as,none,none⟩::os) ⟨fr,τ,s⟩ k=obind (p1 (o9 call (as.map (·.read ⟨fr,τ,s⟩)) .undef s)) fun x=>b9 call os (d.put x (b8 as ⟨fr,τ,s⟩)) k:=j8 call d as os ⟨fr,τ,s⟩ k rfl
theorem a9I (z:List AV) (o:List (Nat×Nat)):b9 call (⟨d,.build z o,as,none,none⟩::os) ⟨fr,τ,s⟩ k=obind (p1 (C7 z o call (as.map (·.read ⟨fr,τ,s⟩)) .undef s)) fun x=>b9 call os (d.put x (b8 as ⟨fr,τ,s⟩)) k:=j8 call d as os ⟨fr,τ,s⟩ k rfl
theorem a8o (q:Nat) (z:List (List AV)) (t:List Nat):b9 call (⟨d,.bslice q z t,as,none,none⟩::os) ⟨fr,τ,s⟩ k=obind (p1 (C4 q z t call (as.map (·.read ⟨fr,τ,s⟩)) .undef s)) fun x=>b9 call os (d.put x (b8 as ⟨fr,τ,s⟩)) k:=j8 call d as os ⟨fr,τ,s⟩ k rfl
theorem a5u (q:Nat) (z:List (List AV)) (t:List Nat):b9 call (⟨d,.bsliceM q z t,as,none,none⟩::os) ⟨fr,τ,s⟩ k=obind (p1 (y8 q z t call (as.map (·.read ⟨fr,τ,s⟩)) .undef s)) fun x=>b9 call os (d.put x (b8 as ⟨fr,τ,s⟩)) k:=j8 call d as os ⟨fr,τ,s⟩ k rfl
theorem b2V (g:Bool) (n:Nat):b9 call (⟨d,.ldSt g n,as,none,none⟩::os) ⟨fr,τ,s⟩ k=obind (p1 (n9 g n call (as.map (·.read ⟨fr,τ,s⟩)) .undef s)) fun x=>b9 call os (d.put x (b8 as ⟨fr,τ,s⟩)) k:=j8 call d as os ⟨fr,τ,s⟩ k rfl
theorem b16 (g:Bool) (n:Nat):b9 call (⟨d,.ldRo g n,as,none,none⟩::os) ⟨fr,τ,s⟩ k=obind (p1 (G2 g n call (as.map (·.read ⟨fr,τ,s⟩)) .undef s)) fun x=>b9 call os (d.put x (b8 as ⟨fr,τ,s⟩)) k:=j8 call d as os ⟨fr,τ,s⟩ k rfl
theorem b2E (g:Bool) (n:Nat):b9 call (⟨d,.ldAn g n,as,none,none⟩::os) ⟨fr,τ,s⟩ k=obind (p1 (v8 g n call (as.map (·.read ⟨fr,τ,s⟩)) .undef s)) fun x=>b9 call os (d.put x (b8 as ⟨fr,τ,s⟩)) k:=j8 call d as os ⟨fr,τ,s⟩ k rfl
theorem a9N (g:Bool) (n:Nat):b9 call (⟨d,.ldStR g n,as,none,none⟩::os) ⟨fr,τ,s⟩ k=obind (p1 (u9 g n call (as.map (·.read ⟨fr,τ,s⟩)) .undef s)) fun x=>b9 call os (d.put x (b8 as ⟨fr,τ,s⟩)) k:=j8 call d as os ⟨fr,τ,s⟩ k rfl
theorem b6f (n:Nat):b9 call (⟨d,.fad n,as,none,none⟩::os) ⟨fr,τ,s⟩ k=obind (p1 (F0 n call (as.map (·.read ⟨fr,τ,s⟩)) .undef s)) fun x=>b9 call os (d.put x (b8 as ⟨fr,τ,s⟩)) k:=j8 call d as os ⟨fr,τ,s⟩ k rfl
theorem b6G (o n:Nat) (g:Bool):b9 call (⟨d,.fld o n g,as,none,none⟩::os) ⟨fr,τ,s⟩ k=obind (p1 (J5 o n g call (as.map (·.read ⟨fr,τ,s⟩)) .undef s)) fun x=>b9 call os (d.put x (b8 as ⟨fr,τ,s⟩)) k:=j8 call d as os ⟨fr,τ,s⟩ k rfl
theorem b6J (n:Nat):b9 call (⟨d,.iad n,as,none,none⟩::os) ⟨fr,τ,s⟩ k=obind (p1 (F2 n call (as.map (·.read ⟨fr,τ,s⟩)) .undef s)) fun x=>b9 call os (d.put x (b8 as ⟨fr,τ,s⟩)) k:=j8 call d as os ⟨fr,τ,s⟩ k rfl
theorem b2M (l n:Nat):b9 call (⟨d,.iadA l n,as,none,none⟩::os) ⟨fr,τ,s⟩ k=obind (p1 (B6 l n call (as.map (·.read ⟨fr,τ,s⟩)) .undef s)) fun x=>b9 call os (d.put x (b8 as ⟨fr,τ,s⟩)) k:=j8 call d as os ⟨fr,τ,s⟩ k rfl
theorem b1J :b9 call (⟨d,.idxS,as,none,none⟩::os) ⟨fr,τ,s⟩ k=obind (p1 (D8 call (as.map (·.read ⟨fr,τ,s⟩)) .undef s)) fun x=>b9 call os (d.put x (b8 as ⟨fr,τ,s⟩)) k:=j8 call d as os ⟨fr,τ,s⟩ k rfl
theorem b54 (a b:Bool):b9 call (⟨d,.slS a b,as,none,none⟩::os) ⟨fr,τ,s⟩ k=obind (p1 (H1 a b call (as.map (·.read ⟨fr,τ,s⟩)) .undef s)) fun x=>b9 call os (d.put x (b8 as ⟨fr,τ,s⟩)) k:=j8 call d as os ⟨fr,τ,s⟩ k rfl
theorem b52 (n:Nat) (a b:Bool):b9 call (⟨d,.slL n a b,as,none,none⟩::os) ⟨fr,τ,s⟩ k=obind (p1 (H3 n a b call (as.map (·.read ⟨fr,τ,s⟩)) .undef s)) fun x=>b9 call os (d.put x (b8 as ⟨fr,τ,s⟩)) k:=j8 call d as os ⟨fr,τ,s⟩ k rfl
theorem b6x :b9 call (⟨d,.slZ,as,none,none⟩::os) ⟨fr,τ,s⟩ k=obind (p1 (J4 call (as.map (·.read ⟨fr,τ,s⟩)) .undef s)) fun x=>b9 call os (d.put x (b8 as ⟨fr,τ,s⟩)) k:=j8 call d as os ⟨fr,τ,s⟩ k rfl
theorem b6B (l n:Nat) (a b:Bool):b9 call (⟨d,.slA l n a b,as,none,none⟩::os) ⟨fr,τ,s⟩ k=obind (p1 (J0 l n a b call (as.map (·.read ⟨fr,τ,s⟩)) .undef s)) fun x=>b9 call os (d.put x (b8 as ⟨fr,τ,s⟩)) k:=j8 call d as os ⟨fr,τ,s⟩ k rfl
theorem b5T (o:BinOp):b9 call (⟨d,.bin o,as,none,none⟩::os) ⟨fr,τ,s⟩ k=obind (p1 (m7 o call (as.map (·.read ⟨fr,τ,s⟩)) .undef s)) fun x=>b9 call os (d.put x (b8 as ⟨fr,τ,s⟩)) k:=j8 call d as os ⟨fr,τ,s⟩ k rfl
theorem b14 (o:BinOp):b9 call (⟨d,.binB o,as,none,none⟩::os) ⟨fr,τ,s⟩ k=obind (p1 (G3 o call (as.map (·.read ⟨fr,τ,s⟩)) .undef s)) fun x=>b9 call os (d.put x (b8 as ⟨fr,τ,s⟩)) k:=j8 call d as os ⟨fr,τ,s⟩ k rfl
theorem b3z (o:BinOp):b9 call (⟨d,.binP o,as,none,none⟩::os) ⟨fr,τ,s⟩ k=obind (p1 (F9 o call (as.map (·.read ⟨fr,τ,s⟩)) .undef s)) fun x=>b9 call os (d.put x (b8 as ⟨fr,τ,s⟩)) k:=j8 call d as os ⟨fr,τ,s⟩ k rfl
theorem c4u (o:UnOp):b9 call (⟨d,.un o,as,none,none⟩::os) ⟨fr,τ,s⟩ k=obind (p1 (L7 o call (as.map (·.read ⟨fr,τ,s⟩)) .undef s)) fun x=>b9 call os (d.put x (b8 as ⟨fr,τ,s⟩)) k:=j8 call d as os ⟨fr,τ,s⟩ k rfl
theorem b1R (t:IntKind):b9 call (⟨d,.conv t,as,none,none⟩::os) ⟨fr,τ,s⟩ k=obind (p1 (F8 t call (as.map (·.read ⟨fr,τ,s⟩)) .undef s)) fun x=>b9 call os (d.put x (b8 as ⟨fr,τ,s⟩)) k:=j8 call d as os ⟨fr,τ,s⟩ k rfl
theorem b5t (f n:Nat):b9 call (⟨d,.mkF f n,as,none,none⟩::os) ⟨fr,τ,s⟩ k=obind (p1 (I8 f n call (as.map (·.read ⟨fr,τ,s⟩)) .undef s)) fun x=>b9 call os (d.put x (b8 as ⟨fr,τ,s⟩)) k:=j8 call d as os ⟨fr,τ,s⟩ k rfl
theorem b2k (a:Nat) (z:List AV) (b c:Bool):b9 call (⟨d,.mget a z b c,as,none,none⟩::os) ⟨fr,τ,s⟩ k=obind (p1 (I2 a z b c call (as.map (·.read ⟨fr,τ,s⟩)) .undef s)) fun x=>b9 call os (d.put x (b8 as ⟨fr,τ,s⟩)) k:=j8 call d as os ⟨fr,τ,s⟩ k rfl
theorem b6I (n:Nat):b9 call (⟨d,.ext n,as,none,none⟩::os) ⟨fr,τ,s⟩ k=obind (p1 (G8 n call (as.map (·.read ⟨fr,τ,s⟩)) .undef s)) fun x=>b9 call os (d.put x (b8 as ⟨fr,τ,s⟩)) k:=j8 call d as os ⟨fr,τ,s⟩ k rfl
theorem b2K :b9 call (⟨d,.lenS,as,none,none⟩::os) ⟨fr,τ,s⟩ k=obind (p1 (F7 call (as.map (·.read ⟨fr,τ,s⟩)) .undef s)) fun x=>b9 call os (d.put x (b8 as ⟨fr,τ,s⟩)) k:=j8 call d as os ⟨fr,τ,s⟩ k rfl
theorem b3l :b9 call (⟨d,.lenL,as,none,none⟩::os) ⟨fr,τ,s⟩ k=obind (p1 (B1 call (as.map (·.read ⟨fr,τ,s⟩)) .undef s)) fun x=>b9 call os (d.put x (b8 as ⟨fr,τ,s⟩)) k:=j8 call d as os ⟨fr,τ,s⟩ k rfl
theorem b6M (n b:Nat):b9 call (⟨d,.app n b,as,none,none⟩::os) ⟨fr,τ,s⟩ k=obind (p1 (I5 n b call (as.map (·.read ⟨fr,τ,s⟩)) .undef s)) fun x=>b9 call os (d.put x (b8 as ⟨fr,τ,s⟩)) k:=j8 call d as os ⟨fr,τ,s⟩ k rfl
theorem b5v :b9 call (⟨d,.b2s,as,none,none⟩::os) ⟨fr,τ,s⟩ k=obind (p1 (J1 call (as.map (·.read ⟨fr,τ,s⟩)) .undef s)) fun x=>b9 call os (d.put x (b8 as ⟨fr,τ,s⟩)) k:=j8 call d as os ⟨fr,τ,s⟩ k rfl
theorem a9x (z:List AV) (o:List (Nat×Nat)) (x:Opd) (w:Bool) (h:c0 as=false):b9 call (⟨d,.build z o,as,none,some (x,w)⟩::os) ⟨fr,τ,s⟩ k=obind (gv (x.read ⟨fr,τ,s⟩) w (p1 (C7 z o call (as.map (·.read ⟨fr,τ,s⟩)) .undef s))) fun r=>b9 call os (d.put r ⟨fr,τ,s⟩) k:=j5 (by rw [h]; rfl)
theorem a6t (q:Nat) (z:List (List AV)) (t:List Nat) (x:Opd) (w:Bool) (h:c0 as=false):b9 call (⟨d,.bslice q z t,as,none,some (x,w)⟩::os) ⟨fr,τ,s⟩ k=obind (gv (x.read ⟨fr,τ,s⟩) w (p1 (C4 q z t call (as.map (·.read ⟨fr,τ,s⟩)) .undef s))) fun r=>b9 call os (d.put r ⟨fr,τ,s⟩) k:=j5 (by rw [h]; rfl)
theorem a4D (q:Nat) (z:List (List AV)) (t:List Nat) (x:Opd) (w:Bool) (h:c0 as=false):b9 call (⟨d,.bsliceM q z t,as,none,some (x,w)⟩::os) ⟨fr,τ,s⟩ k=obind (gv (x.read ⟨fr,τ,s⟩) w (p1 (y8 q z t call (as.map (·.read ⟨fr,τ,s⟩)) .undef s))) fun r=>b9 call os (d.put r ⟨fr,τ,s⟩) k:=j5 (by rw [h]; rfl)
theorem b17 (g:Bool) (n:Nat) (x:Opd) (w:Bool) (h:c0 as=false):b9 call (⟨d,.ldSt g n,as,none,some (x,w)⟩::os) ⟨fr,τ,s⟩ k=obind (gv (x.read ⟨fr,τ,s⟩) w (p1 (n9 g n call (as.map (·.read ⟨fr,τ,s⟩)) .undef s))) fun r=>b9 call os (d.put r ⟨fr,τ,s⟩) k:=j5 (by rw [h]; rfl)
theorem b2L (g:Bool) (n:Nat) (x:Opd) (w:Bool) (h:c0 as=false):b9 call (⟨d,.ldRo g n,as,none,some (x,w)⟩::os) ⟨fr,τ,s⟩ k=obind (gv (x.read ⟨fr,τ,s⟩) w (p1 (G2 g n call (as.map (·.read ⟨fr,τ,s⟩)) .undef s))) fun r=>b9 call os (d.put r ⟨fr,τ,s⟩) k:=j5 (by rw [h]; rfl)
theorem b3t (g:Bool) (n:Nat) (x:Opd) (w:Bool) (h:c0 as=false):b9 call (⟨d,.ldAn g n,as,none,some (x,w)⟩::os) ⟨fr,τ,s⟩ k=obind (gv (x.read ⟨fr,τ,s⟩) w (p1 (v8 g n call (as.map (·.read ⟨fr,τ,s⟩)) .undef s))) fun r=>b9 call os (d.put r ⟨fr,τ,s⟩) k:=j5 (by rw [h]; rfl)
theorem a9S (g:Bool) (n:Nat) (x:Opd) (w:Bool) (h:c0 as=false):b9 call (⟨d,.ldStR g n,as,none,some (x,w)⟩::os) ⟨fr,τ,s⟩ k=obind (gv (x.read ⟨fr,τ,s⟩) w (p1 (u9 g n call (as.map (·.read ⟨fr,τ,s⟩)) .undef s))) fun r=>b9 call os (d.put r ⟨fr,τ,s⟩) k:=j5 (by rw [h]; rfl)
theorem b5O (n:Nat) (x:Opd) (w:Bool) (h:c0 as=false):b9 call (⟨d,.fad n,as,none,some (x,w)⟩::os) ⟨fr,τ,s⟩ k=obind (gv (x.read ⟨fr,τ,s⟩) w (p1 (F0 n call (as.map (·.read ⟨fr,τ,s⟩)) .undef s))) fun r=>b9 call os (d.put r ⟨fr,τ,s⟩) k:=j5 (by rw [h]; rfl)
theorem b6u (o n:Nat) (g:Bool) (x:Opd) (w:Bool) (h:c0 as=false):b9 call (⟨d,.fld o n g,as,none,some (x,w)⟩::os) ⟨fr,τ,s⟩ k=obind (gv (x.read ⟨fr,τ,s⟩) w (p1 (J5 o n g call (as.map (·.read ⟨fr,τ,s⟩)) .undef s))) fun r=>b9 call os (d.put r ⟨fr,τ,s⟩) k:=j5 (by rw [h]; rfl)
theorem b6i (n:Nat) (x:Opd) (w:Bool) (h:c0 as=false):b9 call (⟨d,.iad n,as,none,some (x,w)⟩::os) ⟨fr,τ,s⟩ k=obind (gv (x.read ⟨fr,τ,s⟩) w (p1 (F2 n call (as.map (·.read ⟨fr,τ,s⟩)) .undef s))) fun r=>b9 call os (d.put r ⟨fr,τ,s⟩) k:=j5 (by rw [h]; rfl)
theorem b20 (l n:Nat) (x:Opd) (w:Bool) (h:c0 as=false):b9 call (⟨d,.iadA l n,as,none,some (x,w)⟩::os) ⟨fr,τ,s⟩ k=obind (gv (x.read ⟨fr,τ,s⟩) w (p1 (B6 l n call (as.map (·.read ⟨fr,τ,s⟩)) .undef s))) fun r=>b9 call os (d.put r ⟨fr,τ,s⟩) k:=j5 (by rw [h]; rfl)
theorem b6p (a b:Bool) (x:Opd) (w:Bool) (h:c0 as=false):b9 call (⟨d,.slS a b,as,none,some (x,w)⟩::os) ⟨fr,τ,s⟩ k=obind (gv (x.read ⟨fr,τ,s⟩) w (p1 (H1 a b call (as.map (·.read ⟨fr,τ,s⟩)) .undef s))) fun r=>b9 call os (d.put r ⟨fr,τ,s⟩) k:=j5 (by rw [h]; rfl)
theorem b6T (n:Nat) (a b:Bool) (x:Opd) (w:Bool) (h:c0 as=false):b9 call (⟨d,.slL n a b,as,none,some (x,w)⟩::os) ⟨fr,τ,s⟩ k=obind (gv (x.read ⟨fr,τ,s⟩) w (p1 (H3 n a b call (as.map (·.read ⟨fr,τ,s⟩)) .undef s))) fun r=>b9 call os (d.put r ⟨fr,τ,s⟩) k:=j5 (by rw [h]; rfl)
theorem b5y (l n:Nat) (a b:Bool) (x:Opd) (w:Bool) (h:c0 as=false):b9 call (⟨d,.slA l n a b,as,none,some (x,w)⟩::os) ⟨fr,τ,s⟩ k=obind (gv (x.read ⟨fr,τ,s⟩) w (p1 (J0 l n a b call (as.map (·.read ⟨fr,τ,s⟩)) .undef s))) fun r=>b9 call os (d.put r ⟨fr,τ,s⟩) k:=j5 (by rw [h]; rfl)
theorem b5C (o:BinOp) (x:Opd) (w:Bool) (h:c0 as=false):b9 call (⟨d,.bin o,as,none,some (x,w)⟩::os) ⟨fr,τ,s⟩ k=obind (gv (x.read ⟨fr,τ,s⟩) w (p1 (m7 o call (as.map (·.read ⟨fr,τ,s⟩)) .undef s))) fun r=>b9 call os (d.put r ⟨fr,τ,s⟩) k:=j5 (by rw [h]; rfl)
theorem b1X (o:BinOp) (x:Opd) (w:Bool) (h:c0 as=false):b9 call (⟨d,.binB o,as,none,some (x,w)⟩::os) ⟨fr,τ,s⟩ k=obind (gv (x.read ⟨fr,τ,s⟩) w (p1 (G3 o call (as.map (·.read ⟨fr,τ,s⟩)) .undef s))) fun r=>b9 call os (d.put r ⟨fr,τ,s⟩) k:=j5 (by rw [h]; rfl)
theorem b1D (o:BinOp) (x:Opd) (w:Bool) (h:c0 as=false):b9 call (⟨d,.binP o,as,none,some (x,w)⟩::os) ⟨fr,τ,s⟩ k=obind (gv (x.read ⟨fr,τ,s⟩) w (p1 (F9 o call (as.map (·.read ⟨fr,τ,s⟩)) .undef s))) fun r=>b9 call os (d.put r ⟨fr,τ,s⟩) k:=j5 (by rw [h]; rfl)
theorem d5T (o:UnOp) (x:Opd) (w:Bool) (h:c0 as=false):b9 call (⟨d,.un o,as,none,some (x,w)⟩::os) ⟨fr,τ,s⟩ k=obind (gv (x.read ⟨fr,τ,s⟩) w (p1 (L7 o call (as.map (·.read ⟨fr,τ,s⟩)) .undef s))) fun r=>b9 call os (d.put r ⟨fr,τ,s⟩) k:=j5 (by rw [h]; rfl)
theorem b1I (t:IntKind) (x:Opd) (w:Bool) (h:c0 as=false):b9 call (⟨d,.conv t,as,none,some (x,w)⟩::os) ⟨fr,τ,s⟩ k=obind (gv (x.read ⟨fr,τ,s⟩) w (p1 (F8 t call (as.map (·.read ⟨fr,τ,s⟩)) .undef s))) fun r=>b9 call os (d.put r ⟨fr,τ,s⟩) k:=j5 (by rw [h]; rfl)
theorem b6h (f n:Nat) (x:Opd) (w:Bool) (h:c0 as=false):b9 call (⟨d,.mkF f n,as,none,some (x,w)⟩::os) ⟨fr,τ,s⟩ k=obind (gv (x.read ⟨fr,τ,s⟩) w (p1 (I8 f n call (as.map (·.read ⟨fr,τ,s⟩)) .undef s))) fun r=>b9 call os (d.put r ⟨fr,τ,s⟩) k:=j5 (by rw [h]; rfl)
theorem b3j (a:Nat) (z:List AV) (b c:Bool) (x:Opd) (w:Bool) (h:c0 as=false):b9 call (⟨d,.mget a z b c,as,none,some (x,w)⟩::os) ⟨fr,τ,s⟩ k=obind (gv (x.read ⟨fr,τ,s⟩) w (p1 (I2 a z b c call (as.map (·.read ⟨fr,τ,s⟩)) .undef s))) fun r=>b9 call os (d.put r ⟨fr,τ,s⟩) k:=j5 (by rw [h]; rfl)
theorem b6F (n:Nat) (x:Opd) (w:Bool) (h:c0 as=false):b9 call (⟨d,.ext n,as,none,some (x,w)⟩::os) ⟨fr,τ,s⟩ k=obind (gv (x.read ⟨fr,τ,s⟩) w (p1 (G8 n call (as.map (·.read ⟨fr,τ,s⟩)) .undef s))) fun r=>b9 call os (d.put r ⟨fr,τ,s⟩) k:=j5 (by rw [h]; rfl)
theorem b6k (n b:Nat) (x:Opd) (w:Bool) (h:c0 as=false):b9 call (⟨d,.app n b,as,none,some (x,w)⟩::os) ⟨fr,τ,s⟩ k=obind (gv (x.read ⟨fr,τ,s⟩) w (p1 (I5 n b call (as.map (·.read ⟨fr,τ,s⟩)) .undef s))) fun r=>b9 call os (d.put r ⟨fr,τ,s⟩) k:=j5 (by rw [h]; rfl)
theorem b2C (i:Nat) (g:Bool) (n:Nat) (j:Nat) (h:c0 as=false):b9 call (⟨d,.ldLc i g n,as,some j,none⟩::os) ⟨fr,τ,s⟩ k=obind (p1 (B2 i g n call (as.map (·.read ⟨fr,τ,s⟩)) (fr.getD j .undef) s)) fun r=>b9 call os (d.put r ⟨fr,τ,s⟩) k:=e9j (by rw [h]; rfl)
theorem a9M (i:Nat) (g:Bool) (n:Nat) (j:Nat) (x:Opd) (w:Bool) (h:c0 as=false):b9 call (⟨d,.ldLc i g n,as,some j,some (x,w)⟩::os) ⟨fr,τ,s⟩ k=obind (gv (x.read ⟨fr,τ,s⟩) w (p1 (B2 i g n call (as.map (·.read ⟨fr,τ,s⟩)) (fr.getD j .undef) s))) fun r=>b9 call os (d.put r ⟨fr,τ,s⟩) k:=j5 (by rw [h]; rfl)
theorem a7P (z:List AV):b9 call (⟨d,.allocO z,as,none,none⟩::os) ⟨fr,τ,s⟩ k=obind (p2 (w9 z call (as.map (·.read ⟨fr,τ,s⟩)) .undef s)) fun x=>b9 call os (d.put x.1 { b8 as ⟨fr,τ,s⟩ with st:=x.2 }) k:=F5 call d as os ⟨fr,τ,s⟩ k
theorem a4I (z:List AV) (x:Opd) (w:Bool) (h:c0 as=false):b9 call (⟨d,.allocO z,as,none,some (x,w)⟩::os) ⟨fr,τ,s⟩ k=obind (gv2 (x.read ⟨fr,τ,s⟩) w s (p2 (w9 z call (as.map (·.read ⟨fr,τ,s⟩)) .undef s))) fun r=>b9 call os (d.put r.1 ⟨fr,τ,r.2⟩) k:=A1 rfl rfl h
theorem b1V:b9 call (⟨d,.boxO,as,none,none⟩::os) ⟨fr,τ,s⟩ k=obind (p2 (F6 call (as.map (·.read ⟨fr,τ,s⟩)) .undef s)) fun x=>b9 call os (d.put x.1 { b8 as ⟨fr,τ,s⟩ with st:=x.2 }) k:=F5 call d as os ⟨fr,τ,s⟩ k
theorem a9i (x:Opd) (w:Bool) (h:c0 as=false):b9 call (⟨d,.boxO,as,none,some (x,w)⟩::os) ⟨fr,τ,s⟩ k=obind (gv2 (x.read ⟨fr,τ,s⟩) w s (p2 (F6 call (as.map (·.read ⟨fr,τ,s⟩)) .undef s))) fun r=>b9 call os (d.put r.1 ⟨fr,τ,r.2⟩) k:=A1 rfl rfl h
theorem a5g (q:Nat) (z:List (List AV)) (t:List Nat):b9 call (⟨d,.bsliceO q z t,as,none,none⟩::os) ⟨fr,τ,s⟩ k=obind (p2 (y9 q z t call (as.map (·.read ⟨fr,τ,s⟩)) .undef s)) fun x=>b9 call os (d.put x.1 { b8 as ⟨fr,τ,s⟩ with st:=x.2 }) k:=F5 call d as os ⟨fr,τ,s⟩ k
theorem a2o (q:Nat) (z:List (List AV)) (t:List Nat) (x:Opd) (w:Bool) (h:c0 as=false):b9 call (⟨d,.bsliceO q z t,as,none,some (x,w)⟩::os) ⟨fr,τ,s⟩ k=obind (gv2 (x.read ⟨fr,τ,s⟩) w s (p2 (y9 q z t call (as.map (·.read ⟨fr,τ,s⟩)) .undef s))) fun r=>b9 call os (d.put r.1 ⟨fr,τ,r.2⟩) k:=A1 rfl rfl h
theorem b2m (n b:Nat):b9 call (⟨d,.appM n b,as,none,none⟩::os) ⟨fr,τ,s⟩ k=obind (p2 (w8 n b call (as.map (·.read ⟨fr,τ,s⟩)) .undef s)) fun x=>b9 call os (d.put x.1 { b8 as ⟨fr,τ,s⟩ with st:=x.2 }) k:=F5 call d as os ⟨fr,τ,s⟩ k
theorem a9D (n b:Nat) (x:Opd) (w:Bool) (h:c0 as=false):b9 call (⟨d,.appM n b,as,none,some (x,w)⟩::os) ⟨fr,τ,s⟩ k=obind (gv2 (x.read ⟨fr,τ,s⟩) w s (p2 (w8 n b call (as.map (·.read ⟨fr,τ,s⟩)) .undef s))) fun r=>b9 call os (d.put r.1 ⟨fr,τ,r.2⟩) k:=A1 rfl rfl h
theorem a7g (n:Nat):b9 call (⟨d,.ldStSR n,as,none,none⟩::os) ⟨fr,τ,s⟩ k=obind (p2 (t4 n call (as.map (·.read ⟨fr,τ,s⟩)) .undef s)) fun x=>b9 call os (d.put x.1 { b8 as ⟨fr,τ,s⟩ with st:=x.2 }) k:=F5 call d as os ⟨fr,τ,s⟩ k
theorem a5B (n:Nat) (x:Opd) (w:Bool) (h:c0 as=false):b9 call (⟨d,.ldStSR n,as,none,some (x,w)⟩::os) ⟨fr,τ,s⟩ k=obind (gv2 (x.read ⟨fr,τ,s⟩) w s (p2 (t4 n call (as.map (·.read ⟨fr,τ,s⟩)) .undef s))) fun r=>b9 call os (d.put r.1 ⟨fr,τ,r.2⟩) k:=A1 rfl rfl h
theorem a9A (n:Nat):b9 call (⟨d,.stStA n,as,none,none⟩::os) ⟨fr,τ,s⟩ k=obind (p2 (s6 n call (as.map (·.read ⟨fr,τ,s⟩)) .undef s)) fun x=>b9 call os (d.put x.1 { b8 as ⟨fr,τ,s⟩ with st:=x.2 }) k:=F5 call d as os ⟨fr,τ,s⟩ k
theorem a6V (n:Nat) (x:Opd) (w:Bool) (h:c0 as=false):b9 call (⟨d,.stStA n,as,none,some (x,w)⟩::os) ⟨fr,τ,s⟩ k=obind (gv2 (x.read ⟨fr,τ,s⟩) w s (p2 (s6 n call (as.map (·.read ⟨fr,τ,s⟩)) .undef s))) fun r=>b9 call os (d.put r.1 ⟨fr,τ,r.2⟩) k:=A1 rfl rfl h
theorem a9z (f m:Nat):b9 call (⟨d,.callA f m,as,none,none⟩::os) ⟨fr,τ,s⟩ k=obind (p2 (n4 f m call (as.map (·.read ⟨fr,τ,s⟩)) .undef s)) fun x=>b9 call os (d.put x.1 { b8 as ⟨fr,τ,s⟩ with st:=x.2 }) k:=F5 call d as os ⟨fr,τ,s⟩ k
theorem a6W (f m:Nat) (x:Opd) (w:Bool) (h:c0 as=false):b9 call (⟨d,.callA f m,as,none,some (x,w)⟩::os) ⟨fr,τ,s⟩ k=obind (gv2 (x.read ⟨fr,τ,s⟩) w s (p2 (n4 f m call (as.map (·.read ⟨fr,τ,s⟩)) .undef s))) fun r=>b9 call os (d.put r.1 ⟨fr,τ,r.2⟩) k:=A1 rfl rfl h
theorem a9j:b9 call (⟨d,.ldStS,as,none,none⟩::os) ⟨fr,τ,s⟩ k=obind (p2 (p5 call (as.map (·.read ⟨fr,τ,s⟩)) .undef s)) fun x=>b9 call os (d.put x.1 { b8 as ⟨fr,τ,s⟩ with st:=x.2 }) k:=F5 call d as os ⟨fr,τ,s⟩ k
theorem a6Y (x:Opd) (w:Bool) (h:c0 as=false):b9 call (⟨d,.ldStS,as,none,some (x,w)⟩::os) ⟨fr,τ,s⟩ k=obind (gv2 (x.read ⟨fr,τ,s⟩) w s (p2 (p5 call (as.map (·.read ⟨fr,τ,s⟩)) .undef s))) fun r=>b9 call os (d.put r.1 ⟨fr,τ,r.2⟩) k:=A1 rfl rfl h
theorem b23 (n:Nat):b9 call (⟨d,.stSt n,as,none,none⟩::os) ⟨fr,τ,s⟩ k=obind (p2 (r5 n call (as.map (·.read ⟨fr,τ,s⟩)) .undef s)) fun x=>b9 call os (d.put x.1 { b8 as ⟨fr,τ,s⟩ with st:=x.2 }) k:=F5 call d as os ⟨fr,τ,s⟩ k
theorem b0t (n:Nat) (x:Opd) (w:Bool) (h:c0 as=false):b9 call (⟨d,.stSt n,as,none,some (x,w)⟩::os) ⟨fr,τ,s⟩ k=obind (gv2 (x.read ⟨fr,τ,s⟩) w s (p2 (r5 n call (as.map (·.read ⟨fr,τ,s⟩)) .undef s))) fun r=>b9 call os (d.put r.1 ⟨fr,τ,r.2⟩) k:=A1 rfl rfl h
theorem b5w:b9 call (⟨d,.mkM,as,none,none⟩::os) ⟨fr,τ,s⟩ k=obind (p2 (M6 call (as.map (·.read ⟨fr,τ,s⟩)) .undef s)) fun x=>b9 call os (d.put x.1 { b8 as ⟨fr,τ,s⟩ with st:=x.2 }) k:=F5 call d as os ⟨fr,τ,s⟩ k
theorem b3A (x:Opd) (w:Bool) (h:c0 as=false):b9 call (⟨d,.mkM,as,none,some (x,w)⟩::os) ⟨fr,τ,s⟩ k=obind (gv2 (x.read ⟨fr,τ,s⟩) w s (p2 (M6 call (as.map (·.read ⟨fr,τ,s⟩)) .undef s))) fun r=>b9 call os (d.put r.1 ⟨fr,τ,r.2⟩) k:=A1 rfl rfl h
theorem b1x (n:Nat):b9 call (⟨d,.mset n,as,none,none⟩::os) ⟨fr,τ,s⟩ k=obind (p2 (K7 n call (as.map (·.read ⟨fr,τ,s⟩)) .undef s)) fun x=>b9 call os (d.put x.1 { b8 as ⟨fr,τ,s⟩ with st:=x.2 }) k:=F5 call d as os ⟨fr,τ,s⟩ k
theorem a8Y (n:Nat) (x:Opd) (w:Bool) (h:c0 as=false):b9 call (⟨d,.mset n,as,none,some (x,w)⟩::os) ⟨fr,τ,s⟩ k=obind (gv2 (x.read ⟨fr,τ,s⟩) w s (p2 (K7 n call (as.map (·.read ⟨fr,τ,s⟩)) .undef s))) fun r=>b9 call os (d.put r.1 ⟨fr,τ,r.2⟩) k:=A1 rfl rfl h
theorem b3r (f:Nat):b9 call (⟨d,.call f,as,none,none⟩::os) ⟨fr,τ,s⟩ k=obind (p2 (k5 f call (as.map (·.read ⟨fr,τ,s⟩)) .undef s)) fun x=>b9 call os (d.put x.1 { b8 as ⟨fr,τ,s⟩ with st:=x.2 }) k:=F5 call d as os ⟨fr,τ,s⟩ k
theorem b0p (f:Nat) (x:Opd) (w:Bool) (h:c0 as=false):b9 call (⟨d,.call f,as,none,some (x,w)⟩::os) ⟨fr,τ,s⟩ k=obind (gv2 (x.read ⟨fr,τ,s⟩) w s (p2 (k5 f call (as.map (·.read ⟨fr,τ,s⟩)) .undef s))) fun r=>b9 call os (d.put r.1 ⟨fr,τ,r.2⟩) k:=A1 rfl rfl h
theorem a9d:b9 call (⟨d,.callV,as,none,none⟩::os) ⟨fr,τ,s⟩ k=obind (p2 (s5 call (as.map (·.read ⟨fr,τ,s⟩)) .undef s)) fun x=>b9 call os (d.put x.1 { b8 as ⟨fr,τ,s⟩ with st:=x.2 }) k:=F5 call d as os ⟨fr,τ,s⟩ k
theorem a6z (x:Opd) (w:Bool) (h:c0 as=false):b9 call (⟨d,.callV,as,none,some (x,w)⟩::os) ⟨fr,τ,s⟩ k=obind (gv2 (x.read ⟨fr,τ,s⟩) w s (p2 (s5 call (as.map (·.read ⟨fr,τ,s⟩)) .undef s))) fun r=>b9 call os (d.put r.1 ⟨fr,τ,r.2⟩) k:=A1 rfl rfl h
theorem a8V (z:List AV) (j:Nat):b9 call (⟨d,.alloc z,as,some j,none⟩::os) ⟨fr,τ,s⟩ k=obind (H7 z call (as.map (·.read ⟨fr,τ,s⟩)) (fr.getD j .undef) s) fun x=>b9 call os (d.put x.1 { b8 as ⟨fr,τ,s⟩ with fr:=(b8 as ⟨fr,τ,s⟩).fr.set j x.2.1,st:=x.2.2 }) k:=a5V call d as os ⟨fr,τ,s⟩ k j
theorem b22 (j:Nat):b9 call (⟨d,.boxV,as,some j,none⟩::os) ⟨fr,τ,s⟩ k=obind (K5 call (as.map (·.read ⟨fr,τ,s⟩)) (fr.getD j .undef) s) fun x=>b9 call os (d.put x.1 { b8 as ⟨fr,τ,s⟩ with fr:=(b8 as ⟨fr,τ,s⟩).fr.set j x.2.1,st:=x.2.2 }) k:=a5V call d as os ⟨fr,τ,s⟩ k j
theorem a9n (i:Nat) (j:Nat):b9 call (⟨d,.ldLcS i,as,some j,none⟩::os) ⟨fr,τ,s⟩ k=obind (E8 i call (as.map (·.read ⟨fr,τ,s⟩)) (fr.getD j .undef) s) fun x=>b9 call os (d.put x.1 { b8 as ⟨fr,τ,s⟩ with fr:=(b8 as ⟨fr,τ,s⟩).fr.set j x.2.1,st:=x.2.2 }) k:=a5V call d as os ⟨fr,τ,s⟩ k j
theorem b2x (i n:Nat) (j:Nat):b9 call (⟨d,.stLc i n,as,some j,none⟩::os) ⟨fr,τ,s⟩ k=obind (G1 i n call (as.map (·.read ⟨fr,τ,s⟩)) (fr.getD j .undef) s) fun x=>b9 call os (d.put x.1 { b8 as ⟨fr,τ,s⟩ with fr:=(b8 as ⟨fr,τ,s⟩).fr.set j x.2.1,st:=x.2.2 }) k:=a5V call d as os ⟨fr,τ,s⟩ k j
theorem d10 (x:Opd) (w:Bool) (h:c0 as=false):b9 call (⟨d,.mv,as,none,some (x,w)⟩::os) ⟨fr,τ,s⟩ k=obind (gv (x.read ⟨fr,τ,s⟩) w (p1 (R1 call (as.map (·.read ⟨fr,τ,s⟩)) .undef s))) fun r=>b9 call os (d.put r ⟨fr,τ,s⟩) k:=j5 (by rw [h]; rfl)
theorem b2T (x:Opd) (w:Bool) (h:c0 as=false):b9 call (⟨d,.pick,as,none,some (x,w)⟩::os) ⟨fr,τ,s⟩ k=obind (gv (x.read ⟨fr,τ,s⟩) w (p1 (n8 call (as.map (·.read ⟨fr,τ,s⟩)) .undef s))) fun r=>b9 call os (d.put r ⟨fr,τ,s⟩) k:=j5 (by rw [h]; rfl)
theorem a7S (x:Opd) (w:Bool) (h:c0 as=false):b9 call (⟨d,.nilchk,as,none,some (x,w)⟩::os) ⟨fr,τ,s⟩ k=obind (gv (x.read ⟨fr,τ,s⟩) w (p1 (o9 call (as.map (·.read ⟨fr,τ,s⟩)) .undef s))) fun r=>b9 call os (d.put r ⟨fr,τ,s⟩) k:=j5 (by rw [h]; rfl)
theorem b3e (x:Opd) (w:Bool) (h:c0 as=false):b9 call (⟨d,.idxS,as,none,some (x,w)⟩::os) ⟨fr,τ,s⟩ k=obind (gv (x.read ⟨fr,τ,s⟩) w (p1 (D8 call (as.map (·.read ⟨fr,τ,s⟩)) .undef s))) fun r=>b9 call os (d.put r ⟨fr,τ,s⟩) k:=j5 (by rw [h]; rfl)
theorem b5L (x:Opd) (w:Bool) (h:c0 as=false):b9 call (⟨d,.slZ,as,none,some (x,w)⟩::os) ⟨fr,τ,s⟩ k=obind (gv (x.read ⟨fr,τ,s⟩) w (p1 (J4 call (as.map (·.read ⟨fr,τ,s⟩)) .undef s))) fun r=>b9 call os (d.put r ⟨fr,τ,s⟩) k:=j5 (by rw [h]; rfl)
theorem b2P (x:Opd) (w:Bool) (h:c0 as=false):b9 call (⟨d,.lenS,as,none,some (x,w)⟩::os) ⟨fr,τ,s⟩ k=obind (gv (x.read ⟨fr,τ,s⟩) w (p1 (F7 call (as.map (·.read ⟨fr,τ,s⟩)) .undef s))) fun r=>b9 call os (d.put r ⟨fr,τ,s⟩) k:=j5 (by rw [h]; rfl)
theorem b1S (x:Opd) (w:Bool) (h:c0 as=false):b9 call (⟨d,.lenL,as,none,some (x,w)⟩::os) ⟨fr,τ,s⟩ k=obind (gv (x.read ⟨fr,τ,s⟩) w (p1 (B1 call (as.map (·.read ⟨fr,τ,s⟩)) .undef s))) fun r=>b9 call os (d.put r ⟨fr,τ,s⟩) k:=j5 (by rw [h]; rfl)
theorem b6c (x:Opd) (w:Bool) (h:c0 as=false):b9 call (⟨d,.b2s,as,none,some (x,w)⟩::os) ⟨fr,τ,s⟩ k=obind (gv (x.read ⟨fr,τ,s⟩) w (p1 (J1 call (as.map (·.read ⟨fr,τ,s⟩)) .undef s))) fun r=>b9 call os (d.put r ⟨fr,τ,s⟩) k:=j5 (by rw [h]; rfl)
end
theorem VV:type_of% (And.intro (And.intro (And.intro (And.intro (And.intro (And.intro @b3c (And.intro @a4X @a2C)) (And.intro (And.intro @d6x @b6o) (And.intro @d8Z @b5R))) (And.intro (And.intro (And.intro @d5c @d6V) (And.intro @b6m @put_t)) (And.intro (And.intro @put_v @b53) (And.intro @b6n @d9c)))) (And.intro (And.intro (And.intro (And.intro @c4q @c7t) (And.intro @c74 @d1L)) (And.intro (And.intro @c78 @b6s) (And.intro @b6d @c68))) (And.intro (And.intro (And.intro @d7e @d3H) (And.intro @d4T @c6w)) (And.intro (And.intro @b2l @a8j) (And.intro @a9I @a8o))))) (And.intro (And.intro (And.intro (And.intro @a5u (And.intro @b2V @b16)) (And.intro (And.intro @b2E @a9N) (And.intro @b6f @b6G))) (And.intro (And.intro (And.intro @b6J @b2M) (And.intro @b1J @b54)) (And.intro (And.intro @b52 @b6x) (And.intro @b6B @b5T)))) (And.intro (And.intro (And.intro (And.intro @b14 @b3z) (And.intro @c4u @b1R)) (And.intro (And.intro @b5t @b2k) (And.intro @b6I @b2K))) (And.intro (And.intro (And.intro @b3l @b6M) (And.intro @b5v @a9x)) (And.intro (And.intro @a6t @a4D) (And.intro @b17 @b2L)))))) (And.intro (And.intro (And.intro (And.intro (And.intro @b3t (And.intro @a9S @b5O)) (And.intro (And.intro @b6u @b6i) (And.intro @b20 @b6p))) (And.intro (And.intro (And.intro @b6T @b5y) (And.intro @b5C @b1X)) (And.intro (And.intro @b1D @d5T) (And.intro @b1I @b6h)))) (And.intro (And.intro (And.intro (And.intro @b3j @b6F) (And.intro @b6k @b2C)) (And.intro (And.intro @a9M @a7P) (And.intro @a4I @b1V))) (And.intro (And.intro (And.intro @a9i @a5g) (And.intro @a2o @b2m)) (And.intro (And.intro @a9D @a7g) (And.intro @a5B @a9A))))) (And.intro (And.intro (And.intro (And.intro (And.intro @a6V @a9z) (And.intro @a6W @a9j)) (And.intro (And.intro @a6Y @b23) (And.intro @b0t @b5w))) (And.intro (And.intro (And.intro @b3A @b1x) (And.intro @a8Y @b3r)) (And.intro (And.intro @b0p @a9d) (And.intro @a6z @a8V)))) (And.intro (And.intro (And.intro (And.intro @b22 @a9n) (And.intro @b2x @c8m)) (And.intro (And.intro @d2r @c8G) (And.intro @d43 @d33))) (And.intro (And.intro (And.intro @d10 @b2T) (And.intro @a7S @b3e)) (And.intro (And.intro @b5L @b2P) (And.intro @b1S @b6c))))))):=(And.intro (And.intro (And.intro (And.intro (And.intro (And.intro @b3c (And.intro @a4X @a2C)) (And.intro (And.intro @d6x @b6o) (And.intro @d8Z @b5R))) (And.intro (And.intro (And.intro @d5c @d6V) (And.intro @b6m @put_t)) (And.intro (And.intro @put_v @b53) (And.intro @b6n @d9c)))) (And.intro (And.intro (And.intro (And.intro @c4q @c7t) (And.intro @c74 @d1L)) (And.intro (And.intro @c78 @b6s) (And.intro @b6d @c68))) (And.intro (And.intro (And.intro @d7e @d3H) (And.intro @d4T @c6w)) (And.intro (And.intro @b2l @a8j) (And.intro @a9I @a8o))))) (And.intro (And.intro (And.intro (And.intro @a5u (And.intro @b2V @b16)) (And.intro (And.intro @b2E @a9N) (And.intro @b6f @b6G))) (And.intro (And.intro (And.intro @b6J @b2M) (And.intro @b1J @b54)) (And.intro (And.intro @b52 @b6x) (And.intro @b6B @b5T)))) (And.intro (And.intro (And.intro (And.intro @b14 @b3z) (And.intro @c4u @b1R)) (And.intro (And.intro @b5t @b2k) (And.intro @b6I @b2K))) (And.intro (And.intro (And.intro @b3l @b6M) (And.intro @b5v @a9x)) (And.intro (And.intro @a6t @a4D) (And.intro @b17 @b2L)))))) (And.intro (And.intro (And.intro (And.intro (And.intro @b3t (And.intro @a9S @b5O)) (And.intro (And.intro @b6u @b6i) (And.intro @b20 @b6p))) (And.intro (And.intro (And.intro @b6T @b5y) (And.intro @b5C @b1X)) (And.intro (And.intro @b1D @d5T) (And.intro @b1I @b6h)))) (And.intro (And.intro (And.intro (And.intro @b3j @b6F) (And.intro @b6k @b2C)) (And.intro (And.intro @a9M @a7P) (And.intro @a4I @b1V))) (And.intro (And.intro (And.intro @a9i @a5g) (And.intro @a2o @b2m)) (And.intro (And.intro @a9D @a7g) (And.intro @a5B @a9A))))) (And.intro (And.intro (And.intro (And.intro (And.intro @a6V @a9z) (And.intro @a6W @a9j)) (And.intro (And.intro @a6Y @b23) (And.intro @b0t @b5w))) (And.intro (And.intro (And.intro @b3A @b1x) (And.intro @a8Y @b3r)) (And.intro (And.intro @b0p @a9d) (And.intro @a6z @a8V)))) (And.intro (And.intro (And.intro (And.intro @b22 @a9n) (And.intro @b2x @c8m)) (And.intro (And.intro @d2r @c8G) (And.intro @d43 @d33))) (And.intro (And.intro (And.intro @d10 @b2T) (And.intro @a7S @b3e)) (And.intro (And.intro @b5L @b2P) (And.intro @b1S @b6c)))))))
end Go.Cb.V
/-
 THE ABSTRACT MACHINE, part 42: the operations told so that the kernel reckons them quickly, at any kind of answer (printed out of parts 38 and 39).
-/
set_option maxRecDepth 4000
set_option linter.unusedVariables false
set_option linter.unusedSimpArgs false
namespace Go.Cb.G
open Go Go.Cb
variable {ρ:Type}
/-! taking values apart -/
section
noncomputable def onI (x:AV) (e:(Option ρ)) (k:IntKind→Int→(Option ρ)):(Option ρ):=AV.rec (motive_1:=fun _=>(Option ρ)) (motive_2:=fun _=>Unit) (motive_3:=fun _=>Unit)
 e (fun _=>e) (fun t n=>k t n) (fun _=>e) (fun _ _ _=>e) (fun _ _=>e) e (fun _ _=>e) (fun _ _=>e) (fun _ _=>e) (fun _=>e) e (fun _ _ _ _ _=>e) e (fun _ _=>e) (fun _ _=>e) (fun _ _ _=>e) e (fun _ _ _ _=>e) (fun _ _=>e) e
 () (fun _ _ _ _=>()) () (fun _ _ _ _=>()) x
noncomputable def b4Z (x:AV) (e:(Option ρ)) (k:IntKind→Int→(Option ρ)) (l:List Nat→(Option ρ)):(Option ρ):=AV.rec (motive_1:=fun _=>(Option ρ)) (motive_2:=fun _=>Unit) (motive_3:=fun _=>Unit)
 e (fun _=>e) (fun t n=>k t n) (fun s=>l s) (fun _ _ _=>e) (fun _ _=>e) e (fun _ _=>e) (fun _ _=>e) (fun _ _=>e) (fun _=>e) e (fun _ _ _ _ _=>e) e (fun _ _=>e) (fun _ _=>e) (fun _ _ _=>e) e (fun _ _ _ _=>e) (fun _ _=>e) e
 () (fun _ _ _ _=>()) () (fun _ _ _ _=>()) x
noncomputable def onS (x:AV) (e:(Option ρ)) (k:List Nat→(Option ρ)):(Option ρ):=AV.rec (motive_1:=fun _=>(Option ρ)) (motive_2:=fun _=>Unit) (motive_3:=fun _=>Unit)
 e (fun _=>e) (fun t n=>e) (fun s=>k s) (fun _ _ _=>e) (fun _ _=>e) e (fun _ _=>e) (fun _ _=>e) (fun _ _=>e) (fun _=>e) e (fun _ _ _ _ _=>e) e (fun _ _=>e) (fun _ _=>e) (fun _ _ _=>e) e (fun _ _ _ _=>e) (fun _ _=>e) e
 () (fun _ _ _ _=>()) () (fun _ _ _ _=>()) x
noncomputable def onB (x:AV) (e:(Option ρ)) (k:Bool→(Option ρ)):(Option ρ):=AV.rec (motive_1:=fun _=>(Option ρ)) (motive_2:=fun _=>Unit) (motive_3:=fun _=>Unit)
 e (fun b=>k b) (fun t n=>e) (fun s=>e) (fun _ _ _=>e) (fun _ _=>e) e (fun _ _=>e) (fun _ _=>e) (fun _ _=>e) (fun _=>e) e (fun _ _ _ _ _=>e) e (fun _ _=>e) (fun _ _=>e) (fun _ _ _=>e) e (fun _ _ _ _=>e) (fun _ _=>e) e
 () (fun _ _ _ _=>()) () (fun _ _ _ _=>()) x
noncomputable def d25 (x:AV) (e:(Option ρ)) (k:Bool→(Option ρ)) (t:List AV→(Option ρ)):(Option ρ):=AV.rec (motive_1:=fun _=>(Option ρ)) (motive_2:=fun _=>Unit) (motive_3:=fun _=>Unit)
 e (fun b=>k b) (fun t n=>e) (fun s=>e) (fun _ _ _=>e) (fun _ _=>e) e (fun _ _=>e) (fun _ _=>e) (fun _ _=>e) (fun _=>e) e (fun _ _ _ _ _=>e) e (fun _ _=>e) (fun vs _=>t vs) (fun _ _ _=>e) e (fun _ _ _ _=>e) (fun _ _=>e) e
 () (fun _ _ _ _=>()) () (fun _ _ _ _=>()) x
noncomputable def onL (x:AV) (e:(Option ρ)) (k:List (List AV)→(Option ρ)):(Option ρ):=AV.rec (motive_1:=fun _=>(Option ρ)) (motive_2:=fun _=>Unit) (motive_3:=fun _=>Unit)
 e (fun b=>e) (fun t n=>e) (fun s=>e) (fun _ xs _=>k xs) (fun _ _=>e) e (fun _ _=>e) (fun _ _=>e) (fun _ _=>e) (fun _=>e) e (fun _ _ _ _ _=>e) e (fun _ _=>e) (fun _ _=>e) (fun _ _ _=>e) e (fun _ _ _ _=>e) (fun _ _=>e) e
 () (fun _ _ _ _=>()) () (fun _ _ _ _=>()) x
noncomputable def onP (x:AV) (e:(Option ρ)) (k:Nat→Nat→(Option ρ)):(Option ρ):=AV.rec (motive_1:=fun _=>(Option ρ)) (motive_2:=fun _=>Unit) (motive_3:=fun _=>Unit)
 e (fun b=>e) (fun t n=>e) (fun s=>e) (fun _ xs _=>e) (fun o f=>k o f) e (fun _ _=>e) (fun _ _=>e) (fun _ _=>e) (fun _=>e) e (fun _ _ _ _ _=>e) e (fun _ _=>e) (fun _ _=>e) (fun _ _ _=>e) e (fun _ _ _ _=>e) (fun _ _=>e) e
 () (fun _ _ _ _=>()) () (fun _ _ _ _=>()) x
noncomputable def a6e (x:AV) (e:(Option ρ)) (k:Nat→Nat→(Option ρ)) (l:List AV→(Option ρ)) (m:Nat→Nat→(Option ρ)):(Option ρ):=AV.rec (motive_1:=fun _=>(Option ρ)) (motive_2:=fun _=>Unit) (motive_3:=fun _=>Unit)
 e (fun b=>e) (fun t n=>e) (fun s=>e) (fun _ xs _=>e) (fun o f=>k o f) e (fun cs _=>l cs) (fun i f=>m i f) (fun _ _=>e) (fun _=>e) e (fun _ _ _ _ _=>e) e (fun _ _=>e) (fun _ _=>e) (fun _ _ _=>e) e (fun _ _ _ _=>e) (fun _ _=>e) e
 () (fun _ _ _ _=>()) () (fun _ _ _ _=>()) x
noncomputable def onR (x:AV) (e:(Option ρ)) (l:List AV→(Option ρ)):(Option ρ):=AV.rec (motive_1:=fun _=>(Option ρ)) (motive_2:=fun _=>Unit) (motive_3:=fun _=>Unit)
 e (fun b=>e) (fun t n=>e) (fun s=>e) (fun _ xs _=>e) (fun o f=>e) e (fun cs _=>l cs) (fun _ _=>e) (fun _ _=>e) (fun _=>e) e (fun _ _ _ _ _=>e) e (fun _ _=>e) (fun _ _=>e) (fun _ _ _=>e) e (fun _ _ _ _=>e) (fun _ _=>e) e
 () (fun _ _ _ _=>()) () (fun _ _ _ _=>()) x
noncomputable def b0v (x:AV) (e:(Option ρ)) (l:List AV→(Option ρ)):(Option ρ):=AV.rec (motive_1:=fun _=>(Option ρ)) (motive_2:=fun _=>Unit) (motive_3:=fun _=>Unit)
 e (fun b=>e) (fun t n=>e) (fun s=>e) (fun _ xs _=>e) (fun o f=>e) e (fun cs _=>e) (fun _ _=>e) (fun cs _=>l cs) (fun _=>e) e (fun _ _ _ _ _=>e) e (fun _ _=>e) (fun _ _=>e) (fun _ _ _=>e) e (fun _ _ _ _=>e) (fun _ _=>e) e
 () (fun _ _ _ _=>()) () (fun _ _ _ _=>()) x
noncomputable def b3W (x:AV) (e:(Option ρ)) (l:Nat→Nat→(Option ρ)):(Option ρ):=AV.rec (motive_1:=fun _=>(Option ρ)) (motive_2:=fun _=>Unit) (motive_3:=fun _=>Unit)
 e (fun b=>e) (fun t n=>e) (fun s=>e) (fun _ xs _=>e) (fun o f=>e) e (fun cs _=>e) (fun i f=>l i f) (fun cs _=>e) (fun _=>e) e (fun _ _ _ _ _=>e) e (fun _ _=>e) (fun _ _=>e) (fun _ _ _=>e) e (fun _ _ _ _=>e) (fun _ _=>e) e
 () (fun _ _ _ _=>()) () (fun _ _ _ _=>()) x

theorem M1 (x:AV) (e:(Option ρ)) (k:IntKind→Int→(Option ρ)):onI x e k=match x with|.int t n=>k t n|_=>e:=by cases x <;> rfl
theorem a9a (x:AV) (e:(Option ρ)) (k:IntKind→Int→(Option ρ)) (l:List Nat→(Option ρ)):b4Z x e k l=match x with|.int t n=>k t n|.str s=>l s|_=>e:=by cases x <;> rfl
theorem a0B (x:AV) (e:(Option ρ)) (k:List Nat→(Option ρ)):onS x e k=match x with|.str s=>k s|_=>e:=by cases x <;> rfl
theorem a8u (x:AV) (e:(Option ρ)) (k:Bool→(Option ρ)):onB x e k=match x with|.bool b=>k b|_=>e:=by cases x <;> rfl
theorem b9V (x:AV) (e:(Option ρ)) (k:Bool→(Option ρ)) (t:List AV→(Option ρ)):d25 x e k t=match x with|.bool b=>k b|.tuple vs=>t vs|_=>e:=by cases x <;> rfl
theorem a6C (x:AV) (e:(Option ρ)) (k:List (List AV)→(Option ρ)):onL x e k=match x with|.list _ xs=>k xs|_=>e:=by cases x <;> rfl
theorem b1B (x:AV) (e:(Option ρ)) (k:Nat→Nat→(Option ρ)):onP x e k=match x with|.ptr o f=>k o f|_=>e:=by cases x <;> rfl
theorem a1X (x:AV) (e:(Option ρ)) (k:Nat→Nat→(Option ρ)) (l:List AV→(Option ρ)) (m:Nat→Nat→(Option ρ)):a6e x e k l m=match x with|.ptr o f=>k o f|.ro cs=>l cs|.loc i f=>m i f|_=>e:=by cases x <;> rfl
theorem c7w (x:AV) (e:(Option ρ)) (l:List AV→(Option ρ)):onR x e l=match x with|.ro cs=>l cs|_=>e:=by cases x <;> rfl
theorem a4k (x:AV) (e:(Option ρ)) (l:List AV→(Option ρ)):b0v x e l=match x with|.box cs=>l cs|_=>e:=by cases x <;> rfl
theorem a8Q (x:AV) (e:(Option ρ)) (l:Nat→Nat→(Option ρ)):b3W x e l=match x with|.loc i f=>l i f|_=>e:=by cases x <;> rfl
end

noncomputable def kIx (k:IntKind):Nat:=IntKind.rec (motive:=fun _=>Nat) 0 1 2 3 4 5 6 7 k
noncomputable def cB (b:Bool) (x y:(Option ρ)):(Option ρ):=Bool.rec (motive:=fun _=>(Option ρ)) y x b
theorem E3 (b:Bool) (x y:(Option ρ)):cB b x y=if b=true then x else y:=by cases b <;> rfl
theorem a0f (a b:IntKind):Nat.beq (kIx a) (kIx b)=decide (a=b):=by cases a <;> cases b <;> rfl
noncomputable def bo (b:Bool) (k:AV→(Option ρ)):(Option ρ):=cB b (k (.bool true)) (k (.bool false))
theorem a3l (b:Bool) (k:AV→(Option ρ)):bo b k=k (.bool b):=by cases b <;> rfl
noncomputable def Z0 (n:Nat) (k:Nat→(Option ρ)):(Option ρ):=Nat.rec (motive:=fun _=>(Option ρ)) (k 0) (fun m _=>k (Nat.succ m)) n
theorem K6 (n:Nat) (k:Nat→(Option ρ)):Z0 n k=k n:=by cases n <;> rfl
noncomputable def nn (a b:Int) (e:(Option ρ)) (k:Nat→Nat→(Option ρ)):(Option ρ):=Int.rec (motive:=fun _=>(Option ρ)) (fun a=>Int.rec (motive:=fun _=>(Option ρ)) (fun b=>k a b) (fun _=>e) b) (fun _=>e) a
theorem a00 (a b:Int) (e:(Option ρ)) (k:Nat→Nat→(Option ρ)):nn a b e k=match a,b with|.ofNat a,.ofNat b=>k a b|_,_=>e:=by cases a <;> cases b <;> rfl
noncomputable def eqF (x:List Nat):List Nat→Bool:=List.rec (motive:=fun _=>List Nat→Bool) (fun y=>List.rec (motive:=fun _=>Bool) true (fun _ _ _=>false) y)
 (fun a _ ih y=>List.rec (motive:=fun _=>Bool) false (fun b t _=>Bool.rec (motive:=fun _=>Bool) false (ih t) (Nat.beq a b)) y) x
theorem a8z:∀ x y:List Nat,eqF x y=eqN x y
 | [],[]=>rfl
 | [],_::_=>rfl
 | _::_,[]=>rfl
 | a::x,b::y=>by
  have ih:=a8z x y
  show (Bool.rec (motive:=fun _=>Bool) false (eqF x y) (Nat.beq a b))=(Nat.beq a b && eqN x y)
  rw [ih]
  cases Nat.beq a b <;> rfl
noncomputable def Z6 {β:Type} (l:List β) (e:(Option ρ)) (k:β→(Option ρ)):Nat→(Option ρ):=List.rec (motive:=fun _=>Nat→(Option ρ)) (fun _=>e) (fun a _ ih i=>Nat.rec (motive:=fun _=>(Option ρ)) (k a) (fun j _=>ih j) i) l
theorem W1 {β:Type}:∀ (l:List β) (e:(Option ρ)) (k:β→(Option ρ)) (i:Nat),Z6 l e k i=match l[i]? with|some a=>k a|none=>e
 | [],e,k,i=>by cases i <;> rfl
 | a::l,e,k,0=>rfl
 | a::l,e,k,i+1=>by
  have:=W1 l e k i
  show Z6 l e k i=_
  rw [this]
  simp
noncomputable def u7 {β:Type} (l:List β):Nat:=List.rec (motive:=fun _=>Nat) 0 (fun _ _ n=>Nat.add n 1) l
theorem r6 {β:Type}:∀ l:List β,u7 l=l.length
 | []=>rfl
 | a::l=>by
  show Nat.add (u7 l) 1=_
  rw [r6 l]
  rfl
noncomputable def a2l (n:Nat):List AV→List AV:=Nat.rec (motive:=fun _=>List AV→List AV) (fun l=>l) (fun _ ih l=>List.rec (motive:=fun _=>List AV) [] (fun _ t _=>ih t) l) n
theorem Q5:∀ (n:Nat) (l:List AV),a2l n l=l.drop n
 | 0,l=>rfl
 | n+1,[]=>rfl
 | n+1,a::l=>Q5 n l
noncomputable def a6g {β:Type} (i:Nat) (l:List β):List β:=Nat.rec (motive:=fun _=>List β) l (fun _ ih=>List.rec (motive:=fun _=>List β) [] (fun _ t _=>t) ih) i
theorem a2c {β:Type}:∀ (i:Nat) (l:List β),a6g i l=l.drop i
 | 0,l=>rfl
 | i+1,l=>by
  have:=a2c i l
  show List.rec (motive:=fun _=>List β) [] (fun _ t _=>t) (a6g i l)=_
  rw [this,show l.drop (i+1)=(l.drop i).drop 1 by rw [List.drop_drop]]
  cases l.drop i <;> rfl
noncomputable def atO {β:Type} (l:List β) (e:(Option ρ)) (k:β→(Option ρ)) (i:Nat):(Option ρ):=List.rec (motive:=fun _=>(Option ρ)) e (fun a _ _=>k a) (a6g i l)
theorem b3h {β:Type} (l:List β) (e:(Option ρ)) (k:β→(Option ρ)) (i:Nat):atO l e k i=match l[i]? with|some a=>k a|none=>e:=by
 unfold atO
 rw [a2c]
 have h:l[i]?=(l.drop i)[0]?:=by simp
 rw [h]
 cases l.drop i <;> rfl
noncomputable def a6d {β:Type} (n:Nat) (l:List β) (k:List β→(Option ρ)):(Option ρ):=Nat.rec (motive:=fun _=>List β→(List β→(Option ρ))→(Option ρ)) (fun _ k=>k []) (fun _ ih l k=>List.rec (motive:=fun _=>(Option ρ)) (k []) (fun a t _=>ih t fun r=>k (a::r)) l) n l k
theorem Y7 {β:Type}:∀ (n:Nat) (l:List β) (k:List β→(Option ρ)),a6d n l k=k (l.take n)
 | 0,l,k=>by show k []=_; rw [List.take_zero]
 | n+1,[],k=>rfl
 | n+1,a::l,k=>Y7 n l fun r=>k (a::r)
noncomputable def T5 {β:Type} (l r:List β) (k:List β→(Option ρ)):(Option ρ):=List.rec (motive:=fun _=>(List β→(Option ρ))→(Option ρ)) (fun k=>k r) (fun a _ ih k=>ih fun t=>k (a::t)) l k
theorem U4 {β:Type} (r:List β):∀ (l:List β) (k:List β→(Option ρ)),T5 l r k=k (l++r)
 | [],k=>rfl
 | a::l,k=>U4 r l fun t=>k (a::t)
noncomputable def b59 (l:List AV) (e:(Option ρ)) (k:AV→(Option ρ)):(Option ρ):=List.rec (motive:=fun _=>(Option ρ)) e (fun a _ _=>k a) l
theorem b5r (l:List AV) (e:(Option ρ)) (k:AV→(Option ρ)):b59 l e k=match l with|a::_=>k a|[]=>e:=by cases l <;> rfl

noncomputable def w1K (x:AV) (k:AV→(Option ρ)):(Option ρ):=AV.rec (motive_1:=fun _=>(Option ρ)) (motive_2:=fun _=>Unit) (motive_3:=fun _=>Unit)
 (k .undef) (fun b=>k (.bool b)) (fun t n=>k (.int t n)) (fun s=>k (.str s)) (fun _ xs _=>k (.list false xs)) (fun o f=>k (.ptr o f)) (k .nilp) (fun cs _=>k (.ro cs)) (fun i f=>k (.loc i f)) (fun cs _=>k (.box cs)) (fun o=>k (.map o)) (k .nilm) (fun f a c _ _=>k (.func f a c)) (k .nilf) (fun cs _=>k (.agg cs)) (fun vs _=>k (.tuple vs)) (fun t v _=>k (.iface t v)) (k .nili) (fun o f n s=>k (.sl o f n s)) (fun xs _=>k (.fresh xs)) (k .nils)
 () (fun _ _ _ _=>()) () (fun _ _ _ _=>()) x
theorem b2o (x:AV) (k:AV→(Option ρ)):w1K x k=k x.weak1:=by cases x <;> rfl
noncomputable def b4n (l:List AV) (k:List AV→(Option ρ)):(Option ρ):=List.rec (motive:=fun _=>(List AV→(Option ρ))→(Option ρ)) (fun k=>k []) (fun a _ ih k=>w1K a fun w=>ih fun r=>k (w::r)) l k
theorem a9C:∀ (l:List AV) (k:List AV→(Option ρ)),b4n l k=k (l.map AV.weak1)
 | [],k=>rfl
 | a::l,k=>by
  show w1K a (fun w=>b4n l fun r=>k (w::r))=_
  rw [b2o,a9C l]
  rfl

noncomputable def a2k {β:Type} (l:List β) (e:(Option ρ)) (k:List β→(Option ρ)):(Option ρ):=List.rec (motive:=fun _=>(Option ρ)) e (fun _ l _=>List.rec (motive:=fun _=>(Option ρ)) e (fun _ l _=>List.rec (motive:=fun _=>(Option ρ)) e (fun _ l _=>List.rec (motive:=fun _=>(Option ρ)) e (fun _ l _=>List.rec (motive:=fun _=>(Option ρ)) e (fun _ l _=>List.rec (motive:=fun _=>(Option ρ)) e (fun _ l _=>List.rec (motive:=fun _=>(Option ρ)) e (fun _ l _=>List.rec (motive:=fun _=>(Option ρ)) e (fun _ l _=>k l) l) l) l) l) l) l) l) l
theorem b4J {β:Type} (l:List β) (e:(Option ρ)) (k:List β→(Option ρ)):a2k l e k=if 8≤l.length then k (l.drop 8) else e:=by
 match l with
 | []=>rfl
 | [_]=>rfl
 | [_,_]=>rfl
 | [_,_,_]=>rfl
 | [_,_,_,_]=>rfl
 | [_,_,_,_,_]=>rfl
 | [_,_,_,_,_,_]=>rfl
 | [_,_,_,_,_,_,_]=>rfl
 | _::_::_::_::_::_::_::_::t=>rw [if_pos (by simp)]; rfl
noncomputable def b0B {β:Type} (l:List β) (e:(Option ρ)) (k:β→(Option ρ)) (i:Nat):(Option ρ):=Nat.rec (motive:=fun _=>List β→(Option ρ)) (fun l=>Z6 l e k (Nat.mod i 8)) (fun _ ih l=>a2k l e ih) (Nat.div i 8) l
theorem a9w {β:Type} (e:(Option ρ)) (k:β→(Option ρ)) (r:Nat):∀ (q:Nat) (l:List β),Nat.rec (motive:=fun _=>List β→(Option ρ)) (fun l=>Z6 l e k r) (fun _ ih l=>a2k l e ih) q l=Z6 l e k (8*q+r)
 | 0,l=>by show Z6 l e k r=_; rw [Nat.mul_zero,Nat.zero_add]
 | q+1,l=>by
  show a2k l e (fun l=>Nat.rec (motive:=fun _=>List β→(Option ρ)) (fun l=>Z6 l e k r) (fun _ ih l=>a2k l e ih) q l)=_
  rw [b4J,a9w e k r q (l.drop 8),W1,W1]
  split
  · rw [List.getElem?_drop,show 8+(8*q+r)=8*(q+1)+r by omega]
  · rw [List.getElem?_eq_none (by omega)]
theorem a9Q {β:Type} (l:List β) (e:(Option ρ)) (k:β→(Option ρ)) (i:Nat):b0B l e k i=match l[i]? with|some a=>k a|none=>e:=by
 unfold b0B
 rw [a9w e k (Nat.mod i 8) (Nat.div i 8) l,W1,show 8*Nat.div i 8+Nat.mod i 8=i from Nat.div_add_mod i 8]
noncomputable def K0 {β:Type} (l:List β) (e:(Option ρ)) (ih:List β→(List β→(Option ρ))→(Option ρ)) (k:List β→(Option ρ)):(Option ρ):=List.rec (motive:=fun _=>(Option ρ)) e (fun a0 l _=>List.rec (motive:=fun _=>(Option ρ)) e (fun a1 l _=>List.rec (motive:=fun _=>(Option ρ)) e (fun a2 l _=>List.rec (motive:=fun _=>(Option ρ)) e (fun a3 l _=>List.rec (motive:=fun _=>(Option ρ)) e (fun a4 l _=>List.rec (motive:=fun _=>(Option ρ)) e (fun a5 l _=>List.rec (motive:=fun _=>(Option ρ)) e (fun a6 l _=>List.rec (motive:=fun _=>(Option ρ)) e (fun a7 l _=>ih l (fun r=>k (a0::a1::a2::a3::a4::a5::a6::a7::r))) l) l) l) l) l) l) l) l
theorem a4e {β:Type} (l:List β) (e:(Option ρ)) (ih:List β→(List β→(Option ρ))→(Option ρ)) (k:List β→(Option ρ)):K0 l e ih k=if 8≤l.length then ih (l.drop 8) (fun r=>k (l.take 8++r)) else e:=by
 match l with
 | []=>rfl
 | [_]=>rfl
 | [_,_]=>rfl
 | [_,_,_]=>rfl
 | [_,_,_,_]=>rfl
 | [_,_,_,_,_]=>rfl
 | [_,_,_,_,_,_]=>rfl
 | [_,_,_,_,_,_,_]=>rfl
 | _::_::_::_::_::_::_::_::t=>rw [if_pos (by simp)]; rfl
/-! the operations -/
section
variable (c:b7) (b:AV) (s:St) (f:AV→(Option ρ))
noncomputable def b4p (x y:AV):(Option ρ):=b4Z x none (fun t m=>onI y none fun u n=>cB (Nat.beq (kIx t) (kIx u)) (nn m n (bo (eqI m n) f) fun a b=>bo (Nat.beq a b) f) none) (fun l=>onS y none fun r=>bo (eqF l r) f)
noncomputable def b4N (x y:AV):(Option ρ):=b4Z x none (fun t m=>onI y none fun u n=>cB (Nat.beq (kIx t) (kIx u)) (nn m n (bo (!eqI m n) f) fun a b=>cB (Nat.beq a b) (f (.bool false)) (f (.bool true))) none) (fun l=>onS y none fun r=>cB (eqF l r) (f (.bool false)) (f (.bool true)))
noncomputable def T7 (op:BinOp) (g:Nat→Nat→Bool) (x y:AV):(Option ρ):=onI x (obind (p1 (sem (.bin op) c [x,y] b s)) f) (fun t m=>onI y none fun u n=>cB (Nat.beq (kIx t) (kIx u)) (nn m n (obind (p1 (sem (.bin op) c [.int t m,.int u n] b s)) f) fun a b=>bo (g a b) f) none)
noncomputable def b5q (x y:AV):(Option ρ):=onI x (obind (p1 (sem (.bin .add) c [x,y] b s)) f) (fun t m=>onI y none fun u n=>cB (Nat.beq (kIx t) (kIx u)) (nn m n (obind (p1 (sem (.bin .add) c [.int t m,.int u n] b s)) f)
 fun i j=>Z0 (Nat.add i j) fun r=>cB (Nat.blt r 128) (f (.int t (.ofNat r))) (cB (Nat.beq (kIx t) 3) (cB (Nat.blt r 9223372036854775808) (f (.int t (.ofNat r))) (obind (p1 (sem (.bin .add) c [.int t m,.int u n] b s)) f)) (obind (p1 (sem (.bin .add) c [.int t m,.int u n] b s)) f))) none)
noncomputable def b43 (x y:AV):(Option ρ):=onI x (obind (p1 (sem (.bin .sub) c [x,y] b s)) f) (fun t m=>onI y none fun u n=>cB (Nat.beq (kIx t) (kIx u)) (nn m n (obind (p1 (sem (.bin .sub) c [.int t m,.int u n] b s)) f)
 fun i j=>cB (Nat.ble j i) (Z0 (Nat.sub i j) fun r=>cB (Nat.blt r 128) (f (.int t (.ofNat r))) (cB (Nat.beq (kIx t) 3) (cB (Nat.blt r 9223372036854775808) (f (.int t (.ofNat r))) (obind (p1 (sem (.bin .sub) c [.int t m,.int u n] b s)) f)) (obind (p1 (sem (.bin .sub) c [.int t m,.int u n] b s)) f))) (obind (p1 (sem (.bin .sub) c [.int t m,.int u n] b s)) f)) none)
noncomputable def b4r (x:AV):(Option ρ):=onB x none fun y=>cB y (f (.bool false)) (f (.bool true))
noncomputable def a6u (x:AV):(Option ρ):=cB x.plain (f x) none
noncomputable def b1k (x y z:AV):(Option ρ):=onB x none fun v=>cB v (a6u f y) (a6u f z)
noncomputable def b37 (x:AV):(Option ρ):=a6e x (obind (p1 (sem .nilchk c [x] b s)) f) (fun o i=>f (.ptr o i)) (fun cs=>f (.ro cs)) (fun i j=>f (.loc i j))
noncomputable def b36 (d:Nat) (x:AV):(Option ρ):=a6e x none (fun o i=>Z0 (Nat.add i d) fun i=>f (.ptr o i)) (fun cs=>f (.ro (a2l d cs))) (fun o i=>Z0 (Nat.add i d) fun i=>f (.loc o i))
noncomputable def a0P (ag:Bool) (n:Nat) (cs:List AV):(Option ρ):=cB ag (cB (Nat.ble n (u7 cs)) (a6d n cs fun r=>b4n r fun r=>f (.agg r)) none) (b59 cs none fun x=>w1K x f)
noncomputable def a7t (x:Obj) (k:List AV→(Option ρ)):(Option ρ):=Obj.rec (motive:=fun _=>(Option ρ)) k (fun _=>none) none x
noncomputable def a2J (ag:Bool) (n:Nat) (x:AV):(Option ρ):=onP x none fun o i=>b0B s none (fun ob=>a7t ob fun cs=>a0P f ag n (a2l i cs)) o
noncomputable def a2H (ag:Bool) (n:Nat) (x:AV):(Option ρ):=onR x none fun cs=>a0P f ag n cs
noncomputable def b0L (i:Nat) (ag:Bool) (n:Nat) (x:AV):(Option ρ):=b3W x none fun j off=>b0v b none fun cs=>cB (Nat.beq i j) (a0P f ag n (a2l off cs)) none
noncomputable def b0O (x:AV):(Option ρ):=onS x none fun l=>Z0 (u7 l) fun n=>f (.int .i64 (.ofNat n))
noncomputable def b0N (x:AV):(Option ρ):=onL x (obind (p1 (sem .lenL c [x] b s)) f) fun l=>Z0 (u7 l) fun n=>f (.int .i64 (.ofNat n))
noncomputable def b5g (x y:AV):(Option ρ):=onS x none fun l=>onI y none fun _ n=>Int.rec (motive:=fun _=>(Option ρ)) (fun i=>atO l none (fun m=>f (.int .u8 (.ofNat m))) i) (fun _=>none) n
noncomputable def b5m (sz:Nat) (x y:AV):(Option ρ):=onL x (obind (p1 (sem (.iad sz) c [x,y] b s)) f) fun l=>onI y none fun _ n=>Int.rec (motive:=fun _=>(Option ρ)) (fun i=>atO l none (fun r=>cB (Nat.beq (u7 r) sz) (f (.ro r)) none) i) (fun _=>none) n
end

section
variable (c:b7) (b:AV) (s:St) (f:AV→(Option ρ))
theorem c2f (x y:AV):b4p f x y=obind (p1 (sem (.bin .eql) c [x,y] b s)) f:=by
 simp only [b4p,a9a,M1,a0B,E3,a3l,a00,a8z,a0f,sem,m7]
 cases x <;> cases y <;> try rfl
 · rename_i t m u n
   by_cases h:t=u
   · subst h
     cases m <;> cases n <;> simp [j1,p1,obind,eqI]
   · simp [j1,h,p1,obind]
theorem b9t (x y:AV):b4N f x y=obind (p1 (sem (.bin .neq) c [x,y] b s)) f:=by
 simp only [b4N,a9a,M1,a0B,E3,a3l,a00,a8z,a0f,sem,m7]
 cases x <;> cases y <;> try rfl
 · rename_i t m u n
   by_cases h:t=u
   · subst h
     cases m <;> cases n <;> simp [j1,p1,obind,eqI]
     rename_i m n
     by_cases h:m=n
     · subst h; simp
     · have e:Nat.beq m n=false:=Bool.eq_false_iff.mpr (fun q=>h (Nat.eq_of_beq_eq_true q))
       simp [e,h]
   · simp [j1,h,p1,obind]
 · rename_i l r
   simp only [j1,Option.map_some,p1,obind]
   cases eqN l r <;> rfl
theorem b4G {op:BinOp} (ho:op=.lss∨op=.leq∨op=.gtr∨op=.geq) (t:IntKind) (m:Int) (y:AV) (hy:∀ u n,y≠.int u n):j1 op (.int t m) y=none:=by
 cases y <;> first|(exfalso; exact hy _ _ rfl)|(rcases ho with rfl|rfl|rfl|rfl <;> rfl)
theorem d5K {op:BinOp} (ho:op=.lss∨op=.leq∨op=.gtr∨op=.geq) {t u:IntKind} (h:t≠u) (m n:Int):j1 op (.int t m) (.int u n)=none:=by
 rcases ho with rfl|rfl|rfl|rfl <;> simp [j1,h]
theorem a0E (op:BinOp) (g:Nat→Nat→Bool) (ho:op=.lss∨op=.leq∨op=.gtr∨op=.geq) (hg:∀ (t:IntKind) (i j:Nat),j1 op (.int t (.ofNat i)) (.int t (.ofNat j))=some (.bool (g i j))) (x y:AV):T7 c b s f op g x y=obind (p1 (sem (.bin op) c [x,y] b s)) f:=by
 simp only [T7,M1,E3,a3l,a00,a0f]
 cases x <;> try rfl
 rename_i t m
 cases y
 case int u n =>
  simp only
  by_cases h:t=u
  · subst h
    simp only [decide_true,if_true]
    cases m <;> cases n <;> try rfl
    rename_i i j
    simp only [sem,m7,hg,Option.map_some,p1,obind]
  · simp only [h,decide_false,Bool.false_eq_true,if_false,sem,m7,d5K ho h,Option.map_none,p1,obind]
 all_goals (simp only [sem,m7]; rw [b4G ho _ _ _ (by simp)]; rfl)
theorem a2V (t:IntKind) {r:Nat} (h:r < 128):s8 t (Int.ofNat r)=Int.ofNat r:=by
 rw [H8]
 cases t <;> simp [IntKind.wrap,IntKind.signed,IntKind.bits] <;> omega
theorem a4L {r:Nat} (h:r < 9223372036854775808):s8 .i64 (Int.ofNat r)=Int.ofNat r:=by
 simp only [s8]
 rw [if_pos (by simpa using h)]
theorem b6w (t:IntKind):Nat.beq (kIx t) 3=true→t=.i64:=by cases t <;> decide
theorem a3M {op:BinOp} (ho:op=.add∨op=.sub) (t:IntKind) (m:Int) (y:AV) (hy:∀ u n,y≠.int u n):j1 op (.int t m) y=none:=by
 cases y <;> first|(exfalso; exact hy _ _ rfl)|(rcases ho with rfl|rfl <;> rfl)
theorem b9H (x y:AV):b5q c b s f x y=obind (p1 (sem (.bin .add) c [x,y] b s)) f:=by
 simp only [b5q,M1,E3,a3l,a00,a0f,K6]
 cases x <;> try rfl
 rename_i t m
 cases y
 case int u n =>
  simp only
  by_cases h:t=u
  · subst h
    simp only [decide_true,if_true]
    cases m <;> cases n <;> try rfl
    rename_i i j
    dsimp only
    have e:∀ r,Nat.add i j=r→s8 t (Int.ofNat r)=Int.ofNat r→f (.int t (.ofNat r))=obind (p1 (sem (.bin .add) c [.int t (.ofNat i),.int t (.ofNat j)] b s)) f:=fun r hr hw=>by
     subst hr
     simp only [sem,m7,j1,if_true,a8F,hw,Option.map_some,p1,obind]
    split
    · rename_i hl
      exact e _ rfl (a2V t (by simpa using hl))
    · split
      · rename_i hk
        have:=b6w t hk
        subst this
        split
        · rename_i hl
          exact e _ rfl (a4L (by simpa using hl))
        · rfl
      · rfl
  · simp only [h,decide_false,Bool.false_eq_true,if_false,sem,m7,j1,Option.map_none,p1,obind]
 all_goals (simp only [sem,m7]; rw [a3M (.inl rfl) _ _ _ (by simp)]; rfl)
theorem b9B (x y:AV):b43 c b s f x y=obind (p1 (sem (.bin .sub) c [x,y] b s)) f:=by
 simp only [b43,M1,E3,a3l,a00,a0f,K6]
 cases x <;> try rfl
 rename_i t m
 cases y
 case int u n =>
  simp only
  by_cases h:t=u
  · subst h
    simp only [decide_true,if_true]
    cases m <;> cases n <;> try rfl
    rename_i i j
    dsimp only
    split
    · rename_i hle
      have e:∀ r,Nat.sub i j=r→s8 t (Int.ofNat r)=Int.ofNat r→f (.int t (.ofNat r))=obind (p1 (sem (.bin .sub) c [.int t (.ofNat i),.int t (.ofNat j)] b s)) f:=fun r hr hw=>by
       subst hr
       simp only [sem,m7,j1,if_true,a8D,hle,hw,Option.map_some,p1,obind]
      split
      · rename_i hl
        exact e _ rfl (a2V t (by simpa using hl))
      · split
        · rename_i hk
          have:=b6w t hk
          subst this
          split
          · rename_i hl
            exact e _ rfl (a4L (by simpa using hl))
          · rfl
        · rfl
    · rfl
  · simp only [h,decide_false,Bool.false_eq_true,if_false,sem,m7,j1,Option.map_none,p1,obind]
 all_goals (simp only [sem,m7]; rw [a3M (.inr rfl) _ _ _ (by simp)]; rfl)
theorem c0j (x:AV):b4r f x=obind (p1 (sem (.un .not) c [x] b s)) f:=by
 simp only [b4r,a8u,E3,sem]
 cases x <;> try rfl
 rename_i y; cases y <;> rfl
theorem b46 (x y z:AV):b1k f x y z=obind (p1 (sem .pick c [x,y,z] b s)) f:=by
 simp only [b1k,a6u,a8u,E3,sem]
 cases x <;> try rfl
 rename_i v
 cases v
 · simp only [n8,Bool.false_eq_true,if_false]; split <;> rfl
 · simp only [n8,if_true]; split <;> rfl
theorem c0r (x:AV):b37 c b s f x=obind (p1 (sem .nilchk c [x] b s)) f:=by
 simp only [b37,a1X]
 cases x <;> rfl
theorem c1F (d:Nat) (x:AV):b36 f d x=obind (p1 (sem (.fad d) c [x] b s)) f:=by
 simp only [b36,a1X,K6,Q5]
 cases x <;> rfl
theorem Z1 (ag:Bool) (n:Nat) (cs:List AV):a0P f ag n cs=match g9 ag n cs with|some v=>f v|none=>none:=by
 simp only [a0P,E3,b5r,r6,Y7,a9C,b2o]
 cases ag
 · cases cs <;> rfl
 · simp only [g9,if_true]
   by_cases h:n≤cs.length
   · have e:Nat.ble n cs.length=true:=by simpa using h
     simp only [e,h,if_true]
   · have e:Nat.ble n cs.length=false:=Bool.eq_false_iff.mpr (fun q=>h (Nat.le_of_ble_eq_true q))
     simp only [e,h,Bool.false_eq_true,if_false]
theorem a5F (x:Obj) (k:List AV→(Option ρ)):a7t x k=match x with|.cells cs=>k cs|_=>none:=by cases x <;> rfl
theorem a8r {x:Option AV}:obind (p1 (x.map fun v=>(v,b,s))) f=match x with|some v=>f v|none=>none:=by cases x <;> rfl
theorem a8H (ag:Bool) (n:Nat) (x:AV):a2J s f ag n x=obind (p1 (sem (.ldSt ag n) c [x] b s)) f:=by
 simp only [a2J,b1B,a9Q,a5F,Z1,Q5]
 cases x <;> try rfl
 rename_i o i
 simp only [sem,n9]
 cases s[o]? with
 | none=>rfl
 | some ob=>cases ob <;> first|rfl|exact (a8r b s f).symm
theorem a8p (ag:Bool) (n:Nat) (x:AV):a2H f ag n x=obind (p1 (sem (.ldRo ag n) c [x] b s)) f:=by
 simp only [a2H,c7w,Z1]
 cases x <;> try rfl
 exact (a8r b s f).symm
theorem b3O (i:Nat) (ag:Bool) (n:Nat) (x:AV):b0L b f i ag n x=obind (p1 (sem (.ldLc i ag n) c [x] b s)) f:=by
 simp only [b0L,a8Q,a4k,Z1,Q5,E3]
 cases x <;> try rfl
 rename_i j off
 cases b <;> try rfl
 rename_i cs
 simp only [sem,B2]
 by_cases h:i=j
 · simp only [h,Nat.beq_refl,if_true]
   exact (a8r _ s f).symm
 · have:Nat.beq i j=false:=Bool.eq_false_iff.mpr (fun q=>h (Nat.eq_of_beq_eq_true q))
   simp only [this,h,Bool.false_eq_true,if_false]
   rfl
theorem b33 (x:AV):b0O f x=obind (p1 (sem .lenS c [x] b s)) f:=by
 simp only [b0O,a0B,K6,r6]
 cases x <;> rfl
theorem b38 (x:AV):b0N c b s f x=obind (p1 (sem .lenL c [x] b s)) f:=by
 simp only [b0N,a6C,K6,r6]
 cases x <;> rfl
theorem b9X (x y:AV):b5g f x y=obind (p1 (sem .idxS c [x,y] b s)) f:=by
 simp only [b5g,a0B,M1,b3h]
 cases x <;> try rfl
 cases y <;> try rfl
 rename_i l k n
 simp only [sem,D8]
 cases n with
 | ofNat i =>
  have e:(Int.ofNat i).toNat=i:=rfl
  simp only [Int.ofNat_eq_natCast,Int.natCast_nonneg,if_true,Int.toNat_natCast]
  cases l[i]? <;> rfl
 | negSucc i=>rfl
theorem c2a (sz:Nat) (x y:AV):b5m c b s f sz x y=obind (p1 (sem (.iad sz) c [x,y] b s)) f:=by
 simp only [b5m,a6C,M1,b3h,E3,r6]
 cases x <;> try rfl
 cases y <;> try rfl
 rename_i w l k n
 simp only [sem,F2]
 cases n with
 | ofNat i =>
  simp only [Int.ofNat_eq_natCast,Int.natCast_nonneg,if_true,Int.toNat_natCast]
  cases l[i]? with
  | none=>rfl
  | some r =>
   by_cases h:r.length=sz
   · have:Nat.beq r.length sz=true:=by rw [h]; exact Nat.beq_refl sz
     simp only [this,if_true,if_pos h]
     rfl
   · have:Nat.beq r.length sz=false:=Bool.eq_false_iff.mpr (fun q=>h (Nat.eq_of_beq_eq_true q))
     simp only [this,h,Bool.false_eq_true,if_false]
     rfl
 | negSucc i=>rfl
end
noncomputable def qSb (x:AV) (k:AV→AV→(Option ρ)):(Option ρ):=AV.rec (motive_1:=fun _=>(Option ρ)) (motive_2:=fun _=>Unit) (motive_3:=fun _=>Unit)
 (k .undef .undef)
 (fun b=>k (.bool b) (.bool b))
 (fun t n=>k (.int t n) (.int t n))
 (fun s=>k (.str s) (.str s))
 (fun o xs _=>k (.list o xs) (.list false xs))
 (fun o f=>k (.ptr o f) (.ptr o f))
 (k .nilp .nilp)
 (fun cs _=>k (.ro cs) (.ro cs))
 (fun i f=>k (.loc i f) (.loc i f))
 (fun cs _=>k .undef .undef)
 (fun o=>k (.map o) (.map o))
 (k .nilm .nilm)
 (fun f a c _ _=>k (.func f a c) (.func f a c))
 (k .nilf .nilf)
 (fun cs _=>k (.agg cs) (.agg (cs.map AV.weak1)))
 (fun vs _=>k (.tuple vs) (.tuple vs))
 (fun t v _=>k (.iface t v) (.iface t v))
 (k .nili .nili)
 (fun o f n s=>k (.sl o f n s) (.sl o f n s))
 (fun xs _=>k (.fresh xs) (.fresh xs))
 (k .nils .nils)
 () (fun _ _ _ _=>()) () (fun _ _ _ _=>()) x
noncomputable def qSv (x:AV) (k:AV→AV→(Option ρ)):(Option ρ):=AV.rec (motive_1:=fun _=>(Option ρ)) (motive_2:=fun _=>Unit) (motive_3:=fun _=>Unit)
 (k .undef .undef)
 (fun b=>k (.bool b) (.bool b))
 (fun t n=>k (.int t n) (.int t n))
 (fun s=>k (.str s) (.str s))
 (fun o xs _=>k (.list o xs) (.list false xs))
 (fun o f=>k (.ptr o f) (.ptr o f))
 (k .nilp .nilp)
 (fun cs _=>k (.ro cs) (.ro cs))
 (fun i f=>k .undef .undef)
 (fun cs _=>k .undef .undef)
 (fun o=>k (.map o) (.map o))
 (k .nilm .nilm)
 (fun f a c _ _=>k (.func f a c) (.func f a c))
 (k .nilf .nilf)
 (fun cs _=>k (.agg cs) (.agg (cs.map AV.weak1)))
 (fun vs _=>k (.tuple vs) (.tuple vs))
 (fun t v _=>k (.iface t v) (.iface t v))
 (k .nili .nili)
 (fun o f n s=>k (.sl o f n s) (.sl o f n s))
 (fun xs _=>k (.fresh xs) (.fresh xs))
 (k .nils .nils)
 () (fun _ _ _ _=>()) () (fun _ _ _ _=>()) x
noncomputable def qWk (x:AV) (k:AV→(Option ρ)):(Option ρ):=AV.rec (motive_1:=fun _=>(Option ρ)) (motive_2:=fun _=>Unit) (motive_3:=fun _=>Unit)
 (k .undef)
 (fun b=>k (.bool b))
 (fun t n=>k (.int t n))
 (fun s=>k (.str s))
 (fun o xs _=>k (.list false xs))
 (fun o f=>k (.ptr o f))
 (k .nilp)
 (fun cs _=>k (.ro cs))
 (fun i f=>k (.loc i f))
 (fun cs _=>k (.box cs))
 (fun o=>k (.map o))
 (k .nilm)
 (fun f a c _ _=>k (.func f a c))
 (k .nilf)
 (fun cs _=>k (.agg (cs.map AV.weak1)))
 (fun vs _=>k (.tuple vs))
 (fun t v _=>k (.iface t v))
 (k .nili)
 (fun o f n s=>k (.sl o f n s))
 (fun xs _=>k (.fresh xs))
 (k .nils)
 () (fun _ _ _ _=>()) () (fun _ _ _ _=>()) x
theorem b2D (x:AV) (k:AV→AV→(Option ρ)):qSb x k=k (AV.stripB x) (AV.weak (AV.stripB x)):=by cases x <;> rfl
theorem d7z (x:AV) (k:AV→AV→(Option ρ)):qSv x k=k (AV.strip x) (AV.weak (AV.strip x)):=by cases x <;> rfl
theorem Q2 (x:AV) (k:AV→(Option ρ)):qWk x k=k (AV.weak x):=by cases x <;> rfl
noncomputable def onT (x:AV) (k:List AV→(Option ρ)):(Option ρ):=AV.rec (motive_1:=fun _=>(Option ρ)) (motive_2:=fun _=>Unit) (motive_3:=fun _=>Unit)
 (none)
 (fun b=>none)
 (fun t n=>none)
 (fun s=>none)
 (fun o xs _=>none)
 (fun o f=>none)
 (none)
 (fun cs _=>none)
 (fun i f=>none)
 (fun cs _=>none)
 (fun o=>none)
 (none)
 (fun f a c _ _=>none)
 (none)
 (fun cs _=>none)
 (fun vs _=>k vs)
 (fun t v _=>none)
 (none)
 (fun o f n s=>none)
 (fun xs _=>none)
 (none)
 () (fun _ _ _ _=>()) () (fun _ _ _ _=>()) x
theorem c6K (x:AV) (k:List AV→(Option ρ)):onT x k=match x with|.tuple vs=>k vs|_=>none:=by cases x <;> rfl
noncomputable def c70 (x:AV) (e:(Option ρ)) (k:Bool→List (List AV)→(Option ρ)):(Option ρ):=AV.rec (motive_1:=fun _=>(Option ρ)) (motive_2:=fun _=>Unit) (motive_3:=fun _=>Unit)
 (e)
 (fun b=>e)
 (fun t n=>e)
 (fun s=>e)
 (fun o xs _=>k o xs)
 (fun o f=>e)
 (e)
 (fun cs _=>e)
 (fun i f=>e)
 (fun cs _=>e)
 (fun o=>e)
 (e)
 (fun f a c _ _=>e)
 (e)
 (fun cs _=>e)
 (fun vs _=>e)
 (fun t v _=>e)
 (e)
 (fun o f n s=>e)
 (fun xs _=>e)
 (e)
 () (fun _ _ _ _=>()) () (fun _ _ _ _=>()) x
theorem c05 (x:AV) (e:(Option ρ)) (k:Bool→List (List AV)→(Option ρ)):c70 x e k=match x with|.list o xs=>k o xs|_=>e:=by cases x <;> rfl
noncomputable def onU (x:AV) (k:(Option ρ)):(Option ρ):=AV.rec (motive_1:=fun _=>(Option ρ)) (motive_2:=fun _=>Unit) (motive_3:=fun _=>Unit)
 (k)
 (fun b=>none)
 (fun t n=>none)
 (fun s=>none)
 (fun o xs _=>none)
 (fun o f=>none)
 (none)
 (fun cs _=>none)
 (fun i f=>none)
 (fun cs _=>none)
 (fun o=>none)
 (none)
 (fun f a c _ _=>none)
 (none)
 (fun cs _=>none)
 (fun vs _=>none)
 (fun t v _=>none)
 (none)
 (fun o f n s=>none)
 (fun xs _=>none)
 (none)
 () (fun _ _ _ _=>()) () (fun _ _ _ _=>()) x
theorem d4w (x:AV) (k:(Option ρ)):onU x k=match x with|.undef=>k|_=>none:=by cases x <;> rfl
noncomputable def onC (x:AV) (k:List AV→(Option ρ)):(Option ρ):=AV.rec (motive_1:=fun _=>(Option ρ)) (motive_2:=fun _=>Unit) (motive_3:=fun _=>Unit)
 (k [.undef])
 (fun b=>k [(.bool b)])
 (fun t n=>k [(.int t n)])
 (fun s=>k [(.str s)])
 (fun o xs _=>k [(.list o xs)])
 (fun o f=>k [(.ptr o f)])
 (k [.nilp])
 (fun cs _=>k [(.ro cs)])
 (fun i f=>k [(.loc i f)])
 (fun cs _=>k [(.box cs)])
 (fun o=>k [(.map o)])
 (k [.nilm])
 (fun f a c _ _=>k [(.func f a c)])
 (k [.nilf])
 (fun cs _=>k cs)
 (fun vs _=>k [(.tuple vs)])
 (fun t v _=>k [(.iface t v)])
 (k [.nili])
 (fun o f n s=>k [(.sl o f n s)])
 (fun xs _=>k [(.fresh xs)])
 (k [.nils])
 () (fun _ _ _ _=>()) () (fun _ _ _ _=>()) x
theorem b2d (x:AV) (k:List AV→(Option ρ)):onC x k=k x.cells:=by cases x <;> rfl
noncomputable def plB (x:AV) (k:(Option ρ)):(Option ρ):=AV.rec (motive_1:=fun _=>(Option ρ)) (motive_2:=fun _=>Unit) (motive_3:=fun _=>Unit)
 (none)
 (fun b=>k)
 (fun t n=>k)
 (fun s=>k)
 (fun o xs _=>k)
 (fun o f=>k)
 (k)
 (fun cs _=>k)
 (fun i f=>none)
 (fun cs _=>none)
 (fun o=>k)
 (k)
 (fun f a c _ _=>k)
 (k)
 (fun cs _=>k)
 (fun vs _=>none)
 (fun t v _=>k)
 (k)
 (fun o f n s=>k)
 (fun xs _=>none)
 (k)
 () (fun _ _ _ _=>()) () (fun _ _ _ _=>()) x
theorem a2T (x:AV) (k:(Option ρ)):plB x k=if x.plain then k else none:=by cases x <;> rfl
noncomputable def b4v (f:AV→(Option ρ)) (d:Nat) (x:AV):(Option ρ):=onT x fun vs=>Z6 vs none (fun v=>qWk v f) d
theorem b7t (c:b7) (b:AV) (s:St) (f:AV→(Option ρ)) (d:Nat) (x:AV):b4v f d x=obind (p1 (sem (.ext d) c [x] b s)) f:=by
 simp only [b4v,c6K,W1,Q2]
 cases x <;> try rfl
 rename_i vs
 simp only [sem,G8]
 cases vs[d]? <;> rfl
noncomputable def a2j (xs:List AV) (k:List AV→(Option ρ)):(Option ρ):=List.rec (motive:=fun _=>(List AV→(Option ρ))→(Option ρ)) (fun k=>k []) (fun a _ ih k=>plB a (qWk a fun w=>ih fun ws=>k (w::ws))) xs k
theorem a0u:∀ (xs:List AV) (k:List AV→(Option ρ)),a2j xs k=if l7 xs then k (xs.map AV.weak) else none
 | [],k=>rfl
 | a::xs,k=>by
  show plB a (qWk a fun w=>a2j xs fun ws=>k (w::ws))=_
  rw [a2T,Q2,a0u xs]
  simp only [l7,Bool.and_eq_true,List.map_cons]
  by_cases h1:a.plain=true <;> by_cases h2:l7 xs=true <;> simp [h1,h2]
noncomputable def b31 (x:Option (AV×St)) (k:AV→St→(Option ρ)):(Option ρ):=Option.rec (motive:=fun _=>(Option ρ)) none (fun p=>Prod.rec (motive:=fun _=>(Option ρ)) (fun v s=>k v s) p) x
theorem a9r (x:Option (AV×St)) (k:AV→St→(Option ρ)):b31 x k=match x with|some (v,s)=>k v s|none=>none:=by cases x <;> rfl
noncomputable def b4F (c:b7) (b:AV) (s:St) (f:AV→(Option ρ)) (x y z:AV):(Option ρ):=onS x none fun l=>onI z none fun _ m=>onI y (obind (p1 (sem (.slS true true) c [x,y,z] b s)) f) fun _ i=>nn i m (obind (p1 (sem (.slS true true) c [x,y,z] b s)) f) fun i m =>
 cB (Nat.ble m (u7 l)) (cB (Nat.ble i m) (a6d (Nat.sub m i) (a6g i l) fun r=>f (.str r)) none) none
theorem c08 (c:b7) (b:AV) (s:St) (f:AV→(Option ρ)) (x y z:AV):b4F c b s f x y z=obind (p1 (sem (.slS true true) c [x,y,z] b s)) f:=by
 simp only [b4F,a0B,M1,a00,E3,Y7,a2c,r6]
 cases x <;> try rfl
 cases z <;> try rfl
 cases y <;> try rfl
 rename_i l _ m _ i
 cases i <;> cases m <;> try rfl
 rename_i i m
 simp only [sem,H1,q7,E1,Int.ofNat_eq_natCast,Int.natCast_nonneg,true_and,Int.toNat_natCast,Int.ofNat_le,Nat.ble_eq]
 by_cases h1:m≤l.length
 · simp only [h1,if_true]
   by_cases h2:i≤m
   · simp only [h2,if_true,Option.map_some,p1,obind]
     rw [List.drop_take]
     rfl
   · simp only [h2,if_false]
     rfl
 · simp only [h1,if_false]
   rfl
noncomputable def b08 (sz:Nat) (l:List (List AV)):Bool:=List.rec (motive:=fun _=>Bool) true (fun r _ _=>Nat.beq (u7 r) sz) l
theorem b4h (sz:Nat) (l:List (List AV)):b08 sz l=j6 sz l:=by
 cases l with
 | nil=>rfl
 | cons r l =>
  show Nat.beq (u7 r) sz=(r.length == sz)
  rw [r6,Bool.eq_iff_iff]
  simp
noncomputable def b5n (b:AV) (s:St) (f:AV×AV×St→(Option ρ)) (d e:Nat) (x y:AV):(Option ρ):=c70 x none fun o xs=>onL y none fun ys=>cB o (cB (b08 d xs) (cB (b08 d ys) (cB (Nat.ble (Nat.mul (Nat.add (u7 xs) (u7 ys)) e) 140737488355328) (T5 xs ys fun r=>f (.list true r,b,s)) none) none) none) none
theorem c1I (c:b7) (b:AV) (s:St) (f:AV×AV×St→(Option ρ)) (d e:Nat) (x y:AV):b5n b s f d e x y=obind (sem (.app d e) c [x,y] b s) f:=by
 simp only [b5n,c05,a6C,E3,b4h,r6,U4]
 cases x <;> try rfl
 rename_i o xs
 cases y <;> try (cases o <;> rfl)
 rename_i o2 ys
 cases o <;> try rfl
 simp only [sem,I5,if_true]
 have e1:(Nat.ble (Nat.mul (Nat.add xs.length ys.length) e) 140737488355328)=decide ((xs.length+ys.length)*e≤2 ^ 47):=by
  rw [Bool.eq_iff_iff]
  simp
 rw [e1]
 cases j6 d xs <;> cases j6 d ys <;> try rfl
 simp only [Bool.true_and,if_true]
 split <;> rfl
noncomputable def a7w (b:AV) (s:St) (f:AV×AV×St→(Option ρ)) (d:List AV):(Option ρ):=onU b (f (.undef,.box d,s))
theorem b1w (c:b7) (b:AV) (s:St) (f:AV×AV×St→(Option ρ)) (d:List AV):a7w b s f d=obind (sem (.alloc d) c [] b s) f:=by
 simp only [a7w,d4w]
 cases b <;> rfl
noncomputable def b01 (cs:List AV) (off:Nat) (new:List AV) (k:List AV→(Option ρ)):(Option ρ):=a6d off cs fun a=>T5 new (a2l (Nat.add off (u7 new)) cs) fun t=>T5 a t k
theorem a9R (cs:List AV) (off:Nat) (new:List AV) (k:List AV→(Option ρ)):b01 cs off new k=k (k8 cs off new):=by
 simp only [b01,Y7,U4,Q5,r6,k8,List.append_assoc]
 rfl
noncomputable def b1o (b:AV) (s:St) (f:AV×AV×St→(Option ρ)) (i d:Nat) (x y:AV):(Option ρ):=b3W x none fun j off=>b0v b none fun cs=>cB (Nat.beq i j) (plB y (onC y fun new=>cB (Nat.beq (u7 new) d) (cB (Nat.ble (Nat.add off d) (u7 cs)) (b01 cs off new fun r=>f (.tuple [],.box r,s)) none) none)) none
theorem b6O (a b:Nat):(Nat.beq a b=true)=(a=b):=by simp
theorem b6P (a b:Nat):(Nat.ble a b=true)=(a≤b):=by simp
theorem b34 (c:b7) (b:AV) (s:St) (f:AV×AV×St→(Option ρ)) (i d:Nat) (x y:AV):b1o b s f i d x y=obind (sem (.stLc i d) c [x,y] b s) f:=by
 simp only [b1o,a8Q,a4k,E3,a2T,b2d,r6,a9R,b6O,b6P]
 cases x <;> try rfl
 rename_i j off
 cases b <;> try rfl
 rename_i cs
 simp only [sem,G1]
 by_cases h1:i=j <;> by_cases h2:y.plain=true <;> by_cases h3:y.cells.length=d <;> by_cases h4:off+d≤cs.length <;> simp [h1,h2,h3,h4,obind]
noncomputable def a7r {β:Type} (l:List β) (i:Nat) (x:β) (k:List β→(Option ρ)):(Option ρ):=List.rec (motive:=fun _=>Nat→(List β→(Option ρ))→(Option ρ)) (fun _ k=>k []) (fun a t ih i k=>Nat.rec (motive:=fun _=>(Option ρ)) (k (x::t)) (fun j _=>ih j fun r=>k (a::r)) i) l i k
theorem a8S {β:Type} (x:β):∀ (l:List β) (i:Nat) (k:List β→(Option ρ)),a7r l i x k=k (l.set i x)
 | [],_,_=>rfl
 | a::l,0,k=>rfl
 | a::l,i+1,k=>a8S x l i fun r=>k (a::r)
noncomputable def b4X {β:Type} (l:List β) (i:Nat) (x:β) (k:List β→(Option ρ)):(Option ρ):=Nat.rec (motive:=fun _=>List β→(List β→(Option ρ))→(Option ρ)) (fun l k=>a7r l (Nat.mod i 8) x k) (fun _ ih l k=>K0 l (k l) ih k) (Nat.div i 8) l k
theorem a9X {β:Type} (x:β) (r:Nat):∀ (q:Nat) (l:List β) (k:List β→(Option ρ)),Nat.rec (motive:=fun _=>List β→(List β→(Option ρ))→(Option ρ)) (fun l k=>a7r l r x k) (fun _ ih l k=>K0 l (k l) ih k) q l k=k (l.set (8*q+r) x)
 | 0,l,k=>by show a7r l r x k=_; rw [a8S,Nat.mul_zero,Nat.zero_add]
 | q+1,l,k=>by
  show K0 l (k l) (fun l k=>Nat.rec (motive:=fun _=>List β→(List β→(Option ρ))→(Option ρ)) (fun l k=>a7r l r x k) (fun _ ih l k=>K0 l (k l) ih k) q l k) k=_
  rw [a4e]
  split
  · rename_i h
    rw [a9X x r q (l.drop 8)]
    congr 1
    rw [show 8*(q+1)+r=8+(8*q+r) by omega]
    conv=>rhs; rw [← List.take_append_drop 8 l]
    rw [List.set_append_right _ _ (by rw [List.length_take]; omega),List.length_take,Nat.min_eq_left h,Nat.add_sub_cancel_left]
  · rename_i h
    rw [List.set_eq_of_length_le (by omega)]
theorem c0J {β:Type} (x:β) (l:List β) (i:Nat) (k:List β→(Option ρ)):b4X l i x k=k (l.set i x):=by
 unfold b4X
 rw [a9X x (Nat.mod i 8) (Nat.div i 8) l k,show 8*Nat.div i 8+Nat.mod i 8=i from Nat.div_add_mod i 8]
noncomputable def b07 (s:St) (f:AV×St→(Option ρ)) (d:Nat) (x y:AV):(Option ρ):=onP x none fun o off=>b0B s none (fun ob=>a7t ob fun cs=>plB y (onC y fun new=>cB (Nat.beq (u7 new) d) (cB (Nat.ble (Nat.add off d) (u7 cs)) (b01 cs off new fun r=>b4X s o (.cells r) fun s=>f (.tuple [],s)) none) none)) o
theorem b5b (c:b7) (b:AV) (s:St) (f:AV×St→(Option ρ)) (d:Nat) (x y:AV):b07 s f d x y=obind (p2 (sem (.stSt d) c [x,y] b s)) f:=by
 simp only [b07,b1B,a9Q,a5F,E3,a2T,b2d,r6,a9R,c0J,b6O,b6P]
 cases x <;> try rfl
 rename_i o off
 simp only [sem,r5,fL_eq]
 cases s[o]? with
 | none=>rfl
 | some ob =>
  cases ob <;> try rfl
  rename_i cs
  by_cases h2:y.plain=true <;> by_cases h3:y.cells.length=d <;> by_cases h4:off+d≤cs.length <;> simp [h2,h3,h4,obind,p2]
noncomputable def bW (v w:Bool) (x y:(Option ρ)):(Option ρ):=Bool.rec (motive:=fun _=>(Option ρ)) (Bool.rec (motive:=fun _=>(Option ρ)) x y w) (Bool.rec (motive:=fun _=>(Option ρ)) y x w) v
theorem e8k (v w:Bool) (x y:(Option ρ)):bW v w x y=if v == w then x else y:=by cases v <;> cases w <;> rfl
theorem nb (i j:Nat):(!Nat.blt j i)=Nat.ble i j:=by
 have h1:(Nat.blt j i=true) ↔ j < i:=by simp
 have h2:(Nat.ble i j=true) ↔ i≤j:=by simp
 cases hb:Nat.blt j i <;> cases hc:Nat.ble i j <;> simp only [hb,hc,true_iff,false_iff,Bool.false_eq_true] at h1 h2 <;> first|rfl|omega
theorem d1V (c:b7) (b:AV) (s:St) (f:AV→(Option ρ)) (x y:AV):T7 c b s f .lss Nat.blt x y=obind (p1 (sem (.bin .lss) c [x,y] b s)) f:=a0E c b s f .lss _ (by simp) (fun t i j=>by simp [j1,ltI]) x y
theorem d1W (c:b7) (b:AV) (s:St) (f:AV→(Option ρ)) (x y:AV):T7 c b s f .leq Nat.ble x y=obind (p1 (sem (.bin .leq) c [x,y] b s)) f:=a0E c b s f .leq _ (by simp) (fun t i j=>by simp only [j1,if_true,Int.ofNat_eq_natCast]; rw [show ∀ a b:Nat,ltI (a:Int) (b:Int)=Nat.blt a b from fun _ _=>rfl,nb]) x y
theorem d2G (c:b7) (b:AV) (s:St) (f:AV→(Option ρ)) (x y:AV):T7 c b s f .gtr (fun i j=>Nat.blt j i) x y=obind (p1 (sem (.bin .gtr) c [x,y] b s)) f:=a0E c b s f .gtr _ (by simp) (fun t i j=>by simp [j1,ltI]) x y
theorem d55 (c:b7) (b:AV) (s:St) (f:AV→(Option ρ)) (x y:AV):T7 c b s f .geq (fun i j=>Nat.ble j i) x y=obind (p1 (sem (.bin .geq) c [x,y] b s)) f:=a0E c b s f .geq _ (by simp) (fun t i j=>by simp only [j1,if_true,Int.ofNat_eq_natCast]; rw [show ∀ a b:Nat,ltI (a:Int) (b:Int)=Nat.blt a b from fun _ _=>rfl,nb]) x y

end Go.Cb.G
/-
 THE ABSTRACT MACHINE, part 43: frames of eight times eight, whose places are found at once.
-/
set_option maxRecDepth 4000
set_option linter.unusedVariables false
namespace Go.Cb.G
open Go Go.Cb
inductive W8 (α:Type) where
 | mk (x0 x1 x2 x3 x4 x5 x6 x7:α)
abbrev Fr:=W8 (W8 AV)
def pk8 {α:Type} (i:Nat) (w:W8 α):α:=match w with
 | .mk x0 x1 x2 x3 x4 x5 x6 x7=>match i with
  | 0=>x0
  | 1=>x1
  | 2=>x2
  | 3=>x3
  | 4=>x4
  | 5=>x5
  | 6=>x6
  | _=>x7
def st8 {α:Type} (i:Nat) (x:α) (w:W8 α):W8 α:=match w with
 | .mk x0 x1 x2 x3 x4 x5 x6 x7=>match i with
  | 0=>.mk x x1 x2 x3 x4 x5 x6 x7
  | 1=>.mk x0 x x2 x3 x4 x5 x6 x7
  | 2=>.mk x0 x1 x x3 x4 x5 x6 x7
  | 3=>.mk x0 x1 x2 x x4 x5 x6 x7
  | 4=>.mk x0 x1 x2 x3 x x5 x6 x7
  | 5=>.mk x0 x1 x2 x3 x4 x x6 x7
  | 6=>.mk x0 x1 x2 x3 x4 x5 x x7
  | _=>.mk x0 x1 x2 x3 x4 x5 x6 x
theorem lt8 {i:Nat} (h:i < 8):i=0∨i=1∨i=2∨i=3∨i=4∨i=5∨i=6∨i=7:=by omega
theorem b2G {α:Type} {i j:Nat} (hi:i < 8) (hj:j < 8) (x:α) (w:W8 α):pk8 j (st8 i x w)=if j=i then x else pk8 j w:=by
 cases w
 rcases lt8 hi with rfl|rfl|rfl|rfl|rfl|rfl|rfl|rfl <;> rcases lt8 hj with rfl|rfl|rfl|rfl|rfl|rfl|rfl|rfl <;> rfl
def I9 (i:Nat) (fr:Fr):AV:=pk8 (i % 8) (pk8 (i / 8) fr)
def S6 (i:Nat) (x:AV) (fr:Fr):Fr:=st8 (i / 8) (st8 (i % 8) x (pk8 (i / 8) fr)) fr
theorem U3 {i j:Nat} (hi:i < 64) (hj:j < 64) (x:AV) (fr:Fr):I9 j (S6 i x fr)=if j=i then x else I9 j fr:=by
 unfold I9 S6
 rw [b2G (by omega) (by omega)]
 by_cases h:j / 8=i / 8
 · rw [if_pos h,b2G (by omega) (by omega),← h]
   by_cases h2:j % 8=i % 8
   · rw [if_pos h2,if_pos (by omega)]
   · rw [if_neg h2,if_neg (by omega)]
 · rw [if_neg h,if_neg (by intro e; exact h (by rw [e]))]
def toL (nv:Nat) (fr:Fr):List AV:=(List.range nv).map fun i=>I9 i fr
theorem c3r (nv:Nat) (fr:Fr):(toL nv fr).length=nv:=by simp [toL]
theorem D6 {i nv:Nat} (h:i < nv) (fr:Fr):(toL nv fr).getD i .undef=I9 i fr:=by simp [toL,List.getD,h]
theorem W4 {i nv:Nat} (h:i < nv) (hn:nv≤64) (x:AV) (fr:Fr):(toL nv fr).set i x=toL nv (S6 i x fr):=by
 apply List.ext_getElem
 · simp [toL]
 · intro j h1 h2
   have hj:j < nv:=by simpa [toL] using h1
   rw [List.getElem_set]
   simp only [toL,List.getElem_map,List.getElem_range]
   rw [U3 (by omega) (by omega)]
   by_cases e:i=j
   · rw [if_pos e,if_pos e.symm]
   · rw [if_neg e,if_neg (fun q=>e q.symm)]
theorem a1g {i nv:Nat} (h:¬ i < nv) (x:AV) (fr:Fr):(toL nv fr).set i x=toL nv fr:=List.set_eq_of_length_le (by rw [c3r]; omega)

noncomputable def a7Y {α β:Type} (i:Nat) (e:β) (Q:α→β) (x0 x1 x2 x3 x4 x5 x6 x7:α):β :=
 Nat.rec (motive:=fun _=>β) (Q x0) (fun i _=>Nat.rec (motive:=fun _=>β) (Q x1) (fun i _=>Nat.rec (motive:=fun _=>β) (Q x2) (fun i _=>Nat.rec (motive:=fun _=>β) (Q x3) (fun i _=>Nat.rec (motive:=fun _=>β) (Q x4) (fun i _=>Nat.rec (motive:=fun _=>β) (Q x5) (fun i _=>Nat.rec (motive:=fun _=>β) (Q x6) (fun i _=>Nat.rec (motive:=fun _=>β) (Q x7) (fun i _=>e) i) i) i) i) i) i) i) i
theorem S7 {α β:Type} {G:β→Prop} {i:Nat} {e:β} {Q:α→β} {x0 x1 x2 x3 x4 x5 x6 x7:α} (he:G e) (h0:i=0→G (Q x0)) (h1:i=1→G (Q x1)) (h2:i=2→G (Q x2)) (h3:i=3→G (Q x3)) (h4:i=4→G (Q x4)) (h5:i=5→G (Q x5)) (h6:i=6→G (Q x6)) (h7:i=7→G (Q x7)):G (a7Y i e Q x0 x1 x2 x3 x4 x5 x6 x7):=by
 match i,h0,h1,h2,h3,h4,h5,h6,h7 with
 | 0,h,_,_,_,_,_,_,_=>exact h rfl
 | 1,_,h,_,_,_,_,_,_=>exact h rfl
 | 2,_,_,h,_,_,_,_,_=>exact h rfl
 | 3,_,_,_,h,_,_,_,_=>exact h rfl
 | 4,_,_,_,_,h,_,_,_=>exact h rfl
 | 5,_,_,_,_,_,h,_,_=>exact h rfl
 | 6,_,_,_,_,_,_,h,_=>exact h rfl
 | 7,_,_,_,_,_,_,_,h=>exact h rfl
 | _+8,_,_,_,_,_,_,_,_=>exact he
abbrev Gt (ρ:Type):=Fr→(AV→Option ρ)→Option ρ
abbrev Wr (ρ:Type):=AV→Fr→(Fr→Option ρ)→Option ρ
section
variable {ρ β:Type}
noncomputable def Y6 (i:Nat) (e:β) (Q:Gt ρ→β):β:=a7Y (i / 8) e (fun o:Fr→(W8 AV→Option ρ)→Option ρ=>a7Y (i % 8) e (fun n:W8 AV→(AV→Option ρ)→Option ρ=>Q fun fr k=>o fr fun w=>n w k)
 (fun w k=>W8.rec (motive:=fun _=>Option ρ) (fun x0 x1 x2 x3 x4 x5 x6 x7=>k x0) w)
 (fun w k=>W8.rec (motive:=fun _=>Option ρ) (fun x0 x1 x2 x3 x4 x5 x6 x7=>k x1) w)
 (fun w k=>W8.rec (motive:=fun _=>Option ρ) (fun x0 x1 x2 x3 x4 x5 x6 x7=>k x2) w)
 (fun w k=>W8.rec (motive:=fun _=>Option ρ) (fun x0 x1 x2 x3 x4 x5 x6 x7=>k x3) w)
 (fun w k=>W8.rec (motive:=fun _=>Option ρ) (fun x0 x1 x2 x3 x4 x5 x6 x7=>k x4) w)
 (fun w k=>W8.rec (motive:=fun _=>Option ρ) (fun x0 x1 x2 x3 x4 x5 x6 x7=>k x5) w)
 (fun w k=>W8.rec (motive:=fun _=>Option ρ) (fun x0 x1 x2 x3 x4 x5 x6 x7=>k x6) w)
 (fun w k=>W8.rec (motive:=fun _=>Option ρ) (fun x0 x1 x2 x3 x4 x5 x6 x7=>k x7) w))
 (fun w k=>W8.rec (motive:=fun _=>Option ρ) (fun x0 x1 x2 x3 x4 x5 x6 x7=>k x0) w)
 (fun w k=>W8.rec (motive:=fun _=>Option ρ) (fun x0 x1 x2 x3 x4 x5 x6 x7=>k x1) w)
 (fun w k=>W8.rec (motive:=fun _=>Option ρ) (fun x0 x1 x2 x3 x4 x5 x6 x7=>k x2) w)
 (fun w k=>W8.rec (motive:=fun _=>Option ρ) (fun x0 x1 x2 x3 x4 x5 x6 x7=>k x3) w)
 (fun w k=>W8.rec (motive:=fun _=>Option ρ) (fun x0 x1 x2 x3 x4 x5 x6 x7=>k x4) w)
 (fun w k=>W8.rec (motive:=fun _=>Option ρ) (fun x0 x1 x2 x3 x4 x5 x6 x7=>k x5) w)
 (fun w k=>W8.rec (motive:=fun _=>Option ρ) (fun x0 x1 x2 x3 x4 x5 x6 x7=>k x6) w)
 (fun w k=>W8.rec (motive:=fun _=>Option ρ) (fun x0 x1 x2 x3 x4 x5 x6 x7=>k x7) w)
theorem C2 {G:β→Prop} {i:Nat} {e:β} {Q:Gt ρ→β} (hi:i < 64) (he:G e) (h:∀ g:Gt ρ,(∀ fr k,g fr k=k (I9 i fr))→G (Q g)):G (Y6 i e Q):=by
 refine S7 he ?_ ?_ ?_ ?_ ?_ ?_ ?_ ?_ <;> intro h1 <;> refine S7 he ?_ ?_ ?_ ?_ ?_ ?_ ?_ ?_ <;> intro h2 <;> refine h _ (fun fr k=>?_) <;> unfold I9 <;> rw [h1,h2] <;> cases fr with
  | mk w0 w1 w2 w3 w4 w5 w6 w7=>first|(cases w0; rfl)|(cases w1; rfl)|(cases w2; rfl)|(cases w3; rfl)|(cases w4; rfl)|(cases w5; rfl)|(cases w6; rfl)|(cases w7; rfl)
noncomputable def a4a (i:Nat) (e:β) (Q:Wr ρ→β):β:=a7Y (i / 8) e (fun o:Fr→(W8 AV→(W8 AV→Option ρ)→Option ρ)→(Fr→Option ρ)→Option ρ=>a7Y (i % 8) e (fun n:AV→W8 AV→(W8 AV→Option ρ)→Option ρ=>Q fun x fr k=>o fr (n x) k)
 (fun y w k=>W8.rec (motive:=fun _=>Option ρ) (fun x0 x1 x2 x3 x4 x5 x6 x7=>k (.mk y x1 x2 x3 x4 x5 x6 x7)) w)
 (fun y w k=>W8.rec (motive:=fun _=>Option ρ) (fun x0 x1 x2 x3 x4 x5 x6 x7=>k (.mk x0 y x2 x3 x4 x5 x6 x7)) w)
 (fun y w k=>W8.rec (motive:=fun _=>Option ρ) (fun x0 x1 x2 x3 x4 x5 x6 x7=>k (.mk x0 x1 y x3 x4 x5 x6 x7)) w)
 (fun y w k=>W8.rec (motive:=fun _=>Option ρ) (fun x0 x1 x2 x3 x4 x5 x6 x7=>k (.mk x0 x1 x2 y x4 x5 x6 x7)) w)
 (fun y w k=>W8.rec (motive:=fun _=>Option ρ) (fun x0 x1 x2 x3 x4 x5 x6 x7=>k (.mk x0 x1 x2 x3 y x5 x6 x7)) w)
 (fun y w k=>W8.rec (motive:=fun _=>Option ρ) (fun x0 x1 x2 x3 x4 x5 x6 x7=>k (.mk x0 x1 x2 x3 x4 y x6 x7)) w)
 (fun y w k=>W8.rec (motive:=fun _=>Option ρ) (fun x0 x1 x2 x3 x4 x5 x6 x7=>k (.mk x0 x1 x2 x3 x4 x5 y x7)) w)
 (fun y w k=>W8.rec (motive:=fun _=>Option ρ) (fun x0 x1 x2 x3 x4 x5 x6 x7=>k (.mk x0 x1 x2 x3 x4 x5 x6 y)) w))
 (fun w u k=>W8.rec (motive:=fun _=>Option ρ) (fun x0 x1 x2 x3 x4 x5 x6 x7=>u x0 fun y=>k (.mk y x1 x2 x3 x4 x5 x6 x7)) w)
 (fun w u k=>W8.rec (motive:=fun _=>Option ρ) (fun x0 x1 x2 x3 x4 x5 x6 x7=>u x1 fun y=>k (.mk x0 y x2 x3 x4 x5 x6 x7)) w)
 (fun w u k=>W8.rec (motive:=fun _=>Option ρ) (fun x0 x1 x2 x3 x4 x5 x6 x7=>u x2 fun y=>k (.mk x0 x1 y x3 x4 x5 x6 x7)) w)
 (fun w u k=>W8.rec (motive:=fun _=>Option ρ) (fun x0 x1 x2 x3 x4 x5 x6 x7=>u x3 fun y=>k (.mk x0 x1 x2 y x4 x5 x6 x7)) w)
 (fun w u k=>W8.rec (motive:=fun _=>Option ρ) (fun x0 x1 x2 x3 x4 x5 x6 x7=>u x4 fun y=>k (.mk x0 x1 x2 x3 y x5 x6 x7)) w)
 (fun w u k=>W8.rec (motive:=fun _=>Option ρ) (fun x0 x1 x2 x3 x4 x5 x6 x7=>u x5 fun y=>k (.mk x0 x1 x2 x3 x4 y x6 x7)) w)
 (fun w u k=>W8.rec (motive:=fun _=>Option ρ) (fun x0 x1 x2 x3 x4 x5 x6 x7=>u x6 fun y=>k (.mk x0 x1 x2 x3 x4 x5 y x7)) w)
 (fun w u k=>W8.rec (motive:=fun _=>Option ρ) (fun x0 x1 x2 x3 x4 x5 x6 x7=>u x7 fun y=>k (.mk x0 x1 x2 x3 x4 x5 x6 y)) w)
theorem R3 {G:β→Prop} {i:Nat} {e:β} {Q:Wr ρ→β} (hi:i < 64) (he:G e) (h:∀ g:Wr ρ,(∀ x fr k,g x fr k=k (S6 i x fr))→G (Q g)):G (a4a i e Q):=by
 refine S7 he ?_ ?_ ?_ ?_ ?_ ?_ ?_ ?_ <;> intro h1 <;> refine S7 he ?_ ?_ ?_ ?_ ?_ ?_ ?_ ?_ <;> intro h2 <;> refine h _ (fun x fr k=>?_) <;> unfold S6 <;> rw [h1,h2] <;> cases fr with
  | mk w0 w1 w2 w3 w4 w5 w6 w7=>first|(cases w0; rfl)|(cases w1; rfl)|(cases w2; rfl)|(cases w3; rfl)|(cases w4; rfl)|(cases w5; rfl)|(cases w6; rfl)|(cases w7; rfl)
noncomputable def b0C (i:Nat) (Q:(List AV→(AV→Option ρ)→Option ρ)→β):β:=Nat.rec (motive:=fun _=>((List AV→(AV→Option ρ)→Option ρ)→β)→β)
 (fun Q=>Q fun l k=>List.rec (motive:=fun _=>Option ρ) none (fun a _ _=>k a) l)
 (fun _ ih Q=>ih fun r=>Q fun l k=>List.rec (motive:=fun _=>Option ρ) none (fun _ t _=>r t k) l) i Q
theorem M5 {G:β→Prop}:∀ (i:Nat) {Q:(List AV→(AV→Option ρ)→Option ρ)→β},(∀ r:List AV→(AV→Option ρ)→Option ρ,(∀ l k,r l k=match l[i]? with|some a=>k a|none=>none)→G (Q r))→G (b0C i Q)
 | 0,Q,h=>h _ fun l k=>by cases l <;> rfl
 | i+1,Q,h=>M5 i fun r hr=>h _ fun l k=>by
  cases l with
  | nil=>rfl
  | cons a t=>show r t k=_; rw [hr]; simp
end
abbrev U:AV:=.undef
def u8:W8 AV:=.mk U U U U U U U U
noncomputable def b5d {ρ:Type} (l:List AV) (k:W8 AV→Option ρ):Option ρ:=List.rec (motive:=fun _=>Option ρ) (k (.mk U U U U U U U U)) (fun y0 l _=>List.rec (motive:=fun _=>Option ρ) (k (.mk y0 U U U U U U U)) (fun y1 l _=>List.rec (motive:=fun _=>Option ρ) (k (.mk y0 y1 U U U U U U)) (fun y2 l _=>List.rec (motive:=fun _=>Option ρ) (k (.mk y0 y1 y2 U U U U U)) (fun y3 l _=>List.rec (motive:=fun _=>Option ρ) (k (.mk y0 y1 y2 y3 U U U U)) (fun y4 l _=>List.rec (motive:=fun _=>Option ρ) (k (.mk y0 y1 y2 y3 y4 U U U)) (fun y5 l _=>List.rec (motive:=fun _=>Option ρ) (k (.mk y0 y1 y2 y3 y4 y5 U U)) (fun y6 l _=>List.rec (motive:=fun _=>Option ρ) (k (.mk y0 y1 y2 y3 y4 y5 y6 U)) (fun y7 l _=>List.rec (motive:=fun _=>Option ρ) (k (.mk y0 y1 y2 y3 y4 y5 y6 y7)) (fun _ _ _=>none) l) l) l) l) l) l) l) l) l
theorem e3W (i:Nat):pk8 i u8=U:=by
 show (match i with|0=>U|1=>U|2=>U|3=>U|4=>U|5=>U|6=>U|_=>U)=U
 split <;> rfl
theorem b8c {ρ:Type} {l:List AV} {k:W8 AV→Option ρ} {r:ρ} (h:b5d l k=some r):∃ w:W8 AV,k w=some r∧l.length≤8∧∀ i,i < 8→pk8 i w=l.getD i .undef:=by
 match l,h with
 | [],h=>exact ⟨_,h,by simp,fun i hi=>by rcases lt8 hi with rfl|rfl|rfl|rfl|rfl|rfl|rfl|rfl <;> rfl⟩
 | [y0],h=>exact ⟨_,h,by simp,fun i hi=>by rcases lt8 hi with rfl|rfl|rfl|rfl|rfl|rfl|rfl|rfl <;> rfl⟩
 | [y0,y1],h=>exact ⟨_,h,by simp,fun i hi=>by rcases lt8 hi with rfl|rfl|rfl|rfl|rfl|rfl|rfl|rfl <;> rfl⟩
 | [y0,y1,y2],h=>exact ⟨_,h,by simp,fun i hi=>by rcases lt8 hi with rfl|rfl|rfl|rfl|rfl|rfl|rfl|rfl <;> rfl⟩
 | [y0,y1,y2,y3],h=>exact ⟨_,h,by simp,fun i hi=>by rcases lt8 hi with rfl|rfl|rfl|rfl|rfl|rfl|rfl|rfl <;> rfl⟩
 | [y0,y1,y2,y3,y4],h=>exact ⟨_,h,by simp,fun i hi=>by rcases lt8 hi with rfl|rfl|rfl|rfl|rfl|rfl|rfl|rfl <;> rfl⟩
 | [y0,y1,y2,y3,y4,y5],h=>exact ⟨_,h,by simp,fun i hi=>by rcases lt8 hi with rfl|rfl|rfl|rfl|rfl|rfl|rfl|rfl <;> rfl⟩
 | [y0,y1,y2,y3,y4,y5,y6],h=>exact ⟨_,h,by simp,fun i hi=>by rcases lt8 hi with rfl|rfl|rfl|rfl|rfl|rfl|rfl|rfl <;> rfl⟩
 | [y0,y1,y2,y3,y4,y5,y6,y7],h=>exact ⟨_,h,by simp,fun i hi=>by rcases lt8 hi with rfl|rfl|rfl|rfl|rfl|rfl|rfl|rfl <;> rfl⟩
 | _::_::_::_::_::_::_::_::_::_,h=>cases h
def fr0 (w:W8 AV):Fr:=.mk w u8 u8 u8 u8 u8 u8 u8
theorem d1A {w:W8 AV} {l:List AV} {np nv:Nat} (hw:∀ i,i < 8→pk8 i w=l.getD i .undef) (hl:l.length=np) (h8:l.length≤8) (hnp:np≤nv) (hn:nv≤64):toL nv (fr0 w)=l++List.replicate (nv - np) .undef:=by
 apply List.ext_getElem
 · simp [toL,hl]; omega
 · intro j h1 h2
   have hj:j < nv:=by simpa [toL] using h1
   have hg:I9 j (fr0 w)=l.getD j .undef:=by
    unfold I9
    rcases Nat.lt_or_ge j 8 with h|h
    · rw [show j / 8=0 by omega,show j % 8=j by omega]
      exact hw j h
    · have:pk8 (j / 8) (fr0 w)=u8:=by
       rcases lt8 (show j / 8 < 8 by omega) with e|e|e|e|e|e|e|e <;> rw [e] <;> first|(exfalso; omega)|rfl
      rw [this,e3W,List.getD_eq_getElem?_getD,List.getElem?_eq_none (by omega)]
      rfl
   simp only [toL,List.getElem_map,List.getElem_range,hg]
   rw [List.getElem_append]
   split
   · rename_i h; simp [List.getD,h]
   · rename_i h; rw [List.getD_eq_getElem?_getD,List.getElem?_eq_none (by omega)]; simp
end Go.Cb.G
