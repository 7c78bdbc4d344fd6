import Derived.Test.YtbibkdncfclnbaaGreatDoorXAms2
import Derived.Laws.CopyRow
import Derived.Laws.Externs
import Derived.Test.YtbibkdncfclnbaaGreatDoorXAms1
set_option maxRecDepth 4000
set_option linter.all false
namespace Go.Cb
open Classical
def a8y:List Nat→Bool
 | []=>true
 | x::xs=>!xs.any (Nat.beq x) && a8y xs
def a1L (c:Cx):List ResultVar→List ResK→Bool
 | [],[]=>true
 | .tmp t::rs,.v i::ks=>c.slots[i]? == some t && !c.bxs.contains i && a1L c rs ks
 | .tmp t::rs,.vs i::ks=>c.slots[i]? == some t && !c.bxs.contains i && a1L c rs ks
 | .cell a t::rs,.bx i agg n::ks=>c.slots[i]? == some a && B6 c t == some agg && B1 c t == some n && a1L c rs ks
 | _,_=>false
def b6g (P:Program) (gt:List (Nat×List AV)) (slots bxs:List Nat) (fn:Func) (f:AFn) (A:Nat→Prop):Bool :=
 f.ext.isNone && a8y slots && slots.all (fun s=>Nat.blt s fn.ntmps) && slots.take f.np == List.range f.np && Nat.ble f.np slots.length && Nat.beq f.nv slots.length &&
  (match fn.body with|some x=>E4 ⟨P,slots,bxs,fn.ntmps,gt,A⟩ x f.code|none=>false) && a1L ⟨P,slots,bxs,fn.ntmps,gt,A⟩ fn.results.toList f.results
def Z6 (P:Program) (gt:List (Nat×List AV)) (f:Nat) (e:List AV→St→Option (AV×St)):Prop :=
 ∀ (args:List AV) (st:St) (res:AV) (st':St),e args st=some (res,st')→(∀ x∈args,x.weak=x) →
  ∀ (g:Gh) (w:World) (vs:List Value),SRel g w st→Globs gt g w→RelL g w args vs→Calls P f vs.toArray w (CallPost g w st' res)
structure ProgOK (P:Program) (gt:List (Nat×List AV)) (tbl:Nat→Option AFn):Prop where
 mixed:P.follows .mixedOrders=true
 fn:∀ f af,tbl f=some af→a3y P f=true∧((∃ slots bxs fn,P.funcs[f]?=some fn∧∀ A,b6g P gt slots bxs fn af A=true)∨(∃ e,af.ext=some e∧Z6 P gt f e))
theorem a6K:∀ {xs:List Nat},a8y xs=true→xs.Nodup
 | [],_=>List.nodup_nil
 | x::xs,h=>by simp only[a8y,AA,Bool.not_eq_true',List.any_eq_false,Nat.beq_eq]at h;exact List.nodup_cons.2 ⟨fun e=>h.1 x e rfl,a6K h.2⟩
section
variable {c:Cx} {g:Gh} {w:World} {pr:Nat→Option Pl} {bx:Nat→Nat} {σ:Sig} {a:Act}
theorem b90 {t:TypeId} {n bb f:Nat} {L:Bool} {cs:List AV} {us:List Value} {r:AV} (J:B6 c t=some L) (T:B1 c t=some n) (I:RelL g w cs us) (O:w.rangeAt bb f us) (N:∀ u∈us,u.oneCell'=true) (z:l8 L n cs=some r) :
 ∃ v,(loadVar t (ad bb f)).run c.P w=.ok v w∧ValOK g w No r v:=by
 obtain⟨v,l,U⟩:=a0z (c:=c) (g:=g) (bx:=fun _=>0) (fr:=[]) (a:={ tmps:=#[.pointer (some (ad bb f))],defers:=[] }) (o:={ (default:Oper)with op:=.load t (.tmp 0) }) (x:=.tmp 0) rfl J T (by simp[Act.eval]) I O N z;refine⟨v,?_,?_⟩
 · simp only[execOp,Instr.loadAt,Instr.sureAddr,Act.eval,Sem.run_bind,Sem.run_pure]at l;have e:(Array.getD #[Value.pointer (some (ad bb f))] 0 undef)=.pointer (some (ad bb f)):=rfl;rw[e]at l;simp only[Sem.run_pure,Result.andThen_ok]at l;cases M:(loadVar t (ad bb f)).run c.P w with
   | ok u w' =>rw[M]at l;simp only[Result.andThen_ok,Result.ok.injEq,Next.value.injEq]at l;obtain⟨rfl,rfl⟩:=l;rfl
   | halt x w'=>rw[M]at l; cases l
 · cases r<;>first|exact U|skip
   · exfalso;unfold l8 at z;split at z
     · split at z<;>simp at z
     · split at z
       · rename_i y ys;simp only[AD]at z;simp only[RelL]at I;obtain⟨Y,W,_,C,_⟩:=I;cases y<;>simp only[AV.weak1,reduceCtorEq]at z;simp[Rel]at C
       · cases z
   · exfalso;unfold l8 at z;split at z
     · split at z<;>simp at z
     · split at z
       · rename_i y ys;simp only[AD]at z;simp only[RelL]at I;obtain⟨Y,W,_,C,_⟩:=I;cases y<;>simp only[AV.weak1,reduceCtorEq]at z;simp[Rel]at C
       · cases z
theorem VarOK.val {i:Nat} {x:AV} {v:Value} (h:VarOK g w pr bx i x v) (e:∀ cs,x≠.box cs):ValOK g w (fun b=>pr b=some (.var i)) x v:=by cases x<;>first|exact h|exact absurd rfl (e _)|exact h.elim
theorem b1f (h:S c g w pr bx σ a):∀ {rs:List ResultVar} {ks:List ResK} {vs:List AV},a1L c rs ks=true→V0 ks σ.fr=some vs →
 ∃ us:List Value,(rs.mapM fun(r:ResultVar)=>(match r with|.tmp t=>pure (a.tmps.getD t undef)|.cell x t=>do loadVar t (← asAddr (a.tmps.getD x undef)):Sem Value)).run c.P w=.ok us w ∧
  us.length=vs.length∧∀ (k:Nat) (x:AV) (u:Value),vs[k]?=some x→us[k]?=some u→ValOK g w (fun b=>∃ p,pr b=some p) x u
 | [],[],vs,_,hg=>by simp only[V0,AD]at hg;subst hg;exact⟨[],rfl,rfl,fun k x u z=>by simp at z⟩
 | r::rs,k::ks,vs,hok,hg=>by
  simp only[V0]at hg;split at hg
  case h_2=>cases hg
  rename_i x xs z a2;simp only[AD]at hg;subst hg;have one:∃ u,((match r with|.tmp t=>pure (a.tmps.getD t undef)|.cell x t=>do loadVar t (← asAddr (a.tmps.getD x undef)):Sem Value)).run c.P w=.ok u w∧ValOK g w (fun b=>∃ p,pr b=some p) x u∧a1L c rs ks=true:=by
   have l:∀ i,i ∉ c.bxs→∀ cs,σ.fr.getD i .undef≠.box cs:=fun i hi cs hc=>hi (h.fr.bxs i cs hc)
   unfold a1L at hok;split at hok<;>first|(rename_i C e2; cases C; cases e2; done)|skip
   · rename_i C e2; cases C
   · rename_i t Y i W C e2;cases C; cases e2;simp only[AA,beq_iff_eq]at hok;simp only[ResK.get,AD]at z;subst z;have I:=h.fr.var i t hok.1.1;have O:=l i (by simpa using hok.1.2);refine⟨_,rfl,?_,hok.2⟩;cases hq:σ.fr.getD i .undef<;>rw[hq]at I<;>first
      | exact ValOK.of_weak (ValOK.rel I)
      | exact I.elim
      | exact absurd hq (O _)
   · rename_i t Y i W C e2;cases C; cases e2;simp only[AA,beq_iff_eq]at hok;simp only[ResK.get,AD]at z;subst z;have I:=(h.fr.var i t hok.1.1).val (l i (by simpa using hok.1.2));exact⟨_,rfl,I.mono (Ext.refl _ _) fun b hb=>⟨⟨_,hb⟩,rfl,fun _ x=>x⟩,hok.2⟩
   · rename_i y t Y i ag n W C e2;cases C; cases e2;simp only[AA,beq_iff_eq]at hok;obtain⟨⟨⟨h1,h2⟩,h3⟩,h4⟩:=hok;simp only[ResK.get]at z;split at z
     · rename_i cs a0;have J:=h.fr.var i y h1;rw[a0]at J;obtain⟨U,_,_,arr,T,hh,hl,Z,_⟩:=J;obtain⟨u,hu,e⟩:=b90 (c:=c) h2 h3 hl (by simpa using a6J hh 0) Z z;refine⟨u,?_,e.mono (Ext.refl _ _) fun b hb=>hb.elim,h4⟩;simp only[U,asAddr,Sem.run_bind,Sem.run_pure,Result.andThen_ok];exact hu
     · cases z
   · cases hok
  obtain⟨u,hu,e,L⟩:=one;obtain⟨us,a1,N,M⟩:=b1f h L a2;refine⟨u::us,?_,by simp[N],fun j y v hy I=>?_⟩
  · rw[List.mapM_cons];simp only[Sem.run_bind,hu,a1,Result.andThen_ok,Sem.run_pure]
  · cases j with
    | zero=>simp at hy I; subst hy; subst I; exact e
    | succ j=>exact M j y v (by simpa using hy) (by simpa using I)
 | [],_::_,_,hok,_=>by simp[a1L]at hok
 | r::_,[],_,hok,_=>by cases r<;>simp[a1L]at hok
def c9r:List Value→Value
 | [v]=>v
 | us=>.tuple us.toArray
theorem a6B {P:Program} {fn:Func} {tmps:Array Value} {us:List Value} {w:World}
 (h:(fn.results.toList.mapM fun(r:ResultVar)=>(match r with|.tmp t=>pure (tmps.getD t undef)|.cell x t=>do loadVar t (← asAddr (tmps.getD x undef)):Sem Value)).run P w=.ok us w) :
 (results fn tmps).run P w=.ok (c9r us) w:=by
 unfold results;rw[Array.mapM_eq_mapM_toList];simp only[map_eq_pure_bind,bind_assoc,pure_bind,Sem.run_bind]
 erw [h]
 simp only[Result.andThen_ok,Sem.run_pure];match us with
 | []=>rfl
 | [v]=>rfl
 | u::v::us=>simp[c9r]
theorem c2c {P:Program} {gt:List (Nat×List AV)} {tbl:Nat→Option AFn} (hP:ProgOK P gt tbl):∀ n,Z2 P gt (k8 tbl n):=by
 intro n;induction n with
 | zero=>intro f args st res st' h; simp[k8]at h
 | succ n ih =>
  intro f args st res st' h J;simp only[k8]at h;cases I:tbl f with
  | none=>simp[I]at h
  | some l =>
   simp only[I]at h;obtain⟨b4,b5⟩:=hP.fn f l I;refine⟨b4,fun g w vs b1 a6 C=>?_⟩;rcases b5 with⟨slots,bxs,fn,hf,M⟩|⟨e,he,a5⟩
   case inr =>simp only[he]at h;exact a5 args st res st' h J g w vs b1 a6 C
   let A:Nat→Prop:=fun b=>w.heap.size≤b∨g.sr b≠none
   have M:=M A;simp only[b6g,AA,Option.isNone_iff_eq_none,beq_iff_eq,Nat.beq_eq]at M;obtain⟨⟨⟨⟨⟨⟨⟨o1,o2⟩,o3⟩,o4⟩,o5⟩,o6⟩,o7⟩,o8⟩:=M;have o5:=Nat.le_of_ble_eq_true o5;rw[o1]at h;simp only at h;split at o7
   case h_2=>cases o7
   rename_i body Y;unfold AFn.run at h;split at h
   case isFalse=>cases h
   rename_i O;split at h
   · cases h
   · rename_i ex b3 st1 b0 Z;let c:Cx:=⟨P,slots,bxs,fn.ntmps,gt,A⟩
     have a9:∀ s∈slots,s < fn.ntmps:=fun s U=>by have:=List.all_eq_true.1 o3 s U;simpa using this
     have fx:Fx c:=⟨a6K o2,a9⟩;have c1:vs.length=l.np:=by rw[← C.length]; exact O
     have c0:l.np≤fn.ntmps:=by
      rcases Nat.eq_zero_or_pos l.np with h0|h0
      · omega
      · have hm:l.np - 1∈slots:=by
         have:l.np - 1∈slots.take l.np:=by rw[o4]; simp; omega
         exact List.mem_of_mem_take this
        have:=a9 _ hm;omega
     have a1:∀ i s,slots[i]?=some s→i < l.np→s=i:=fun i s U hi=>by
      have h1:(slots.take l.np)[i]?=some s:=by rw[List.getElem?_take,if_pos hi]; exact U
      rw[o4]at h1;simp[hi]at h1;exact h1.symm
     let tm:Array Value:=vs.toArray++Array.replicate (fn.ntmps - vs.toArray.size) undef
     have hS:S c g w (fun _=>none) (fun _=>0) ⟨args++List.replicate (l.nv - l.np) .undef,fun _=>.undef,st⟩ { tmps:=tm,defers:=[] }:=by
      refine⟨⟨by simp[tm,c]; omega,by simp[c,O,o6]; omega,fun i s U=>?_,fun s _=>ValOK.undef,fun b p L=>(by cases L),fun i cs hi=>?_⟩,b1,a6,fun b L=>.inl L,fun b p L=>.inr (by rw[L]; simp)⟩
      · rcases Nat.lt_or_ge i l.np with hi|hi
        · have b6:=a1 i s U hi;subst b6;have ha:s < args.length:=by omega
          have hv:s < vs.length:=by omega
          obtain⟨v,b2,N⟩:=C.get (AE ha);have e1:(args++List.replicate (l.nv - l.np) AV.undef).getD s .undef=args[s]:=by rw[List.getD_eq_getElem?_getD,List.getElem?_append_left ha,AE ha]; rfl
          have e2:tm.getD s undef=v:=by simp only[tm,Array.getD_eq_getD_getElem?];rw[Array.getElem?_append_left (by simpa using hv)];simp[b2]
          rw[e1,e2];have hw:=J args[s] (List.getElem_mem ha);have z:ValOK g w (fun b=>(fun _=>none:Nat→Option Pl) b=some (.var s)) args[s].weak v:=ValOK.of_weak N;rw[hw]at z;revert z;cases args[s]<;>intro z<;>first|exact z|exact z.rel.elim
        · have e1:(args++List.replicate (l.nv - l.np) AV.undef).getD i .undef=.undef:=by
           rw[List.getD_eq_getElem?_getD,List.getElem?_append_right (by omega)];cases hq:(List.replicate (l.nv - l.np) AV.undef)[i - args.length]? with
           | none=>rfl
           | some x=>rw[List.eq_of_mem_replicate (List.mem_of_getElem? hq)]; rfl
          rw[e1];exact VarOK.undef
      · exfalso;rcases Nat.lt_or_ge i args.length with hi'|hi'
        · obtain⟨v,b2,N⟩:=C.get (AE hi');rw[List.getD_eq_getElem?_getD,List.getElem?_append_left hi',AE hi']at hi;simp only[Option.getD_some]at hi;rw[hi]at N;exact N
        · rw[List.getD_eq_getElem?_getD,List.getElem?_append_right hi']at hi;cases hq:(List.replicate (l.nv - l.np) AV.undef)[i - args.length]? with
          | none=>rw[hq]at hi; cases hi
          | some x=>rw[hq,List.eq_of_mem_replicate (List.mem_of_getElem? hq)]at hi; cases hi
     refine calls_of_wp hf Y ?_;refine t8 (c:=c) _ _ o7 fx hP.mixed ih hS Z fun a' w' g' c2 b8 c3 hd W ht=>?_
     have a4:bodyPost P fn (CallPost g w st' res) .ret a' w':=by
      refine⟨hd,?_⟩;have a7:∀ vs',V0 l.results b3=some vs'→some ((match vs' with|[v]=>v|vs'=>AV.tuple vs'),st1)=some (res,st')→∃ v,(results fn a'.tmps).run P w'=.ok v w'∧CallPost g w st' res (.returned v) w':=by
       intro vs' hg T;simp only[AD,AJ]at T;obtain⟨rfl,rfl⟩:=T;obtain⟨us,b7,a2,t⟩:=b1f (c:=c) W o8 hg;refine⟨_,a6B b7,_,g',rfl,W.st,⟨ht.ext,ht.size,ht.env,fun b L U _=>ht.keep b L U fun hA=>?_⟩,?_⟩
       · rcases hA with hA|hA
         · omega
         · exact hA U
       · match vs',us,a2,t with
         | [],[],_,_=>exact ValOK.mk' (by simp only[Rel]; exact⟨#[],rfl,by simp[RelL]⟩) (by simp) (by simp)
         | [x],[u],_,t =>
          refine(t 0 x u rfl rfl).mono (Ext.refl _ _) fun b L=>⟨?_,rfl,fun _ x=>x⟩
          obtain⟨p,hp⟩:=L;obtain⟨q1,q2,q3⟩:=W.fr.prv b p hp;exact⟨q1,q2,q3⟩
         | x::y::xs,u::v::us,a2,t =>refine ValOK.mk' ?_ (by simp) (by simp);simp only[Rel];exact⟨_,rfl,RelL.of_get (by simpa using a2.symm) fun i x u hx hu=>(t i x u hx hu).rel⟩
      split at h
      · rename_i v hg;exact a7 [v] hg h
      · rename_i vs' a0 hg;refine a7 vs' hg ?_;rw[← h];match vs',a0 with
        | [],_=>rfl
        | [v],a0=>exact absurd rfl (a0 v)
        | _::_::_,_=>rfl
      · cases h
     cases ex with
     | normal=>exact a4
     | ret=>exact a4
     | exit id=>exact(b0 id rfl).elim
   · cases h
end
end Go.Cb
namespace Go.Cb
open Classical
section
variable {c:Cx} {g:Gh} {w:World} {pr:Nat→Option Pl} {bx:Nat→Nat} {σ:Sig} {a:Act} {o:Oper}
theorem c6W (y:Fx c) (h:S c g w pr bx σ a) {t e:TypeId} {i:TypeInfo} {d:Dst} (C:o.op=.buildSlice t 0 #[]) (hu:c.P.underlying t=some (.slice e)) (hi:c.P.info? e=some i) (z:s7 c o.dst d=true)
 {next:Act→World→Prop} {Q:Exit→Act→World→Prop} (l:Post c g w a (d.put (.list true []) σ) next):o.wp c.P a w next Q:=by
 have u:(execOp a.eval o).run c.P w=.ok (.value (.slice (some (ad w.heap.size 0)) 0 0)) (w.alloc (.cells #[] e)):=by
  have v:(Array.map (fun _:Nat=>(default:Value)) (Array.range 0))=#[]:=by apply Array.ext'; simp
  simp[execOp,C,Instr.buildSlice,run_underlying hu,sizeOf,typeInfo,hi,Instr.fill,newRow,v]
 unfold Oper.wp;rw[u];refine l _ _ g pr bx (C2 _ _ _) (a0x y (h.alloc _ _) z (mine:=No) (r:=.list true []) ?_ fun _ x=>x.elim) (Tr.alloc _ h.st.cli _);refine(show ValOK g _ No (.list true []) _ from⟨?_,fun _ _=>.inl ⟨_,_,rfl⟩,fun _ e=>(by cases e)⟩);simp only[Rel];exact⟨_,0,0,rfl,rfl,AK _,fun _=>rfl,fun h=>absurd rfl h⟩
theorem d0s (C:Fx c) (h:S c g w pr bx σ a) {t O e:TypeId} {x:Operand} {d:Dst} {l:Option Addr} {n cap:Nat} (L:o.op=.binOp .eql t x (.const (.slice none 0 0)) O) (hu:c.P.underlying t=some (.slice e))
 (M:a.eval x=.slice l n cap) (I:s7 c o.dst d=true) {next:Act→World→Prop} {Q:Exit→Act→World→Prop} (u:Post c g w a (d.put (.bool l.isNone) σ) next):o.wp c.P a w next Q:=by
 have y:(execOp a.eval o).run c.P w=.ok (.value (.bool l.isNone)) w:=by
  have J:∀ v:Value,(eqGuard .eql t x (.const (.slice none 0 0)) (.slice l n cap) (.slice none 0 0)).run c.P w=.ok () w:=fun _=>rfl
  have N:a.eval (.const (.slice none 0 0))=.slice none 0 0:=rfl;have z:(Op.equal t (.slice l n cap) (.slice none 0 0)).run c.P w=.ok l.isNone w:=by rw[a0Y,Op.equalIn,Sem.run_bind,run_underlying hu,Result.andThen_ok];cases l<;>rfl
  simp only[execOp,L,M,N,J (.bool true),binOp,Sem.run_bind,z,Result.andThen_ok,Sem.run_pure]
 exact b4h C h I (r:=.bool l.isNone) y (show ValOK g w No (.bool l.isNone) (.bool l.isNone)from ValOK.mk' (by simp[Rel]) (by simp) (by simp)) u
def b16 (P:Program) (t sz bytes:Nat):Bool:=match P.underlying t with
 | some (.slice e)=>match P.info? e with
  | some l=>l.size == sz && l.bytes == bytes && decide (0 < bytes) && (match l.zero with|some z=>z.cells.size == sz|none=>false)
  | none=>false
 | _=>false
structure CloneShape (P:Program) (fn:Func) (t sz bytes:Nat) where
 i0:Nat
 i1:Nat
 i2:Nat
 i3:Nat
 o0:Oper
 o1:Oper
 o2:Oper
 o3:Oper
 o4:Oper
 o5:Oper
 o6:Oper
 o7:Oper
 ty:TypeId
 body:fn.body=some (.seq (.region i0 #[o0] false) (.seq (.seq (.region i1 #[o1,o2] false) (.cond (.tmp 4) (.seq (.region i2 #[o3] false) .ret) .skip)) (.seq (.region i3 #[o4,o5,o6,o7] false) .ret)))
 nt:fn.ntmps=8
 res:fn.results=#[.tmp 2]
 d0:o0.dst=some 2∧o0.op=.assign (.const (.slice none 0 0))∧o0.guard=none
 d1:o1.dst=some 3∧o1.op=.move (.tmp 0)∧o1.guard=none
 d2:o2.dst=some 4∧o2.op=.binOp .eql t (.tmp 3) (.const (.slice none 0 0)) ty∧o2.guard=none
 d3:o3.dst=some 2∧o3.op=.assign (.const (.slice none 0 0))∧o3.guard=none
 d4:o4.dst=some 5∧o4.op=.buildSlice t 0 #[]∧o4.guard=none
 d5:o5.dst=some 6∧o5.op=.move (.tmp 0)∧o5.guard=none
 d6:o6.dst=some 7∧o6.op=.call { callee:=.builtin .append,args:=#[.tmp 5,.tmp 6],argTypes:=#[t,t] }∧o6.guard=none
 d7:o7.dst=some 2∧o7.op=.assign (.tmp 7)∧o7.guard=none
 tb:b16 P t sz bytes=true
theorem b23 {P:Program} {t sz bytes:Nat} (h:b16 P t sz bytes=true):∃ e l z,P.underlying t=some (.slice e)∧P.info? e=some l∧l.zero=some z∧l.size=sz∧l.bytes=bytes∧z.cells.size=sz∧0 < bytes:=by
 unfold b16 at h;split at h
 case h_2=>cases h
 rename_i e hu;split at h
 case h_2=>cases h
 rename_i l hi;simp only[AA,beq_iff_eq,decide_eq_true_eq]at h;obtain⟨⟨⟨v,x⟩,y⟩,u⟩:=h;split at u
 case h_2=>cases u
 rename_i z C;exact⟨e,l,z,hu,hi,C,v,x,by simpa using u,y⟩
theorem b1h {P:Program} {gt:List (Nat×List AV)} {f t sz bytes:Nat} {fn:Func} (hf:P.funcs[f]?=some fn) (C:CloneShape P fn t sz bytes):Z6 P gt f (a1B sz bytes):=by
 intro args st res st' h b4 g w vs f5 _ W;obtain⟨e,ie,z,tu,ti,tz,h7,h6,h8,h5⟩:=b23 C.tb;unfold a1B at h;split at h
 case h_2=>cases h
 rename_i own xs;split at h
 case isFalse=>cases h
 rename_i L;simp only[AA,decide_eq_true_eq]at L;obtain⟨b2,N⟩:=L;simp only[AD,AJ]at h;obtain⟨rfl,rfl⟩:=h;simp only[RelL]at W;obtain⟨v,_,rfl,hv,rfl⟩:=W;have c3:=hv;simp only[Rel]at c3;obtain⟨l,n,cap,rfl,rfl,i0,i2,k0⟩:=c3;let A:Nat→Prop:=fun b=>w.heap.size≤b∨g.sr b≠none
 let c:Cx:=⟨P,[0,2],[],8,[],A⟩
 have O:Fx c:=⟨show([0,2]:List Nat).Nodup by decide,show ∀ s∈([0,2]:List Nat),s < 8 by decide⟩;have c1:own=false:=by have:=b4 (.list own xs) (by simp);simpa[AV.weak]using this.symm
 subst c1;refine calls_of_wp hf C.body ?_;have hS:S c g w (fun _=>none) (fun _=>0) ⟨[.list false xs,.undef],fun _=>.undef,st⟩ { tmps:=#[Value.slice l xs.length cap]++Array.replicate (fn.ntmps - 1) undef,defers:=[] }:=by
  refine⟨⟨by simp[c,C.nt],rfl,fun i s M=>?_,fun s _=>ValOK.undef,fun b p J=>(by cases J),fun i cs hi=>?_⟩,f5,fun e he=>(by cases he),fun b J=>.inl J,fun b p J=>.inr (by rw[J]; simp)⟩
  · match i,M with
    | 0,M =>
     simp only[c,List.getElem?_cons_zero,AD]at M;subst M;have c2:ValOK g w (fun b=>(fun _=>none:Nat→Option Pl) b=some (.var 0)) (AV.list false xs).weak (.slice l xs.length cap):=ValOK.of_weak hv;have e0:(#[Value.slice l xs.length cap]++Array.replicate (fn.ntmps - 1) undef).getD 0 undef=.slice l xs.length cap:=by rw[C.nt]; rfl
     show VarOK g w (fun _=>none) (fun _=>0) 0 (.list false xs) ((#[Value.slice l xs.length cap]++Array.replicate (fn.ntmps - 1) undef).getD 0 undef);rw[e0];exact c2
    | 1,M=>exact VarOK.undef
    | i+2,M=>simp[c]at M
  · match i,hi with
    | 0,hi=>simp at hi
    | 1,hi=>simp at hi
    | i+2,hi=>simp at hi
 -- the end
 have fin:∀ (x:AV) (a':Act) (w':World) (g':Gh) (c4:Nat→Option Pl) (b6:Nat→Nat) (c7:Nat→AV),a'.defers=[]→S c g' w' c4 b6 ⟨[x,.list true xs],c7,st⟩ a'→Tr c.A g w g' w' →
  bodyPost P fn (CallPost g w st (.list true xs)) .ret a' w':=by
  intro x a' w' g' c4 b6 c7 hd Z ht;refine⟨hd,?_⟩;obtain⟨us,h2,h1,I⟩:=b1f (c:=c) Z (rs:=fn.results.toList) (ks:=[.vs 1]) (vs:=[.list true xs]) (by rw[C.res]; rfl) rfl;refine⟨_,a6B h2,_,g',rfl,Z.st,⟨ht.ext,ht.size,ht.env,fun b J M _=>ht.keep b J M fun hA=>?_⟩,?_⟩
  · rcases hA with hA|hA
    · omega
    · exact hA M
  · match us,h1,I with
    | [u],_,I =>
     refine(I 0 (.list true xs) u rfl rfl).mono (Ext.refl _ _) fun b J=>⟨?_,rfl,fun _ x=>x⟩
     obtain⟨p,hp⟩:=J;obtain⟨q1,q2,q3⟩:=Z.fr.prv b p hp;exact⟨q1,q2,q3⟩
 refine wp_seq (wp_region ?_);show wpOps P #[C.o0] _ [0] _ _;rw[wpOps_cons];refine a0I rfl C.d0.2.2 (a6i (c:=c) O hS (.inr C.d0.2.1) (p:=.c (.list true [])) (d:=.v 1) rfl (by rw[C.d0.1]; rfl) fun a1 w1 g1 k1 i4 e7 e2 f6=>?_);show(Code.seq _ _).wp P _ a1 w1;refine wp_seq (wp_seq (wp_region ?_));show wpOps P #[C.o1,C.o2] _ [0,1] _ _;rw[wpOps_cons];refine a0I rfl C.d1.2.2 (a6i (c:=c) O e2 (.inl C.d1.2.1) (p:=.v 0) (d:=.t 3) rfl (by rw[C.d1.1]; rfl) fun a2 w2 g2 pr2 i5 e9 b8 f7=>?_);rw[wpOps_cons];have e1:=P9 b8 (x:=.tmp 3) (p:=.t 3) rfl;have f4:Rel g2 w2 (.list false xs) (a2.eval (.tmp 3)):=ValOK.rel e1;have U:=f4;simp only[Rel]at U;obtain⟨b5,n2,h9,c0,j2,e6,b1,i1⟩:=U;refine a0I rfl C.d2.2.2 (d0s (c:=c) O b8 C.d2.2.1 tu c0 (d:=.t 4) (by rw[C.d2.1]; rfl) fun a3 w3 g3 k2 i6 f0 a0 f8=>?_);show(Code.cond _ _ _).wp P _ a3 w3;have Y:=(f6.trans f7).trans f8;have T:a3.defers=[]:=f0.trans (e9.trans e7);have J:=a3H a0 (x:=.tmp 4) (y:=.t 4) rfl (b:=b5.isNone) rfl;refine wp_cond J ?_;cases b5 with
 | none =>
  have h3:xs=[]:=by have:=b1 rfl;exact List.eq_nil_of_length_eq_zero (by omega)
  refine wp_seq (wp_region ?_);show wpOps P #[C.o3] _ [0] _ _;rw[wpOps_cons];refine a0I rfl C.d3.2.2 (a6i (c:=c) O a0 (.inr C.d3.2.1) (p:=.c (.list true [])) (d:=.v 1) rfl (by rw[C.d3.1]; rfl) fun a4 w4 g4 c6 b7 b0 a9 b3=>?_);show Code.ret.wp P _ a4 w4;refine wp_ret ?_;show bodyPost P fn _ .ret a4 w4;subst h3;exact fin _ a4 w4 g4 c6 b7 _ (b0.trans T) a9 (Y.trans b3)
 | some i3 =>refine wp_skip ?_;show(Code.seq _ _).wp P _ a3 w3;refine wp_seq (wp_region ?_);show wpOps P #[C.o4,C.o5,C.o6,C.o7] _ [0,1,2,3] _ _;rw[wpOps_cons];refine a0I rfl C.d4.2.2 (c6W (c:=c) O a0 C.d4.2.1 tu ti (d:=.t 5) (by rw[C.d4.1]; rfl) fun a4 w4 g4 c6 b7 b0 a9 b3=>?_);rw[wpOps_cons];refine a0I rfl C.d5.2.2 (a6i (c:=c) O a9 (.inl C.d5.2.1) (p:=.v 0) (d:=.t 6) rfl (by rw[C.d5.1]; rfl) fun a5 w5 g5 k3 i7 f1 e3 f9=>?_);rw[wpOps_cons];refine a0I rfl C.d6.2.2 (b7P (c:=c) O e3 C.d6.2.1 rfl tu ti tz h7 h6 h8 h5 (p0:=.ts 5) (p1:=.t 6) (d:=.t 7) rfl rfl (by rw[C.d6.1]; rfl) (by rw[C.d6.1]; rfl) (xs:=[]) (ys:=xs) (own:=false) rfl rfl rfl b2 (by simpa using N) fun a6 w6 g6 k4 i9 f2 e4 g0=>?_);rw[wpOps_cons];refine a0I rfl C.d7.2.2 (a6i (c:=c) O e4 (.inr C.d7.2.1) (p:=.ts 7) (d:=.v 1) rfl (by rw[C.d7.1]; rfl) fun a7 w7 g7 h4 c8 f3 e5 h0=>?_);show Code.ret.wp P _ a7 w7;refine wp_ret ?_;show bodyPost P fn _ .ret a7 w7;exact fin _ a7 w7 g7 h4 c8 _ (f3.trans (f2.trans (f1.trans (b0.trans T)))) e5 ((((Y.trans b3).trans f9).trans g0).trans h0)
end
end Go.Cb
namespace Go.Cb
open Classical
def a2h (sz bytes:Nat):List AV→St→Option (AV×St)
 | [.nils],st=>some (.nils,st)
 | [.sl o f n s],st=>match st[o]? with
  | some (.cells cs)=>if s=sz∧f+n*sz≤cs.length∧n*bytes≤70368744177664 then some (.sl st.length 0 n sz,st++[.cells (((cs.drop f).take (n*sz)).map AV.weak1)])else none
  | _=>none
 | _,_=>none
def O7 (sz i:Nat) (cs row:List AV):List AV:=(cs.take (i*sz)++row++cs.drop (i*sz)).map AV.weak1
def a0i (sz bytes:Nat):List AV→St→Option (AV×St)
 | [.nils,.int .i64 i,.list _ [row]],st=>if i=0∧row.length=sz then some (.sl st.length 0 1 sz,st++[.cells (O7 sz 0 [] row)])else none
 | [.sl o 0 n s,.int .i64 i,.list _ [row]],st=>match st[o]? with
  | some (.cells cs)=>if s=sz∧0≤i∧i≤n∧cs.length=n*sz∧row.length=sz∧(n+1)*bytes≤70368744177664 then some (.sl st.length 0 (n+1) sz,st.set o .dead++[.cells (O7 sz i.toNat cs row)])else none
  | _=>none
 | _,_=>none
def a3O (sz i:Nat) (cs:List AV):List AV:=(cs.take (i*sz)++cs.drop ((i+1)*sz)).map AV.weak1
def b3W (sz bytes:Nat):List AV→St→Option (AV×St)
 | [.sl o 0 n s,.int .i64 i,.int .i64 j],st=>match st[o]? with
  | some (.cells cs)=>if s=sz∧0≤i∧i < n∧j=i+1∧cs.length=n*sz∧n*bytes≤70368744177664 then some (.sl st.length 0 (n - 1) sz,st.set o .dead++[.cells (a3O sz i.toNat cs)])else none
  | _=>none
 | _,_=>none
theorem Z7 {P:Program} (w:World) (L W ty elem:TypeId) (sz g o l x:Nat) (a:Addr) (u C:Nat) (e:Array Value) (t:TypeId) (cs:List Value)
 (hu:P.underlying L=some (.slice elem)) (M:(P.info? elem).map (·.size)=some sz)
 (O:w.heap[g]?=some (.cells e t (0,0))) (U:cs.length=Nat.min u l*sz)
 (z:∀ j v,cs[j]?=some v→w.cell? (a.add j)=some v) (y:o+cs.length≤e.size) (N:∀ v∈cs,v.oneCell'=true) :
 (Builtin.copy_ #[L,W] ty #[.slice (some ⟨g,o,none⟩) l x,.slice (some a) u C]).run P w =
  .ok (goInt (Nat.min u l)) (w.setRow g (e.toList.take o++cs++e.toList.drop (o+cs.length)).toArray):=by
 have T:=run_loadCells_list (P:=P) w a cs z;have J:=run_storeCells_at P g o t cs 0 e w O (by simpa using y) N;cases I:P.info? elem with
 | none=>simp[I]at M
 | some i =>
  have hi:i.size=sz:=by simpa[I]using M
  simp[Builtin.copy_,run_underlying hu,Builtin.lenOf,Builtin.firstCells,sizeOf,typeInfo,I,hi,← U,T,J]
theorem a5l {P:Program} (w:World) (Z tR e:TypeId) (W:P.underlying Z=some (.slice e)) (size:Nat) (Y:∀ w,(Go.sizeOf e).run P w=.ok size w)
 (a b:Addr) (la ca lb cb:Nat) (M:a.block≠b.block) {t l:Array Value} {TA TB:TypeId} {zA:Nat×Nat}
 (hA:w.heap[a.block]?=some (.cells t TA zA)) (hB:w.heap[b.block]?=some (.cells l TB (0,0))) (T:t.size≠0) (U:l.size≠0) :
 (Extern.SlicesOverlaps.overlaps #[Z,Z] #[tR] #[.slice (some a) la ca,.slice (some b) lb cb]).run P w=.ok (.bool false) w:=by
 have L:(a.block != b.block)=true:=by simpa using M
 have u:(a.block == b.block)=false:=by simpa using M
 have y:w.shape? a.block=some (TA,t.size):=by simp[World.shape?,hA]
 have z:w.shape? b.block=some (TB,l.size):=by simp[World.shape?,hB]
 have J:∀ x:Addr,x.block=b.block→w.frozen? x=false:=fun x hx=>by simp[World.frozen?,hx,hB]
 have C:=J b rfl;have v:=J { block:=b.block,off:=l.size } rfl;delta Extern.SlicesOverlaps.overlaps;dsimp only;delta Extern.SlicesOverlaps.overlaps.match_4;dsimp only[Array.size,List.length];simp only[dif_pos,Nat.reduceAdd,Nat.zero_add];dsimp only[Array.getLit,getElem,Array.getInternal,List.get];by_cases N:la=0∨lb=0∨size=0
 · simp[run_underlying W,Y,N]
 · cases hn:l.size with
   | zero=>exact absurd hn U
   | succ kB =>
    rw[hn]at z v;cases hm:t.size with
    | zero=>exact absurd hm T
    | succ kA =>
    rw[hm]at y;cases I:w.frozen? a with
    | true=>simp[run_underlying W,Y,N,L,u,frozen,noView,viewAt,mayBeOne,stringish,shape,Sem.run,y,z,I,C,v]
    | false =>
     cases O:w.frozen? { block:=a.block,off:=kA+1 } <;>
     simp[run_underlying W,Y,N,L,u,frozen,noView,viewAt,mayBeOne,stringish,shape,Sem.run,y,z,I,C,v,O]
def gh0 (W:World):Gh:={ n:=0,m:=fun _=>0,cl:=fun b _=>b < W.heap.size,sr:=fun _=>none,cp:=fun _=>0 }
theorem d1e (W:World):SRel (gh0 W) W []:=⟨rfl,fun o ob h=>by simp at h,fun b p h=>(by cases h),fun b f h=>h⟩
structure Kept (W W':World):Prop where
 kept:W.keptBut W' (fun _=>False)
 fz:∀ a:Addr,a.block < W.heap.size→W'.frozen? a=W.frozen? a
 size:W.heap.size≤W'.heap.size
 old:∀ b,b < W.heap.size→W'.heap[b]?=W.heap[b]?
theorem c7B {P:Program} {gt:List (Nat×List AV)} {tbl:Nat→Option AFn} (z:ProgOK P gt tbl) {n f:Nat} {args:List AV} {b:Bool} {st':St} (h:k8 tbl n f args []=some (.bool b,st')) (M:∀ x∈args,x.weak=x)
 {W:World} {vs:List Value} (J:Globs gt (gh0 W) W) (L:RelL (gh0 W) W args vs):Calls P f vs.toArray W (fun e y=>e=.returned (.bool b)∧Kept W y):=by
 refine((c2c z n f args [] _ _ h M).2 (gh0 W) W vs (d1e W) J L).mono fun e y I=>?_
 obtain⟨v,g',rfl,_,t,u⟩:=I;have u:=u.rel;simp only[Rel]at u;subst u;have l:∀ b,b < W.heap.size→y.heap[b]?=W.heap[b]?:=fun b C=>(t.keep b C rfl fun x=>x).1.1
 refine⟨rfl,⟨t.env.os,t.env.out,fun i hi=>?_⟩,t.env.fz,t.size,l⟩;rw[l i hi];cases N:W.heap[i]? with
 | none=>simp
 | some o=>cases o<;>simp
theorem a8 {α:Sort _} {a b:α} (h:a=b):a=b:=by cases h;rfl
def obind {α β:Type} (x:Option α) (f:α→Option β):Option β:=match x with
 | some a=>f a
 | none=>none
theorem A0 {α β:Type} (a:α) (f:α→Option β):obind (some a) f=f a:=a8 rfl
theorem g9 {α β:Type} {x e:Option α} {f:α→Option β} (h:x=e):obind x f=obind e f:=by rw[h]
def p1 (x:Option (AV×AV×St)):Option AV:=match x with
 | some (r,_,_)=>some r
 | none=>none
theorem c5N (r b:AV) (st:St):p1 (some (r,b,st))=some r:=a8 rfl
def p2 (x:Option (AV×AV×St)):Option (AV×St):=match x with
 | some (r,_,st)=>some (r,st)
 | none=>none
theorem a6t (r b:AV) (st:St):p2 (some (r,b,st))=some (r,st):=a8 rfl
def gv (x:AV) (want:Bool) (e:Option AV):Option AV:=match x with
 | .bool b=>if b == want then e else some (.tuple [])
 | .tuple []=>some (.tuple [])
 | _=>none
def gv2 (x:AV) (want:Bool) (st:St) (e:Option (AV×St)):Option (AV×St):=match x with
 | .bool b=>if b == want then e else some (.tuple [],st)
 | .tuple []=>some (.tuple [],st)
 | _=>none
theorem b35 (want:Bool) (e:Option AV):gv (.tuple []) want e=some (.tuple []):=a8 rfl
theorem d14 (e:Option AV):gv (.bool true) true e=e:=a8 rfl
theorem d20 (e:Option AV):gv (.bool true) false e=some (.tuple []):=a8 rfl
theorem d1H (e:Option AV):gv (.bool false) false e=e:=a8 rfl
theorem d2j (e:Option AV):gv (.bool false) true e=some (.tuple []):=a8 rfl
theorem c7g (st:St) (e:Option (AV×St)):gv2 (.bool true) true st e=e:=a8 rfl
theorem c8x (st:St) (e:Option (AV×St)):gv2 (.bool true) false st e=some (.tuple [],st):=a8 rfl
theorem c8Z (st:St) (e:Option (AV×St)):gv2 (.bool false) false st e=e:=a8 rfl
theorem c6O (st:St) (e:Option (AV×St)):gv2 (.bool false) true st e=some (.tuple [],st):=a8 rfl
theorem c00 (want:Bool) (st:St) (e:Option (AV×St)):gv2 (.tuple []) want st e=some (.tuple [],st):=a8 rfl
theorem j4 {x:AV} {want:Bool} {st:St} {e:Option (AV×St)} {l:AV} (h:x=l):gv2 x want st e=gv2 l want st e:=by rw[h]
def j6 (xs:List Opd):Bool:=xs.any Opd.steals
theorem Z8:∀ {xs:List Opd} {σ:Sig},j6 xs=false→d9 xs σ=σ
 | [],_,_=>rfl
 | x::xs,σ,h=>by
  simp only[j6,List.any_cons,Bool.or_eq_false_iff]at h;have e:x.spend σ=σ:=by cases x<;>simp_all [Opd.spend,Opd.steals]
  rw[d9,e];exact Z8 (xs:=xs) h.2
def goK (call:d8) {α:Type} (o:AOper) (σ:Sig) (k:Sig→Option α):Option α :=
 match o.kind.setSt || o.kind.alters || j6 o.args with
 | false=>obind (p1 (sem o.kind call (o.args.map (·.read σ)) (boxOf' o.box σ) σ.st)) fun r=>k (o.dst.put r σ)
 | true=>match o.kind.alters || j6 o.args with
  | false=>obind (p2 (sem o.kind call (o.args.map (·.read σ)) (boxOf' o.box σ) σ.st)) fun r=>k (o.dst.put r.1 { σ with st:=r.2 })
  | true=>obind (sem o.kind call (o.args.map (·.read σ)) (boxOf' o.box σ) σ.st) fun r =>
   let σ:=d9 o.args σ
   match o.box with
   | some i=>k (o.dst.put r.1 { σ with fr:=σ.fr.set i r.2.1,st:=r.2.2 })
   | none=>k (o.dst.put r.1 { σ with st:=r.2.2 })
where boxOf' (b:Option Nat) (σ:Sig):AV:=match b with|some i=>σ.fr.getD i .undef|none=>.undef
def a6g (call:d8) {α:Type} (o:AOper) (σ:Sig) (k:Sig→Option α):Option α :=
 match o.guard with
 | none=>goK call o σ k
 | some (x,want)=>match o.kind.setSt || o.kind.alters || j6 o.args with
  | false=>obind (gv (x.read σ) want (p1 (sem o.kind call (o.args.map (·.read σ)) (goK.boxOf' o.box σ) σ.st))) fun r=>k (o.dst.put r σ)
  | true=>match o.kind.alters || j6 o.args with
   | false=>obind (gv2 (x.read σ) want σ.st (p2 (sem o.kind call (o.args.map (·.read σ)) (goK.boxOf' o.box σ) σ.st))) fun r=>k (o.dst.put r.1 { σ with st:=r.2 })
   | true=>match x.read σ with
    | .bool b=>if b == want then goK call o σ k else k (o.dst.put (.tuple []) σ)
    | .tuple []=>k (o.dst.put (.tuple []) σ)
    | _=>none
def a8M (call:d8) {α:Type}:List AOper→Sig→(Sig→Option α)→Option α
 | [],σ,k=>k σ
 | o::os,σ,k=>a6g call o σ fun σ=>a8M call os σ k
theorem a5p (fr:List AV) (i:Nat):fr.set i (fr.getD i .undef)=fr:=by
 apply List.ext_getElem?;intro j;rw[List.getElem?_set];by_cases e:i=j
 · subst e;rw[if_pos rfl];split
   · rename_i h; simp[h]
   · rename_i h; rw[List.getElem?_eq_none (by omega)]
 · rw[if_neg e]
theorem a8u {call:d8} {α:Type} {o:AOper} {σ:Sig} {k:Sig→Option α}:goK call o σ k=obind (J4 call o σ) k:=by
 have I:goK.boxOf' o.box σ=(match o.box with|some i=>σ.fr.getD i .undef|none=>.undef):=rfl;unfold goK;rw[S7,I];split
 · rename_i v;simp only[Bool.or_eq_false_iff]at v;obtain⟨⟨C,t⟩,u⟩:=v;cases l:sem o.kind call (o.args.map (·.read σ)) (match o.box with|some i=>σ.fr.getD i .undef|none=>.undef) σ.st with
   | none=>rfl
   | some x =>
    obtain⟨r,b',st'⟩:=x;have z:=a4V C l;have e2:=a3W t l;subst z;simp only[p1,A0,Z8 u];cases e:o.box with
    | none=>rfl
    | some i =>simp only[e]at e2;rw[e2];simp only[a5p,A0]
 · rename_i v;split
   · rename_i y;simp only[Bool.or_eq_false_iff]at y;obtain⟨t,u⟩:=y;cases l:sem o.kind call (o.args.map (·.read σ)) (match o.box with|some i=>σ.fr.getD i .undef|none=>.undef) σ.st with
     | none=>rfl
     | some x =>
      obtain⟨r,b',st'⟩:=x;have e2:=a3W t l;simp only[p2,A0,Z8 u];cases e:o.box with
      | none=>rfl
      | some i =>simp only[e]at e2;rw[e2];simp only[a5p,A0]
   · cases l:sem o.kind call (o.args.map (·.read σ)) (match o.box with|some i=>σ.fr.getD i .undef|none=>.undef) σ.st with
     | none=>rfl
     | some x =>
      obtain⟨r,b',st'⟩:=x;simp only[A0];cases e:o.box with
      | none=>rfl
      | some i=>rfl
theorem c6q {α:Type} {x:AV} {want:Bool} {e:Option AV} {f:AV→Option α}:obind (gv x want e) f =
 (match x with|.bool b=>if b == want then obind e f else f (.tuple [])|.tuple []=>f (.tuple [])|_=>none):=by
 unfold gv;split
 · split<;>rfl
 · rfl
 · rfl
theorem c2s {α:Type} {x:AV} {want:Bool} {st:St} {e:Option (AV×St)} {f:AV×St→Option α}:obind (gv2 x want st e) f =
 (match x with|.bool b=>if b == want then obind e f else f (.tuple [],st)|.tuple []=>f (.tuple [],st)|_=>none):=by
 unfold gv2;split
 · split<;>rfl
 · rfl
 · rfl
theorem a4b {call:d8} {α:Type} {o:AOper} {σ:Sig} {k:Sig→Option α}:a6g call o σ k=obind (l9 call o σ) k:=by
 unfold a6g l9;cases y:o.guard with
 | none=>exact a8u
 | some v =>
  obtain⟨x,want⟩:=v;simp only;split
  · rename_i l;have e:obind (p1 (sem o.kind call (o.args.map (·.read σ)) (goK.boxOf' o.box σ) σ.st)) (fun r=>k (o.dst.put r σ))=obind (J4 call o σ) k:=by have:=a8u (call:=call) (o:=o) (σ:=σ) (k:=k);unfold goK at this;rw[l]at this;exact this
    rw[c6q];cases t:x.read σ<;>try rfl
    · dsimp only;split
      · exact e
      · rfl
    · rename_i vs;cases vs<;>rfl
  · rename_i l;split
    · rename_i u;have e:obind (p2 (sem o.kind call (o.args.map (·.read σ)) (goK.boxOf' o.box σ) σ.st)) (fun r=>k (o.dst.put r.1 { σ with st:=r.2 }))=obind (J4 call o σ) k:=by have:=a8u (call:=call) (o:=o) (σ:=σ) (k:=k);unfold goK at this;rw[l,u]at this;exact this
      rw[c2s];cases t:x.read σ<;>try rfl
      · dsimp only;split
        · exact e
        · rfl
      · rename_i vs;cases vs<;>rfl
    · cases t:x.read σ<;>try rfl
      · dsimp only;split
        · exact a8u
        · rfl
      · rename_i vs;cases vs<;>rfl
theorem a2b {call:d8} {α:Type} {k:Sig→Option α}:∀ {ops:List AOper} {σ:Sig},a8M call ops σ k=obind (q8 call ops σ) k
 | [],σ=>rfl
 | o::os,σ=>by
  simp only[a8M,q8,a4b];cases e:l9 call o σ with
  | none=>rfl
  | some σ1=>exact a2b
def br (c:AV) (a b:Option Out):Option Out:=match c with
 | .bool true=>a
 | .bool false=>b
 | _=>none
theorem a2x (call:d8) (n:Nat) (kill:List Nat) (ps:List AOper) (fr:List AV) (st:St) :
 j1 call n (.reg kill ps) fr st=a8M call ps ⟨n5 kill fr,fun _=>.undef,st⟩ fun σ=>some (.normal,σ.fr,σ.st):=by
 rw[a2b];simp only[j1,fL_eq];cases q8 call ps ⟨n5 kill fr,fun _=>.undef,st⟩<;>rfl
theorem b0d (call:d8) (n:Nat) (kill:List Nat) (ps:List AOper) (c:Opd) (a b:ACode) (fr:List AV) (st:St) :
 j1 call n (.test kill ps c a b) fr st=a8M call ps ⟨n5 kill fr,fun _=>.undef,st⟩ fun σ=>br (c.read σ) (j1 call n a σ.fr σ.st) (j1 call n b σ.fr σ.st):=by
 rw[a2b];simp only[j1,fL_eq];cases q8 call ps ⟨n5 kill fr,fun _=>.undef,st⟩with
 | none=>rfl
 | some σ =>simp only[A0];generalize c.read σ=y;cases y<;>rfl
def a5Z (i:Nat) (x:AV):AV:=match x with
 | .box _=>.loc i 0
 | _=>.undef
def seqK (x:Option Out) (f:List AV→St→Option Out):Option Out:=match x with
 | some (.normal,fr,st)=>f fr st
 | r=>r
theorem a6w (fr:List AV) (st:St) (f:List AV→St→Option Out):seqK (some (.normal,fr,st)) f=f fr st:=a8 rfl
theorem b7m (id:Nat) (fr:List AV) (st:St) (f:List AV→St→Option Out):seqK (some (.exit id,fr,st)) f=some (.exit id,fr,st):=a8 rfl
theorem c0D (fr:List AV) (st:St) (f:List AV→St→Option Out):seqK (some (.ret,fr,st)) f=some (.ret,fr,st):=a8 rfl
theorem i8 {x e:Option Out} {f:List AV→St→Option Out} (h:x=e):seqK x f=seqK e f:=by rw[h]
theorem exec_seqK (call:d8) (n:Nat) (a b:ACode) (fr:List AV) (st:St):j1 call n (.seq a b) fr st=seqK (j1 call n a fr st) (j1 call n b):=by simp only[j1,seqK];split<;>rename_i h<;>simp only[h]
def finK (rs:List ResK) (x:Option Out):Option (AV×St):=match x with
 | some (.exit _,_,_)=>none
 | some (_,fr,st)=>match V0 rs fr with
  | some [v]=>some (v,st)
  | some vs=>some (.tuple vs,st)
  | none=>none
 | none=>none
theorem a6R (fn:AFn) (call:d8) (n:Nat) (args:List AV) (st:St) (h:args.length=fn.np) :
 fn.run call n args st=finK fn.results (j1 call n fn.code (args++List.replicate (fn.nv - fn.np) .undef) st):=by
 unfold AFn.run finK;rw[if_pos h];cases j1 call n fn.code (args++List.replicate (fn.nv - fn.np) .undef) st with
 | none=>rfl
 | some x =>
  obtain⟨e,fr,st'⟩:=x;cases e<;>dsimp only<;>cases V0 fn.results fr with
  | none=>rfl
  | some vs =>
   match vs with
   | []=>rfl
   | [v]=>rfl
   | _::_::_=>rfl
theorem c1I (call:d8) (n:Nat) (fr:List AV) (st:St):j1 call n .ret fr st=some (.ret,fr,st):=by simp only[j1]
theorem b7b (call:d8) (n id:Nat) (fr:List AV) (st:St):j1 call n (.exit id) fr st=some (.exit id,fr,st):=by simp only[j1]
theorem b8U (call:d8) (n:Nat) (fr:List AV) (st:St):j1 call n .skip fr st=some (.normal,fr,st):=by simp only[j1]
def a1q (c e:d8):Prop:=∀ f as st r,c f as st=some r→e f as st=some r
theorem c8U {c u:d8} (h:a1q c u) {k:Kind} {as:List AV} {b:AV} {st:St} {r:AV×AV×St} (e:sem k c as b st=some r):sem k u as b st=some r:=by
 cases k
 case call f =>
  simp only[sem,p8]at e ⊢;split at e
  · rename_i t;rw[if_pos t];obtain⟨x,v,rfl⟩:=AL.1 e;rw[h _ _ _ _ v];rfl
  · cases e
 case callA f m =>
  simp only[sem,H8]at e ⊢;cases l:p8 f c (as.take m) b st with
  | none=>rw[l]at e; cases e
  | some x =>
   rw[l]at e;have:p8 f u (as.take m) b st=some x:=by
    unfold p8 at l ⊢;split at l
    · rename_i t;rw[if_pos t];obtain⟨y,z,rfl⟩:=AL.1 l;rw[h _ _ _ _ z];rfl
    · cases l
   rw[this];exact e
 case callV =>
  simp only[sem]at e ⊢;unfold L9 at e ⊢;split at e
  · split at e
    · rename_i t;simp only[if_pos t];obtain⟨x,v,rfl⟩:=AL.1 e;rw[h _ _ _ _ v];rfl
    · cases e
  · cases e
 all_goals exact e
theorem b3N {c e:d8} (h:a1q c e) {o:AOper} {σ σ':Sig} (t:J4 c o σ=some σ'):J4 e o σ=some σ':=by obtain⟨r,b',st',l,rfl⟩:=m9 t;exact a6r (c8U h l)
theorem b8t {c t:d8} (h:a1q c t) {o:AOper} {σ σ':Sig} (e:l9 c o σ=some σ'):l9 t o σ=some σ':=by
 unfold l9 at e ⊢;split at e
 · exact b3N h e
 · split at e
   · split at e
     · rename_i l; rw[if_pos l]; exact b3N h e
     · rename_i l; rw[if_neg l]; exact e
   · exact e
   · cases e
theorem a5y {c l:d8} (h:a1q c l):∀ {os:List AOper} {σ σ':Sig},q8 c os σ=some σ'→q8 l os σ=some σ'
 | [],_,_,hs=>hs
 | o::os,σ,σ',hs=>by
  simp only[q8]at hs ⊢;cases e:l9 c o σ with
  | none=>simp[e]at hs
  | some σ1 =>simp only[e]at hs;simp only[b8t h e];exact a5y h hs
theorem a5W {body l:List AV→St→Option Out} (h:∀ fr st r,body fr st=some r→l fr st=some r):∀ {n m:Nat} {fr:List AV} {st:St} {r:Out},n≤m→a0u body n fr st=some r→a0u l m fr st=some r
 | 0,_,_,_,_,_,t=>by simp[a0u]at t
 | n+1,0,_,_,_,u,_=>by omega
 | n+1,m+1,fr,st,r,u,t=>by
  simp only[a0u]at t ⊢;cases v:body fr st with
  | none=>simp[v]at t
  | some o =>
   rw[v]at t;rw[h _ _ _ v];obtain⟨e,x,st1⟩:=o;cases e with
   | normal=>exact a5W h (by omega) t
   | exit id=>exact t
   | ret=>exact t
theorem I3 {c v:d8} (h:a1q c v) {n m:Nat} (t:n≤m):∀ {x:ACode} {fr:List AV} {st:St} {r:Out},j1 c n x fr st=some r→j1 v m x fr st=some r
 | .skip,_,_,_,l=>l
 | .exit _,_,_,_,l=>l
 | .ret,_,_,_,l=>l
 | .reg kill ops,fr,st,r,l=>by
  simp only[j1]at l ⊢;cases u:q8 c ops ⟨n5 kill fr,fun _=>.undef,st⟩with
  | none=>simp[u]at l
  | some σ=>rw[u]at l; rw[a5y h u]; exact l
 | .test kill ops x a b,fr,st,r,l=>by
  rw[b0d]at l ⊢;rw[a2b]at l ⊢;cases u:q8 c ops ⟨n5 kill fr,fun _=>.undef,st⟩with
  | none=>rw[u]at l; cases l
  | some σ =>
   rw[u]at l;rw[a5y h u];rw[A0]at l ⊢;unfold br at l ⊢;split at l
   · exact I3 h t l
   · exact I3 h t l
   · cases l
 | .either kill a b,fr,st,r,l=>by simp only[j1]at l ⊢;obtain⟨M,ob,z,C,y,L⟩:=a7Q l;rw[I3 h t z,I3 h t C,a4K (y.trans L.symm),y]
 | .seq a b,fr,st,r,l=>by
  rw[exec_seqK]at l ⊢;cases u:j1 c n a fr st with
  | none=>rw[u]at l; cases l
  | some o =>
   rw[u]at l;rw[I3 h t u];obtain⟨e,I,st1⟩:=o;cases e with
   | normal=>exact I3 h t l
   | exit id=>exact l
   | ret=>exact l
 | .blk id a,fr,st,r,l=>by
  simp only[j1]at l ⊢;cases u:j1 c n a fr st with
  | none=>rw[u]at l; cases l
  | some o=>rw[u]at l; rw[I3 h t u]; exact l
 | .loop a,fr,st,r,l=>by simp only[j1]at l ⊢;exact a5W (fun _ _ _ J=>I3 h t J) t l
theorem b9b {c u:d8} (h:a1q c u) {n m:Nat} (l:n≤m) {fn:AFn} {args:List AV} {st:St} {r:AV×St} (e:fn.run c n args st=some r):fn.run u m args st=some r:=by
 have v:args.length=fn.np:=by
  unfold AFn.run at e;split at e
  · assumption
  · cases e
 rw[a6R _ _ _ _ _ v]at e ⊢;cases t:j1 c n fn.code (args++List.replicate (fn.nv - fn.np) .undef) st with
 | none=>rw[t]at e; cases e
 | some o=>rw[t]at e; rw[I3 h l t]; exact e
theorem U9 {tbl:Nat→Option AFn}:∀ {n m:Nat},n≤m→a1q (k8 tbl n) (k8 tbl m)
 | 0,_,_,_,_,_,_,l=>by simp[k8]at l
 | n+1,0,u,_,_,_,_,_=>by omega
 | n+1,m+1,u,f,as,st,r,l=>by
  simp only[k8]at l ⊢;cases t:tbl f with
  | none=>simp[t]at l
  | some fn =>
   simp only[t]at l ⊢;cases v:fn.ext with
   | some e=>simp only[v]at l ⊢; exact l
   | none =>simp only[v]at l ⊢;exact b9b (U9 (by omega)) (by omega) l
def Ev (tbl:Nat→Option AFn) (f:Nat) (as:List AV) (st:St) (r:AV) (st':St):Prop:=∃ n,k8 tbl n f as st=some (r,st')
theorem Ev.ge {tbl:Nat→Option AFn} {f:Nat} {as:List AV} {st:St} {r:AV} {st':St} (h:Ev tbl f as st r st'):∃ n0,∀ n,n0≤n→k8 tbl n f as st=some (r,st') :=
 let ⟨n,hn⟩:=h; ⟨n,fun m e=>U9 e _ _ _ _ hn⟩
end Go.Cb
namespace Go.Cb
open Classical
section
variable {tbl:Nat→Option AFn}
def XC (tbl:Nat→Option AFn) (x:ACode) (fr:List AV) (st:St) (out:Out):Prop:=∃ n,j1 (k8 tbl n) n x fr st=some out
theorem XC.ge {x:ACode} {fr:List AV} {st:St} {out:Out} (h:XC tbl x fr st out):∃ n0,∀ n,n0≤n→j1 (k8 tbl n) n x fr st=some out :=
 let ⟨n,hn⟩:=h; ⟨n,fun m e=>I3 (U9 e) e hn⟩
def LX (tbl:Nat→Option AFn) (x:ACode) (fr:List AV) (st:St) (out:Out):Prop:=∃ n k,a0u (j1 (k8 tbl n) n x) k fr st=some out
theorem LX.done {x:ACode} {fr:List AV} {st:St} {e:Ex} {l:List AV} {st':St} (h:XC tbl x fr st (e,l,st')) (t:e≠.normal):LX tbl x fr st (e,l,st'):=by
 obtain⟨n,u⟩:=h;refine⟨n,1,?_⟩;simp only[a0u,u];cases e with
 | normal=>exact absurd rfl t
 | exit id=>rfl
 | ret=>rfl
theorem LX.step {x:ACode} {fr e:List AV} {st st1:St} {out:Out} (h:XC tbl x fr st (.normal,e,st1)) (l:LX tbl x e st1 out):LX tbl x fr st out:=by obtain⟨n,y⟩:=h;obtain⟨m,k,v⟩:=l;refine⟨max n m,k+1,?_⟩;have t:=I3 (U9 (tbl:=tbl) (Nat.le_max_left n m)) (Nat.le_max_left n m) y;simp only[a0u,t];exact a5W (fun _ _ _ u=>I3 (U9 (Nat.le_max_right n m)) (Nat.le_max_right n m) u) (AK k) v
theorem XC.loop {x:ACode} {fr:List AV} {st:St} {out:Out} (h:LX tbl x fr st out):XC tbl (.loop x) fr st out:=by obtain⟨n,k,h⟩:=h;refine⟨max n k,?_⟩;simp only[j1];exact a5W (fun _ _ _ e=>I3 (U9 (Nat.le_max_left n k)) (Nat.le_max_left n k) e) (Nat.le_max_right n k) h
theorem XC.seq {a b:ACode} {fr e:List AV} {st st1:St} {out:Out} (h:XC tbl a fr st (.normal,e,st1)) (l:XC tbl b e st1 out):XC tbl (.seq a b) fr st out:=by obtain⟨n,u⟩:=h;obtain⟨m,t⟩:=l;refine⟨max n m,?_⟩;rw[exec_seqK,I3 (U9 (Nat.le_max_left n m)) (Nat.le_max_left n m) u,a6w];exact I3 (U9 (Nat.le_max_right n m)) (Nat.le_max_right n m) t
theorem XC.blk {id:Nat} {a:ACode} {fr l:List AV} {st st1:St} {e:Ex} (h:XC tbl a fr st (e,l,st1)):XC tbl (.blk id a) fr st (if e=.exit id then .normal else e,l,st1):=by
 obtain⟨n,u⟩:=h;refine⟨n,?_⟩;simp only[j1,u];cases e with
 | normal=>rfl
 | exit t =>
  by_cases hid:t=id
  · subst hid; simp
  · simp[hid]
 | ret=>rfl
theorem XC.skip {fr:List AV} {st:St}:XC tbl .skip fr st (.normal,fr,st):=⟨0,rfl⟩
theorem XC.exit {id:Nat} {fr:List AV} {st:St}:XC tbl (.exit id) fr st (.exit id,fr,st):=⟨0,rfl⟩
theorem XC.ret {fr:List AV} {st:St}:XC tbl .ret fr st (.ret,fr,st):=⟨0,rfl⟩
theorem XC.of {x:ACode} {fr:List AV} {st:St} {out:Out} (h:∃ n0,∀ n,n0≤n→j1 (k8 tbl n) n x fr st=some out):XC tbl x fr st out :=
 let ⟨n,hn⟩:=h; ⟨n,hn n (AK n)⟩
theorem XC.goes {x a:ACode} {fr e:List AV} {st st1:St} {out:Out} (h:∃ n0,∀ n,n0≤n→j1 (k8 tbl n) n x fr st=j1 (k8 tbl n) n a e st1) (l:XC tbl a e st1 out):XC tbl x fr st out:=by obtain⟨n,u⟩:=h;obtain⟨m,t⟩:=l.ge;exact⟨max n m,by rw[u _ (Nat.le_max_left n m)]; exact t _ (Nat.le_max_right n m)⟩
theorem Ev.of_body {f:Nat} {fn:AFn} {as:List AV} {st:St} {e:Ex} {l:List AV} {st':St} {r:AV×St} (t:tbl f=some fn) (u:fn.ext=none) (v:as.length=fn.np)
 (h:XC tbl fn.code (as++List.replicate (fn.nv - fn.np) .undef) st (e,l,st')) (y:finK fn.results (some (e,l,st'))=some r):Ev tbl f as st r.1 r.2:=by
 obtain⟨n,x⟩:=h;refine⟨n+1,?_⟩;simp only[k8,t,u];rw[a6R _ _ _ _ _ v,x,y]
theorem Ev.of_ext {f:Nat} {fn:AFn} {as:List AV} {st:St} {e:List AV→St→Option (AV×St)} {r:AV×St} (l:tbl f=some fn) (t:fn.ext=some e) (h:e as st=some r):Ev tbl f as st r.1 r.2 :=
 ⟨1,by simp only[k8,l,t]; exact h⟩
end
end Go.Cb
namespace Go.Cb
open Classical
def WC {α:Type} (c:Nat→Option α) (Q:α→Prop):Prop:=∃ n0 a,(∀ n,n0≤n→c n=some a)∧Q a
def EvQ (tbl:Nat→Option AFn) (f:Nat) (as:List AV) (st:St) (Q:AV→St→Prop):Prop:=∃ r st',Ev tbl f as st r st'∧Q r st'
theorem wc {α:Type} {a:α} {Q:α→Prop} (h:Q a):WC (fun _=>some a) Q:=⟨0,a,fun _ _=>rfl,h⟩
theorem WC.mono {α:Type} {c:Nat→Option α} {P Q:α→Prop} (h:WC c P) (e:∀ a,P a→Q a):WC c Q :=
 let ⟨n,a,ha,hp⟩:=h; ⟨n,a,ha,e a hp⟩
theorem WC.obind {α β:Type} {c:Nat→Option α} {k:Nat→α→Option β} {P:α→Prop} {Q:β→Prop} (h:WC c P) (u:∀ a,P a→WC (fun n=>k n a) Q):WC (fun n=>Go.Cb.obind (c n) (k n)) Q:=by obtain⟨n,a,e,v⟩:=h;obtain⟨m,b,l,x⟩:=u a v;refine⟨max n m,b,fun j t=>?_,x⟩;show Go.Cb.obind (c j) (k j)=some b;rw[e j (by omega),A0];exact l j (Nat.le_trans (Nat.le_max_right n m) t)
theorem EvQ.mono {tbl:Nat→Option AFn} {f:Nat} {as:List AV} {st:St} {P Q:AV→St→Prop} (h:EvQ tbl f as st P) (e:∀ r st',P r st'→Q r st'):EvQ tbl f as st Q :=
 let ⟨r,st',he,hp⟩:=h; ⟨r,st',he,e r st' hp⟩
section
variable {tbl:Nat→Option AFn}
theorem wa {β:Type} {f:Nat} {as e:List AV} {bx:AV} {st:St} {k:Nat→AV×St→Option β} {P:AV→St→Prop} {Q:β→Prop}
 (h:EvQ tbl f e st P) (z:D1 as=true) (I:as.map AV.weak=e) (v:∀ r st',P r st'→WC (fun n=>k n (r,st')) Q):WC (fun n=>Go.Cb.obind (p2 (p8 f (k8 tbl n) as bx st)) (k n)) Q:=by
 obtain⟨r,st',u,C⟩:=h;obtain⟨n0,l⟩:=u.ge;refine WC.obind (P:=fun x=>x=(r,st')) ⟨n0,(r,st'),fun n y=>?_,rfl⟩ (fun a t=>t ▸ v r st' C);simp only[p8,z,if_true,I,l n y,AO,a6t]
theorem wl {β:Type} {f:Nat} {first e as l:List AV} {bx:AV} {st:St} {k:Nat→AV×St→Option β} {P:AV→St→Prop} {Q:β→Prop}
 (h:EvQ tbl f l st P) (C:D1 as=true) (J:(first++as++e).map AV.weak=l) (y:∀ r st',P r st'→WC (fun n=>k n (r,st')) Q):WC (fun n=>Go.Cb.obind (p2 (L9 (k8 tbl n) (.func f first e::as) bx st)) (k n)) Q:=by
 obtain⟨r,st',v,I⟩:=h;obtain⟨n0,t⟩:=v.ge;refine WC.obind (P:=fun x=>x=(r,st')) ⟨n0,(r,st'),fun n z=>?_,rfl⟩ (fun a u=>u ▸ y r st' I);simp only[L9,C,if_true,J,t n z,AO,a6t]
def a1u (id:Nat) (o:Out):Out:=match o with
 | (.exit e,fr,st)=>if e=id then(.normal,fr,st)else(.exit e,fr,st)
 | o=>o
def blkK (id:Nat) (x:Option Out):Option Out:=match x with
 | some o=>some (a1u id o)
 | none=>none
theorem b0k (id:Nat) (o:Out):blkK id (some o)=some (a1u id o):=a8 rfl
theorem b0z (id:Nat) (fr:List AV) (st:St):a1u id (.normal,fr,st)=(.normal,fr,st):=a8 rfl
theorem b63 (id:Nat) (fr:List AV) (st:St):a1u id (.ret,fr,st)=(.ret,fr,st):=a8 rfl
theorem b3j (id e:Nat) (fr:List AV) (st:St):a1u id (.exit e,fr,st)=if e=id then(.normal,fr,st)else(.exit e,fr,st):=a8 rfl
theorem j0 {id:Nat} {x e:Option Out} (h:x=e):blkK id x=blkK id e:=by rw[h]
theorem b84 (call:d8) (n id:Nat) (a:ACode) (fr:List AV) (st:St):j1 call n (.blk id a) fr st=blkK id (j1 call n a fr st):=by
 simp only[j1,blkK];cases j1 call n a fr st with
 | none=>rfl
 | some o =>
  obtain⟨e,t,st'⟩:=o;cases e with
  | normal=>rfl
  | ret=>rfl
  | exit l=>by_cases h:l=id<;>simp[a1u,h]
theorem WC.seqK {c:Nat→Option Out} {g:Nat→List AV→St→Option Out} {P Q:Out→Prop} (h:WC c P) (t:∀ o,P o→WC (fun n=>Go.Cb.seqK (some o) (g n)) Q):WC (fun n=>Go.Cb.seqK (c n) (g n)) Q:=by obtain⟨n,a,e,u⟩:=h;obtain⟨m,b,l,v⟩:=t a u;exact⟨max n m,b,fun j x=>by dsimp only; rw[e j (by omega)]; exact l j (by omega),v⟩
theorem WC.blkK {id:Nat} {c:Nat→Option Out} {Q:Out→Prop} (h:WC c (fun o=>Q (a1u id o))):WC (fun n=>Go.Cb.blkK id (c n)) Q:=by obtain⟨n,a,e,t⟩:=h;exact⟨n,_,fun j l=>by dsimp only; rw[e j l,b0k],t⟩
theorem WC.finK {rs:List ResK} {c:Nat→Option Out} {P:Out→Prop} {Q:AV×St→Prop} (h:WC c P) (t:∀ o,P o→WC (fun n=>Go.Cb.finK rs (some o)) Q):WC (fun n=>Go.Cb.finK rs (c n)) Q:=by obtain⟨n,a,e,u⟩:=h;obtain⟨m,b,l,v⟩:=t a u;exact⟨max n m,b,fun j x=>by dsimp only; rw[e j (by omega)]; exact l j (by omega),v⟩
theorem WC.of_xc {x:ACode} {fr:List AV} {st:St} {out:Out} {Q:Out→Prop} (h:XC tbl x fr st out) (l:Q out):WC (fun n=>j1 (k8 tbl n) n x fr st) Q:=by obtain⟨n,e⟩:=h.ge;exact⟨n,out,e,l⟩
theorem WC.xc {x:ACode} {fr:List AV} {st:St} {Q:Out→Prop} (h:WC (fun n=>j1 (k8 tbl n) n x fr st) Q):∃ out,XC tbl x fr st out∧Q out:=by obtain⟨n,a,e,l⟩:=h;exact⟨a,⟨n,e n (AK n)⟩,l⟩
theorem WC.loop {x:ACode} {Q:Out→Prop} (I:Nat→List AV→St→Prop) {m:Nat} {fr:List AV} {st:St} (C:I m fr st)
 (J:∀ m fr st,I m fr st→WC (fun n=>j1 (k8 tbl n) n x fr st) (fun o=>(∃ m' l st',o=(.normal,l,st')∧m' < m∧I m' l st')∨(o.1≠.normal∧Q o))) :
 WC (fun n=>j1 (k8 tbl n) n (.loop x) fr st) Q:=by
 have key:∀ m fr st,I m fr st→∃ out,LX tbl x fr st out∧Q out:=by
  intro m;induction m using Nat.strongRecOn with
  | ind m M =>
   intro fr st h;obtain⟨out,z,L⟩:=(J m fr st h).xc;rcases L with⟨m',l,st',rfl,v,hi⟩|⟨y,t⟩
   · obtain⟨out,u,t⟩:=M m' v l st' hi;exact⟨out,LX.step z u,t⟩
   · obtain⟨e,l,st'⟩:=out;exact⟨_,LX.done z y,t⟩
 obtain⟨out,u,t⟩:=key m fr st C;exact WC.of_xc (XC.loop u) t
theorem EvQ.of_body {f:Nat} {fn:AFn} {as:List AV} {st:St} {Q:AV→St→Prop} (e:tbl f=some fn) (t:fn.ext=none) (u:as.length=fn.np)
 (h:WC (fun n=>Go.Cb.finK fn.results (j1 (k8 tbl n) n fn.code (as++List.replicate (fn.nv - fn.np) .undef) st)) (fun r=>Q r.1 r.2)):EvQ tbl f as st Q:=by
 obtain⟨n,a,l,v⟩:=h;refine⟨a.1,a.2,⟨n+1,?_⟩,v⟩;simp only[k8,e,t];rw[a6R _ _ _ _ _ u];exact l n (AK n)
theorem EvQ.of_ext {f:Nat} {fn:AFn} {as:List AV} {st:St} {e:List AV→St→Option (AV×St)} {r:AV×St} {Q:AV→St→Prop} (l:tbl f=some fn) (t:fn.ext=some e) (h:e as st=some r) (u:Q r.1 r.2):EvQ tbl f as st Q :=
 ⟨_,_,Ev.of_ext l t h,u⟩
end
end Go.Cb
namespace Go.Cb
open Classical
section
variable {tbl:Nat→Option AFn}
theorem wd {I:Nat→List AV→St→Prop} {m m':Nat} {e:List AV} {st':St} {R:Out→Prop} (l:m' < m) (hi:I m' e st') :
 WC (fun _=>some (Ex.normal,e,st')) (fun o=>(∃ m' e st',o=(.normal,e,st')∧m' < m∧I m' e st')∨(o.1≠.normal∧R o)):=wc (Or.inl ⟨m',e,st',rfl,l,hi⟩)
theorem we {I:Nat→List AV→St→Prop} {m id:Nat} {e:List AV} {st':St} {R:Out→Prop} (h:R (.exit id,e,st')) :
 WC (fun _=>some (Ex.exit id,e,st')) (fun o=>(∃ m' e st',o=(.normal,e,st')∧m' < m∧I m' e st')∨(o.1≠.normal∧R o)):=wc (Or.inr ⟨fun h=>by simp at h,h⟩)
theorem wh {I:Nat→List AV→St→Prop} {m:Nat} {e:List AV} {st':St} {R:Out→Prop} (h:R (.ret,e,st')) :
 WC (fun _=>some (Ex.ret,e,st')) (fun o=>(∃ m' e st',o=(.normal,e,st')∧m' < m∧I m' e st')∨(o.1≠.normal∧R o)):=wc (Or.inr ⟨fun h=>by simp at h,h⟩)
theorem wj {f:Nat} {fn:AFn} {as:List AV} {st:St} {Q:AV→St→Prop} (e:tbl f=some fn) (l:fn.ext=none) (t:as.length=fn.np)
 (h:WC (fun n=>j1 (k8 tbl n) n fn.code (as++List.replicate (fn.nv - fn.np) .undef) st) (fun o=>∃ r st',Go.Cb.finK fn.results (some o)=some (r,st')∧Q r st')):EvQ tbl f as st Q :=
 EvQ.of_body e l t (WC.finK h fun o ⟨r,st',v,u⟩=>⟨0,(r,st'),fun _ _=>v,u⟩)
end
end Go.Cb
namespace Go.Cb
open Classical
theorem S2 {n:Int} (e:-9223372036854775808≤n) (l:n < 9223372036854775808):n7 .i64 n=n:=by
 rw[Q8];simp only[IntKind.wrap,IntKind.signed,IntKind.bits,Bool.true_and];split
 · rename_i h; have h:=of_decide_eq_true h; omega
 · rename_i h; have h:¬ (n % 2 ^ 64 ≥ 2 ^ (64 - 1)):=fun x=>h (decide_eq_true x); omega
theorem k7 {i:Nat} (h:i+1 < 2 ^ 63):n7 .i64 (a3i (i:Int) 1)=((i+1:Nat):Int):=by rw[addI_eq,S2 (by omega) (by omega)];omega
theorem ltN (i j:Nat):ltI (i:Int) (j:Int)=decide (i < j):=by
 rw[ltI_eq];by_cases h:i < j
 · simp[h]
 · simp[h]
theorem c98 (i j:Nat):eqI (i:Int) (j:Int)=decide (i=j):=by
 rw[eqI_eq];by_cases h:i=j
 · simp[h]
 · simp[h]; omega
theorem e8 (b:Bool):b=true∨b=false:=by cases b<;>simp
theorem B3 {sz:Nat} {xs:List (List AV)} (h:∀ r∈xs,r.length=sz):l5 sz xs=true:=by
 cases xs with
 | nil=>rfl
 | cons r rs=>simp[l5,h r (by simp)]
def gV (x:AV) (want:Bool) (v:AV):AV:=match x with
 | .bool b=>if b == want then v else .tuple []
 | _=>.tuple []
theorem d02 (v:AV):gV (.bool true) true v=v:=a8 rfl
theorem d26 (v:AV):gV (.bool false) false v=v:=a8 rfl
theorem d08 (v:AV):gV (.bool true) false v=.tuple []:=a8 rfl
theorem d2E (v:AV):gV (.bool false) true v=.tuple []:=a8 rfl
theorem c5D (want:Bool) (v:AV):gV (.tuple []) want v=.tuple []:=a8 rfl
theorem b31 (c want:Bool) (v:AV):gv (.bool c) want (some v)=some (gV (.bool c) want v):=by cases c<;>cases want<;>rfl
theorem b2o (x:AV) (w b want:Bool) (v:AV):gv (gV x w (.bool b)) want (some v)=some (gV (gV x w (.bool b)) want v):=by
 unfold gV;cases x with
 | bool c=>cases c<;>cases w<;>cases b<;>cases want<;>rfl
 | _=>rfl
theorem j3 {x l:AV} {want:Bool} {e e':Option AV} (u:x=l) (v:l=.bool want→e=e'):gv x want e=gv l want e':=by
 subst u;unfold gv;split
 · rename_i b;by_cases t:b=want
   · rw[v (by rw[t])]
   · simp[t]
 · rfl
 · rfl
theorem c6l (x:AV) (w:Bool) (v:AV):(gV x w v).weak=gV x w v.weak:=by
 unfold gV;cases x with
 | bool c=>dsimp only; split<;>rfl
 | _=>rfl
theorem c1L (x:AV) (w:Bool) (v:AV):(gV x w v).strip=gV x w v.strip:=by
 unfold gV;cases x with
 | bool c=>dsimp only; split<;>rfl
 | _=>rfl
theorem b9h (x:AV) (w:Bool) (v:AV):(gV x w v).stripB=gV x w v.stripB:=by
 unfold gV;cases x with
 | bool c=>dsimp only; split<;>rfl
 | _=>rfl
theorem c8S (call:d8) (a b bx:AV) (st:St):p1 (G5 call [.bool true,a,b] bx st)=if a.plain then some a else none:=by unfold G5; dsimp only; by_cases h:a.plain=true<;>simp[h,p1]
theorem c9s (call:d8) (a b bx:AV) (st:St):p1 (G5 call [.bool false,a,b] bx st)=if b.plain then some b else none:=by unfold G5; dsimp only; by_cases h:b.plain=true<;>simp[h,p1]
theorem c5k (call:d8) (c d:Bool) (bx:AV) (st:St):p1 (G5 call [.bool c,.bool true,gV (.bool c) false (.bool d)] bx st)=some (.bool (c || d)):=by cases c<;>rfl
theorem c2n (call:d8) (c d:Bool) (bx:AV) (st:St):p1 (G5 call [.bool c,gV (.bool c) true (.bool d),.bool false] bx st)=some (.bool (c && d)):=by cases c<;>rfl
theorem b8h (b:Bool):(AV.bool b).weak=.bool b:=a8 rfl
theorem c0P (k:IntKind) (n:Int):(AV.int k n).weak=.int k n:=a8 rfl
theorem b9T (s:List Nat):(AV.str s).weak=.str s:=a8 rfl
theorem b74 (o:Bool) (xs:List (List AV)):(AV.list o xs).weak=.list false xs:=a8 rfl
theorem c0e (o f:Nat):(AV.ptr o f).weak=.ptr o f:=a8 rfl
theorem b7d:AV.nilp.weak=.nilp:=a8 rfl
theorem b8v:AV.nils.weak=.nils:=a8 rfl
theorem c44 (cs:List AV):(AV.ro cs).weak=.ro cs:=a8 rfl
theorem b9Z (i f:Nat):(AV.loc i f).weak=.loc i f:=a8 rfl
theorem c1Q (o:Nat):(AV.map o).weak=.map o:=a8 rfl
theorem b8W:AV.nilm.weak=.nilm:=a8 rfl
theorem b7N (f:Nat) (a b:List AV):(AV.func f a b).weak=.func f a b:=a8 rfl
theorem b82:AV.nilf.weak=.nilf:=a8 rfl
theorem R4 (cs:List AV):(AV.agg cs).weak=.agg (cs.map AV.weak1):=a8 rfl
theorem c5V (o f n s:Nat):(AV.sl o f n s).weak=.sl o f n s:=a8 rfl
theorem b6o (t:Nat) (v:AV):(AV.iface t v).weak=.iface t v:=a8 rfl
theorem b8c:AV.nili.weak=.nili:=a8 rfl
theorem b5P (vs:List AV):(AV.tuple vs).weak=.tuple vs:=a8 rfl
theorem b5K:AV.undef.weak=.undef:=a8 rfl
theorem c1e (cs:List AV):(AV.box cs).weak=.box cs:=a8 rfl
theorem b4J (b:Bool):(AV.bool b).weak1=.bool b:=a8 rfl
theorem b7F (k:IntKind) (n:Int):(AV.int k n).weak1=.int k n:=a8 rfl
theorem b7q (s:List Nat):(AV.str s).weak1=.str s:=a8 rfl
theorem b6V (o:Bool) (xs:List (List AV)):(AV.list o xs).weak1=.list false xs:=a8 rfl
theorem c1h (o f n s:Nat):(AV.sl o f n s).weak1=.sl o f n s:=a8 rfl
theorem b6s (f:Nat) (a b:List AV):(AV.func f a b).weak1=.func f a b:=a8 rfl
theorem b7D (o f:Nat):(AV.ptr o f).weak1=.ptr o f:=a8 rfl
theorem b56:AV.nilp.weak1=.nilp:=a8 rfl
theorem b5V:AV.nils.weak1=.nils:=a8 rfl
theorem a0h (o:Nat):(AV.map o).weak1=.map o:=a8 rfl
theorem b4Q:AV.nilm.weak1=.nilm:=a8 rfl
theorem b6R (b:Bool):(AV.bool b).strip=.bool b:=a8 rfl
theorem b7s (k:IntKind) (n:Int):(AV.int k n).strip=.int k n:=a8 rfl
theorem b8q (s:List Nat):(AV.str s).strip=.str s:=a8 rfl
theorem b6c (o:Bool) (xs:List (List AV)):(AV.list o xs).strip=.list o xs:=a8 rfl
theorem b7r (o f:Nat):(AV.ptr o f).strip=.ptr o f:=a8 rfl
theorem b5z:AV.nilp.strip=.nilp:=a8 rfl
theorem b42:AV.nils.strip=.nils:=a8 rfl
theorem b9w (cs:List AV):(AV.ro cs).strip=.ro cs:=a8 rfl
theorem b8F (i f:Nat):(AV.loc i f).strip=.undef:=a8 rfl
theorem b8w (o:Nat):(AV.map o).strip=.map o:=a8 rfl
theorem b5I:AV.nilm.strip=.nilm:=a8 rfl
theorem b5X (f:Nat) (a b:List AV):(AV.func f a b).strip=.func f a b:=a8 rfl
theorem b6I:AV.nilf.strip=.nilf:=a8 rfl
theorem b8z (cs:List AV):(AV.agg cs).strip=.agg cs:=a8 rfl
theorem c0Q (o f n s:Nat):(AV.sl o f n s).strip=.sl o f n s:=a8 rfl
theorem b28 (vs:List AV):(AV.tuple vs).strip=.tuple vs:=a8 rfl
theorem b3r:AV.undef.strip=.undef:=a8 rfl
theorem b2W (b:Bool):(AV.bool b).stripB=.bool b:=a8 rfl
theorem b6X (k:IntKind) (n:Int):(AV.int k n).stripB=.int k n:=a8 rfl
theorem b5y (s:List Nat):(AV.str s).stripB=.str s:=a8 rfl
theorem b3i (o:Bool) (xs:List (List AV)):(AV.list o xs).stripB=.list o xs:=a8 rfl
theorem b6m (o f:Nat):(AV.ptr o f).stripB=.ptr o f:=a8 rfl
theorem b2U:AV.nilp.stripB=.nilp:=a8 rfl
theorem b3y:AV.nils.stripB=.nils:=a8 rfl
theorem b8C (cs:List AV):(AV.ro cs).stripB=.ro cs:=a8 rfl
theorem b5A (i f:Nat):(AV.loc i f).stripB=.loc i f:=a8 rfl
theorem b6U (o:Nat):(AV.map o).stripB=.map o:=a8 rfl
theorem b3d:AV.nilm.stripB=.nilm:=a8 rfl
theorem b26 (f:Nat) (a b:List AV):(AV.func f a b).stripB=.func f a b:=a8 rfl
theorem b2Q:AV.nilf.stripB=.nilf:=a8 rfl
theorem b52 (cs:List AV):(AV.agg cs).stripB=.agg cs:=a8 rfl
theorem b5T (xs:List (List AV)):(AV.fresh xs).weak=.fresh xs:=a8 rfl
theorem b3o (xs:List (List AV)):(AV.fresh xs).strip=.fresh xs:=a8 rfl
theorem b1d (xs:List (List AV)):(AV.fresh xs).stripB=.fresh xs:=a8 rfl
theorem b8i (o f n s:Nat):(AV.sl o f n s).stripB=.sl o f n s:=a8 rfl
theorem b1l (vs:List AV):(AV.tuple vs).stripB=.tuple vs:=a8 rfl
theorem b2F:AV.undef.stripB=.undef:=a8 rfl
def H7 {α:Type} (K:α→Option Out) (g:List AV→St→Option Out) (a:α):Option Out:=Go.Cb.seqK (K a) g
def U3 {α:Type} (id:Nat) (K:α→Option Out) (a:α):Option Out:=Go.Cb.blkK id (K a)
theorem c9g {α:Type} (K:α→Option Out) (g:List AV→St→Option Out) (a:α):H7 K g a=Go.Cb.seqK (K a) g:=a8 rfl
theorem c7H {α:Type} (id:Nat) (K:α→Option Out) (a:α):U3 id K a=Go.Cb.blkK id (K a):=a8 rfl
theorem b3t {α:Type} (x:Option α) (f:α→Option Out) (g:List AV→St→Option Out):Go.Cb.seqK (Go.Cb.obind x f) g=Go.Cb.obind x (H7 f g):=by cases x<;>rfl
theorem b3m {α:Type} (id:Nat) (x:Option α) (f:α→Option Out):Go.Cb.blkK id (Go.Cb.obind x f)=Go.Cb.obind x (U3 id f):=by cases x<;>rfl
def a4O (call:d8) (n:Nat) (a:ACode) (fr:List AV) (st:St) (_:Unit):Option Out:=j1 call n a fr st
def b9M (A:Unit→Option Out) (g:List AV→St→Option Out) (u:Unit):Option Out:=Go.Cb.seqK (A u) g
def c1k (id:Nat) (A:Unit→Option Out) (u:Unit):Option Out:=Go.Cb.blkK id (A u)
theorem d0Z (call:d8) (n:Nat) (a:ACode) (fr:List AV) (st:St) (u:Unit):a4O call n a fr st u=j1 call n a fr st:=a8 rfl
theorem d0P (A:Unit→Option Out) (g:List AV→St→Option Out) (u:Unit):b9M A g u=Go.Cb.seqK (A u) g:=a8 rfl
theorem c7l (id:Nat) (A:Unit→Option Out) (u:Unit):c1k id A u=Go.Cb.blkK id (A u):=a8 rfl
def brT (c:AV) (A B:Unit→Option Out):Option Out:=match c with
 | .bool true=>A ()
 | .bool false=>B ()
 | _=>none
theorem c1u (A B:Unit→Option Out):brT (.bool true) A B=A ():=a8 rfl
theorem b7k (A B:Unit→Option Out):brT (.bool false) A B=B ():=a8 rfl
theorem j5 {c e:AV} {A B:Unit→Option Out} (h:c=e):brT c A B=brT e A B:=by rw[h]
theorem c1n (c:AV) (A B:Unit→Option Out) (g:List AV→St→Option Out):Go.Cb.seqK (brT c A B) g=brT c (b9M A g) (b9M B g):=by
 cases c<;>try rfl
 rename_i b; cases b<;>rfl
theorem c2u (id:Nat) (c:AV) (A B:Unit→Option Out):Go.Cb.blkK id (brT c A B)=brT c (c1k id A) (c1k id B):=by
 cases c<;>try rfl
 rename_i b; cases b<;>rfl
theorem c9q (call:d8) (n:Nat) (c:AV) (a b:ACode) (fr:List AV) (st:St):Go.Cb.br c (j1 call n a fr st) (j1 call n b fr st)=brT c (a4O call n a fr st) (a4O call n b fr st):=by cases c<;>try rfl
theorem a1Q (call:d8) (n:Nat) (kill:List Nat) (ps:List AOper) (c:Opd) (a b:ACode) (fr:List AV) (st:St) :
 j1 call n (.test kill ps c a b) fr st=a8M call ps ⟨n5 kill fr,fun _=>.undef,st⟩ fun σ=>brT (c.read σ) (a4O call n a σ.fr σ.st) (a4O call n b σ.fr σ.st):=by
 rw[b0d];simp only[c9q]
def a8h (call:d8) (n:Nat) (x:ACode) (fr:List AV) (st:St):Option Out:=j1 call n (.loop x) fr st
theorem b6G (call:d8) (n:Nat) (x:ACode) (fr:List AV) (st:St):j1 call n (.loop x) fr st=Go.Cb.obind (a8h call n x fr st) some:=by unfold a8h; cases j1 call n (.loop x) fr st<;>rfl
theorem wi {c:Bool} {A B:Nat→Unit→Option Out} {Q:Out→Prop} (l:c=true→WC (fun n=>A n ()) Q) (e:c=false→WC (fun n=>B n ()) Q):WC (fun n=>brT (.bool c) (A n) (B n)) Q:=by
 cases c with
 | true=>exact l rfl
 | false=>exact e rfl
theorem wg {tbl:Nat→Option AFn} {β:Type} {x:ACode} {K:Nat→Out→Option β} {Q:β→Prop} (I:Nat→List AV→St→Prop) {m:Nat} {fr:List AV} {st:St} (l:I m fr st)
 (t:∀ m fr st,I m fr st→WC (fun n=>j1 (k8 tbl n) n x fr st) (fun o=>(∃ m' e st',o=(.normal,e,st')∧m' < m∧I m' e st')∨(o.1≠.normal∧WC (fun n=>K n o) Q))) :
 WC (fun n=>Go.Cb.obind (a8h (k8 tbl n) n x fr st) (K n)) Q:=WC.obind (WC.loop I l t) fun _ u=>u
theorem wo {β:Type} {c want:Bool} {st:St} {E:Nat→Option (AV×St)} {k:Nat→AV×St→Option β} {Q:β→Prop} (u:c=want→WC (fun n=>Go.Cb.obind (E n) (k n)) Q) (t:c=!want→WC (fun n=>k n (.tuple [],st)) Q) :
 WC (fun n=>Go.Cb.obind (gv2 (.bool c) want st (E n)) (k n)) Q:=by
 by_cases h:c=want
 · subst h;have e:∀ n,gv2 (.bool c) c st (E n)=E n:=fun n=>by cases c<;>rfl
   simp only[e];exact u rfl
 · have l:c=!want:=by cases c<;>cases want<;>simp_all
   have e:∀ n,gv2 (.bool c) want st (E n)=some (.tuple [],st):=fun n=>by subst l; cases want<;>rfl
   simp only[e,A0];exact t l
end Go.Cb
namespace Go.Cb
def W (a:AV):AV:=AV.weak (AV.stripB a)
def brE (c:AV) (call:d8) (n:Nat) (a b:ACode) (fr:List AV) (st:St):Option Out:=brT c (a4O call n a fr st) (a4O call n b fr st)
def m1 {β:Type} (a:AV) (f:AV→Option β):Option β:=obind (p1 (some (a,AV.undef,([]:St)))) f
def gm {β:Type} (x:AV) (w:Bool) (a:AV) (f:AV→Option β):Option β:=obind (gv x w (some a)) f
theorem j8 {β:Type} {a e:AV} {f:AV→Option β} (h:a=e):m1 a f=m1 e f:=by rw[h]
theorem j9 {β:Type} {x t a l:AV} {w:Bool} {f:AV→Option β} (u:x=t) (v:t=.bool w→a=l):gm x w a f=gm t w l f:=by unfold gm;rw[j3 (e:=some a) (e':=some l) u (fun h=>by rw[v h])]
end Go.Cb
namespace Go.Cb.R
open Go.Cb
theorem d35 (call:d8) (bx:AV) (st:St) (a:AV):a2V call [a] bx st=some (a,bx,st):=a8 rfl
theorem b41 (call:d8) (bx:AV) (st:St) (o f:Nat):G7 call [.ptr o f] bx st=some (.ptr o f,bx,st):=a8 rfl
theorem b5L (call:d8) (bx:AV) (st:St) (o f:Nat):G7 call [.loc o f] bx st=some (.loc o f,bx,st):=a8 rfl
theorem b89 (call:d8) (bx:AV) (st:St) (cs:List AV):G7 call [.ro cs] bx st=some (.ro cs,bx,st):=a8 rfl
theorem b3a (call:d8) (bx:AV) (st:St) (f:Nat) (a b:List AV):G7 call [.func f a b] bx st=some (.func f a b,bx,st):=a8 rfl
theorem c4F (call:d8) (st:St) (zero:List AV):V5 zero call [] .undef st=some (.undef,.box zero,st):=a8 rfl
theorem c9E (call:d8) (st:St) (a:AV):a05 call [a] .undef st=if a.plain then some (.undef,.box a.cellsW,st)else none:=a8 rfl
theorem c0M (call:d8) (bx:AV) (st:St) (zero:List AV):N6 zero call [] bx st=some (.ptr st.length 0,bx,st++[.cells zero]):=a8 rfl
theorem c8C (call:d8) (bx:AV) (st:St) (a:AV):X6 call [a] bx st=if a.plain then some (.ptr st.length 0,bx,st++[.cells a.cellsW])else none:=a8 rfl
theorem c6k (call:d8) (bx:AV) (st:St) (zero:List AV) (e:List (Nat×Nat)) (as:List AV):O5 zero e call as bx st=(L7 e as zero).map fun cs=>(.agg cs,bx,st):=a8 rfl
theorem c09 (call:d8) (bx:AV) (st:St) (sz:Nat) (zero:List (List AV)) (at_:List Nat) (as:List AV):Q6 sz zero at_ call as bx st=(K5 sz at_ as zero).map fun rs=>(.list true rs,bx,st):=a8 rfl
theorem c9f (call:d8) (st:St) (i off n:Nat) (agg:Bool) (cs:List AV):P3 i agg n call [.loc i off] (.box cs) st=(l8 agg n (cs.drop off)).map (fun v=>(v,.box cs,st)):=by unfold P3; simp only[if_true]
theorem c8V (call:d8) (bx:AV) (st:St) (o off n:Nat) (agg:Bool):G4 agg n call [.ptr o off] bx st=match st[o]? with|some (.cells cs)=>(l8 agg n (cs.drop off)).map (fun v=>(v,bx,st))|_=>none:=a8 rfl
theorem d0T (call:d8) (bx:AV) (st:St) (n:Nat) (agg:Bool) (cs:List AV):X3 agg n call [.ro cs] bx st=(l8 agg n cs).map (fun v=>(v,bx,st)):=a8 rfl
theorem c4q (call:d8) (bx:AV) (st:St) (n:Nat) (agg:Bool) (cs:List AV):J6 agg n call [.ro cs] bx st=(l8 agg n cs).map (fun v=>(v,bx,st)):=a8 rfl
theorem ldAn_ptr (call:d8) (bx:AV) (st:St) (o off n:Nat) (agg:Bool):J6 agg n call [.ptr o off] bx st=match st[o]? with|some (.cells cs)=>(l8 agg n (cs.drop off)).map (fun v=>(v,bx,st))|_=>none:=a8 rfl
theorem c6e (call:d8) (st:St) (i off:Nat) (cs:List AV):U6 i call [.loc i off] (.box cs) st=match cs[off]? with|some c=>some (c,.box (cs.set off c.weak1),st)|none=>none:=by unfold U6; simp only[if_true]; rfl
theorem c4E (call:d8) (bx:AV) (st:St) (o off:Nat):F6 call [.ptr o off] bx st=match st[o]? with|some (.cells cs)=>(match cs[off]? with|some c=>some (c,bx,st.set o (.cells (cs.set off c.weak1)))|none=>none)|_=>none:=a8 rfl
theorem c8R (call:d8) (st:St) (i n off:Nat) (x:AV) (cs:List AV):L5 i n call [.loc i off,x] (.box cs) st=if x.plain=true∧x.cells.length=n∧off+n≤cs.length then some (.tuple [],.box (y8 cs off x.cells),st)else none:=by unfold L5; simp only[true_and]
theorem c9G (call:d8) (bx:AV) (st:St) (o off n:Nat) (x:AV):J5 n call [.ptr o off,x] bx st=match st[o]? with|some (.cells cs)=>(if x.plain=true∧x.cells.length=n∧off+n≤cs.length then some (.tuple [],bx,st.set o (.cells (y8 cs off x.cells)))else none)|_=>none:=by unfold J5; simp only[fL_eq]; rfl
theorem c4T (call:d8) (bx:AV) (st:St) (off o f:Nat):O0 off call [.ptr o f] bx st=some (.ptr o (f+off),bx,st):=a8 rfl
theorem c5P (call:d8) (bx:AV) (st:St) (off o f:Nat):O0 off call [.loc o f] bx st=some (.loc o (f+off),bx,st):=a8 rfl
theorem d0y (call:d8) (bx:AV) (st:St) (off:Nat) (cs:List AV):O0 off call [.ro cs] bx st=some (.ro (cs.drop off),bx,st):=a8 rfl
theorem d1S (call:d8) (bx:AV) (st:St) (off n:Nat) (agg:Bool) (cs:List AV):a0T off n agg call [.agg cs] bx st=if off+n≤cs.length then(l8 agg n (cs.drop off)).map (fun v=>(v,bx,st))else none:=a8 rfl
theorem d18 (call:d8) (bx:AV) (st:St) (sz:Nat) (w:Bool) (xs:List (List AV)) (k:IntKind) (i:Int):L8 sz call [.list w xs,.int k i] bx st=if 0≤i then(match xs[i.toNat]? with|some r=>if r.length=sz then some (.ro r,bx,st)else none|none=>none)else none:=a8 rfl
theorem c8j (call:d8) (bx:AV) (st:St) (sz o f n s:Nat) (k:IntKind) (i:Int):L8 sz call [.sl o f n s,.int k i] bx st=if 0≤i∧i < (n:Int)∧s=sz then some (.ptr o (f+i.toNat*sz),bx,st)else none:=a8 rfl
theorem b7V (call:d8) (bx:AV) (st:St):H6 call [.nils] bx st=some (.int .i64 0,bx,st):=a8 rfl
theorem c4r (call:d8) (bx:AV) (st:St) (o f n s:Nat):H6 call [.sl o f n s] bx st=some (.int .i64 n,bx,st):=a8 rfl
theorem b7x (call:d8) (bx:AV) (st:St) (sz:Nat) (zero:List (List AV)) (at_:List Nat) (as:List AV):N5 sz zero at_ call as bx st=(D2 sz at_ as zero).map fun rs=>(.fresh rs,bx,st):=a8 rfl
theorem b75 (call:d8) (bx:AV) (st:St) (sz:Nat) (zero:List (List AV)) (at_:List Nat) (as:List AV):N2 sz zero at_ call as bx st=(D2 sz at_ as zero).map fun rs=>(.sl st.length 0 zero.length sz,bx,st++[.cells rs.flatten]):=a8 rfl
theorem c8v (call:d8) (bx:AV) (st:St) (k e:IntKind) (a b:Int):a1c call [.int k a,.int e b] bx st=if k=e then some (.int k (b6z a b),bx,st)else none:=a8 rfl
theorem c9i (call:d8) (bx:AV) (st:St) (neg:Bool) (k e:IntKind) (a b:Int) (s t:List Nat):a0X neg call [.agg [.int k a,.str s],.agg [.int e b,.str t]] bx st=if k=e then some (.bool (a8l neg a b s t),bx,st)else none:=a8 rfl
theorem b3k (sz:Nat) (rs:List (List AV)):D2 sz [] [] rs=some rs:=a8 rfl
theorem b3h (sz i:Nat) (is:List Nat) (p:AV) (ps:List AV) (rs:List (List AV)):D2 sz (i::is) (p::ps) rs=if p.plain=true∧p.cells.length=sz∧i < rs.length then D2 sz is ps (rs.set i (p.cells.map AV.cellW1))else none:=a8 rfl
theorem b9P (call:d8) (bx:AV) (st:St) (sz bytes:Nat) (ys:List (List AV)) (gs:List AV):F9 sz bytes call (.list true []::.fresh ys::gs) bx st=if ys.isEmpty=false∧l5 sz ys=true∧ys.length*bytes≤2 ^ 47∧T8 none st.length gs=true then some (.sl st.length 0 ys.length sz,bx,st++[.cells ys.flatten])else none:=a8 rfl
theorem appM_nils (call:d8) (bx:AV) (st:St) (sz bytes:Nat) (ys:List (List AV)) (gs:List AV):F9 sz bytes call (.nils::.fresh ys::gs) bx st=if ys.isEmpty=false∧l5 sz ys=true∧ys.length*bytes≤2 ^ 47∧T8 none st.length gs=true then some (.sl st.length 0 ys.length sz,bx,st++[.cells ys.flatten])else none:=a8 rfl
theorem appM_sl (call:d8) (bx:AV) (st:St) (sz bytes o n s:Nat) (ys:List (List AV)) (gs:List AV):F9 sz bytes call (.sl o 0 n s::.fresh ys::gs) bx st=match st[o]? with|some (.cells xs)=>(if s=sz∧ys.isEmpty=false∧l5 sz ys=true∧xs.length=n*sz∧(n+ys.length)*bytes≤2 ^ 47∧T8 (some o) st.length gs=true then some (.sl st.length 0 (n+ys.length) sz,bx,st.set o .dead++[.cells (xs++ys.flatten)])else none)|_=>none:=a8 rfl
theorem c6o (o:Option Nat) (n:Nat):T8 o n []=true:=a8 rfl
theorem c4j (o:Option Nat) (n p f:Nat) (gs:List AV):T8 o n (.ptr p f::gs)=(Nat.blt p n && (match o with|some o=>!Nat.beq p o|none=>true) && T8 o n gs):=a8 rfl
theorem c7f {α:Type}:([]:List (List α)).flatten=[]:=a8 rfl
theorem d0C {α:Type} (a:List α) (l:List (List α)):(a::l).flatten=a++l.flatten:=a8 rfl
theorem d2Z (call:d8) (bx:AV) (st:St) (w:Bool) (xs:List (List AV)):a0Q call [.list w xs] bx st=(S9 xs).map fun s=>(.str s,bx,st):=a8 rfl
theorem b8X:S9 []=some []:=a8 rfl
theorem b8g (n:Int) (rs:List (List AV)):S9 ([.int .u8 n]::rs)=if 0≤n∧n < 256 then(S9 rs).map (n.toNat::·)else none:=a8 rfl
theorem c4Q (call:d8) (bx:AV) (st:St) (len sz:Nat) (cs:List AV) (k:IntKind) (i:Int):P5 len sz call [.ro cs,.int k i] bx st=if 0≤i∧i < (len:Int)then some (.ro (cs.drop (i.toNat*sz)),bx,st)else none:=a8 rfl
theorem b9C (call:d8) (bx:AV) (st:St) (len sz o f:Nat) (k:IntKind) (i:Int):P5 len sz call [.ptr o f,.int k i] bx st=if 0≤i∧i < (len:Int)then some (.ptr o (f+i.toNat*sz),bx,st)else none:=a8 rfl
theorem c0W (call:d8) (bx:AV) (st:St) (len sz o f:Nat) (k:IntKind) (i:Int):P5 len sz call [.loc o f,.int k i] bx st=if 0≤i∧i < (len:Int)then some (.loc o (f+i.toNat*sz),bx,st)else none:=a8 rfl
theorem c7u (call:d8) (bx:AV) (st:St) (s:List Nat) (k:IntKind) (i:Int):S3 call [.str s,.int k i] bx st=if 0≤i then(match s[i.toNat]? with|some b=>some (.int .u8 b,bx,st)|none=>none)else none:=a8 rfl
theorem d1R (call:d8) (bx:AV) (st:St) (e hi:Bool) (s:List Nat) (r:List AV):Z3 e hi call (.str s::r) bx st=(J3 e hi r s.length).map fun p=>(.str ((s.take p.2).drop p.1),bx,st):=a8 rfl
theorem c9j (call:d8) (bx:AV) (st:St) (sz:Nat) (e hi:Bool) (o f n s:Nat) (r:List AV):Y9 sz e hi call (.sl o f n s::r) bx st=if s=sz then(slB e hi r n).map fun p=>(.sl o (f+p.1*sz) (p.2 - p.1) s,bx,st)else none:=a8 rfl
theorem d1o (call:d8) (bx:AV) (st:St) (sz:Nat) (e hi:Bool) (w:Bool) (xs:List (List AV)) (r:List AV):Y9 sz e hi call (.list w xs::r) bx st=if l5 sz xs then(J3 e hi r xs.length).map fun p=>(.list false ((xs.take p.2).drop p.1),bx,st)else none:=a8 rfl
theorem d1G (call:d8) (bx:AV) (st:St) (w:Bool) (xs:List (List AV)):a0G call [.list w xs] bx st=some (.list true [],bx,st):=a8 rfl
theorem d1z (call:d8) (bx:AV) (st:St) (len sz:Nat) (e hi:Bool) (cs r:List AV):a0F len sz e hi call (.ro cs::r) bx st=if cs.length=len*sz then(J3 e hi r len).map fun p=>(.list false (((a1n sz len cs).take p.2).drop p.1),bx,st)else none:=a8 rfl
theorem d2b (call:d8) (bx:AV) (st:St) (op:BinOp) (a b:AV):E3 op call [a,b] bx st=(n4 op a b).map (fun v=>(v,bx,st)):=a8 rfl
theorem d0l (call:d8) (bx:AV) (st:St) (op:BinOp) (a b:AV):Y4 op call [a,b] bx st=(a7z op a b).map (fun v=>(v,bx,st)):=a8 rfl
theorem c8E (call:d8) (bx:AV) (st:St) (op:BinOp) (a b:AV):Y3 op call [a,b] bx st=(a1M op a b).map (fun v=>(v,bx,st)):=a8 rfl
theorem c8L (k:IntKind) (a b:Int):n4 .add (.int k a) (.int k b)=some (.int k (n7 k (a3i a b))):=by simp only[n4,if_true]
theorem c9Y (k:IntKind) (a b:Int):n4 .sub (.int k a) (.int k b)=some (.int k (n7 k (a1F a b))):=by simp only[n4,if_true]
theorem c8H (k:IntKind) (a b:Int):n4 .mul (.int k a) (.int k b)=some (.int k (n7 k (a*b))):=by simp only[n4,if_true]
theorem c7N (k:IntKind) (a b:Int):n4 .quo (.int k a) (.int k b)=if b=0 then none else some (.int k (k.wrap (a.tdiv b))):=by simp only[n4,if_true]
theorem c9t (k:IntKind) (a b:Int):n4 .rem (.int k a) (.int k b)=if b=0 then none else some (.int k (a.tmod b)):=by simp only[n4,if_true]
theorem c8B (k:IntKind) (a b:Int):n4 .eql (.int k a) (.int k b)=some (.bool (eqI a b)):=by simp only[n4,if_true]
theorem d0H (k:IntKind) (a b:Int):n4 .neq (.int k a) (.int k b)=some (.bool !(eqI a b)):=by simp only[n4,if_true]
theorem d0q (k:IntKind) (a b:Int):n4 .lss (.int k a) (.int k b)=some (.bool (ltI a b)):=by simp only[n4,if_true]
theorem c7t (k:IntKind) (a b:Int):n4 .leq (.int k a) (.int k b)=some (.bool !(ltI b a)):=by simp only[n4,if_true]
theorem d0i (k:IntKind) (a b:Int):n4 .gtr (.int k a) (.int k b)=some (.bool (ltI b a)):=by simp only[n4,if_true]
theorem c7R (k:IntKind) (a b:Int):n4 .geq (.int k a) (.int k b)=some (.bool !(ltI a b)):=by simp only[n4,if_true]
theorem c7r (a b:List Nat):n4 .add (.str a) (.str b)=if a.length+b.length≤2 ^ 62 then some (.str (a++b))else none:=a8 rfl
theorem d0k (a b:List Nat):n4 .eql (.str a) (.str b)=some (.bool (eqN a b)):=a8 rfl
theorem c8K (a b:List Nat):n4 .neq (.str a) (.str b)=some (.bool !(eqN a b)):=a8 rfl
theorem c9k (a b:List Nat):n4 .lss (.str a) (.str b)=some (.bool (m2 a b)):=a8 rfl
theorem c8i (a b:Bool):a7z .eql (.bool a) (.bool b)=some (.bool (a == b)):=a8 rfl
theorem c7E (a b:Bool):a7z .neq (.bool a) (.bool b)=some (.bool !(a == b)):=a8 rfl
theorem c6x (o f:Nat):a1M .eql (.ptr o f) .nilp=some (.bool false):=a8 rfl
theorem c5x (o f:Nat):a1M .eql .nilp (.ptr o f)=some (.bool false):=a8 rfl
theorem c53:a1M .eql .nilp .nilp=some (.bool true):=a8 rfl
theorem c4u (o f:Nat):a1M .neq (.ptr o f) .nilp=some (.bool true):=a8 rfl
theorem c5M (o f:Nat):a1M .neq .nilp (.ptr o f)=some (.bool true):=a8 rfl
theorem c50:a1M .neq .nilp .nilp=some (.bool false):=a8 rfl
theorem d0Q (call:d8) (bx:AV) (st:St) (b:Bool):a1g .not call [.bool b] bx st=some (.bool !b,bx,st):=a8 rfl
theorem c7O (call:d8) (bx:AV) (st:St) (k:IntKind) (n:Int):a1g .neg call [.int k n] bx st=some (.int k (n7 k (0 - n)),bx,st):=a8 rfl
theorem c60 (call:d8) (bx:AV) (st:St) (k e:IntKind) (n:Int):Y5 k call [.int e n] bx st=some (.int k (n7 k n),bx,st):=a8 rfl
theorem d2r (call:d8) (bx:AV) (st:St) (f n:Nat) (as:List AV):a0L f n call as bx st=if D1 as then some (.func f ((as.map AV.weak).take n) ((as.map AV.weak).drop n),bx,st)else none:=a8 rfl
theorem d2M (call:d8) (bx:AV) (st:St):a1z call [] bx st=some (.map st.length,bx,st++[.map []]):=a8 rfl
theorem d2o (call:d8) (bx:AV) (st:St) (i:Nat) (vs:List AV):Z4 i call [.tuple vs] bx st=match vs[i]? with|some v=>some (v.weak,bx,st)|none=>none:=a8 rfl
theorem c8s (call:d8) (bx:AV) (st:St) (s:List Nat):Y2 call [.str s] bx st=some (.int .i64 s.length,bx,st):=a8 rfl
theorem c67 (call:d8) (bx:AV) (st:St) (w:Bool) (xs:List (List AV)):H6 call [.list w xs] bx st=some (.int .i64 xs.length,bx,st):=a8 rfl
theorem d2S (call:d8) (bx:AV) (st:St) (sz bytes:Nat) (w:Bool) (xs ys:List (List AV)):a0N sz bytes call [.list true xs,.list w ys] bx st=if l5 sz xs && l5 sz ys && decide ((xs.length+ys.length)*bytes≤2 ^ 47)then some (.list true (xs++ys),bx,st)else none:=a8 rfl
theorem takeVal_t (n:Nat) (cs:List AV):l8 true n cs=if n≤cs.length then some (.agg ((cs.take n).map AV.weak1))else none:=a8 rfl
theorem b8Y (n:Nat) (c:AV) (cs:List AV):l8 false n (c::cs)=some c.weak1:=a8 rfl
theorem b40 (cs:List AV):L7 [] [] cs=some cs:=a8 rfl
theorem b5D (off n:Nat) (e:List (Nat×Nat)) (p:AV) (ps cs:List AV):L7 ((off,n)::e) (p::ps) cs=if p.plain=true∧p.cells.length=n∧off+n≤cs.length then L7 e ps (y8 cs off p.cells)else none:=a8 rfl
theorem b5H (sz:Nat) (rs:List (List AV)):K5 sz [] [] rs=some rs:=a8 rfl
theorem b6l (sz i:Nat) (is:List Nat) (p:AV) (ps:List AV) (rs:List (List AV)):K5 sz (i::is) (p::ps) rs=if p.plain=true∧p.cells.length=sz∧i < rs.length then K5 sz is ps (rs.set i (p.cells.map AV.weak1))else none:=a8 rfl
theorem c1S (cs:List AV) (off:Nat) (new:List AV):y8 cs off new=cs.take off++new++cs.drop (off+new.length):=a8 rfl
theorem b7h (n:Nat):J3 false false [] n=some (0,n):=a8 rfl
theorem b73 (l:AV) (n:Nat):J3 true false [l] n=(U0 l n).map fun l=>(l,n):=a8 rfl
theorem b8o (h:AV) (n:Nat):J3 false true [h] n=(U0 h n).map fun h=>(0,h):=a8 rfl
theorem b8e (l h:AV) (n:Nat):J3 true true [l,h] n=match U0 h n with|some h=>(U0 l h).map (fun l=>(l,h))|none=>none:=a8 rfl
theorem c6b (k:IntKind) (i:Int) (e:Nat):U0 (.int k i) e=if 0≤i∧i≤(e:Int)then some i.toNat else none:=a8 rfl
theorem c0C (sz:Nat):l5 sz []=true:=a8 rfl
theorem c0i (sz:Nat) (r:List AV) (rs:List (List AV)):l5 sz (r::rs)=(r.length == sz):=a8 rfl
theorem c4y (i:Nat) (cs:List AV):a5Z i (.box cs)=.loc i 0:=a8 rfl
theorem b5p (b:Bool):AV.plain (.bool b)=true:=a8 rfl
theorem b5j (b:Bool):AV.cells (.bool b)=[.bool b]:=a8 rfl
theorem b3g (b:Bool):AV.cellW1 (.bool b)=.bool b:=a8 rfl
theorem b3u (b:Bool):AV.cellsW (.bool b)=[.bool b]:=a8 rfl
theorem b8G (k:IntKind) (n:Int):AV.plain (.int k n)=true:=a8 rfl
theorem b7A (k:IntKind) (n:Int):AV.cells (.int k n)=[.int k n]:=a8 rfl
theorem b6H (k:IntKind) (n:Int):AV.cellW1 (.int k n)=.int k n:=a8 rfl
theorem b5h (k:IntKind) (n:Int):AV.cellsW (.int k n)=[.int k n]:=a8 rfl
theorem plain_str (s:List Nat):AV.plain (.str s)=true:=a8 rfl
theorem b7t (s:List Nat):AV.cells (.str s)=[.str s]:=a8 rfl
theorem b4Z (s:List Nat):AV.cellW1 (.str s)=.str s:=a8 rfl
theorem b58 (s:List Nat):AV.cellsW (.str s)=[.str s]:=a8 rfl
theorem b6q (w:Bool) (xs:List (List AV)):AV.plain (.list w xs)=true:=a8 rfl
theorem b5d (w:Bool) (xs:List (List AV)):AV.cells (.list w xs)=[.list w xs]:=a8 rfl
theorem b8u (o f:Nat):AV.plain (.ptr o f)=true:=a8 rfl
theorem b7X (o f:Nat):AV.cells (.ptr o f)=[.ptr o f]:=a8 rfl
theorem b5e (o f:Nat):AV.cellW1 (.ptr o f)=.ptr o f:=a8 rfl
theorem b6Z (o f:Nat):AV.cellsW (.ptr o f)=[.ptr o f]:=a8 rfl
theorem b4T :AV.plain (.nilp)=true:=a8 rfl
theorem b6N :AV.cells (.nilp)=[.nilp]:=a8 rfl
theorem b3A :AV.cellW1 (.nilp)=.nilp:=a8 rfl
theorem b3f :AV.cellsW (.nilp)=[.nilp]:=a8 rfl
theorem c1o (cs:List AV):AV.plain (.ro cs)=true:=a8 rfl
theorem b9K (cs:List AV):AV.cells (.ro cs)=[.ro cs]:=a8 rfl
theorem b9c (cs:List AV):AV.cellW1 (.ro cs)=.ro cs:=a8 rfl
theorem b7C (cs:List AV):AV.cellsW (.ro cs)=[.ro cs]:=a8 rfl
theorem b7B (o:Nat):AV.plain (.map o)=true:=a8 rfl
theorem b8T (o:Nat):AV.cells (.map o)=[.map o]:=a8 rfl
theorem b4L (o:Nat):AV.cellW1 (.map o)=.map o:=a8 rfl
theorem b6n (o:Nat):AV.cellsW (.map o)=[.map o]:=a8 rfl
theorem b6i :AV.plain (.nilm)=true:=a8 rfl
theorem b6d :AV.cells (.nilm)=[.nilm]:=a8 rfl
theorem b3p :AV.cellW1 (.nilm)=.nilm:=a8 rfl
theorem b2T :AV.cellsW (.nilm)=[.nilm]:=a8 rfl
theorem b4P (f:Nat) (a b:List AV):AV.plain (.func f a b)=true:=a8 rfl
theorem b6M (f:Nat) (a b:List AV):AV.cells (.func f a b)=[.func f a b]:=a8 rfl
theorem b3B (f:Nat) (a b:List AV):AV.cellW1 (.func f a b)=.func f a b:=a8 rfl
theorem b3x (f:Nat) (a b:List AV):AV.cellsW (.func f a b)=[.func f a b]:=a8 rfl
theorem b5O :AV.plain (.nilf)=true:=a8 rfl
theorem b6e :AV.cells (.nilf)=[.nilf]:=a8 rfl
theorem b25 :AV.cellW1 (.nilf)=.nilf:=a8 rfl
theorem b3v :AV.cellsW (.nilf)=[.nilf]:=a8 rfl
theorem c1q (o f n s:Nat):AV.plain (.sl o f n s)=true:=a8 rfl
theorem c1J (o f n s:Nat):AV.cells (.sl o f n s)=[.sl o f n s]:=a8 rfl
theorem b8a (o f n s:Nat):AV.cellW1 (.sl o f n s)=.sl o f n s:=a8 rfl
theorem b7w (o f n s:Nat):AV.cellsW (.sl o f n s)=[.sl o f n s]:=a8 rfl
theorem b2S (t:Nat) (v:AV):AV.plain (.iface t v)=true:=a8 rfl
theorem b3s (t:Nat) (v:AV):AV.cells (.iface t v)=[.iface t v]:=a8 rfl
theorem b1Z (t:Nat) (v:AV):AV.cellW1 (.iface t v)=.iface t v:=a8 rfl
theorem b1m (t:Nat) (v:AV):AV.cellsW (.iface t v)=[.iface t v]:=a8 rfl
theorem b6P :AV.plain (.nili)=true:=a8 rfl
theorem b46 :AV.cells (.nili)=[.nili]:=a8 rfl
theorem b3e :AV.cellW1 (.nili)=.nili:=a8 rfl
theorem b3c :AV.cellsW (.nili)=[.nili]:=a8 rfl
theorem b4K :AV.plain (.nils)=true:=a8 rfl
theorem b5t :AV.cells (.nils)=[.nils]:=a8 rfl
theorem b3z :AV.cellW1 (.nils)=.nils:=a8 rfl
theorem b3l :AV.cellsW (.nils)=[.nils]:=a8 rfl
theorem b3w (w:Bool) (xs:List (List AV)):AV.cellW1 (.list w xs)=.list (w && xs.isEmpty) xs:=a8 rfl
theorem plain_agg (cs:List AV):AV.plain (.agg cs)=true:=a8 rfl
theorem b87 (cs:List AV):AV.cells (.agg cs)=cs:=a8 rfl
theorem b53 (cs:List AV):AV.cellsW (.agg cs)=cs:=a8 rfl
theorem b3b (w:Bool) (xs:List (List AV)):AV.cellsW (.list w xs)=[.list (w && xs.isEmpty) xs]:=a8 rfl
theorem allPlain_n:D1 []=true:=a8 rfl
theorem allPlain_c (a:AV) (as:List AV):D1 (a::as)=(a.plain && D1 as):=a8 rfl
theorem d1O {α β:Type} (f:α→β):List.map f []=[]:=a8 rfl
theorem d2y {α β:Type} (f:α→β) (a:α) (l:List α):List.map f (a::l)=f a::l.map f:=a8 rfl
theorem c7k {α:Type} (l:List α):List.drop 0 l=l:=a8 rfl
theorem c7W {α:Type} (n:Nat) (a:α) (l:List α):List.drop (n+1) (a::l)=l.drop n:=a8 rfl
theorem c8M {α:Type} (n:Nat):List.drop n ([]:List α)=[]:=by cases n<;>rfl
theorem c9R {α:Type} (l:List α):List.take 0 l=[]:=a8 rfl
theorem c7q {α:Type} (n:Nat) (a:α) (l:List α):List.take (n+1) (a::l)=a::l.take n:=a8 rfl
theorem c61 {α:Type} (n:Nat):List.take n ([]:List α)=[]:=by cases n<;>rfl
theorem d2m {α:Type}:([]:List α).length=0:=a8 rfl
theorem d2z {α:Type} (a:α) (l:List α):(a::l).length=l.length+1:=a8 rfl
theorem d2k {α:Type} (a:α) (l m:List α):(a::l)++m=a::(l++m):=a8 rfl
theorem d3h {α:Type} (l:List α):[]++l=l:=a8 rfl
theorem c6g {α:Type} (l:List α):l++[]=l:=List.append_nil l
theorem d3c {α:Type} (a:α) (l:List α):(a::l)[0]?=some a:=a8 rfl
theorem d3d {α:Type} (n:Nat) (a:α) (l:List α):(a::l)[n+1]?=l[n]?:=a8 rfl
theorem d2G {α:Type} (a b:α) (l:List α):(a::l).set 0 b=b::l:=a8 rfl
theorem d25 {α:Type} (n:Nat) (a b:α) (l:List α):(a::l).set (n+1) b=a::l.set n b:=a8 rfl
theorem d3m {α:Type} (a:α):List.replicate 0 a=[]:=a8 rfl
theorem d2V {α:Type} (n:Nat) (a:α):List.replicate (n+1) a=a::List.replicate n a:=a8 rfl
theorem c7a {α β:Type} (f:α→β) (a:α):Option.map f (some a)=some (f a):=a8 rfl
theorem c6L {α β:Type} (f:α→β):Option.map f none=none:=a8 rfl
theorem d2R {α:Type}:([]:List α).isEmpty=true:=a8 rfl
theorem d06 {α:Type} (a:α) (l:List α):(a::l).isEmpty=false:=a8 rfl
theorem d27 {α:Type} (a b:α):(if True then a else b)=a:=if_pos trivial
theorem d2u {α:Type} (a b:α):(if False then a else b)=b:=if_neg (fun h=>h)
theorem d1B {α:Type} (a b:α):(if true=true then a else b)=a:=if_pos rfl
theorem d29 {α:Type} (a b:α):(if false=true then a else b)=b:=if_neg (fun h=>by cases h)
theorem c68:(true=false)=False:=by simp
theorem d0D:(false=true)=False:=by simp
theorem d2n:(!true)=false:=a8 rfl
theorem d2h:(!false)=true:=a8 rfl
theorem d2e (b:Bool):(true && b)=b:=a8 rfl
theorem d17 (b:Bool):(b && true)=b:=by cases b<;>rfl
theorem d1y (b:Bool):(false && b)=false:=a8 rfl
theorem d2O (b:Bool):(b && false)=false:=by cases b<;>rfl
theorem d48 (b:Bool):(true || b)=true:=a8 rfl
theorem d46 (b:Bool):(b || true)=true:=by cases b<;>rfl
theorem d3J (b:Bool):(false || b)=b:=a8 rfl
theorem d4Y (b:Bool):(b || false)=b:=by cases b<;>rfl
theorem d1A (p:Prop):(p∧True)=p:=by simp
theorem d2t (p:Prop):(True∧p)=p:=by simp
theorem d1Z:decide True=true:=a8 rfl
theorem d2N:decide False=false:=a8 rfl
theorem eqs {α:Type} (a:α):(a=a)=True:=by simp
theorem nn (n:Nat):(0≤(n:Int))=True:=by simp
theorem tn (n:Nat):(n:Int).toNat=n:=Int.toNat_natCast n
theorem c8T (m n:Nat):((m:Int)≤(n:Int))=(m≤n):=by simp
theorem c6M (n:Nat):(n≤n)=True:=by simp
theorem d3B (i j:Nat):ltI (i:Int) (j:Int)=decide (i < j):=ltN i j
theorem d3V (i j:Nat):eqI (i:Int) (j:Int)=decide (i=j):=c98 i j
theorem d2d (c:AV) (call:d8) (n:Nat) (a b:ACode) (fr:List AV) (st:St):brE c call n a b fr st=brT c (a4O call n a fr st) (a4O call n b fr st):=a8 rfl
theorem d30:(0 < (1:Nat))=True:=by simp
theorem d4F:(0 < (3:Nat))=True:=by simp
theorem d5m:(1 < (3:Nat))=True:=by simp
theorem d3G:(2 < (3:Nat))=True:=by simp
theorem il0:(0≤(0:Int))=True:=by simp
theorem it0:(0:Int).toNat=0:=a8 rfl
theorem il1:(0≤(1:Int))=True:=by simp
theorem it1:(1:Int).toNat=1:=a8 rfl
theorem il2:(0≤(2:Int))=True:=by simp
theorem it2:(2:Int).toNat=2:=a8 rfl
theorem m41:4*1=(4:Nat):=a8 rfl
theorem W_e (a:AV):W a=AV.weak (AV.stripB a):=a8 rfl
theorem d37 {β:Type} (a:AV) (f:AV→Option β):m1 a f=f a:=a8 rfl
theorem c4W {β:Type} (c w:Bool) (a:AV) (f:AV→Option β):gm (.bool c) w a f=f (gV (.bool c) w a):=by unfold gm; rw[b31,A0]
theorem c0E {β:Type} (x:AV) (w b want:Bool) (a:AV) (f:AV→Option β):gm (gV x w (.bool b)) want a f=f (gV (gV x w (.bool b)) want a):=by unfold gm; rw[b2o,A0]
theorem c5w {β:Type} (w:Bool) (a:AV) (f:AV→Option β):gm (.tuple []) w a f=f (.tuple []):=by unfold gm; rw[b35,A0]
theorem d2s (n:Nat):0+n=n:=Nat.zero_add n
theorem d04 (n:Nat):n+0=n:=a8 rfl
theorem c1y (n:Nat):(n == n)=true:=by simp
end Go.Cb.R
namespace Go.Cb
open Go.Cb.R
def SS:=AZ (AZ (AZ (AZ (AZ (AZ (AZ (AZ (@exec_seqK) (@b84)) (AZ (@c1I) (AZ (@b7b) (@b8U)))) (AZ (AZ (@a6w) (AZ (@b7m) (@c0D))) (AZ (@b0k) (AZ (@b0z) (@b63))))) (AZ (AZ (AZ (@b3j) (@c9g)) (AZ (@c7H) (AZ (@b3t) (@b3m)))) (AZ (AZ (@d0Z) (AZ (@d0P) (@c7l))) (AZ (@c1u) (AZ (@b7k) (@c1n)))))) (AZ (AZ (AZ (AZ (@c2u) (@b6G)) (AZ (@c5N) (AZ (@a6t) (@A0)))) (AZ (AZ (@d14) (AZ (@d20) (@d1H))) (AZ (@d2j) (AZ (@b35) (@c7g))))) (AZ (AZ (AZ (@c8x) (@c8Z)) (AZ (@c6O) (AZ (@c00) (@d02)))) (AZ (AZ (@d26) (AZ (@d08) (@d2E))) (AZ (@c5D) (AZ (@b31) (@b2o))))))) (AZ (AZ (AZ (AZ (AZ (@c6l) (@c1L)) (AZ (@b9h) (AZ (@c8S) (@c9s)))) (AZ (AZ (@c5k) (AZ (@c2n) (@b8h))) (AZ (@c0P) (AZ (@b9T) (@b74))))) (AZ (AZ (AZ (@c0e) (@b7d)) (AZ (@b8v) (AZ (@c44) (@b9Z)))) (AZ (AZ (@c1Q) (AZ (@b8W) (@b7N))) (AZ (@b82) (AZ (@R4) (@c5V)))))) (AZ (AZ (AZ (AZ (@b6o) (@b8c)) (AZ (@b5P) (AZ (@b5K) (@c1e)))) (AZ (AZ (@b4J) (AZ (@b7F) (@b7q))) (AZ (@b6V) (AZ (@c1h) (@b6s))))) (AZ (AZ (AZ (@b7D) (AZ (@b56) (@b5V))) (AZ (@a0h) (AZ (@b4Q) (@b6R)))) (AZ (AZ (@b7s) (AZ (@b8q) (@b6c))) (AZ (@b7r) (AZ (@b5z) (@b42)))))))) (AZ (AZ (AZ (AZ (AZ (AZ (@b9w) (@b8F)) (AZ (@b8w) (AZ (@b5I) (@b5X)))) (AZ (AZ (@b6I) (AZ (@b8z) (@c0Q))) (AZ (@b28) (AZ (@b3r) (@b2W))))) (AZ (AZ (AZ (@b6X) (@b5y)) (AZ (@b3i) (AZ (@b6m) (@b2U)))) (AZ (AZ (@b3y) (AZ (@b8C) (@b5A))) (AZ (@b6U) (AZ (@b3d) (@b26)))))) (AZ (AZ (AZ (AZ (@b2Q) (@b52)) (AZ (@b5T) (AZ (@b3o) (@b1d)))) (AZ (AZ (@b8i) (AZ (@b1l) (@b2F))) (AZ (@d35) (AZ (@b41) (@b5L))))) (AZ (AZ (AZ (@b89) (@b3a)) (AZ (@c4F) (AZ (@c9E) (@c0M)))) (AZ (AZ (@c8C) (AZ (@c6k) (@c09))) (AZ (@c9f) (AZ (@c8V) (@d0T))))))) (AZ (AZ (AZ (AZ (AZ (@c4q) (@ldAn_ptr)) (AZ (@c6e) (AZ (@c4E) (@c8R)))) (AZ (AZ (@c9G) (AZ (@c4T) (@c5P))) (AZ (@d0y) (AZ (@d1S) (@d18))))) (AZ (AZ (AZ (@c8j) (@b7V)) (AZ (@c4r) (AZ (@b7x) (@b75)))) (AZ (AZ (@c8v) (AZ (@c9i) (@b3k))) (AZ (@b3h) (AZ (@b9P) (@appM_nils)))))) (AZ (AZ (AZ (AZ (@appM_sl) (@c6o)) (AZ (@c4j) (AZ (@c7f) (@d0C)))) (AZ (AZ (@d2Z) (AZ (@b8X) (@b8g))) (AZ (@c4Q) (AZ (@b9C) (@c0W))))) (AZ (AZ (AZ (@c7u) (AZ (@d1R) (@c9j))) (AZ (@d1o) (AZ (@d1G) (@d1z)))) (AZ (AZ (@d2b) (AZ (@d0l) (@c8E))) (AZ (@c8L) (AZ (@c9Y) (@c8H))))))))) (AZ (AZ (AZ (AZ (AZ (AZ (AZ (@c7N) (@c9t)) (AZ (@c8B) (AZ (@d0H) (@d0q)))) (AZ (AZ (@c7t) (AZ (@d0i) (@c7R))) (AZ (@c7r) (AZ (@d0k) (@c8K))))) (AZ (AZ (AZ (@c9k) (@c8i)) (AZ (@c7E) (AZ (@c6x) (@c5x)))) (AZ (AZ (@c53) (AZ (@c4u) (@c5M))) (AZ (@c50) (AZ (@d0Q) (@c7O)))))) (AZ (AZ (AZ (AZ (@c60) (@d2r)) (AZ (@d2M) (AZ (@d2o) (@c8s)))) (AZ (AZ (@c67) (AZ (@d2S) (@takeVal_t))) (AZ (@b8Y) (AZ (@b40) (@b5D))))) (AZ (AZ (AZ (@b5H) (@b6l)) (AZ (@c1S) (AZ (@b7h) (@b73)))) (AZ (AZ (@b8o) (AZ (@b8e) (@c6b))) (AZ (@c0C) (AZ (@c0i) (@c4y))))))) (AZ (AZ (AZ (AZ (AZ (@b5p) (@b5j)) (AZ (@b3g) (AZ (@b3u) (@b8G)))) (AZ (AZ (@b7A) (AZ (@b6H) (@b5h))) (AZ (@plain_str) (AZ (@b7t) (@b4Z))))) (AZ (AZ (AZ (@b58) (@b6q)) (AZ (@b5d) (AZ (@b8u) (@b7X)))) (AZ (AZ (@b5e) (AZ (@b6Z) (@b4T))) (AZ (@b6N) (AZ (@b3A) (@b3f)))))) (AZ (AZ (AZ (AZ (@c1o) (@b9K)) (AZ (@b9c) (AZ (@b7C) (@b7B)))) (AZ (AZ (@b8T) (AZ (@b4L) (@b6n))) (AZ (@b6i) (AZ (@b6d) (@b3p))))) (AZ (AZ (AZ (@b2T) (AZ (@b4P) (@b6M))) (AZ (@b3B) (AZ (@b3x) (@b5O)))) (AZ (AZ (@b6e) (AZ (@b25) (@b3v))) (AZ (@c1q) (AZ (@c1J) (@b8a)))))))) (AZ (AZ (AZ (AZ (AZ (AZ (@b7w) (@b2S)) (AZ (@b3s) (AZ (@b1Z) (@b1m)))) (AZ (AZ (@b6P) (AZ (@b46) (@b3e))) (AZ (@b3c) (AZ (@b4K) (@b5t))))) (AZ (AZ (AZ (@b3z) (@b3l)) (AZ (@b3w) (AZ (@plain_agg) (@b87)))) (AZ (AZ (@b53) (AZ (@b3b) (@allPlain_n))) (AZ (@allPlain_c) (AZ (@d1O) (@d2y)))))) (AZ (AZ (AZ (AZ (@c7k) (@c7W)) (AZ (@c8M) (AZ (@c9R) (@c7q)))) (AZ (AZ (@c61) (AZ (@d2m) (@d2z))) (AZ (@d2k) (AZ (@d3h) (@c6g))))) (AZ (AZ (AZ (@d3c) (AZ (@d3d) (@d2G))) (AZ (@d25) (AZ (@d3m) (@d2V)))) (AZ (AZ (@c7a) (AZ (@c6L) (@d2R))) (AZ (@d06) (AZ (@d27) (@d2u))))))) (AZ (AZ (AZ (AZ (AZ (@d1B) (@d29)) (AZ (@c68) (AZ (@d0D) (@d2n)))) (AZ (AZ (@d2h) (AZ (@d2e) (@d17))) (AZ (@d1y) (AZ (@d2O) (@d48))))) (AZ (AZ (AZ (@d46) (@d3J)) (AZ (@d4Y) (AZ (@d1A) (@d2t)))) (AZ (AZ (@d1Z) (AZ (@d2N) (@eqs))) (AZ (@nn) (AZ (@tn) (@c8T)))))) (AZ (AZ (AZ (AZ (@c6M) (@d3B)) (AZ (@d3V) (AZ (@d2d) (@d30)))) (AZ (AZ (@d4F) (AZ (@d5m) (@d3G))) (AZ (@il0) (AZ (@it0) (@il1))))) (AZ (AZ (AZ (@it1) (AZ (@il2) (@it2))) (AZ (@m41) (AZ (@W_e) (@d37)))) (AZ (AZ (@c4W) (AZ (@c0E) (@c5w))) (AZ (@d2s) (AZ (@d04) (@c1y)))))))))
end Go.Cb
namespace Go.Cb.V
open Go Go.Cb
def g8 (call:d8) (ops:List AOper) (σ:Sig) (k:Sig→Option Out):Option Out:=obind (q8 call ops σ) k
theorem runR_congr {call:d8} {ops:List AOper} {σ σ':Sig} {k:Sig→Option Out} (h:σ=σ'):g8 call ops σ k=g8 call ops σ' k:=by rw[h]
theorem c9T (call:d8) (σ:Sig) (k:Sig→Option Out):g8 call [] σ k=k σ:=a8 rfl
theorem a2j (call:d8) (o:AOper) (os:List AOper) (σ:Sig) (k:Sig→Option Out):g8 call (o::os) σ k=obind (l9 call o σ) fun σ=>g8 call os σ k:=by unfold g8;simp only[q8];cases l9 call o σ<;>rfl
theorem a1j:∀ (as:List Opd) (σ:Sig),(d9 as σ).st=σ.st
 | [],_=>rfl
 | x::xs,σ=>by rw[d9,a1j xs]; cases x<;>rfl
section
variable (call:d8) (d:Dst) (as:List Opd) (os:List AOper) (σ:Sig) (k:Sig→Option Out)
theorem s5 {K:Kind} (l:K.setSt=false):g8 call (⟨d,K,as,none,none⟩::os) σ k=obind (p1 (sem K call (as.map (·.read σ)) .undef σ.st)) fun x=>g8 call os (d.put x (d9 as σ)) k:=by
 rw[a2j];simp only[l9];rw[S7];dsimp only;cases t:sem K call (as.map (·.read σ)) .undef σ.st with
 | none=>rfl
 | some x =>
  obtain⟨r,b,st⟩:=x;obtain rfl:=a4V l t;simp only[p1,A0];have e:({ d9 as σ with st:=σ.st }:Sig)=d9 as σ:=by have:=a1j as σ;cases h:d9 as σ;rw[h]at this;simp only at this;rw[this]
  rw[e]
theorem Y0 {K:Kind}:g8 call (⟨d,K,as,none,none⟩::os) σ k=obind (p2 (sem K call (as.map (·.read σ)) .undef σ.st)) fun x=>g8 call os (d.put x.1 { d9 as σ with st:=x.2 }) k:=by
 rw[a2j];simp only[l9];rw[S7];dsimp only;cases e:sem K call (as.map (·.read σ)) .undef σ.st with
 | none=>rfl
 | some x =>obtain⟨r,b,st⟩:=x;simp only[p2,A0]
theorem b0J {K:Kind} (i:Nat):g8 call (⟨d,K,as,some i,none⟩::os) σ k=obind (sem K call (as.map (·.read σ)) (σ.fr.getD i .undef) σ.st) fun x=>g8 call os (d.put x.1 { d9 as σ with fr:=(d9 as σ).fr.set i x.2.1,st:=x.2.2 }) k:=by
 rw[a2j];simp only[l9];rw[S7];dsimp only;cases e:sem K call (as.map (·.read σ)) (σ.fr.getD i .undef) σ.st with
 | none=>rfl
 | some x =>obtain⟨r,b,st⟩:=x;simp only[A0]
end
theorem d1s {call:d8} {d:Dst} {as:List Opd} {os:List AOper} {σ:Sig} {k:Sig→Option Out} {K:Kind} {box:Option Nat} (h:(K.setSt || K.alters || j6 as)=false) :
 g8 call (⟨d,K,as,box,none⟩::os) σ k=obind (p1 (sem K call (as.map (·.read σ)) (goK.boxOf' box σ) σ.st)) fun r=>g8 call os (d.put r σ) k:=by
 rw[a2j,← a4b];simp only[a6g,goK,h]
theorem r8 {call:d8} {d:Dst} {as:List Opd} {os:List AOper} {σ:Sig} {k:Sig→Option Out} {K:Kind} {box:Option Nat} {x:Opd} {w:Bool} (h:(K.setSt || K.alters || j6 as)=false) :
 g8 call (⟨d,K,as,box,some (x,w)⟩::os) σ k=obind (gv (x.read σ) w (p1 (sem K call (as.map (·.read σ)) (goK.boxOf' box σ) σ.st))) fun r=>g8 call os (d.put r σ) k:=by
 rw[a2j,← a4b];simp only[a6g,h]
theorem P1 {call:d8} {d:Dst} {as:List Opd} {os:List AOper} {σ:Sig} {k:Sig→Option Out} {K:Kind} {box:Option Nat} {x:Opd} {w:Bool} (e:K.setSt=true) (l:K.alters=false) (h:j6 as=false) :
 g8 call (⟨d,K,as,box,some (x,w)⟩::os) σ k=obind (gv2 (x.read σ) w σ.st (p2 (sem K call (as.map (·.read σ)) (goK.boxOf' box σ) σ.st))) fun r=>g8 call os (d.put r.1 { σ with st:=r.2 }) k:=by
 rw[a2j,← a4b];simp only[a6g,e,l,h,Bool.true_or,Bool.or_false]
theorem d4x:j6 []=false:=a8 rfl
theorem d3C (s:Nat) (xs:List Opd):j6 (.t s::xs)=j6 xs:=a8 rfl
theorem d4i (s:Nat) (xs:List Opd):j6 (.v s::xs)=j6 xs:=a8 rfl
theorem d3r (s:Nat) (xs:List Opd):j6 (.l s::xs)=j6 xs:=a8 rfl
theorem d4J (a:AV) (xs:List Opd):j6 (.c a::xs)=j6 xs:=a8 rfl
theorem b8j (call:d8) (n:Nat) (kill:List Nat) (ps:List AOper) (fr:List AV) (st:St) :
 j1 call n (.reg kill ps) fr st=g8 call ps ⟨n5 kill fr,fun _=>.undef,st⟩ fun σ=>some (.normal,σ.fr,σ.st):=by
 rw[a2x,a2b]; rfl
theorem b5J (call:d8) (n:Nat) (kill:List Nat) (ps:List AOper) (c:Opd) (a b:ACode) (fr:List AV) (st:St) :
 j1 call n (.test kill ps c a b) fr st=g8 call ps ⟨n5 kill fr,fun _=>.undef,st⟩ fun σ=>brE (c.read σ) call n a b σ.fr σ.st:=by
 rw[a1Q,a2b]; rfl
theorem d3P (s:Nat) (fr:List AV) (τ:Nat→AV) (st:St):Opd.read (.t s) ⟨fr,τ,st⟩=(τ s).weak:=a8 rfl
theorem d28 (s:Nat) (fr:List AV) (τ:Nat→AV) (st:St):Opd.read (.ts s) ⟨fr,τ,st⟩=τ s:=a8 rfl
theorem d4d (s:Nat) (fr:List AV) (τ:Nat→AV) (st:St):Opd.read (.v s) ⟨fr,τ,st⟩=(fr.getD s .undef).weak:=a8 rfl
theorem d05 (s:Nat) (fr:List AV) (τ:Nat→AV) (st:St):Opd.read (.vs s) ⟨fr,τ,st⟩=fr.getD s .undef:=a8 rfl
theorem d39 (s:Nat) (fr:List AV) (τ:Nat→AV) (st:St):Opd.read (.l s) ⟨fr,τ,st⟩=a5Z s (fr.getD s .undef):=a8 rfl
theorem d3x (a:AV) (σ:Sig):Opd.read (.c a) σ=a:=a8 rfl
theorem d07 (τ:Nat→AV) (s:Nat) (a:AV) (j:Nat):C4 τ s a j=if j=s then a else τ j:=by
 unfold C4;by_cases h:j=s
 · subst h; simp
 · rw[if_neg h,if_neg]; intro e; exact h (Nat.eq_of_beq_eq_true e)
theorem put_t (s:Nat) (a:AV) (fr:List AV) (τ:Nat→AV) (st:St):Dst.put (.t s) a ⟨fr,τ,st⟩=⟨fr,C4 τ s a.stripB,st⟩:=a8 rfl
theorem put_v (s:Nat) (a:AV) (fr:List AV) (τ:Nat→AV) (st:St):Dst.put (.v s) a ⟨fr,τ,st⟩=⟨fr.set s a.strip,τ,st⟩:=a8 rfl
theorem d12 (a:AV) (σ:Sig):Dst.put .none a σ=σ:=a8 rfl
theorem d2H (a:AV) (σ:Sig):Dst.put .bx a σ=σ:=a8 rfl
theorem d5b (σ:Sig):d9 [] σ=σ:=a8 rfl
theorem d5j (x:Opd) (xs:List Opd) (σ:Sig):d9 (x::xs) σ=d9 xs (x.spend σ):=a8 rfl
theorem d31 (s:Nat) (σ:Sig):Opd.spend (.t s) σ=σ:=a8 rfl
theorem d4H (s:Nat) (σ:Sig):Opd.spend (.v s) σ=σ:=a8 rfl
theorem d4t (s:Nat) (σ:Sig):Opd.spend (.l s) σ=σ:=a8 rfl
theorem d5f (a:AV) (σ:Sig):Opd.spend (.c a) σ=σ:=a8 rfl
theorem d2a (s:Nat) (fr:List AV) (τ:Nat→AV) (st:St):Opd.spend (.ts s) ⟨fr,τ,st⟩=⟨fr,C4 τ s (τ s).weak,st⟩:=a8 rfl
theorem d1m (s:Nat) (fr:List AV) (τ:Nat→AV) (st:St):Opd.spend (.vs s) ⟨fr,τ,st⟩=⟨fr.set s (fr.getD s .undef).weak,τ,st⟩:=a8 rfl
theorem d4y (a d:AV) (l:List AV):(a::l).getD 0 d=a:=a8 rfl
theorem d3N (a d:AV) (l:List AV) (n:Nat):(a::l).getD (n+1) d=l.getD n d:=a8 rfl
theorem d3v (fr:List AV):n5 [] fr=fr:=a8 rfl
theorem d3F (i:Nat) (is:List Nat) (fr:List AV):n5 (i::is) fr=n5 is (fr.set i .undef):=a8 rfl
section
variable (call:d8) (d:Dst) (as:List Opd) (os:List AOper) (fr:List AV) (τ:Nat→AV) (s:St) (k:Sig→Option Out)
theorem d3Z :g8 call (⟨d,.mv,as,none,none⟩::os) ⟨fr,τ,s⟩ k=obind (p1 (a2V call (as.map (·.read ⟨fr,τ,s⟩)) .undef s)) fun x=>g8 call os (d.put x (d9 as ⟨fr,τ,s⟩)) k:=s5 call d as os ⟨fr,τ,s⟩ k rfl
theorem c9W :g8 call (⟨d,.pick,as,none,none⟩::os) ⟨fr,τ,s⟩ k=obind (p1 (G5 call (as.map (·.read ⟨fr,τ,s⟩)) .undef s)) fun x=>g8 call os (d.put x (d9 as ⟨fr,τ,s⟩)) k:=s5 call d as os ⟨fr,τ,s⟩ k rfl
theorem b9V :g8 call (⟨d,.nilchk,as,none,none⟩::os) ⟨fr,τ,s⟩ k=obind (p1 (G7 call (as.map (·.read ⟨fr,τ,s⟩)) .undef s)) fun x=>g8 call os (d.put x (d9 as ⟨fr,τ,s⟩)) k:=s5 call d as os ⟨fr,τ,s⟩ k rfl
theorem c6E (z:List AV) (o:List (Nat×Nat)):g8 call (⟨d,.build z o,as,none,none⟩::os) ⟨fr,τ,s⟩ k=obind (p1 (O5 z o call (as.map (·.read ⟨fr,τ,s⟩)) .undef s)) fun x=>g8 call os (d.put x (d9 as ⟨fr,τ,s⟩)) k:=s5 call d as os ⟨fr,τ,s⟩ k rfl
theorem c2d (q:Nat) (z:List (List AV)) (t:List Nat):g8 call (⟨d,.bslice q z t,as,none,none⟩::os) ⟨fr,τ,s⟩ k=obind (p1 (Q6 q z t call (as.map (·.read ⟨fr,τ,s⟩)) .undef s)) fun x=>g8 call os (d.put x (d9 as ⟨fr,τ,s⟩)) k:=s5 call d as os ⟨fr,τ,s⟩ k rfl
theorem b65 (q:Nat) (z:List (List AV)) (t:List Nat):g8 call (⟨d,.bsliceM q z t,as,none,none⟩::os) ⟨fr,τ,s⟩ k=obind (p1 (N5 q z t call (as.map (·.read ⟨fr,τ,s⟩)) .undef s)) fun x=>g8 call os (d.put x (d9 as ⟨fr,τ,s⟩)) k:=s5 call d as os ⟨fr,τ,s⟩ k rfl
theorem c8b (g:Bool) (n:Nat):g8 call (⟨d,.ldSt g n,as,none,none⟩::os) ⟨fr,τ,s⟩ k=obind (p1 (G4 g n call (as.map (·.read ⟨fr,τ,s⟩)) .undef s)) fun x=>g8 call os (d.put x (d9 as ⟨fr,τ,s⟩)) k:=s5 call d as os ⟨fr,τ,s⟩ k rfl
theorem d0V (g:Bool) (n:Nat):g8 call (⟨d,.ldRo g n,as,none,none⟩::os) ⟨fr,τ,s⟩ k=obind (p1 (X3 g n call (as.map (·.read ⟨fr,τ,s⟩)) .undef s)) fun x=>g8 call os (d.put x (d9 as ⟨fr,τ,s⟩)) k:=s5 call d as os ⟨fr,τ,s⟩ k rfl
theorem d01 (g:Bool) (n:Nat):g8 call (⟨d,.ldAn g n,as,none,none⟩::os) ⟨fr,τ,s⟩ k=obind (p1 (J6 g n call (as.map (·.read ⟨fr,τ,s⟩)) .undef s)) fun x=>g8 call os (d.put x (d9 as ⟨fr,τ,s⟩)) k:=s5 call d as os ⟨fr,τ,s⟩ k rfl
theorem c4d (g:Bool) (n:Nat):g8 call (⟨d,.ldStR g n,as,none,none⟩::os) ⟨fr,τ,s⟩ k=obind (p1 (M1 g n call (as.map (·.read ⟨fr,τ,s⟩)) .undef s)) fun x=>g8 call os (d.put x (d9 as ⟨fr,τ,s⟩)) k:=s5 call d as os ⟨fr,τ,s⟩ k rfl
theorem d1C (n:Nat):g8 call (⟨d,.fad n,as,none,none⟩::os) ⟨fr,τ,s⟩ k=obind (p1 (O0 n call (as.map (·.read ⟨fr,τ,s⟩)) .undef s)) fun x=>g8 call os (d.put x (d9 as ⟨fr,τ,s⟩)) k:=s5 call d as os ⟨fr,τ,s⟩ k rfl
theorem d3e (o n:Nat) (g:Bool):g8 call (⟨d,.fld o n g,as,none,none⟩::os) ⟨fr,τ,s⟩ k=obind (p1 (a0T o n g call (as.map (·.read ⟨fr,τ,s⟩)) .undef s)) fun x=>g8 call os (d.put x (d9 as ⟨fr,τ,s⟩)) k:=s5 call d as os ⟨fr,τ,s⟩ k rfl
theorem d2c (n:Nat):g8 call (⟨d,.iad n,as,none,none⟩::os) ⟨fr,τ,s⟩ k=obind (p1 (L8 n call (as.map (·.read ⟨fr,τ,s⟩)) .undef s)) fun x=>g8 call os (d.put x (d9 as ⟨fr,τ,s⟩)) k:=s5 call d as os ⟨fr,τ,s⟩ k rfl
theorem c9L (l n:Nat):g8 call (⟨d,.iadA l n,as,none,none⟩::os) ⟨fr,τ,s⟩ k=obind (p1 (P5 l n call (as.map (·.read ⟨fr,τ,s⟩)) .undef s)) fun x=>g8 call os (d.put x (d9 as ⟨fr,τ,s⟩)) k:=s5 call d as os ⟨fr,τ,s⟩ k rfl
theorem d0W :g8 call (⟨d,.idxS,as,none,none⟩::os) ⟨fr,τ,s⟩ k=obind (p1 (S3 call (as.map (·.read ⟨fr,τ,s⟩)) .undef s)) fun x=>g8 call os (d.put x (d9 as ⟨fr,τ,s⟩)) k:=s5 call d as os ⟨fr,τ,s⟩ k rfl
theorem d1U (a b:Bool):g8 call (⟨d,.slS a b,as,none,none⟩::os) ⟨fr,τ,s⟩ k=obind (p1 (Z3 a b call (as.map (·.read ⟨fr,τ,s⟩)) .undef s)) fun x=>g8 call os (d.put x (d9 as ⟨fr,τ,s⟩)) k:=s5 call d as os ⟨fr,τ,s⟩ k rfl
theorem d2p (n:Nat) (a b:Bool):g8 call (⟨d,.slL n a b,as,none,none⟩::os) ⟨fr,τ,s⟩ k=obind (p1 (Y9 n a b call (as.map (·.read ⟨fr,τ,s⟩)) .undef s)) fun x=>g8 call os (d.put x (d9 as ⟨fr,τ,s⟩)) k:=s5 call d as os ⟨fr,τ,s⟩ k rfl
theorem d1i :g8 call (⟨d,.slZ,as,none,none⟩::os) ⟨fr,τ,s⟩ k=obind (p1 (a0G call (as.map (·.read ⟨fr,τ,s⟩)) .undef s)) fun x=>g8 call os (d.put x (d9 as ⟨fr,τ,s⟩)) k:=s5 call d as os ⟨fr,τ,s⟩ k rfl
theorem d1k (l n:Nat) (a b:Bool):g8 call (⟨d,.slA l n a b,as,none,none⟩::os) ⟨fr,τ,s⟩ k=obind (p1 (a0F l n a b call (as.map (·.read ⟨fr,τ,s⟩)) .undef s)) fun x=>g8 call os (d.put x (d9 as ⟨fr,τ,s⟩)) k:=s5 call d as os ⟨fr,τ,s⟩ k rfl
theorem d2K (o:BinOp):g8 call (⟨d,.bin o,as,none,none⟩::os) ⟨fr,τ,s⟩ k=obind (p1 (E3 o call (as.map (·.read ⟨fr,τ,s⟩)) .undef s)) fun x=>g8 call os (d.put x (d9 as ⟨fr,τ,s⟩)) k:=s5 call d as os ⟨fr,τ,s⟩ k rfl
theorem c72 (o:BinOp):g8 call (⟨d,.binB o,as,none,none⟩::os) ⟨fr,τ,s⟩ k=obind (p1 (Y4 o call (as.map (·.read ⟨fr,τ,s⟩)) .undef s)) fun x=>g8 call os (d.put x (d9 as ⟨fr,τ,s⟩)) k:=s5 call d as os ⟨fr,τ,s⟩ k rfl
theorem d0r (o:BinOp):g8 call (⟨d,.binP o,as,none,none⟩::os) ⟨fr,τ,s⟩ k=obind (p1 (Y3 o call (as.map (·.read ⟨fr,τ,s⟩)) .undef s)) fun x=>g8 call os (d.put x (d9 as ⟨fr,τ,s⟩)) k:=s5 call d as os ⟨fr,τ,s⟩ k rfl
theorem d4G (o:UnOp):g8 call (⟨d,.un o,as,none,none⟩::os) ⟨fr,τ,s⟩ k=obind (p1 (a1g o call (as.map (·.read ⟨fr,τ,s⟩)) .undef s)) fun x=>g8 call os (d.put x (d9 as ⟨fr,τ,s⟩)) k:=s5 call d as os ⟨fr,τ,s⟩ k rfl
theorem c81 (t:IntKind):g8 call (⟨d,.conv t,as,none,none⟩::os) ⟨fr,τ,s⟩ k=obind (p1 (Y5 t call (as.map (·.read ⟨fr,τ,s⟩)) .undef s)) fun x=>g8 call os (d.put x (d9 as ⟨fr,τ,s⟩)) k:=s5 call d as os ⟨fr,τ,s⟩ k rfl
theorem d1g (f n:Nat):g8 call (⟨d,.mkF f n,as,none,none⟩::os) ⟨fr,τ,s⟩ k=obind (p1 (a0L f n call (as.map (·.read ⟨fr,τ,s⟩)) .undef s)) fun x=>g8 call os (d.put x (d9 as ⟨fr,τ,s⟩)) k:=s5 call d as os ⟨fr,τ,s⟩ k rfl
theorem c7m (a:Nat) (z:List AV) (b c:Bool):g8 call (⟨d,.mget a z b c,as,none,none⟩::os) ⟨fr,τ,s⟩ k=obind (p1 (S6 a z b c call (as.map (·.read ⟨fr,τ,s⟩)) .undef s)) fun x=>g8 call os (d.put x (d9 as ⟨fr,τ,s⟩)) k:=s5 call d as os ⟨fr,τ,s⟩ k rfl
theorem d1I (n:Nat):g8 call (⟨d,.ext n,as,none,none⟩::os) ⟨fr,τ,s⟩ k=obind (p1 (Z4 n call (as.map (·.read ⟨fr,τ,s⟩)) .undef s)) fun x=>g8 call os (d.put x (d9 as ⟨fr,τ,s⟩)) k:=s5 call d as os ⟨fr,τ,s⟩ k rfl
theorem d0x :g8 call (⟨d,.lenS,as,none,none⟩::os) ⟨fr,τ,s⟩ k=obind (p1 (Y2 call (as.map (·.read ⟨fr,τ,s⟩)) .undef s)) fun x=>g8 call os (d.put x (d9 as ⟨fr,τ,s⟩)) k:=s5 call d as os ⟨fr,τ,s⟩ k rfl
theorem c79 :g8 call (⟨d,.lenL,as,none,none⟩::os) ⟨fr,τ,s⟩ k=obind (p1 (H6 call (as.map (·.read ⟨fr,τ,s⟩)) .undef s)) fun x=>g8 call os (d.put x (d9 as ⟨fr,τ,s⟩)) k:=s5 call d as os ⟨fr,τ,s⟩ k rfl
theorem d2q (n b:Nat):g8 call (⟨d,.app n b,as,none,none⟩::os) ⟨fr,τ,s⟩ k=obind (p1 (a0N n b call (as.map (·.read ⟨fr,τ,s⟩)) .undef s)) fun x=>g8 call os (d.put x (d9 as ⟨fr,τ,s⟩)) k:=s5 call d as os ⟨fr,τ,s⟩ k rfl
theorem d1X :g8 call (⟨d,.b2s,as,none,none⟩::os) ⟨fr,τ,s⟩ k=obind (p1 (a0Q call (as.map (·.read ⟨fr,τ,s⟩)) .undef s)) fun x=>g8 call os (d.put x (d9 as ⟨fr,τ,s⟩)) k:=s5 call d as os ⟨fr,τ,s⟩ k rfl
theorem c5r (z:List AV) (o:List (Nat×Nat)) (x:Opd) (w:Bool) (h:j6 as=false):g8 call (⟨d,.build z o,as,none,some (x,w)⟩::os) ⟨fr,τ,s⟩ k=obind (gv (x.read ⟨fr,τ,s⟩) w (p1 (O5 z o call (as.map (·.read ⟨fr,τ,s⟩)) .undef s))) fun r=>g8 call os (d.put r ⟨fr,τ,s⟩) k:=r8 (by rw[h]; rfl)
theorem c2a (q:Nat) (z:List (List AV)) (t:List Nat) (x:Opd) (w:Bool) (h:j6 as=false):g8 call (⟨d,.bslice q z t,as,none,some (x,w)⟩::os) ⟨fr,τ,s⟩ k=obind (gv (x.read ⟨fr,τ,s⟩) w (p1 (Q6 q z t call (as.map (·.read ⟨fr,τ,s⟩)) .undef s))) fun r=>g8 call os (d.put r ⟨fr,τ,s⟩) k:=r8 (by rw[h]; rfl)
theorem b8S (q:Nat) (z:List (List AV)) (t:List Nat) (x:Opd) (w:Bool) (h:j6 as=false):g8 call (⟨d,.bsliceM q z t,as,none,some (x,w)⟩::os) ⟨fr,τ,s⟩ k=obind (gv (x.read ⟨fr,τ,s⟩) w (p1 (N5 q z t call (as.map (·.read ⟨fr,τ,s⟩)) .undef s))) fun r=>g8 call os (d.put r ⟨fr,τ,s⟩) k:=r8 (by rw[h]; rfl)
theorem c9I (g:Bool) (n:Nat) (x:Opd) (w:Bool) (h:j6 as=false):g8 call (⟨d,.ldSt g n,as,none,some (x,w)⟩::os) ⟨fr,τ,s⟩ k=obind (gv (x.read ⟨fr,τ,s⟩) w (p1 (G4 g n call (as.map (·.read ⟨fr,τ,s⟩)) .undef s))) fun r=>g8 call os (d.put r ⟨fr,τ,s⟩) k:=r8 (by rw[h]; rfl)
theorem c9w (g:Bool) (n:Nat) (x:Opd) (w:Bool) (h:j6 as=false):g8 call (⟨d,.ldRo g n,as,none,some (x,w)⟩::os) ⟨fr,τ,s⟩ k=obind (gv (x.read ⟨fr,τ,s⟩) w (p1 (X3 g n call (as.map (·.read ⟨fr,τ,s⟩)) .undef s))) fun r=>g8 call os (d.put r ⟨fr,τ,s⟩) k:=r8 (by rw[h]; rfl)
theorem c7w (g:Bool) (n:Nat) (x:Opd) (w:Bool) (h:j6 as=false):g8 call (⟨d,.ldAn g n,as,none,some (x,w)⟩::os) ⟨fr,τ,s⟩ k=obind (gv (x.read ⟨fr,τ,s⟩) w (p1 (J6 g n call (as.map (·.read ⟨fr,τ,s⟩)) .undef s))) fun r=>g8 call os (d.put r ⟨fr,τ,s⟩) k:=r8 (by rw[h]; rfl)
theorem c59 (g:Bool) (n:Nat) (x:Opd) (w:Bool) (h:j6 as=false):g8 call (⟨d,.ldStR g n,as,none,some (x,w)⟩::os) ⟨fr,τ,s⟩ k=obind (gv (x.read ⟨fr,τ,s⟩) w (p1 (M1 g n call (as.map (·.read ⟨fr,τ,s⟩)) .undef s))) fun r=>g8 call os (d.put r ⟨fr,τ,s⟩) k:=r8 (by rw[h]; rfl)
theorem d1F (n:Nat) (x:Opd) (w:Bool) (h:j6 as=false):g8 call (⟨d,.fad n,as,none,some (x,w)⟩::os) ⟨fr,τ,s⟩ k=obind (gv (x.read ⟨fr,τ,s⟩) w (p1 (O0 n call (as.map (·.read ⟨fr,τ,s⟩)) .undef s))) fun r=>g8 call os (d.put r ⟨fr,τ,s⟩) k:=r8 (by rw[h]; rfl)
theorem d1K (o n:Nat) (g:Bool) (x:Opd) (w:Bool) (h:j6 as=false):g8 call (⟨d,.fld o n g,as,none,some (x,w)⟩::os) ⟨fr,τ,s⟩ k=obind (gv (x.read ⟨fr,τ,s⟩) w (p1 (a0T o n g call (as.map (·.read ⟨fr,τ,s⟩)) .undef s))) fun r=>g8 call os (d.put r ⟨fr,τ,s⟩) k:=r8 (by rw[h]; rfl)
theorem d2L (n:Nat) (x:Opd) (w:Bool) (h:j6 as=false):g8 call (⟨d,.iad n,as,none,some (x,w)⟩::os) ⟨fr,τ,s⟩ k=obind (gv (x.read ⟨fr,τ,s⟩) w (p1 (L8 n call (as.map (·.read ⟨fr,τ,s⟩)) .undef s))) fun r=>g8 call os (d.put r ⟨fr,τ,s⟩) k:=r8 (by rw[h]; rfl)
theorem d0U (l n:Nat) (x:Opd) (w:Bool) (h:j6 as=false):g8 call (⟨d,.iadA l n,as,none,some (x,w)⟩::os) ⟨fr,τ,s⟩ k=obind (gv (x.read ⟨fr,τ,s⟩) w (p1 (P5 l n call (as.map (·.read ⟨fr,τ,s⟩)) .undef s))) fun r=>g8 call os (d.put r ⟨fr,τ,s⟩) k:=r8 (by rw[h]; rfl)
theorem d24 (a b:Bool) (x:Opd) (w:Bool) (h:j6 as=false):g8 call (⟨d,.slS a b,as,none,some (x,w)⟩::os) ⟨fr,τ,s⟩ k=obind (gv (x.read ⟨fr,τ,s⟩) w (p1 (Z3 a b call (as.map (·.read ⟨fr,τ,s⟩)) .undef s))) fun r=>g8 call os (d.put r ⟨fr,τ,s⟩) k:=r8 (by rw[h]; rfl)
theorem d19 (n:Nat) (a b:Bool) (x:Opd) (w:Bool) (h:j6 as=false):g8 call (⟨d,.slL n a b,as,none,some (x,w)⟩::os) ⟨fr,τ,s⟩ k=obind (gv (x.read ⟨fr,τ,s⟩) w (p1 (Y9 n a b call (as.map (·.read ⟨fr,τ,s⟩)) .undef s))) fun r=>g8 call os (d.put r ⟨fr,τ,s⟩) k:=r8 (by rw[h]; rfl)
theorem d1w (l n:Nat) (a b:Bool) (x:Opd) (w:Bool) (h:j6 as=false):g8 call (⟨d,.slA l n a b,as,none,some (x,w)⟩::os) ⟨fr,τ,s⟩ k=obind (gv (x.read ⟨fr,τ,s⟩) w (p1 (a0F l n a b call (as.map (·.read ⟨fr,τ,s⟩)) .undef s))) fun r=>g8 call os (d.put r ⟨fr,τ,s⟩) k:=r8 (by rw[h]; rfl)
theorem d1n (o:BinOp) (x:Opd) (w:Bool) (h:j6 as=false):g8 call (⟨d,.bin o,as,none,some (x,w)⟩::os) ⟨fr,τ,s⟩ k=obind (gv (x.read ⟨fr,τ,s⟩) w (p1 (E3 o call (as.map (·.read ⟨fr,τ,s⟩)) .undef s))) fun r=>g8 call os (d.put r ⟨fr,τ,s⟩) k:=r8 (by rw[h]; rfl)
theorem d0z (o:BinOp) (x:Opd) (w:Bool) (h:j6 as=false):g8 call (⟨d,.binB o,as,none,some (x,w)⟩::os) ⟨fr,τ,s⟩ k=obind (gv (x.read ⟨fr,τ,s⟩) w (p1 (Y4 o call (as.map (·.read ⟨fr,τ,s⟩)) .undef s))) fun r=>g8 call os (d.put r ⟨fr,τ,s⟩) k:=r8 (by rw[h]; rfl)
theorem c9S (o:BinOp) (x:Opd) (w:Bool) (h:j6 as=false):g8 call (⟨d,.binP o,as,none,some (x,w)⟩::os) ⟨fr,τ,s⟩ k=obind (gv (x.read ⟨fr,τ,s⟩) w (p1 (Y3 o call (as.map (·.read ⟨fr,τ,s⟩)) .undef s))) fun r=>g8 call os (d.put r ⟨fr,τ,s⟩) k:=r8 (by rw[h]; rfl)
theorem d3T (o:UnOp) (x:Opd) (w:Bool) (h:j6 as=false):g8 call (⟨d,.un o,as,none,some (x,w)⟩::os) ⟨fr,τ,s⟩ k=obind (gv (x.read ⟨fr,τ,s⟩) w (p1 (a1g o call (as.map (·.read ⟨fr,τ,s⟩)) .undef s))) fun r=>g8 call os (d.put r ⟨fr,τ,s⟩) k:=r8 (by rw[h]; rfl)
theorem c7V (t:IntKind) (x:Opd) (w:Bool) (h:j6 as=false):g8 call (⟨d,.conv t,as,none,some (x,w)⟩::os) ⟨fr,τ,s⟩ k=obind (gv (x.read ⟨fr,τ,s⟩) w (p1 (Y5 t call (as.map (·.read ⟨fr,τ,s⟩)) .undef s))) fun r=>g8 call os (d.put r ⟨fr,τ,s⟩) k:=r8 (by rw[h]; rfl)
theorem d1f (f n:Nat) (x:Opd) (w:Bool) (h:j6 as=false):g8 call (⟨d,.mkF f n,as,none,some (x,w)⟩::os) ⟨fr,τ,s⟩ k=obind (gv (x.read ⟨fr,τ,s⟩) w (p1 (a0L f n call (as.map (·.read ⟨fr,τ,s⟩)) .undef s))) fun r=>g8 call os (d.put r ⟨fr,τ,s⟩) k:=r8 (by rw[h]; rfl)
theorem c9O (a:Nat) (z:List AV) (b c:Bool) (x:Opd) (w:Bool) (h:j6 as=false):g8 call (⟨d,.mget a z b c,as,none,some (x,w)⟩::os) ⟨fr,τ,s⟩ k=obind (gv (x.read ⟨fr,τ,s⟩) w (p1 (S6 a z b c call (as.map (·.read ⟨fr,τ,s⟩)) .undef s))) fun r=>g8 call os (d.put r ⟨fr,τ,s⟩) k:=r8 (by rw[h]; rfl)
theorem d2W (n:Nat) (x:Opd) (w:Bool) (h:j6 as=false):g8 call (⟨d,.ext n,as,none,some (x,w)⟩::os) ⟨fr,τ,s⟩ k=obind (gv (x.read ⟨fr,τ,s⟩) w (p1 (Z4 n call (as.map (·.read ⟨fr,τ,s⟩)) .undef s))) fun r=>g8 call os (d.put r ⟨fr,τ,s⟩) k:=r8 (by rw[h]; rfl)
theorem d1T (n b:Nat) (x:Opd) (w:Bool) (h:j6 as=false):g8 call (⟨d,.app n b,as,none,some (x,w)⟩::os) ⟨fr,τ,s⟩ k=obind (gv (x.read ⟨fr,τ,s⟩) w (p1 (a0N n b call (as.map (·.read ⟨fr,τ,s⟩)) .undef s))) fun r=>g8 call os (d.put r ⟨fr,τ,s⟩) k:=r8 (by rw[h]; rfl)
theorem c7M (i:Nat) (g:Bool) (n:Nat) (j:Nat) (h:j6 as=false):g8 call (⟨d,.ldLc i g n,as,some j,none⟩::os) ⟨fr,τ,s⟩ k=obind (p1 (P3 i g n call (as.map (·.read ⟨fr,τ,s⟩)) (fr.getD j .undef) s)) fun r=>g8 call os (d.put r ⟨fr,τ,s⟩) k:=d1s (by rw[h]; rfl)
theorem c5Q (i:Nat) (g:Bool) (n:Nat) (j:Nat) (x:Opd) (w:Bool) (h:j6 as=false):g8 call (⟨d,.ldLc i g n,as,some j,some (x,w)⟩::os) ⟨fr,τ,s⟩ k=obind (gv (x.read ⟨fr,τ,s⟩) w (p1 (P3 i g n call (as.map (·.read ⟨fr,τ,s⟩)) (fr.getD j .undef) s))) fun r=>g8 call os (d.put r ⟨fr,τ,s⟩) k:=r8 (by rw[h]; rfl)
theorem b9q (z:List AV):g8 call (⟨d,.allocO z,as,none,none⟩::os) ⟨fr,τ,s⟩ k=obind (p2 (N6 z call (as.map (·.read ⟨fr,τ,s⟩)) .undef s)) fun x=>g8 call os (d.put x.1 { d9 as ⟨fr,τ,s⟩with st:=x.2 }) k:=Y0 call d as os ⟨fr,τ,s⟩ k
theorem b85 (z:List AV) (x:Opd) (w:Bool) (h:j6 as=false):g8 call (⟨d,.allocO z,as,none,some (x,w)⟩::os) ⟨fr,τ,s⟩ k=obind (gv2 (x.read ⟨fr,τ,s⟩) w s (p2 (N6 z call (as.map (·.read ⟨fr,τ,s⟩)) .undef s))) fun r=>g8 call os (d.put r.1 ⟨fr,τ,r.2⟩) k:=P1 rfl rfl h
theorem c91:g8 call (⟨d,.boxO,as,none,none⟩::os) ⟨fr,τ,s⟩ k=obind (p2 (X6 call (as.map (·.read ⟨fr,τ,s⟩)) .undef s)) fun x=>g8 call os (d.put x.1 { d9 as ⟨fr,τ,s⟩with st:=x.2 }) k:=Y0 call d as os ⟨fr,τ,s⟩ k
theorem c5d (x:Opd) (w:Bool) (h:j6 as=false):g8 call (⟨d,.boxO,as,none,some (x,w)⟩::os) ⟨fr,τ,s⟩ k=obind (gv2 (x.read ⟨fr,τ,s⟩) w s (p2 (X6 call (as.map (·.read ⟨fr,τ,s⟩)) .undef s))) fun r=>g8 call os (d.put r.1 ⟨fr,τ,r.2⟩) k:=P1 rfl rfl h
theorem b8A (q:Nat) (z:List (List AV)) (t:List Nat):g8 call (⟨d,.bsliceO q z t,as,none,none⟩::os) ⟨fr,τ,s⟩ k=obind (p2 (N2 q z t call (as.map (·.read ⟨fr,τ,s⟩)) .undef s)) fun x=>g8 call os (d.put x.1 { d9 as ⟨fr,τ,s⟩with st:=x.2 }) k:=Y0 call d as os ⟨fr,τ,s⟩ k
theorem b6v (q:Nat) (z:List (List AV)) (t:List Nat) (x:Opd) (w:Bool) (h:j6 as=false):g8 call (⟨d,.bsliceO q z t,as,none,some (x,w)⟩::os) ⟨fr,τ,s⟩ k=obind (gv2 (x.read ⟨fr,τ,s⟩) w s (p2 (N2 q z t call (as.map (·.read ⟨fr,τ,s⟩)) .undef s))) fun r=>g8 call os (d.put r.1 ⟨fr,τ,r.2⟩) k:=P1 rfl rfl h
theorem c90 (n b:Nat):g8 call (⟨d,.appM n b,as,none,none⟩::os) ⟨fr,τ,s⟩ k=obind (p2 (F9 n b call (as.map (·.read ⟨fr,τ,s⟩)) .undef s)) fun x=>g8 call os (d.put x.1 { d9 as ⟨fr,τ,s⟩with st:=x.2 }) k:=Y0 call d as os ⟨fr,τ,s⟩ k
theorem c6v (n b:Nat) (x:Opd) (w:Bool) (h:j6 as=false):g8 call (⟨d,.appM n b,as,none,some (x,w)⟩::os) ⟨fr,τ,s⟩ k=obind (gv2 (x.read ⟨fr,τ,s⟩) w s (p2 (F9 n b call (as.map (·.read ⟨fr,τ,s⟩)) .undef s))) fun r=>g8 call os (d.put r.1 ⟨fr,τ,r.2⟩) k:=P1 rfl rfl h
theorem c1A (n:Nat):g8 call (⟨d,.ldStSR n,as,none,none⟩::os) ⟨fr,τ,s⟩ k=obind (p2 (G8 n call (as.map (·.read ⟨fr,τ,s⟩)) .undef s)) fun x=>g8 call os (d.put x.1 { d9 as ⟨fr,τ,s⟩with st:=x.2 }) k:=Y0 call d as os ⟨fr,τ,s⟩ k
theorem b9j (n:Nat) (x:Opd) (w:Bool) (h:j6 as=false):g8 call (⟨d,.ldStSR n,as,none,some (x,w)⟩::os) ⟨fr,τ,s⟩ k=obind (gv2 (x.read ⟨fr,τ,s⟩) w s (p2 (G8 n call (as.map (·.read ⟨fr,τ,s⟩)) .undef s))) fun r=>g8 call os (d.put r.1 ⟨fr,τ,r.2⟩) k:=P1 rfl rfl h
theorem c5q (n:Nat):g8 call (⟨d,.stStA n,as,none,none⟩::os) ⟨fr,τ,s⟩ k=obind (p2 (K1 n call (as.map (·.read ⟨fr,τ,s⟩)) .undef s)) fun x=>g8 call os (d.put x.1 { d9 as ⟨fr,τ,s⟩with st:=x.2 }) k:=Y0 call d as os ⟨fr,τ,s⟩ k
theorem c0r (n:Nat) (x:Opd) (w:Bool) (h:j6 as=false):g8 call (⟨d,.stStA n,as,none,some (x,w)⟩::os) ⟨fr,τ,s⟩ k=obind (gv2 (x.read ⟨fr,τ,s⟩) w s (p2 (K1 n call (as.map (·.read ⟨fr,τ,s⟩)) .undef s))) fun r=>g8 call os (d.put r.1 ⟨fr,τ,r.2⟩) k:=P1 rfl rfl h
theorem c5S (f m:Nat):g8 call (⟨d,.callA f m,as,none,none⟩::os) ⟨fr,τ,s⟩ k=obind (p2 (H8 f m call (as.map (·.read ⟨fr,τ,s⟩)) .undef s)) fun x=>g8 call os (d.put x.1 { d9 as ⟨fr,τ,s⟩with st:=x.2 }) k:=Y0 call d as os ⟨fr,τ,s⟩ k
theorem c0c (f m:Nat) (x:Opd) (w:Bool) (h:j6 as=false):g8 call (⟨d,.callA f m,as,none,some (x,w)⟩::os) ⟨fr,τ,s⟩ k=obind (gv2 (x.read ⟨fr,τ,s⟩) w s (p2 (H8 f m call (as.map (·.read ⟨fr,τ,s⟩)) .undef s))) fun r=>g8 call os (d.put r.1 ⟨fr,τ,r.2⟩) k:=P1 rfl rfl h
theorem c6m:g8 call (⟨d,.ldStS,as,none,none⟩::os) ⟨fr,τ,s⟩ k=obind (p2 (F6 call (as.map (·.read ⟨fr,τ,s⟩)) .undef s)) fun x=>g8 call os (d.put x.1 { d9 as ⟨fr,τ,s⟩with st:=x.2 }) k:=Y0 call d as os ⟨fr,τ,s⟩ k
theorem b9O (x:Opd) (w:Bool) (h:j6 as=false):g8 call (⟨d,.ldStS,as,none,some (x,w)⟩::os) ⟨fr,τ,s⟩ k=obind (gv2 (x.read ⟨fr,τ,s⟩) w s (p2 (F6 call (as.map (·.read ⟨fr,τ,s⟩)) .undef s))) fun r=>g8 call os (d.put r.1 ⟨fr,τ,r.2⟩) k:=P1 rfl rfl h
theorem d0J (n:Nat):g8 call (⟨d,.stSt n,as,none,none⟩::os) ⟨fr,τ,s⟩ k=obind (p2 (J5 n call (as.map (·.read ⟨fr,τ,s⟩)) .undef s)) fun x=>g8 call os (d.put x.1 { d9 as ⟨fr,τ,s⟩with st:=x.2 }) k:=Y0 call d as os ⟨fr,τ,s⟩ k
theorem c5f (n:Nat) (x:Opd) (w:Bool) (h:j6 as=false):g8 call (⟨d,.stSt n,as,none,some (x,w)⟩::os) ⟨fr,τ,s⟩ k=obind (gv2 (x.read ⟨fr,τ,s⟩) w s (p2 (J5 n call (as.map (·.read ⟨fr,τ,s⟩)) .undef s))) fun r=>g8 call os (d.put r.1 ⟨fr,τ,r.2⟩) k:=P1 rfl rfl h
theorem d1d:g8 call (⟨d,.mkM,as,none,none⟩::os) ⟨fr,τ,s⟩ k=obind (p2 (a1z call (as.map (·.read ⟨fr,τ,s⟩)) .undef s)) fun x=>g8 call os (d.put x.1 { d9 as ⟨fr,τ,s⟩with st:=x.2 }) k:=Y0 call d as os ⟨fr,τ,s⟩ k
theorem c9P (x:Opd) (w:Bool) (h:j6 as=false):g8 call (⟨d,.mkM,as,none,some (x,w)⟩::os) ⟨fr,τ,s⟩ k=obind (gv2 (x.read ⟨fr,τ,s⟩) w s (p2 (a1z call (as.map (·.read ⟨fr,τ,s⟩)) .undef s))) fun r=>g8 call os (d.put r.1 ⟨fr,τ,r.2⟩) k:=P1 rfl rfl h
theorem c86 (n:Nat):g8 call (⟨d,.mset n,as,none,none⟩::os) ⟨fr,τ,s⟩ k=obind (p2 (a1a n call (as.map (·.read ⟨fr,τ,s⟩)) .undef s)) fun x=>g8 call os (d.put x.1 { d9 as ⟨fr,τ,s⟩with st:=x.2 }) k:=Y0 call d as os ⟨fr,τ,s⟩ k
theorem c6w (n:Nat) (x:Opd) (w:Bool) (h:j6 as=false):g8 call (⟨d,.mset n,as,none,some (x,w)⟩::os) ⟨fr,τ,s⟩ k=obind (gv2 (x.read ⟨fr,τ,s⟩) w s (p2 (a1a n call (as.map (·.read ⟨fr,τ,s⟩)) .undef s))) fun r=>g8 call os (d.put r.1 ⟨fr,τ,r.2⟩) k:=P1 rfl rfl h
theorem c8A (f:Nat):g8 call (⟨d,.call f,as,none,none⟩::os) ⟨fr,τ,s⟩ k=obind (p2 (p8 f call (as.map (·.read ⟨fr,τ,s⟩)) .undef s)) fun x=>g8 call os (d.put x.1 { d9 as ⟨fr,τ,s⟩with st:=x.2 }) k:=Y0 call d as os ⟨fr,τ,s⟩ k
theorem c6j (f:Nat) (x:Opd) (w:Bool) (h:j6 as=false):g8 call (⟨d,.call f,as,none,some (x,w)⟩::os) ⟨fr,τ,s⟩ k=obind (gv2 (x.read ⟨fr,τ,s⟩) w s (p2 (p8 f call (as.map (·.read ⟨fr,τ,s⟩)) .undef s))) fun r=>g8 call os (d.put r.1 ⟨fr,τ,r.2⟩) k:=P1 rfl rfl h
theorem c6J:g8 call (⟨d,.callV,as,none,none⟩::os) ⟨fr,τ,s⟩ k=obind (p2 (L9 call (as.map (·.read ⟨fr,τ,s⟩)) .undef s)) fun x=>g8 call os (d.put x.1 { d9 as ⟨fr,τ,s⟩with st:=x.2 }) k:=Y0 call d as os ⟨fr,τ,s⟩ k
theorem c0F (x:Opd) (w:Bool) (h:j6 as=false):g8 call (⟨d,.callV,as,none,some (x,w)⟩::os) ⟨fr,τ,s⟩ k=obind (gv2 (x.read ⟨fr,τ,s⟩) w s (p2 (L9 call (as.map (·.read ⟨fr,τ,s⟩)) .undef s))) fun r=>g8 call os (d.put r.1 ⟨fr,τ,r.2⟩) k:=P1 rfl rfl h
theorem c5t (z:List AV) (j:Nat):g8 call (⟨d,.alloc z,as,some j,none⟩::os) ⟨fr,τ,s⟩ k=obind (V5 z call (as.map (·.read ⟨fr,τ,s⟩)) (fr.getD j .undef) s) fun x=>g8 call os (d.put x.1 { d9 as ⟨fr,τ,s⟩with fr:=(d9 as ⟨fr,τ,s⟩).fr.set j x.2.1,st:=x.2.2 }) k:=b0J call d as os ⟨fr,τ,s⟩ k j
theorem c8l (j:Nat):g8 call (⟨d,.boxV,as,some j,none⟩::os) ⟨fr,τ,s⟩ k=obind (a05 call (as.map (·.read ⟨fr,τ,s⟩)) (fr.getD j .undef) s) fun x=>g8 call os (d.put x.1 { d9 as ⟨fr,τ,s⟩with fr:=(d9 as ⟨fr,τ,s⟩).fr.set j x.2.1,st:=x.2.2 }) k:=b0J call d as os ⟨fr,τ,s⟩ k j
theorem c4K (i:Nat) (j:Nat):g8 call (⟨d,.ldLcS i,as,some j,none⟩::os) ⟨fr,τ,s⟩ k=obind (U6 i call (as.map (·.read ⟨fr,τ,s⟩)) (fr.getD j .undef) s) fun x=>g8 call os (d.put x.1 { d9 as ⟨fr,τ,s⟩with fr:=(d9 as ⟨fr,τ,s⟩).fr.set j x.2.1,st:=x.2.2 }) k:=b0J call d as os ⟨fr,τ,s⟩ k j
theorem c9v (i n:Nat) (j:Nat):g8 call (⟨d,.stLc i n,as,some j,none⟩::os) ⟨fr,τ,s⟩ k=obind (L5 i n call (as.map (·.read ⟨fr,τ,s⟩)) (fr.getD j .undef) s) fun x=>g8 call os (d.put x.1 { d9 as ⟨fr,τ,s⟩with fr:=(d9 as ⟨fr,τ,s⟩).fr.set j x.2.1,st:=x.2.2 }) k:=b0J call d as os ⟨fr,τ,s⟩ k j
theorem d5l (x:Opd) (w:Bool) (h:j6 as=false):g8 call (⟨d,.mv,as,none,some (x,w)⟩::os) ⟨fr,τ,s⟩ k=obind (gv (x.read ⟨fr,τ,s⟩) w (p1 (a2V call (as.map (·.read ⟨fr,τ,s⟩)) .undef s))) fun r=>g8 call os (d.put r ⟨fr,τ,s⟩) k:=r8 (by rw[h]; rfl)
theorem c9n (x:Opd) (w:Bool) (h:j6 as=false):g8 call (⟨d,.pick,as,none,some (x,w)⟩::os) ⟨fr,τ,s⟩ k=obind (gv (x.read ⟨fr,τ,s⟩) w (p1 (G5 call (as.map (·.read ⟨fr,τ,s⟩)) .undef s))) fun r=>g8 call os (d.put r ⟨fr,τ,s⟩) k:=r8 (by rw[h]; rfl)
theorem b94 (x:Opd) (w:Bool) (h:j6 as=false):g8 call (⟨d,.nilchk,as,none,some (x,w)⟩::os) ⟨fr,τ,s⟩ k=obind (gv (x.read ⟨fr,τ,s⟩) w (p1 (G7 call (as.map (·.read ⟨fr,τ,s⟩)) .undef s))) fun r=>g8 call os (d.put r ⟨fr,τ,s⟩) k:=r8 (by rw[h]; rfl)
theorem c7s (x:Opd) (w:Bool) (h:j6 as=false):g8 call (⟨d,.idxS,as,none,some (x,w)⟩::os) ⟨fr,τ,s⟩ k=obind (gv (x.read ⟨fr,τ,s⟩) w (p1 (S3 call (as.map (·.read ⟨fr,τ,s⟩)) .undef s))) fun r=>g8 call os (d.put r ⟨fr,τ,s⟩) k:=r8 (by rw[h]; rfl)
theorem d2v (x:Opd) (w:Bool) (h:j6 as=false):g8 call (⟨d,.slZ,as,none,some (x,w)⟩::os) ⟨fr,τ,s⟩ k=obind (gv (x.read ⟨fr,τ,s⟩) w (p1 (a0G call (as.map (·.read ⟨fr,τ,s⟩)) .undef s))) fun r=>g8 call os (d.put r ⟨fr,τ,s⟩) k:=r8 (by rw[h]; rfl)
theorem c8o (x:Opd) (w:Bool) (h:j6 as=false):g8 call (⟨d,.lenS,as,none,some (x,w)⟩::os) ⟨fr,τ,s⟩ k=obind (gv (x.read ⟨fr,τ,s⟩) w (p1 (Y2 call (as.map (·.read ⟨fr,τ,s⟩)) .undef s))) fun r=>g8 call os (d.put r ⟨fr,τ,s⟩) k:=r8 (by rw[h]; rfl)
theorem c8F (x:Opd) (w:Bool) (h:j6 as=false):g8 call (⟨d,.lenL,as,none,some (x,w)⟩::os) ⟨fr,τ,s⟩ k=obind (gv (x.read ⟨fr,τ,s⟩) w (p1 (H6 call (as.map (·.read ⟨fr,τ,s⟩)) .undef s))) fun r=>g8 call os (d.put r ⟨fr,τ,s⟩) k:=r8 (by rw[h]; rfl)
theorem d3i (x:Opd) (w:Bool) (h:j6 as=false):g8 call (⟨d,.b2s,as,none,some (x,w)⟩::os) ⟨fr,τ,s⟩ k=obind (gv (x.read ⟨fr,τ,s⟩) w (p1 (a0Q call (as.map (·.read ⟨fr,τ,s⟩)) .undef s))) fun r=>g8 call os (d.put r ⟨fr,τ,s⟩) k:=r8 (by rw[h]; rfl)
end
def VV:=(AZ (AZ (AZ (AZ (AZ (AZ @c9T (AZ @b8j @b5J)) (AZ (AZ @d3P @d28) (AZ @d4d @d05))) (AZ (AZ (AZ @d39 @d3x) (AZ @d07 @put_t)) (AZ (AZ @put_v @d12) (AZ @d2H @d5b)))) (AZ (AZ (AZ (AZ @d5j @d31) (AZ @d4H @d4t)) (AZ (AZ @d5f @d2a) (AZ @d1m @d4y))) (AZ (AZ (AZ @d3N @d3v) (AZ @d3F @d3Z)) (AZ (AZ @c9W @b9V) (AZ @c6E @c2d))))) (AZ (AZ (AZ (AZ @b65 (AZ @c8b @d0V)) (AZ (AZ @d01 @c4d) (AZ @d1C @d3e))) (AZ (AZ (AZ @d2c @c9L) (AZ @d0W @d1U)) (AZ (AZ @d2p @d1i) (AZ @d1k @d2K)))) (AZ (AZ (AZ (AZ @c72 @d0r) (AZ @d4G @c81)) (AZ (AZ @d1g @c7m) (AZ @d1I @d0x))) (AZ (AZ (AZ @c79 @d2q) (AZ @d1X @c5r)) (AZ (AZ @c2a @b8S) (AZ @c9I @c9w)))))) (AZ (AZ (AZ (AZ (AZ @c7w (AZ @c59 @d1F)) (AZ (AZ @d1K @d2L) (AZ @d0U @d24))) (AZ (AZ (AZ @d19 @d1w) (AZ @d1n @d0z)) (AZ (AZ @c9S @d3T) (AZ @c7V @d1f)))) (AZ (AZ (AZ (AZ @c9O @d2W) (AZ @d1T @c7M)) (AZ (AZ @c5Q @b9q) (AZ @b85 @c91))) (AZ (AZ (AZ @c5d @b8A) (AZ @b6v @c90)) (AZ (AZ @c6v @c1A) (AZ @b9j @c5q))))) (AZ (AZ (AZ (AZ (AZ @c0r @c5S) (AZ @c0c @c6m)) (AZ (AZ @b9O @d0J) (AZ @c5f @d1d))) (AZ (AZ (AZ @c9P @c86) (AZ @c6w @c8A)) (AZ (AZ @c6j @c6J) (AZ @c0F @c5t)))) (AZ (AZ (AZ (AZ @c8l @c4K) (AZ @c9v @d4x)) (AZ (AZ @d3C @d4i) (AZ @d3r @d4J))) (AZ (AZ (AZ @d5l @c9n) (AZ @b94 @c7s)) (AZ (AZ @d2v @c8o) (AZ @c8F @d3i)))))))
end Go.Cb.V
namespace Go.Cb.G
open Go Go.Cb
variable {ρ:Type}
section
noncomputable def onI (x:AV) (e:(Option ρ)) (k:IntKind→Int→(Option ρ)):(Option ρ):=AV.rec (motive_1:=fun _=>(Option ρ)) (motive_2:=fun _=>Unit) (motive_3:=fun _=>Unit)
 e (fun _=>e) (fun t n=>k t n) (fun _=>e) (fun _ _ _=>e) (fun _ _=>e) e (fun _ _=>e) (fun _ _=>e) (fun _ _=>e) (fun _=>e) e (fun _ _ _ _ _=>e) e (fun _ _=>e) (fun _ _=>e) (fun _ _ _=>e) e (fun _ _ _ _=>e) (fun _ _=>e) e
 () (fun _ _ _ _=>()) () (fun _ _ _ _=>()) x
noncomputable def b9D (x:AV) (e:(Option ρ)) (k:IntKind→Int→(Option ρ)) (l:List Nat→(Option ρ)):(Option ρ):=AV.rec (motive_1:=fun _=>(Option ρ)) (motive_2:=fun _=>Unit) (motive_3:=fun _=>Unit)
 e (fun _=>e) (fun t n=>k t n) (fun s=>l s) (fun _ _ _=>e) (fun _ _=>e) e (fun _ _=>e) (fun _ _=>e) (fun _ _=>e) (fun _=>e) e (fun _ _ _ _ _=>e) e (fun _ _=>e) (fun _ _=>e) (fun _ _ _=>e) e (fun _ _ _ _=>e) (fun _ _=>e) e
 () (fun _ _ _ _=>()) () (fun _ _ _ _=>()) x
noncomputable def onS (x:AV) (e:(Option ρ)) (k:List Nat→(Option ρ)):(Option ρ):=AV.rec (motive_1:=fun _=>(Option ρ)) (motive_2:=fun _=>Unit) (motive_3:=fun _=>Unit)
 e (fun _=>e) (fun t n=>e) (fun s=>k s) (fun _ _ _=>e) (fun _ _=>e) e (fun _ _=>e) (fun _ _=>e) (fun _ _=>e) (fun _=>e) e (fun _ _ _ _ _=>e) e (fun _ _=>e) (fun _ _=>e) (fun _ _ _=>e) e (fun _ _ _ _=>e) (fun _ _=>e) e
 () (fun _ _ _ _=>()) () (fun _ _ _ _=>()) x
noncomputable def onB (x:AV) (e:(Option ρ)) (k:Bool→(Option ρ)):(Option ρ):=AV.rec (motive_1:=fun _=>(Option ρ)) (motive_2:=fun _=>Unit) (motive_3:=fun _=>Unit)
 e (fun b=>k b) (fun t n=>e) (fun s=>e) (fun _ _ _=>e) (fun _ _=>e) e (fun _ _=>e) (fun _ _=>e) (fun _ _=>e) (fun _=>e) e (fun _ _ _ _ _=>e) e (fun _ _=>e) (fun _ _=>e) (fun _ _ _=>e) e (fun _ _ _ _=>e) (fun _ _=>e) e
 () (fun _ _ _ _=>()) () (fun _ _ _ _=>()) x
noncomputable def c8G (x:AV) (e:(Option ρ)) (k:Bool→(Option ρ)) (t:List AV→(Option ρ)):(Option ρ):=AV.rec (motive_1:=fun _=>(Option ρ)) (motive_2:=fun _=>Unit) (motive_3:=fun _=>Unit)
 e (fun b=>k b) (fun t n=>e) (fun s=>e) (fun _ _ _=>e) (fun _ _=>e) e (fun _ _=>e) (fun _ _=>e) (fun _ _=>e) (fun _=>e) e (fun _ _ _ _ _=>e) e (fun _ _=>e) (fun vs _=>t vs) (fun _ _ _=>e) e (fun _ _ _ _=>e) (fun _ _=>e) e
 () (fun _ _ _ _=>()) () (fun _ _ _ _=>()) x
noncomputable def onL (x:AV) (e:(Option ρ)) (k:List (List AV)→(Option ρ)):(Option ρ):=AV.rec (motive_1:=fun _=>(Option ρ)) (motive_2:=fun _=>Unit) (motive_3:=fun _=>Unit)
 e (fun b=>e) (fun t n=>e) (fun s=>e) (fun _ xs _=>k xs) (fun _ _=>e) e (fun _ _=>e) (fun _ _=>e) (fun _ _=>e) (fun _=>e) e (fun _ _ _ _ _=>e) e (fun _ _=>e) (fun _ _=>e) (fun _ _ _=>e) e (fun _ _ _ _=>e) (fun _ _=>e) e
 () (fun _ _ _ _=>()) () (fun _ _ _ _=>()) x
noncomputable def onP (x:AV) (e:(Option ρ)) (k:Nat→Nat→(Option ρ)):(Option ρ):=AV.rec (motive_1:=fun _=>(Option ρ)) (motive_2:=fun _=>Unit) (motive_3:=fun _=>Unit)
 e (fun b=>e) (fun t n=>e) (fun s=>e) (fun _ xs _=>e) (fun o f=>k o f) e (fun _ _=>e) (fun _ _=>e) (fun _ _=>e) (fun _=>e) e (fun _ _ _ _ _=>e) e (fun _ _=>e) (fun _ _=>e) (fun _ _ _=>e) e (fun _ _ _ _=>e) (fun _ _=>e) e
 () (fun _ _ _ _=>()) () (fun _ _ _ _=>()) x
noncomputable def b0F (x:AV) (e:(Option ρ)) (k:Nat→Nat→(Option ρ)) (l:List AV→(Option ρ)) (m:Nat→Nat→(Option ρ)):(Option ρ):=AV.rec (motive_1:=fun _=>(Option ρ)) (motive_2:=fun _=>Unit) (motive_3:=fun _=>Unit)
 e (fun b=>e) (fun t n=>e) (fun s=>e) (fun _ xs _=>e) (fun o f=>k o f) e (fun cs _=>l cs) (fun i f=>m i f) (fun _ _=>e) (fun _=>e) e (fun _ _ _ _ _=>e) e (fun _ _=>e) (fun _ _=>e) (fun _ _ _=>e) e (fun _ _ _ _=>e) (fun _ _=>e) e
 () (fun _ _ _ _=>()) () (fun _ _ _ _=>()) x
noncomputable def onR (x:AV) (e:(Option ρ)) (l:List AV→(Option ρ)):(Option ρ):=AV.rec (motive_1:=fun _=>(Option ρ)) (motive_2:=fun _=>Unit) (motive_3:=fun _=>Unit)
 e (fun b=>e) (fun t n=>e) (fun s=>e) (fun _ xs _=>e) (fun o f=>e) e (fun cs _=>l cs) (fun _ _=>e) (fun _ _=>e) (fun _=>e) e (fun _ _ _ _ _=>e) e (fun _ _=>e) (fun _ _=>e) (fun _ _ _=>e) e (fun _ _ _ _=>e) (fun _ _=>e) e
 () (fun _ _ _ _=>()) () (fun _ _ _ _=>()) x
noncomputable def b6Q (x:AV) (e:(Option ρ)) (l:List AV→(Option ρ)):(Option ρ):=AV.rec (motive_1:=fun _=>(Option ρ)) (motive_2:=fun _=>Unit) (motive_3:=fun _=>Unit)
 e (fun b=>e) (fun t n=>e) (fun s=>e) (fun _ xs _=>e) (fun o f=>e) e (fun cs _=>e) (fun _ _=>e) (fun cs _=>l cs) (fun _=>e) e (fun _ _ _ _ _=>e) e (fun _ _=>e) (fun _ _=>e) (fun _ _ _=>e) e (fun _ _ _ _=>e) (fun _ _=>e) e
 () (fun _ _ _ _=>()) () (fun _ _ _ _=>()) x
noncomputable def c1H (x:AV) (e:(Option ρ)) (l:Nat→Nat→(Option ρ)):(Option ρ):=AV.rec (motive_1:=fun _=>(Option ρ)) (motive_2:=fun _=>Unit) (motive_3:=fun _=>Unit)
 e (fun b=>e) (fun t n=>e) (fun s=>e) (fun _ xs _=>e) (fun o f=>e) e (fun cs _=>e) (fun i f=>l i f) (fun cs _=>e) (fun _=>e) e (fun _ _ _ _ _=>e) e (fun _ _=>e) (fun _ _=>e) (fun _ _ _=>e) e (fun _ _ _ _=>e) (fun _ _=>e) e
 () (fun _ _ _ _=>()) () (fun _ _ _ _=>()) x
theorem a1k (x:AV) (e:(Option ρ)) (k:IntKind→Int→(Option ρ)):onI x e k=match x with|.int t n=>k t n|_=>e:=by cases x<;>rfl
theorem b4n (x:AV) (e:(Option ρ)) (k:IntKind→Int→(Option ρ)) (l:List Nat→(Option ρ)):b9D x e k l=match x with|.int t n=>k t n|.str s=>l s|_=>e:=by cases x<;>rfl
theorem a5k (x:AV) (e:(Option ρ)) (k:List Nat→(Option ρ)):onS x e k=match x with|.str s=>k s|_=>e:=by cases x<;>rfl
theorem b1Q (x:AV) (e:(Option ρ)) (k:Bool→(Option ρ)):onB x e k=match x with|.bool b=>k b|_=>e:=by cases x<;>rfl
theorem c5L (x:AV) (e:(Option ρ)) (k:Bool→(Option ρ)) (t:List AV→(Option ρ)):c8G x e k t=match x with|.bool b=>k b|.tuple vs=>t vs|_=>e:=by cases x<;>rfl
theorem b1i (x:AV) (e:(Option ρ)) (k:List (List AV)→(Option ρ)):onL x e k=match x with|.list _ xs=>k xs|_=>e:=by cases x<;>rfl
theorem b7T (x:AV) (e:(Option ρ)) (k:Nat→Nat→(Option ρ)):onP x e k=match x with|.ptr o f=>k o f|_=>e:=by cases x<;>rfl
theorem a7x (x:AV) (e:(Option ρ)) (k:Nat→Nat→(Option ρ)) (l:List AV→(Option ρ)) (m:Nat→Nat→(Option ρ)):b0F x e k l m=match x with|.ptr o f=>k o f|.ro cs=>l cs|.loc i f=>m i f|_=>e:=by cases x<;>rfl
theorem d0R (x:AV) (e:(Option ρ)) (l:List AV→(Option ρ)):onR x e l=match x with|.ro cs=>l cs|_=>e:=by cases x<;>rfl
theorem a8E (x:AV) (e:(Option ρ)) (l:List AV→(Option ρ)):b6Q x e l=match x with|.box cs=>l cs|_=>e:=by cases x<;>rfl
theorem b3X (x:AV) (e:(Option ρ)) (l:Nat→Nat→(Option ρ)):c1H x e l=match x with|.loc i f=>l i f|_=>e:=by cases x<;>rfl
end
noncomputable def kIx (k:IntKind):Nat:=IntKind.rec (motive:=fun _=>Nat) 0 1 2 3 4 5 6 7 k
noncomputable def cB (b:Bool) (x y:(Option ρ)):(Option ρ):=Bool.rec (motive:=fun _=>(Option ρ)) y x b
theorem U2 (b:Bool) (x y:(Option ρ)):cB b x y=if b=true then x else y:=by cases b<;>rfl
theorem a5v (a b:IntKind):Nat.beq (kIx a) (kIx b)=decide (a=b):=by cases a<;>cases b<;>rfl
noncomputable def bo (b:Bool) (k:AV→(Option ρ)):(Option ρ):=cB b (k (.bool true)) (k (.bool false))
theorem a8q (b:Bool) (k:AV→(Option ρ)):bo b k=k (.bool b):=by cases b<;>rfl
noncomputable def a4B (n:Nat) (k:Nat→(Option ρ)):(Option ρ):=Nat.rec (motive:=fun _=>(Option ρ)) (k 0) (fun m _=>k (Nat.succ m)) n
theorem a02 (n:Nat) (k:Nat→(Option ρ)):a4B n k=k n:=by cases n<;>rfl
noncomputable def nn (a b:Int) (e:(Option ρ)) (k:Nat→Nat→(Option ρ)):(Option ρ):=Int.rec (motive:=fun _=>(Option ρ)) (fun a=>Int.rec (motive:=fun _=>(Option ρ)) (fun b=>k a b) (fun _=>e) b) (fun _=>e) a
theorem a5S (a b:Int) (e:(Option ρ)) (k:Nat→Nat→(Option ρ)):nn a b e k=match a,b with|.ofNat a,.ofNat b=>k a b|_,_=>e:=by cases a<;>cases b<;>rfl
noncomputable def eqF (x:List Nat):List Nat→Bool:=List.rec (motive:=fun _=>List Nat→Bool) (fun y=>List.rec (motive:=fun _=>Bool) true (fun _ _ _=>false) y)
 (fun a _ e y=>List.rec (motive:=fun _=>Bool) false (fun b t _=>Bool.rec (motive:=fun _=>Bool) false (e t) (Nat.beq a b)) y) x
theorem b2g:∀ x y:List Nat,eqF x y=eqN x y
 | [],[]=>rfl
 | [],_::_=>rfl
 | _::_,[]=>rfl
 | a::x,b::y=>by have e:=b2g x y;show(Bool.rec (motive:=fun _=>Bool) false (eqF x y) (Nat.beq a b))=(Nat.beq a b && eqN x y);rw[e];cases Nat.beq a b<;>rfl
noncomputable def a5G {β:Type} (l:List β) (e:(Option ρ)) (k:β→(Option ρ)):Nat→(Option ρ):=List.rec (motive:=fun _=>Nat→(Option ρ)) (fun _=>e) (fun a _ t i=>Nat.rec (motive:=fun _=>(Option ρ)) (k a) (fun j _=>t j) i) l
theorem a3w {β:Type}:∀ (l:List β) (e:(Option ρ)) (k:β→(Option ρ)) (i:Nat),a5G l e k i=match l[i]? with|some a=>k a|none=>e
 | [],e,k,i=>by cases i<;>rfl
 | a::l,e,k,0=>rfl
 | a::l,e,k,i+1=>by have:=a3w l e k i;show a5G l e k i=_;rw[this];simp
noncomputable def M8 {β:Type} (l:List β):Nat:=List.rec (motive:=fun _=>Nat) 0 (fun _ _ n=>Nat.add n 1) l
theorem J8 {β:Type}:∀ l:List β,M8 l=l.length
 | []=>rfl
 | a::l=>by show Nat.add (M8 l) 1=_;rw[J8 l];rfl
noncomputable def a8c (n:Nat):List AV→List AV:=Nat.rec (motive:=fun _=>List AV→List AV) (fun l=>l) (fun _ e l=>List.rec (motive:=fun _=>List AV) [] (fun _ t _=>e t) l) n
theorem a2L:∀ (n:Nat) (l:List AV),a8c n l=l.drop n
 | 0,l=>rfl
 | n+1,[]=>rfl
 | n+1,a::l=>a2L n l
noncomputable def b0G {β:Type} (i:Nat) (l:List β):List β:=Nat.rec (motive:=fun _=>List β) l (fun _ e=>List.rec (motive:=fun _=>List β) [] (fun _ t _=>t) e) i
theorem a7k {β:Type}:∀ (i:Nat) (l:List β),b0G i l=l.drop i
 | 0,l=>rfl
 | i+1,l=>by have:=a7k i l;show List.rec (motive:=fun _=>List β) [] (fun _ t _=>t) (b0G i l)=_;rw[this,show l.drop (i+1)=(l.drop i).drop 1 by rw[List.drop_drop]];cases l.drop i<;>rfl
noncomputable def atO {β:Type} (l:List β) (e:(Option ρ)) (k:β→(Option ρ)) (i:Nat):(Option ρ):=List.rec (motive:=fun _=>(Option ρ)) e (fun a _ _=>k a) (b0G i l)
theorem b8m {β:Type} (l:List β) (e:(Option ρ)) (k:β→(Option ρ)) (i:Nat):atO l e k i=match l[i]? with|some a=>k a|none=>e:=by
 unfold atO;rw[a7k];have h:l[i]?=(l.drop i)[0]?:=by simp
 rw[h];cases l.drop i<;>rfl
noncomputable def b0E {β:Type} (n:Nat) (l:List β) (k:List β→(Option ρ)):(Option ρ):=Nat.rec (motive:=fun _=>List β→(List β→(Option ρ))→(Option ρ)) (fun _ k=>k []) (fun _ e l k=>List.rec (motive:=fun _=>(Option ρ)) (k []) (fun a t _=>e t fun r=>k (a::r)) l) n l k
theorem a4f {β:Type}:∀ (n:Nat) (l:List β) (k:List β→(Option ρ)),b0E n l k=k (l.take n)
 | 0,l,k=>by show k []=_; rw[List.take_zero]
 | n+1,[],k=>rfl
 | n+1,a::l,k=>a4f n l fun r=>k (a::r)
noncomputable def a6M {β:Type} (l r:List β) (k:List β→(Option ρ)):(Option ρ):=List.rec (motive:=fun _=>(List β→(Option ρ))→(Option ρ)) (fun k=>k r) (fun a _ e k=>e fun t=>k (a::t)) l k
theorem a6o {β:Type} (r:List β):∀ (l:List β) (k:List β→(Option ρ)),a6M l r k=k (l++r)
 | [],k=>rfl
 | a::l,k=>a6o r l fun t=>k (a::t)
noncomputable def c2T (l:List AV) (e:(Option ρ)) (k:AV→(Option ρ)):(Option ρ):=List.rec (motive:=fun _=>(Option ρ)) e (fun a _ _=>k a) l
theorem c2e (l:List AV) (e:(Option ρ)) (k:AV→(Option ρ)):c2T l e k=match l with|a::_=>k a|[]=>e:=by cases l<;>rfl
noncomputable def w1K (x:AV) (k:AV→(Option ρ)):(Option ρ):=AV.rec (motive_1:=fun _=>(Option ρ)) (motive_2:=fun _=>Unit) (motive_3:=fun _=>Unit)
 (k .undef) (fun b=>k (.bool b)) (fun t n=>k (.int t n)) (fun s=>k (.str s)) (fun _ xs _=>k (.list false xs)) (fun o f=>k (.ptr o f)) (k .nilp) (fun cs _=>k (.ro cs)) (fun i f=>k (.loc i f)) (fun cs _=>k (.box cs)) (fun o=>k (.map o)) (k .nilm) (fun f a c _ _=>k (.func f a c)) (k .nilf) (fun cs _=>k (.agg cs)) (fun vs _=>k (.tuple vs)) (fun t v _=>k (.iface t v)) (k .nili) (fun o f n s=>k (.sl o f n s)) (fun xs _=>k (.fresh xs)) (k .nils)
 () (fun _ _ _ _=>()) () (fun _ _ _ _=>()) x
theorem b8k (x:AV) (k:AV→(Option ρ)):w1K x k=k x.weak1:=by cases x<;>rfl
noncomputable def c0B (l:List AV) (k:List AV→(Option ρ)):(Option ρ):=List.rec (motive:=fun _=>(List AV→(Option ρ))→(Option ρ)) (fun k=>k []) (fun a _ e k=>w1K a fun w=>e fun r=>k (w::r)) l k
theorem b3M:∀ (l:List AV) (k:List AV→(Option ρ)),c0B l k=k (l.map AV.weak1)
 | [],k=>rfl
 | a::l,k=>by show w1K a (fun w=>c0B l fun r=>k (w::r))=_;rw[b8k,b3M l];rfl
noncomputable def a7B {β:Type} (l:List β) (e:(Option ρ)) (k:List β→(Option ρ)):(Option ρ):=List.rec (motive:=fun _=>(Option ρ)) e (fun _ l _=>List.rec (motive:=fun _=>(Option ρ)) e (fun _ l _=>List.rec (motive:=fun _=>(Option ρ)) e (fun _ l _=>List.rec (motive:=fun _=>(Option ρ)) e (fun _ l _=>List.rec (motive:=fun _=>(Option ρ)) e (fun _ l _=>List.rec (motive:=fun _=>(Option ρ)) e (fun _ l _=>List.rec (motive:=fun _=>(Option ρ)) e (fun _ l _=>List.rec (motive:=fun _=>(Option ρ)) e (fun _ l _=>k l) l) l) l) l) l) l) l) l
theorem c1v {β:Type} (l:List β) (e:(Option ρ)) (k:List β→(Option ρ)):a7B l e k=if 8≤l.length then k (l.drop 8)else e:=by
 match l with
 | []=>rfl
 | [_]=>rfl
 | [_,_]=>rfl
 | [_,_,_]=>rfl
 | [_,_,_,_]=>rfl
 | [_,_,_,_,_]=>rfl
 | [_,_,_,_,_,_]=>rfl
 | [_,_,_,_,_,_,_]=>rfl
 | _::_::_::_::_::_::_::_::t=>rw[if_pos (by simp)]; rfl
noncomputable def b48 {β:Type} (l:List β) (e:(Option ρ)) (k:β→(Option ρ)) (i:Nat):(Option ρ):=Nat.rec (motive:=fun _=>List β→(Option ρ)) (fun l=>a5G l e k (Nat.mod i 8)) (fun _ t l=>a7B l e t) (Nat.div i 8) l
theorem b4j {β:Type} (e:(Option ρ)) (k:β→(Option ρ)) (r:Nat):∀ (q:Nat) (l:List β),Nat.rec (motive:=fun _=>List β→(Option ρ)) (fun l=>a5G l e k r) (fun _ t l=>a7B l e t) q l=a5G l e k (8*q+r)
 | 0,l=>by show a5G l e k r=_; rw[Nat.mul_zero,Nat.zero_add]
 | q+1,l=>by
  show a7B l e (fun l=>Nat.rec (motive:=fun _=>List β→(Option ρ)) (fun l=>a5G l e k r) (fun _ t l=>a7B l e t) q l)=_;rw[c1v,b4j e k r q (l.drop 8),a3w,a3w];split
  · rw[List.getElem?_drop,show 8+(8*q+r)=8*(q+1)+r by omega]
  · rw[List.getElem?_eq_none (by omega)]
theorem b4w {β:Type} (l:List β) (e:(Option ρ)) (k:β→(Option ρ)) (i:Nat):b48 l e k i=match l[i]? with|some a=>k a|none=>e:=by unfold b48;rw[b4j e k (Nat.mod i 8) (Nat.div i 8) l,a3w,show 8*Nat.div i 8+Nat.mod i 8=i from Nat.div_add_mod i 8]
noncomputable def a4r {β:Type} (l:List β) (e:(Option ρ)) (t:List β→(List β→(Option ρ))→(Option ρ)) (k:List β→(Option ρ)):(Option ρ):=List.rec (motive:=fun _=>(Option ρ)) e (fun a0 l _=>List.rec (motive:=fun _=>(Option ρ)) e (fun a1 l _=>List.rec (motive:=fun _=>(Option ρ)) e (fun a2 l _=>List.rec (motive:=fun _=>(Option ρ)) e (fun a3 l _=>List.rec (motive:=fun _=>(Option ρ)) e (fun a4 l _=>List.rec (motive:=fun _=>(Option ρ)) e (fun a5 l _=>List.rec (motive:=fun _=>(Option ρ)) e (fun a6 l _=>List.rec (motive:=fun _=>(Option ρ)) e (fun a7 l _=>t l (fun r=>k (a0::a1::a2::a3::a4::a5::a6::a7::r))) l) l) l) l) l) l) l) l
theorem b3J {β:Type} (l:List β) (e:(Option ρ)) (u:List β→(List β→(Option ρ))→(Option ρ)) (k:List β→(Option ρ)):a4r l e u k=if 8≤l.length then u (l.drop 8) (fun r=>k (l.take 8++r))else e:=by
 match l with
 | []=>rfl
 | [_]=>rfl
 | [_,_]=>rfl
 | [_,_,_]=>rfl
 | [_,_,_,_]=>rfl
 | [_,_,_,_,_]=>rfl
 | [_,_,_,_,_,_]=>rfl
 | [_,_,_,_,_,_,_]=>rfl
 | _::_::_::_::_::_::_::_::t=>rw[if_pos (by simp)]; rfl
section
variable (c:d8) (b:AV) (s:St) (f:AV→(Option ρ))
noncomputable def c0a (x y:AV):(Option ρ):=b9D x none (fun t m=>onI y none fun u n=>cB (Nat.beq (kIx t) (kIx u)) (nn m n (bo (eqI m n) f) fun a b=>bo (Nat.beq a b) f) none) (fun l=>onS y none fun r=>bo (eqF l r) f)
noncomputable def c2l (x y:AV):(Option ρ):=b9D x none (fun t m=>onI y none fun u n=>cB (Nat.beq (kIx t) (kIx u)) (nn m n (bo (!eqI m n) f) fun a b=>cB (Nat.beq a b) (f (.bool false)) (f (.bool true))) none) (fun l=>onS y none fun r=>cB (eqF l r) (f (.bool false)) (f (.bool true)))
noncomputable def a3s (op:BinOp) (g:Nat→Nat→Bool) (x y:AV):(Option ρ):=onI x (obind (p1 (sem (.bin op) c [x,y] b s)) f) (fun t m=>onI y none fun u n=>cB (Nat.beq (kIx t) (kIx u)) (nn m n (obind (p1 (sem (.bin op) c [.int t m,.int u n] b s)) f) fun a b=>bo (g a b) f) none)
noncomputable def c0j (x y:AV):(Option ρ):=onI x (obind (p1 (sem (.bin .add) c [x,y] b s)) f) (fun t m=>onI y none fun u n=>cB (Nat.beq (kIx t) (kIx u)) (nn m n (obind (p1 (sem (.bin .add) c [.int t m,.int u n] b s)) f)
 fun i j=>a4B (Nat.add i j) fun r=>cB (Nat.blt r 128) (f (.int t (.ofNat r))) (cB (Nat.beq (kIx t) 3) (cB (Nat.blt r 9223372036854775808) (f (.int t (.ofNat r))) (obind (p1 (sem (.bin .add) c [.int t m,.int u n] b s)) f)) (obind (p1 (sem (.bin .add) c [.int t m,.int u n] b s)) f))) none)
noncomputable def c2o (x y:AV):(Option ρ):=onI x (obind (p1 (sem (.bin .sub) c [x,y] b s)) f) (fun t m=>onI y none fun u n=>cB (Nat.beq (kIx t) (kIx u)) (nn m n (obind (p1 (sem (.bin .sub) c [.int t m,.int u n] b s)) f)
 fun i j=>cB (Nat.ble j i) (a4B (Nat.sub i j) fun r=>cB (Nat.blt r 128) (f (.int t (.ofNat r))) (cB (Nat.beq (kIx t) 3) (cB (Nat.blt r 9223372036854775808) (f (.int t (.ofNat r))) (obind (p1 (sem (.bin .sub) c [.int t m,.int u n] b s)) f)) (obind (p1 (sem (.bin .sub) c [.int t m,.int u n] b s)) f))) (obind (p1 (sem (.bin .sub) c [.int t m,.int u n] b s)) f)) none)
noncomputable def b95 (x:AV):(Option ρ):=onB x none fun y=>cB y (f (.bool false)) (f (.bool true))
noncomputable def b2B (x:AV):(Option ρ):=cB x.plain (f x) none
noncomputable def b5U (x y z:AV):(Option ρ):=onB x none fun v=>cB v (b2B f y) (b2B f z)
noncomputable def b9p (x:AV):(Option ρ):=b0F x (obind (p1 (sem .nilchk c [x] b s)) f) (fun o i=>f (.ptr o i)) (fun cs=>f (.ro cs)) (fun i j=>f (.loc i j))
noncomputable def c0I (d:Nat) (x:AV):(Option ρ):=b0F x none (fun o i=>a4B (Nat.add i d) fun i=>f (.ptr o i)) (fun cs=>f (.ro (a8c d cs))) (fun o i=>a4B (Nat.add i d) fun i=>f (.loc o i))
noncomputable def a5T (e:Bool) (n:Nat) (cs:List AV):(Option ρ):=cB e (cB (Nat.ble n (M8 cs)) (b0E n cs fun r=>c0B r fun r=>f (.agg r)) none) (c2T cs none fun x=>w1K x f)
noncomputable def b06 (x:Obj) (k:List AV→(Option ρ)):(Option ρ):=Obj.rec (motive:=fun _=>(Option ρ)) k (fun _=>none) none x
noncomputable def a7I (e:Bool) (n:Nat) (x:AV):(Option ρ):=onP x none fun o i=>b48 s none (fun ob=>b06 ob fun cs=>a5T f e n (a8c i cs)) o
noncomputable def a7Y (e:Bool) (n:Nat) (x:AV):(Option ρ):=onR x none fun cs=>a5T f e n cs
noncomputable def b45 (i:Nat) (e:Bool) (n:Nat) (x:AV):(Option ρ):=c1H x none fun j off=>b6Q b none fun cs=>cB (Nat.beq i j) (a5T f e n (a8c off cs)) none
noncomputable def b5a (x:AV):(Option ρ):=onS x none fun l=>a4B (M8 l) fun n=>f (.int .i64 (.ofNat n))
noncomputable def b6J (x:AV):(Option ρ):=onL x (obind (p1 (sem .lenL c [x] b s)) f) fun l=>a4B (M8 l) fun n=>f (.int .i64 (.ofNat n))
noncomputable def c0K (x y:AV):(Option ρ):=onS x none fun l=>onI y none fun _ n=>Int.rec (motive:=fun _=>(Option ρ)) (fun i=>atO l none (fun m=>f (.int .u8 (.ofNat m))) i) (fun _=>none) n
noncomputable def c2g (sz:Nat) (x y:AV):(Option ρ):=onL x (obind (p1 (sem (.iad sz) c [x,y] b s)) f) fun l=>onI y none fun _ n=>Int.rec (motive:=fun _=>(Option ρ)) (fun i=>atO l none (fun r=>cB (Nat.beq (M8 r) sz) (f (.ro r)) none) i) (fun _=>none) n
end
section
variable (c:d8) (b:AV) (s:St) (f:AV→(Option ρ))
theorem c4f (x y:AV):c0a f x y=obind (p1 (sem (.bin .eql) c [x,y] b s)) f:=by
 simp only[c0a,b4n,a1k,a5k,U2,a8q,a5S,b2g,a5v,sem,E3];cases x<;>cases y<;>try rfl
 · rename_i t m u n;by_cases h:t=u
   · subst h;cases m<;>cases n<;>simp[n4,p1,obind,eqI]
   · simp[n4,h,p1,obind]
theorem c52 (x y:AV):c2l f x y=obind (p1 (sem (.bin .neq) c [x,y] b s)) f:=by
 simp only[c2l,b4n,a1k,a5k,U2,a8q,a5S,b2g,a5v,sem,E3];cases x<;>cases y<;>try rfl
 · rename_i t m u n;by_cases h:t=u
   · subst h;cases m<;>cases n<;>simp[n4,p1,obind,eqI];rename_i m n;by_cases h:m=n
     · subst h; simp
     · have e:Nat.beq m n=false:=Bool.eq_false_iff.mpr (fun q=>h (Nat.eq_of_beq_eq_true q));simp[e,h]
   · simp[n4,h,p1,obind]
 · rename_i l r;simp only[n4,AO,p1,obind];cases eqN l r<;>rfl
theorem c2r {op:BinOp} (e:op=.lss∨op=.leq∨op=.gtr∨op=.geq) (t:IntKind) (m:Int) (y:AV) (l:∀ u n,y≠.int u n):n4 op (.int t m) y=none:=by cases y<;>first|(exfalso; exact l _ _ rfl)|(rcases e with rfl|rfl|rfl|rfl<;>rfl)
theorem c66 {op:BinOp} (e:op=.lss∨op=.leq∨op=.gtr∨op=.geq) {t u:IntKind} (h:t≠u) (m n:Int):n4 op (.int t m) (.int u n)=none:=by rcases e with rfl|rfl|rfl|rfl<;>simp[n4,h]
theorem a6k (op:BinOp) (g:Nat→Nat→Bool) (e:op=.lss∨op=.leq∨op=.gtr∨op=.geq) (l:∀ (t:IntKind) (i j:Nat),n4 op (.int t (.ofNat i)) (.int t (.ofNat j))=some (.bool (g i j))) (x y:AV):a3s c b s f op g x y=obind (p1 (sem (.bin op) c [x,y] b s)) f:=by
 simp only[a3s,a1k,U2,a8q,a5S,a5v];cases x<;>try rfl
 rename_i t m;cases y
 case int u n =>
  simp only;by_cases h:t=u
  · subst h;simp only[decide_true,if_true];cases m<;>cases n<;>try rfl
    rename_i i j;simp only[sem,E3,l,AO,p1,obind]
  · simp only[h,decide_false,Bool.false_eq_true,if_false,sem,E3,c66 e h,Option.map_none,p1,obind]
 all_goals (simp only[sem,E3]; rw[c2r e _ _ _ (by simp)]; rfl)
theorem a7Z (t:IntKind) {r:Nat} (h:r < 128):n7 t (Int.ofNat r)=Int.ofNat r:=by rw[Q8];cases t<;>simp[IntKind.wrap,IntKind.signed,IntKind.bits]<;>omega
theorem b0s {r:Nat} (h:r < 9223372036854775808):n7 .i64 (Int.ofNat r)=Int.ofNat r:=by simp only[n7];rw[if_pos (by simpa using h)]
theorem c3A (t:IntKind):Nat.beq (kIx t) 3=true→t=.i64:=by cases t<;>decide
theorem a8x {op:BinOp} (e:op=.add∨op=.sub) (t:IntKind) (m:Int) (y:AV) (l:∀ u n,y≠.int u n):n4 op (.int t m) y=none:=by cases y<;>first|(exfalso; exact l _ _ rfl)|(rcases e with rfl|rfl<;>rfl)
theorem c5E (x y:AV):c0j c b s f x y=obind (p1 (sem (.bin .add) c [x,y] b s)) f:=by
 simp only[c0j,a1k,U2,a8q,a5S,a5v,a02];cases x<;>try rfl
 rename_i t m;cases y
 case int u n =>
  simp only;by_cases h:t=u
  · subst h;simp only[decide_true,if_true];cases m<;>cases n<;>try rfl
    rename_i i j;dsimp only;have e:∀ r,Nat.add i j=r→n7 t (Int.ofNat r)=Int.ofNat r→f (.int t (.ofNat r))=obind (p1 (sem (.bin .add) c [.int t (.ofNat i),.int t (.ofNat j)] b s)) f:=fun r z C=>by subst z;simp only[sem,E3,n4,if_true,a3i,C,AO,p1,obind]
    split
    · rename_i l;exact e _ rfl (a7Z t (by simpa using l))
    · split
      · rename_i v;have:=c3A t v;subst this;split
        · rename_i l;exact e _ rfl (b0s (by simpa using l))
        · rfl
      · rfl
  · simp only[h,decide_false,Bool.false_eq_true,if_false,sem,E3,n4,Option.map_none,p1,obind]
 all_goals (simp only[sem,E3]; rw[a8x (.inl rfl) _ _ _ (by simp)]; rfl)
theorem c4J (x y:AV):c2o c b s f x y=obind (p1 (sem (.bin .sub) c [x,y] b s)) f:=by
 simp only[c2o,a1k,U2,a8q,a5S,a5v,a02];cases x<;>try rfl
 rename_i t m;cases y
 case int u n =>
  simp only;by_cases h:t=u
  · subst h;simp only[decide_true,if_true];cases m<;>cases n<;>try rfl
    rename_i i j;dsimp only;split
    · rename_i v;have e:∀ r,Nat.sub i j=r→n7 t (Int.ofNat r)=Int.ofNat r→f (.int t (.ofNat r))=obind (p1 (sem (.bin .sub) c [.int t (.ofNat i),.int t (.ofNat j)] b s)) f:=fun r C I=>by subst C;simp only[sem,E3,n4,if_true,a1F,v,I,AO,p1,obind]
      split
      · rename_i l;exact e _ rfl (a7Z t (by simpa using l))
      · split
        · rename_i z;have:=c3A t z;subst this;split
          · rename_i l;exact e _ rfl (b0s (by simpa using l))
          · rfl
        · rfl
    · rfl
  · simp only[h,decide_false,Bool.false_eq_true,if_false,sem,E3,n4,Option.map_none,p1,obind]
 all_goals (simp only[sem,E3]; rw[a8x (.inr rfl) _ _ _ (by simp)]; rfl)
theorem c51 (x:AV):b95 f x=obind (p1 (sem (.un .not) c [x] b s)) f:=by
 simp only[b95,b1Q,U2,sem];cases x<;>try rfl
 rename_i y; cases y<;>rfl
theorem c0L (x y z:AV):b5U f x y z=obind (p1 (sem .pick c [x,y,z] b s)) f:=by
 simp only[b5U,b2B,b1Q,U2,sem];cases x<;>try rfl
 rename_i v;cases v
 · simp only[G5,Bool.false_eq_true,if_false]; split<;>rfl
 · simp only[G5,if_true]; split<;>rfl
theorem c47 (x:AV):b9p c b s f x=obind (p1 (sem .nilchk c [x] b s)) f:=by simp only[b9p,a7x];cases x<;>rfl
theorem c6i (d:Nat) (x:AV):c0I f d x=obind (p1 (sem (.fad d) c [x] b s)) f:=by simp only[c0I,a7x,a02,a2L];cases x<;>rfl
theorem a4c (l:Bool) (n:Nat) (cs:List AV):a5T f l n cs=match l8 l n cs with|some v=>f v|none=>none:=by
 simp only[a5T,U2,c2e,J8,a4f,b3M,b8k];cases l
 · cases cs<;>rfl
 · simp only[l8,if_true];by_cases h:n≤cs.length
   · have e:Nat.ble n cs.length=true:=by simpa using h
     simp only[e,h,if_true]
   · have e:Nat.ble n cs.length=false:=Bool.eq_false_iff.mpr (fun q=>h (Nat.le_of_ble_eq_true q));simp only[e,h,Bool.false_eq_true,if_false]
theorem b0i (x:Obj) (k:List AV→(Option ρ)):b06 x k=match x with|.cells cs=>k cs|_=>none:=by cases x<;>rfl
theorem b17 {x:Option AV}:obind (p1 (x.map fun v=>(v,b,s))) f=match x with|some v=>f v|none=>none:=by cases x<;>rfl
theorem b2y (e:Bool) (n:Nat) (x:AV):a7I s f e n x=obind (p1 (sem (.ldSt e n) c [x] b s)) f:=by
 simp only[a7I,b7T,b4w,b0i,a4c,a2L];cases x<;>try rfl
 rename_i o i;simp only[sem,G4];cases s[o]? with
 | none=>rfl
 | some ob=>cases ob<;>first|rfl|exact(b17 b s f).symm
theorem b2i (e:Bool) (n:Nat) (x:AV):a7Y f e n x=obind (p1 (sem (.ldRo e n) c [x] b s)) f:=by
 simp only[a7Y,d0R,a4c];cases x<;>try rfl
 exact(b17 b s f).symm
theorem c1c (i:Nat) (e:Bool) (n:Nat) (x:AV):b45 b f i e n x=obind (p1 (sem (.ldLc i e n) c [x] b s)) f:=by
 simp only[b45,b3X,a8E,a4c,a2L,U2];cases x<;>try rfl
 rename_i j off;cases b<;>try rfl
 rename_i cs;simp only[sem,P3];by_cases h:i=j
 · simp only[h,Nat.beq_refl,if_true];exact(b17 _ s f).symm
 · have:Nat.beq i j=false:=Bool.eq_false_iff.mpr (fun q=>h (Nat.eq_of_beq_eq_true q));simp only[this,h,Bool.false_eq_true,if_false];rfl
theorem c1B (x:AV):b5a f x=obind (p1 (sem .lenS c [x] b s)) f:=by simp only[b5a,a5k,a02,J8];cases x<;>rfl
theorem b9A (x:AV):b6J c b s f x=obind (p1 (sem .lenL c [x] b s)) f:=by simp only[b6J,b1i,a02,J8];cases x<;>rfl
theorem c5o (x y:AV):c0K f x y=obind (p1 (sem .idxS c [x,y] b s)) f:=by
 simp only[c0K,a5k,a1k,b8m];cases x<;>try rfl
 cases y<;>try rfl
 rename_i l k n;simp only[sem,S3];cases n with
 | ofNat i =>have e:(Int.ofNat i).toNat=i:=rfl;simp only[Int.ofNat_eq_natCast,Int.natCast_nonneg,if_true,Int.toNat_natCast];cases l[i]?<;>rfl
 | negSucc i=>rfl
theorem c40 (sz:Nat) (x y:AV):c2g c b s f sz x y=obind (p1 (sem (.iad sz) c [x,y] b s)) f:=by
 simp only[c2g,b1i,a1k,b8m,U2,J8];cases x<;>try rfl
 cases y<;>try rfl
 rename_i w l k n;simp only[sem,L8];cases n with
 | ofNat i =>
  simp only[Int.ofNat_eq_natCast,Int.natCast_nonneg,if_true,Int.toNat_natCast];cases l[i]? with
  | none=>rfl
  | some r =>
   by_cases h:r.length=sz
   · have:Nat.beq r.length sz=true:=by rw[h]; exact Nat.beq_refl sz
     simp only[this,if_true,if_pos h];rfl
   · have:Nat.beq r.length sz=false:=Bool.eq_false_iff.mpr (fun q=>h (Nat.eq_of_beq_eq_true q));simp only[this,h,Bool.false_eq_true,if_false];rfl
 | negSucc i=>rfl
end
noncomputable def qSb (x:AV) (k:AV→AV→(Option ρ)):(Option ρ):=AV.rec (motive_1:=fun _=>(Option ρ)) (motive_2:=fun _=>Unit) (motive_3:=fun _=>Unit)
 (k .undef .undef)
 (fun b=>k (.bool b) (.bool b))
 (fun t n=>k (.int t n) (.int t n))
 (fun s=>k (.str s) (.str s))
 (fun o xs _=>k (.list o xs) (.list false xs))
 (fun o f=>k (.ptr o f) (.ptr o f))
 (k .nilp .nilp)
 (fun cs _=>k (.ro cs) (.ro cs))
 (fun i f=>k (.loc i f) (.loc i f))
 (fun cs _=>k .undef .undef)
 (fun o=>k (.map o) (.map o))
 (k .nilm .nilm)
 (fun f a c _ _=>k (.func f a c) (.func f a c))
 (k .nilf .nilf)
 (fun cs _=>k (.agg cs) (.agg (cs.map AV.weak1)))
 (fun vs _=>k (.tuple vs) (.tuple vs))
 (fun t v _=>k (.iface t v) (.iface t v))
 (k .nili .nili)
 (fun o f n s=>k (.sl o f n s) (.sl o f n s))
 (fun xs _=>k (.fresh xs) (.fresh xs))
 (k .nils .nils)
 () (fun _ _ _ _=>()) () (fun _ _ _ _=>()) x
noncomputable def qSv (x:AV) (k:AV→AV→(Option ρ)):(Option ρ):=AV.rec (motive_1:=fun _=>(Option ρ)) (motive_2:=fun _=>Unit) (motive_3:=fun _=>Unit)
 (k .undef .undef)
 (fun b=>k (.bool b) (.bool b))
 (fun t n=>k (.int t n) (.int t n))
 (fun s=>k (.str s) (.str s))
 (fun o xs _=>k (.list o xs) (.list false xs))
 (fun o f=>k (.ptr o f) (.ptr o f))
 (k .nilp .nilp)
 (fun cs _=>k (.ro cs) (.ro cs))
 (fun i f=>k .undef .undef)
 (fun cs _=>k .undef .undef)
 (fun o=>k (.map o) (.map o))
 (k .nilm .nilm)
 (fun f a c _ _=>k (.func f a c) (.func f a c))
 (k .nilf .nilf)
 (fun cs _=>k (.agg cs) (.agg (cs.map AV.weak1)))
 (fun vs _=>k (.tuple vs) (.tuple vs))
 (fun t v _=>k (.iface t v) (.iface t v))
 (k .nili .nili)
 (fun o f n s=>k (.sl o f n s) (.sl o f n s))
 (fun xs _=>k (.fresh xs) (.fresh xs))
 (k .nils .nils)
 () (fun _ _ _ _=>()) () (fun _ _ _ _=>()) x
noncomputable def qWk (x:AV) (k:AV→(Option ρ)):(Option ρ):=AV.rec (motive_1:=fun _=>(Option ρ)) (motive_2:=fun _=>Unit) (motive_3:=fun _=>Unit)
 (k .undef)
 (fun b=>k (.bool b))
 (fun t n=>k (.int t n))
 (fun s=>k (.str s))
 (fun o xs _=>k (.list false xs))
 (fun o f=>k (.ptr o f))
 (k .nilp)
 (fun cs _=>k (.ro cs))
 (fun i f=>k (.loc i f))
 (fun cs _=>k (.box cs))
 (fun o=>k (.map o))
 (k .nilm)
 (fun f a c _ _=>k (.func f a c))
 (k .nilf)
 (fun cs _=>k (.agg (cs.map AV.weak1)))
 (fun vs _=>k (.tuple vs))
 (fun t v _=>k (.iface t v))
 (k .nili)
 (fun o f n s=>k (.sl o f n s))
 (fun xs _=>k (.fresh xs))
 (k .nils)
 () (fun _ _ _ _=>()) () (fun _ _ _ _=>()) x
theorem b9a (x:AV) (k:AV→AV→(Option ρ)):qSb x k=k (AV.stripB x) (AV.weak (AV.stripB x)):=by cases x<;>rfl
theorem c9F (x:AV) (k:AV→AV→(Option ρ)):qSv x k=k (AV.strip x) (AV.weak (AV.strip x)):=by cases x<;>rfl
theorem a2M (x:AV) (k:AV→(Option ρ)):qWk x k=k (AV.weak x):=by cases x<;>rfl
noncomputable def onT (x:AV) (k:List AV→(Option ρ)):(Option ρ):=AV.rec (motive_1:=fun _=>(Option ρ)) (motive_2:=fun _=>Unit) (motive_3:=fun _=>Unit)
 (none)
 (fun b=>none)
 (fun t n=>none)
 (fun s=>none)
 (fun o xs _=>none)
 (fun o f=>none)
 (none)
 (fun cs _=>none)
 (fun i f=>none)
 (fun cs _=>none)
 (fun o=>none)
 (none)
 (fun f a c _ _=>none)
 (none)
 (fun cs _=>none)
 (fun vs _=>k vs)
 (fun t v _=>none)
 (none)
 (fun o f n s=>none)
 (fun xs _=>none)
 (none)
 () (fun _ _ _ _=>()) () (fun _ _ _ _=>()) x
theorem c9l (x:AV) (k:List AV→(Option ρ)):onT x k=match x with|.tuple vs=>k vs|_=>none:=by cases x<;>rfl
noncomputable def d0h (x:AV) (e:(Option ρ)) (k:Bool→List (List AV)→(Option ρ)):(Option ρ):=AV.rec (motive_1:=fun _=>(Option ρ)) (motive_2:=fun _=>Unit) (motive_3:=fun _=>Unit)
 (e)
 (fun b=>e)
 (fun t n=>e)
 (fun s=>e)
 (fun o xs _=>k o xs)
 (fun o f=>e)
 (e)
 (fun cs _=>e)
 (fun i f=>e)
 (fun cs _=>e)
 (fun o=>e)
 (e)
 (fun f a c _ _=>e)
 (e)
 (fun cs _=>e)
 (fun vs _=>e)
 (fun t v _=>e)
 (e)
 (fun o f n s=>e)
 (fun xs _=>e)
 (e)
 () (fun _ _ _ _=>()) () (fun _ _ _ _=>()) x
theorem c4x (x:AV) (e:(Option ρ)) (k:Bool→List (List AV)→(Option ρ)):d0h x e k=match x with|.list o xs=>k o xs|_=>e:=by cases x<;>rfl
noncomputable def onU (x:AV) (k:(Option ρ)):(Option ρ):=AV.rec (motive_1:=fun _=>(Option ρ)) (motive_2:=fun _=>Unit) (motive_3:=fun _=>Unit)
 (k)
 (fun b=>none)
 (fun t n=>none)
 (fun s=>none)
 (fun o xs _=>none)
 (fun o f=>none)
 (none)
 (fun cs _=>none)
 (fun i f=>none)
 (fun cs _=>none)
 (fun o=>none)
 (none)
 (fun f a c _ _=>none)
 (none)
 (fun cs _=>none)
 (fun vs _=>none)
 (fun t v _=>none)
 (none)
 (fun o f n s=>none)
 (fun xs _=>none)
 (none)
 () (fun _ _ _ _=>()) () (fun _ _ _ _=>()) x
theorem c9M (x:AV) (k:(Option ρ)):onU x k=match x with|.undef=>k|_=>none:=by cases x<;>rfl
noncomputable def onC (x:AV) (k:List AV→(Option ρ)):(Option ρ):=AV.rec (motive_1:=fun _=>(Option ρ)) (motive_2:=fun _=>Unit) (motive_3:=fun _=>Unit)
 (k [.undef])
 (fun b=>k [(.bool b)])
 (fun t n=>k [(.int t n)])
 (fun s=>k [(.str s)])
 (fun o xs _=>k [(.list o xs)])
 (fun o f=>k [(.ptr o f)])
 (k [.nilp])
 (fun cs _=>k [(.ro cs)])
 (fun i f=>k [(.loc i f)])
 (fun cs _=>k [(.box cs)])
 (fun o=>k [(.map o)])
 (k [.nilm])
 (fun f a c _ _=>k [(.func f a c)])
 (k [.nilf])
 (fun cs _=>k cs)
 (fun vs _=>k [(.tuple vs)])
 (fun t v _=>k [(.iface t v)])
 (k [.nili])
 (fun o f n s=>k [(.sl o f n s)])
 (fun xs _=>k [(.fresh xs)])
 (k [.nils])
 () (fun _ _ _ _=>()) () (fun _ _ _ _=>()) x
theorem b66 (x:AV) (k:List AV→(Option ρ)):onC x k=k x.cells:=by cases x<;>rfl
noncomputable def plB (x:AV) (k:(Option ρ)):(Option ρ):=AV.rec (motive_1:=fun _=>(Option ρ)) (motive_2:=fun _=>Unit) (motive_3:=fun _=>Unit)
 (none)
 (fun b=>k)
 (fun t n=>k)
 (fun s=>k)
 (fun o xs _=>k)
 (fun o f=>k)
 (k)
 (fun cs _=>k)
 (fun i f=>none)
 (fun cs _=>none)
 (fun o=>k)
 (k)
 (fun f a c _ _=>k)
 (k)
 (fun cs _=>k)
 (fun vs _=>none)
 (fun t v _=>k)
 (k)
 (fun o f n s=>k)
 (fun xs _=>none)
 (k)
 () (fun _ _ _ _=>()) () (fun _ _ _ _=>()) x
theorem a7O (x:AV) (k:(Option ρ)):plB x k=if x.plain then k else none:=by cases x<;>rfl
noncomputable def c1r (f:AV→(Option ρ)) (d:Nat) (x:AV):(Option ρ):=onT x fun vs=>a5G vs none (fun v=>qWk v f) d
theorem c5A (c:d8) (b:AV) (s:St) (f:AV→(Option ρ)) (d:Nat) (x:AV):c1r f d x=obind (p1 (sem (.ext d) c [x] b s)) f:=by
 simp only[c1r,c9l,a3w,a2M];cases x<;>try rfl
 rename_i vs;simp only[sem,Z4];cases vs[d]?<;>rfl
noncomputable def a7H (xs:List AV) (k:List AV→(Option ρ)):(Option ρ):=List.rec (motive:=fun _=>(List AV→(Option ρ))→(Option ρ)) (fun k=>k []) (fun a _ e k=>plB a (qWk a fun w=>e fun ws=>k (w::ws))) xs k
theorem a5e:∀ (xs:List AV) (k:List AV→(Option ρ)),a7H xs k=if D1 xs then k (xs.map AV.weak)else none
 | [],k=>rfl
 | a::xs,k=>by show plB a (qWk a fun w=>a7H xs fun ws=>k (w::ws))=_;rw[a7O,a2M,a5e xs];simp only[D1,AA,AH];by_cases e:a.plain=true<;>by_cases l:D1 xs=true<;>simp[e,l]
noncomputable def c1C (x:Option (AV×St)) (k:AV→St→(Option ρ)):(Option ρ):=Option.rec (motive:=fun _=>(Option ρ)) none (fun p=>Prod.rec (motive:=fun _=>(Option ρ)) (fun v s=>k v s) p) x
theorem b34 (x:Option (AV×St)) (k:AV→St→(Option ρ)):c1C x k=match x with|some (v,s)=>k v s|none=>none:=by cases x<;>rfl
noncomputable def b9Q (c:d8) (b:AV) (s:St) (f:AV→(Option ρ)) (x y z:AV):(Option ρ):=onS x none fun l=>onI z none fun _ m=>onI y (obind (p1 (sem (.slS true true) c [x,y,z] b s)) f) fun _ i=>nn i m (obind (p1 (sem (.slS true true) c [x,y,z] b s)) f) fun i m =>cB (Nat.ble m (M8 l)) (cB (Nat.ble i m) (b0E (Nat.sub m i) (b0G i l) fun r=>f (.str r)) none) none
theorem c4M (c:d8) (b:AV) (s:St) (f:AV→(Option ρ)) (x y z:AV):b9Q c b s f x y z=obind (p1 (sem (.slS true true) c [x,y,z] b s)) f:=by
 simp only[b9Q,a5k,a1k,a5S,U2,a4f,a7k,J8];cases x<;>try rfl
 cases z<;>try rfl
 cases y<;>try rfl
 rename_i l _ m _ i;cases i<;>cases m<;>try rfl
 rename_i i m;simp only[sem,Z3,J3,U0,Int.ofNat_eq_natCast,Int.natCast_nonneg,true_and,Int.toNat_natCast,Int.ofNat_le,Nat.ble_eq];by_cases e:m≤l.length
 · simp only[e,if_true];by_cases t:i≤m
   · simp only[t,if_true,AO,p1,obind];rw[List.drop_take];rfl
   · simp only[t,if_false];rfl
 · simp only[e,if_false];rfl
noncomputable def b51 (sz:Nat) (l:List (List AV)):Bool:=List.rec (motive:=fun _=>Bool) true (fun r _ _=>Nat.beq (M8 r) sz) l
theorem c1Z (sz:Nat) (l:List (List AV)):b51 sz l=l5 sz l:=by
 cases l with
 | nil=>rfl
 | cons r l =>show Nat.beq (M8 r) sz=(r.length == sz);rw[J8,Bool.eq_iff_iff];simp
noncomputable def c1t (b:AV) (s:St) (f:AV×AV×St→(Option ρ)) (d e:Nat) (x y:AV):(Option ρ):=d0h x none fun o xs=>onL y none fun ys=>cB o (cB (b51 d xs) (cB (b51 d ys) (cB (Nat.ble (Nat.mul (Nat.add (M8 xs) (M8 ys)) e) 140737488355328) (a6M xs ys fun r=>f (.list true r,b,s)) none) none) none) none
theorem c5b (c:d8) (b:AV) (s:St) (f:AV×AV×St→(Option ρ)) (d e:Nat) (x y:AV):c1t b s f d e x y=obind (sem (.app d e) c [x,y] b s) f:=by
 simp only[c1t,c4x,b1i,U2,c1Z,J8,a6o];cases x<;>try rfl
 rename_i o xs;cases y<;>try (cases o<;>rfl)
 rename_i o2 ys;cases o<;>try rfl
 simp only[sem,a0N,if_true];have l:(Nat.ble (Nat.mul (Nat.add xs.length ys.length) e) 140737488355328)=decide ((xs.length+ys.length)*e≤2 ^ 47):=by rw[Bool.eq_iff_iff];simp
 rw[l];cases l5 d xs<;>cases l5 d ys<;>try rfl
 simp only[Bool.true_and,if_true];split<;>rfl
noncomputable def b0S (b:AV) (s:St) (f:AV×AV×St→(Option ρ)) (d:List AV):(Option ρ):=onU b (f (.undef,.box d,s))
theorem b7H (c:d8) (b:AV) (s:St) (f:AV×AV×St→(Option ρ)) (d:List AV):b0S b s f d=obind (sem (.alloc d) c [] b s) f:=by simp only[b0S,c9M];cases b<;>rfl
noncomputable def b6F (cs:List AV) (off:Nat) (new:List AV) (k:List AV→(Option ρ)):(Option ρ):=b0E off cs fun a=>a6M new (a8c (Nat.add off (M8 new)) cs) fun t=>a6M a t k
theorem b3O (cs:List AV) (off:Nat) (new:List AV) (k:List AV→(Option ρ)):b6F cs off new k=k (y8 cs off new):=by simp only[b6F,a4f,a6o,a2L,J8,y8,AX];rfl
noncomputable def b4S (b:AV) (s:St) (f:AV×AV×St→(Option ρ)) (i d:Nat) (x y:AV):(Option ρ):=c1H x none fun j off=>b6Q b none fun cs=>cB (Nat.beq i j) (plB y (onC y fun new=>cB (Nat.beq (M8 new) d) (cB (Nat.ble (Nat.add off d) (M8 cs)) (b6F cs off new fun r=>f (.tuple [],.box r,s)) none) none)) none
theorem c3K (a b:Nat):(Nat.beq a b=true)=(a=b):=by simp
theorem c3Z (a b:Nat):(Nat.ble a b=true)=(a≤b):=by simp
theorem c03 (c:d8) (b:AV) (s:St) (f:AV×AV×St→(Option ρ)) (i d:Nat) (x y:AV):b4S b s f i d x y=obind (sem (.stLc i d) c [x,y] b s) f:=by
 simp only[b4S,b3X,a8E,U2,a7O,b66,J8,b3O,c3K,c3Z];cases x<;>try rfl
 rename_i j off;cases b<;>try rfl
 rename_i cs;simp only[sem,L5];by_cases e:i=j<;>by_cases l:y.plain=true<;>by_cases t:y.cells.length=d<;>by_cases u:off+d≤cs.length<;>simp[e,l,t,u,obind]
noncomputable def b1S {β:Type} (l:List β) (i:Nat) (x:β) (k:List β→(Option ρ)):(Option ρ):=List.rec (motive:=fun _=>Nat→(List β→(Option ρ))→(Option ρ)) (fun _ k=>k []) (fun a t e i k=>Nat.rec (motive:=fun _=>(Option ρ)) (k (x::t)) (fun j _=>e j fun r=>k (a::r)) i) l i k
theorem b4i {β:Type} (x:β):∀ (l:List β) (i:Nat) (k:List β→(Option ρ)),b1S l i x k=k (l.set i x)
 | [],_,_=>rfl
 | a::l,0,k=>rfl
 | a::l,i+1,k=>b4i x l i fun r=>k (a::r)
noncomputable def c1P {β:Type} (l:List β) (i:Nat) (x:β) (k:List β→(Option ρ)):(Option ρ):=Nat.rec (motive:=fun _=>List β→(List β→(Option ρ))→(Option ρ)) (fun l k=>b1S l (Nat.mod i 8) x k) (fun _ e l k=>a4r l (k l) e k) (Nat.div i 8) l k
theorem b4b {β:Type} (x:β) (r:Nat):∀ (q:Nat) (l:List β) (k:List β→(Option ρ)),Nat.rec (motive:=fun _=>List β→(List β→(Option ρ))→(Option ρ)) (fun l k=>b1S l r x k) (fun _ e l k=>a4r l (k l) e k) q l k=k (l.set (8*q+r) x)
 | 0,l,k=>by show b1S l r x k=_; rw[b4i,Nat.mul_zero,Nat.zero_add]
 | q+1,l,k=>by
  show a4r l (k l) (fun l k=>Nat.rec (motive:=fun _=>List β→(List β→(Option ρ))→(Option ρ)) (fun l k=>b1S l r x k) (fun _ e l k=>a4r l (k l) e k) q l k) k=_;rw[b3J];split
  · rename_i h;rw[b4b x r q (l.drop 8)];congr 1;rw[show 8*(q+1)+r=8+(8*q+r)by omega];conv=>rhs; rw[← List.take_append_drop 8 l]
    rw[List.set_append_right _ _ (by rw[AP]; omega),AP,Nat.min_eq_left h,Nat.add_sub_cancel_left]
  · rename_i h;rw[List.set_eq_of_length_le (by omega)]
theorem c4a {β:Type} (x:β) (l:List β) (i:Nat) (k:List β→(Option ρ)):c1P l i x k=k (l.set i x):=by unfold c1P;rw[b4b x (Nat.mod i 8) (Nat.div i 8) l k,show 8*Nat.div i 8+Nat.mod i 8=i from Nat.div_add_mod i 8]
noncomputable def b6W (s:St) (f:AV×St→(Option ρ)) (d:Nat) (x y:AV):(Option ρ):=onP x none fun o off=>b48 s none (fun ob=>b06 ob fun cs=>plB y (onC y fun new=>cB (Nat.beq (M8 new) d) (cB (Nat.ble (Nat.add off d) (M8 cs)) (b6F cs off new fun r=>c1P s o (.cells r) fun s=>f (.tuple [],s)) none) none)) o
theorem c1W (c:d8) (b:AV) (s:St) (f:AV×St→(Option ρ)) (d:Nat) (x y:AV):b6W s f d x y=obind (p2 (sem (.stSt d) c [x,y] b s)) f:=by
 simp only[b6W,b7T,b4w,b0i,U2,a7O,b66,J8,b3O,c4a,c3K,c3Z];cases x<;>try rfl
 rename_i o off;simp only[sem,J5,fL_eq];cases s[o]? with
 | none=>rfl
 | some ob =>
  cases ob<;>try rfl
  rename_i cs;by_cases e:y.plain=true<;>by_cases l:y.cells.length=d<;>by_cases t:off+d≤cs.length<;>simp[e,l,t,obind,p2]
noncomputable def bW (v w:Bool) (x y:(Option ρ)):(Option ρ):=Bool.rec (motive:=fun _=>(Option ρ)) (Bool.rec (motive:=fun _=>(Option ρ)) x y w) (Bool.rec (motive:=fun _=>(Option ρ)) y x w) v
theorem d2U (v w:Bool) (x y:(Option ρ)):bW v w x y=if v == w then x else y:=by cases v<;>cases w<;>rfl
theorem nb (i j:Nat):(!Nat.blt j i)=Nat.ble i j:=by
 have e:(Nat.blt j i=true)↔j < i:=by simp
 have l:(Nat.ble i j=true)↔i≤j:=by simp
 cases t:Nat.blt j i<;>cases u:Nat.ble i j<;>simp only[t,u,true_iff,false_iff,Bool.false_eq_true]at e l<;>first|rfl|omega
theorem c8a (c:d8) (b:AV) (s:St) (f:AV→(Option ρ)) (x y:AV):a3s c b s f .lss Nat.blt x y=obind (p1 (sem (.bin .lss) c [x,y] b s)) f:=a6k c b s f .lss _ (by simp) (fun t i j=>by simp[n4,ltI]) x y
theorem c7G (c:d8) (b:AV) (s:St) (f:AV→(Option ρ)) (x y:AV):a3s c b s f .leq Nat.ble x y=obind (p1 (sem (.bin .leq) c [x,y] b s)) f:=a6k c b s f .leq _ (by simp) (fun t i j=>by simp only[n4,if_true,Int.ofNat_eq_natCast]; rw[show ∀ a b:Nat,ltI (a:Int) (b:Int)=Nat.blt a b from fun _ _=>rfl,nb]) x y
theorem c94 (c:d8) (b:AV) (s:St) (f:AV→(Option ρ)) (x y:AV):a3s c b s f .gtr (fun i j=>Nat.blt j i) x y=obind (p1 (sem (.bin .gtr) c [x,y] b s)) f:=a6k c b s f .gtr _ (by simp) (fun t i j=>by simp[n4,ltI]) x y
theorem d0v (c:d8) (b:AV) (s:St) (f:AV→(Option ρ)) (x y:AV):a3s c b s f .geq (fun i j=>Nat.ble j i) x y=obind (p1 (sem (.bin .geq) c [x,y] b s)) f:=a6k c b s f .geq _ (by simp) (fun t i j=>by simp only[n4,if_true,Int.ofNat_eq_natCast]; rw[show ∀ a b:Nat,ltI (a:Int) (b:Int)=Nat.blt a b from fun _ _=>rfl,nb]) x y
end Go.Cb.G
namespace Go.Cb.G
open Go Go.Cb
inductive W8 (α:Type) where
 | mk (x0 x1 x2 x3 x4 x5 x6 x7:α)
abbrev Fr:=W8 (W8 AV)
def pk8 {α:Type} (i:Nat) (w:W8 α):α:=match w with
 | .mk e l t u v x y z=>match i with
  | 0=>e
  | 1=>l
  | 2=>t
  | 3=>u
  | 4=>v
  | 5=>x
  | 6=>y
  | _=>z
def st8 {α:Type} (i:Nat) (x:α) (w:W8 α):W8 α:=match w with
 | .mk e l t u v y z C=>match i with
  | 0=>.mk x l t u v y z C
  | 1=>.mk e x t u v y z C
  | 2=>.mk e l x u v y z C
  | 3=>.mk e l t x v y z C
  | 4=>.mk e l t u x y z C
  | 5=>.mk e l t u v x z C
  | 6=>.mk e l t u v y x C
  | _=>.mk e l t u v y z x
theorem lt8 {i:Nat} (h:i < 8):i=0∨i=1∨i=2∨i=3∨i=4∨i=5∨i=6∨i=7:=by omega
theorem b64 {α:Type} {i j:Nat} (hi:i < 8) (e:j < 8) (x:α) (w:W8 α):pk8 j (st8 i x w)=if j=i then x else pk8 j w:=by cases w;rcases lt8 hi with rfl|rfl|rfl|rfl|rfl|rfl|rfl|rfl<;>rcases lt8 e with rfl|rfl|rfl|rfl|rfl|rfl|rfl|rfl<;>rfl
def a0V (i:Nat) (fr:Fr):AV:=pk8 (i % 8) (pk8 (i / 8) fr)
def a2R (i:Nat) (x:AV) (fr:Fr):Fr:=st8 (i / 8) (st8 (i % 8) x (pk8 (i / 8) fr)) fr
theorem c6p {i j:Nat} (hi:i < 64) (t:j < 64) (x:AV) (fr:Fr):a0V j (a2R i x fr)=if j=i then x else a0V j fr:=by
 unfold a0V a2R;rw[b64 (by omega) (by omega)];by_cases h:j / 8=i / 8
 · rw[if_pos h,b64 (by omega) (by omega),← h];by_cases l:j % 8=i % 8
   · rw[if_pos l,if_pos (by omega)]
   · rw[if_neg l,if_neg (by omega)]
 · rw[if_neg h,if_neg (by intro e; exact h (by rw[e]))]
def toL (nv:Nat) (fr:Fr):List AV:=(List.range nv).map fun i=>a0V i fr
theorem c6G (nv:Nat) (fr:Fr):(toL nv fr).length=nv:=by simp[toL]
theorem S5 {i nv:Nat} (h:i < nv) (fr:Fr):(toL nv fr).getD i .undef=a0V i fr:=by simp[toL,List.getD,h]
theorem a3Y {i nv:Nat} (h:i < nv) (v:nv≤64) (x:AV) (fr:Fr):(toL nv fr).set i x=toL nv (a2R i x fr):=by
 apply List.ext_getElem
 · simp[toL]
 · intro j l t;have u:j < nv:=by simpa[toL]using l
   rw[List.getElem_set];simp only[toL,List.getElem_map,List.getElem_range];rw[c6p (by omega) (by omega)];by_cases e:i=j
   · rw[if_pos e,if_pos e.symm]
   · rw[if_neg e,if_neg (fun q=>e q.symm)]
theorem a6A {i nv:Nat} (h:¬ i < nv) (x:AV) (fr:Fr):(toL nv fr).set i x=toL nv fr:=List.set_eq_of_length_le (by rw[c6G]; omega)
noncomputable def b12 {α β:Type} (i:Nat) (e:β) (Q:α→β) (l t u v x y z C:α):β :=
 Nat.rec (motive:=fun _=>β) (Q l) (fun i _=>Nat.rec (motive:=fun _=>β) (Q t) (fun i _=>Nat.rec (motive:=fun _=>β) (Q u) (fun i _=>Nat.rec (motive:=fun _=>β) (Q v) (fun i _=>Nat.rec (motive:=fun _=>β) (Q x) (fun i _=>Nat.rec (motive:=fun _=>β) (Q y) (fun i _=>Nat.rec (motive:=fun _=>β) (Q z) (fun i _=>Nat.rec (motive:=fun _=>β) (Q C) (fun i _=>e) i) i) i) i) i) i) i) i
theorem a27 {α β:Type} {G:β→Prop} {i:Nat} {e:β} {Q:α→β} {l t u v x y z C:α} (W:G e) (I:i=0→G (Q l)) (J:i=1→G (Q t)) (L:i=2→G (Q u)) (M:i=3→G (Q v)) (N:i=4→G (Q x)) (O:i=5→G (Q y)) (T:i=6→G (Q z)) (U:i=7→G (Q C)):G (b12 i e Q l t u v x y z C):=by
 match i,I,J,L,M,N,O,T,U with
 | 0,h,_,_,_,_,_,_,_=>exact h rfl
 | 1,_,h,_,_,_,_,_,_=>exact h rfl
 | 2,_,_,h,_,_,_,_,_=>exact h rfl
 | 3,_,_,_,h,_,_,_,_=>exact h rfl
 | 4,_,_,_,_,h,_,_,_=>exact h rfl
 | 5,_,_,_,_,_,h,_,_=>exact h rfl
 | 6,_,_,_,_,_,_,h,_=>exact h rfl
 | 7,_,_,_,_,_,_,_,h=>exact h rfl
 | _+8,_,_,_,_,_,_,_,_=>exact W
abbrev Gt (ρ:Type):=Fr→(AV→Option ρ)→Option ρ
abbrev Wr (ρ:Type):=AV→Fr→(Fr→Option ρ)→Option ρ
section
variable {ρ β:Type}
noncomputable def a4x (i:Nat) (e:β) (Q:Gt ρ→β):β:=b12 (i / 8) e (fun o:Fr→(W8 AV→Option ρ)→Option ρ=>b12 (i % 8) e (fun n:W8 AV→(AV→Option ρ)→Option ρ=>Q fun fr k=>o fr fun w=>n w k)
 (fun w k=>W8.rec (motive:=fun _=>Option ρ) (fun l t u v x y z C=>k l) w)
 (fun w k=>W8.rec (motive:=fun _=>Option ρ) (fun l t u v x y z C=>k t) w)
 (fun w k=>W8.rec (motive:=fun _=>Option ρ) (fun l t u v x y z C=>k u) w)
 (fun w k=>W8.rec (motive:=fun _=>Option ρ) (fun l t u v x y z C=>k v) w)
 (fun w k=>W8.rec (motive:=fun _=>Option ρ) (fun l t u v x y z C=>k x) w)
 (fun w k=>W8.rec (motive:=fun _=>Option ρ) (fun l t u v x y z C=>k y) w)
 (fun w k=>W8.rec (motive:=fun _=>Option ρ) (fun l t u v x y z C=>k z) w)
 (fun w k=>W8.rec (motive:=fun _=>Option ρ) (fun l t u v x y z C=>k C) w))
 (fun w k=>W8.rec (motive:=fun _=>Option ρ) (fun l t u v x y z C=>k l) w)
 (fun w k=>W8.rec (motive:=fun _=>Option ρ) (fun l t u v x y z C=>k t) w)
 (fun w k=>W8.rec (motive:=fun _=>Option ρ) (fun l t u v x y z C=>k u) w)
 (fun w k=>W8.rec (motive:=fun _=>Option ρ) (fun l t u v x y z C=>k v) w)
 (fun w k=>W8.rec (motive:=fun _=>Option ρ) (fun l t u v x y z C=>k x) w)
 (fun w k=>W8.rec (motive:=fun _=>Option ρ) (fun l t u v x y z C=>k y) w)
 (fun w k=>W8.rec (motive:=fun _=>Option ρ) (fun l t u v x y z C=>k z) w)
 (fun w k=>W8.rec (motive:=fun _=>Option ρ) (fun l t u v x y z C=>k C) w)
theorem Q5 {G:β→Prop} {i:Nat} {e:β} {Q:Gt ρ→β} (hi:i < 64) (l:G e) (h:∀ g:Gt ρ,(∀ fr k,g fr k=k (a0V i fr))→G (Q g)):G (a4x i e Q):=by
 refine a27 l ?_ ?_ ?_ ?_ ?_ ?_ ?_ ?_<;>intro t<;>refine a27 l ?_ ?_ ?_ ?_ ?_ ?_ ?_ ?_<;>intro u<;>refine h _ (fun fr k=>?_)<;>unfold a0V<;>rw[t,u]<;>cases fr with
  | mk w0 w1 v x y z C I=>first|(cases w0; rfl)|(cases w1; rfl)|(cases v; rfl)|(cases x; rfl)|(cases y; rfl)|(cases z; rfl)|(cases C; rfl)|(cases I; rfl)
noncomputable def a9A (i:Nat) (e:β) (Q:Wr ρ→β):β:=b12 (i / 8) e (fun o:Fr→(W8 AV→(W8 AV→Option ρ)→Option ρ)→(Fr→Option ρ)→Option ρ=>b12 (i % 8) e (fun n:AV→W8 AV→(W8 AV→Option ρ)→Option ρ=>Q fun x fr k=>o fr (n x) k)
 (fun y w k=>W8.rec (motive:=fun _=>Option ρ) (fun l t v z C I J L=>k (.mk y t v z C I J L)) w)
 (fun y w k=>W8.rec (motive:=fun _=>Option ρ) (fun l t v z C I J L=>k (.mk l y v z C I J L)) w)
 (fun y w k=>W8.rec (motive:=fun _=>Option ρ) (fun l t v z C I J L=>k (.mk l t y z C I J L)) w)
 (fun y w k=>W8.rec (motive:=fun _=>Option ρ) (fun l t v z C I J L=>k (.mk l t v y C I J L)) w)
 (fun y w k=>W8.rec (motive:=fun _=>Option ρ) (fun l t v z C I J L=>k (.mk l t v z y I J L)) w)
 (fun y w k=>W8.rec (motive:=fun _=>Option ρ) (fun l t v z C I J L=>k (.mk l t v z C y J L)) w)
 (fun y w k=>W8.rec (motive:=fun _=>Option ρ) (fun l t v z C I J L=>k (.mk l t v z C I y L)) w)
 (fun y w k=>W8.rec (motive:=fun _=>Option ρ) (fun l t v z C I J L=>k (.mk l t v z C I J y)) w))
 (fun w u k=>W8.rec (motive:=fun _=>Option ρ) (fun l t v z C I J L=>u l fun y=>k (.mk y t v z C I J L)) w)
 (fun w u k=>W8.rec (motive:=fun _=>Option ρ) (fun l t v z C I J L=>u t fun y=>k (.mk l y v z C I J L)) w)
 (fun w u k=>W8.rec (motive:=fun _=>Option ρ) (fun l t v z C I J L=>u v fun y=>k (.mk l t y z C I J L)) w)
 (fun w u k=>W8.rec (motive:=fun _=>Option ρ) (fun l t v z C I J L=>u z fun y=>k (.mk l t v y C I J L)) w)
 (fun w u k=>W8.rec (motive:=fun _=>Option ρ) (fun l t v z C I J L=>u C fun y=>k (.mk l t v z y I J L)) w)
 (fun w u k=>W8.rec (motive:=fun _=>Option ρ) (fun l t v z C I J L=>u I fun y=>k (.mk l t v z C y J L)) w)
 (fun w u k=>W8.rec (motive:=fun _=>Option ρ) (fun l t v z C I J L=>u J fun y=>k (.mk l t v z C I y L)) w)
 (fun w u k=>W8.rec (motive:=fun _=>Option ρ) (fun l t v z C I J L=>u L fun y=>k (.mk l t v z C I J y)) w)
theorem a2X {G:β→Prop} {i:Nat} {e:β} {Q:Wr ρ→β} (hi:i < 64) (l:G e) (h:∀ g:Wr ρ,(∀ x fr k,g x fr k=k (a2R i x fr))→G (Q g)):G (a9A i e Q):=by
 refine a27 l ?_ ?_ ?_ ?_ ?_ ?_ ?_ ?_<;>intro t<;>refine a27 l ?_ ?_ ?_ ?_ ?_ ?_ ?_ ?_<;>intro u<;>refine h _ (fun x fr k=>?_)<;>unfold a2R<;>rw[t,u]<;>cases fr with
  | mk w0 w1 v y z C I J=>first|(cases w0; rfl)|(cases w1; rfl)|(cases v; rfl)|(cases y; rfl)|(cases z; rfl)|(cases C; rfl)|(cases I; rfl)|(cases J; rfl)
noncomputable def b5c (i:Nat) (Q:(List AV→(AV→Option ρ)→Option ρ)→β):β:=Nat.rec (motive:=fun _=>((List AV→(AV→Option ρ)→Option ρ)→β)→β)
 (fun Q=>Q fun l k=>List.rec (motive:=fun _=>Option ρ) none (fun a _ _=>k a) l)
 (fun _ e Q=>e fun r=>Q fun l k=>List.rec (motive:=fun _=>Option ρ) none (fun _ t _=>r t k) l) i Q
theorem a1m {G:β→Prop}:∀ (i:Nat) {Q:(List AV→(AV→Option ρ)→Option ρ)→β},(∀ r:List AV→(AV→Option ρ)→Option ρ,(∀ l k,r l k=match l[i]? with|some a=>k a|none=>none)→G (Q r))→G (b5c i Q)
 | 0,Q,h=>h _ fun l k=>by cases l<;>rfl
 | i+1,Q,h=>a1m i fun r e=>h _ fun l k=>by
  cases l with
  | nil=>rfl
  | cons a t=>show r t k=_; rw[e]; simp
end
abbrev U:AV:=.undef
def u8:W8 AV:=.mk U U U U U U U U
noncomputable def c0v {ρ:Type} (l:List AV) (k:W8 AV→Option ρ):Option ρ:=List.rec (motive:=fun _=>Option ρ) (k (.mk U U U U U U U U)) (fun e l _=>List.rec (motive:=fun _=>Option ρ) (k (.mk e U U U U U U U)) (fun t l _=>List.rec (motive:=fun _=>Option ρ) (k (.mk e t U U U U U U)) (fun u l _=>List.rec (motive:=fun _=>Option ρ) (k (.mk e t u U U U U U)) (fun v l _=>List.rec (motive:=fun _=>Option ρ) (k (.mk e t u v U U U U)) (fun x l _=>List.rec (motive:=fun _=>Option ρ) (k (.mk e t u v x U U U)) (fun y l _=>List.rec (motive:=fun _=>Option ρ) (k (.mk e t u v x y U U)) (fun z l _=>List.rec (motive:=fun _=>Option ρ) (k (.mk e t u v x y z U)) (fun C l _=>List.rec (motive:=fun _=>Option ρ) (k (.mk e t u v x y z C)) (fun _ _ _=>none) l) l) l) l) l) l) l) l) l
theorem d22 (i:Nat):pk8 i u8=U:=by show(match i with|0=>U|1=>U|2=>U|3=>U|4=>U|5=>U|6=>U|_=>U)=U;split<;>rfl
theorem c4o {ρ:Type} {l:List AV} {k:W8 AV→Option ρ} {r:ρ} (h:c0v l k=some r):∃ w:W8 AV,k w=some r∧l.length≤8∧∀ i,i < 8→pk8 i w=l.getD i .undef:=by
 match l,h with
 | [],h=>exact⟨_,h,by simp,fun i hi=>by rcases lt8 hi with rfl|rfl|rfl|rfl|rfl|rfl|rfl|rfl<;>rfl⟩
 | [y0],h=>exact⟨_,h,by simp,fun i hi=>by rcases lt8 hi with rfl|rfl|rfl|rfl|rfl|rfl|rfl|rfl<;>rfl⟩
 | [y0,y1],h=>exact⟨_,h,by simp,fun i hi=>by rcases lt8 hi with rfl|rfl|rfl|rfl|rfl|rfl|rfl|rfl<;>rfl⟩
 | [y0,y1,y2],h=>exact⟨_,h,by simp,fun i hi=>by rcases lt8 hi with rfl|rfl|rfl|rfl|rfl|rfl|rfl|rfl<;>rfl⟩
 | [y0,y1,y2,y3],h=>exact⟨_,h,by simp,fun i hi=>by rcases lt8 hi with rfl|rfl|rfl|rfl|rfl|rfl|rfl|rfl<;>rfl⟩
 | [y0,y1,y2,y3,y4],h=>exact⟨_,h,by simp,fun i hi=>by rcases lt8 hi with rfl|rfl|rfl|rfl|rfl|rfl|rfl|rfl<;>rfl⟩
 | [y0,y1,y2,y3,y4,y5],h=>exact⟨_,h,by simp,fun i hi=>by rcases lt8 hi with rfl|rfl|rfl|rfl|rfl|rfl|rfl|rfl<;>rfl⟩
 | [y0,y1,y2,y3,y4,y5,y6],h=>exact⟨_,h,by simp,fun i hi=>by rcases lt8 hi with rfl|rfl|rfl|rfl|rfl|rfl|rfl|rfl<;>rfl⟩
 | [y0,y1,y2,y3,y4,y5,y6,y7],h=>exact⟨_,h,by simp,fun i hi=>by rcases lt8 hi with rfl|rfl|rfl|rfl|rfl|rfl|rfl|rfl<;>rfl⟩
 | _::_::_::_::_::_::_::_::_::_,h=>cases h
def fr0 (w:W8 AV):Fr:=.mk w u8 u8 u8 u8 u8 u8 u8
theorem c9A {w:W8 AV} {l:List AV} {np nv:Nat} (y:∀ i,i < 8→pk8 i w=l.getD i .undef) (v:l.length=np) (C:l.length≤8) (x:np≤nv) (J:nv≤64):toL nv (fr0 w)=l++List.replicate (nv - np) .undef:=by
 apply List.ext_getElem
 · simp[toL,v]; omega
 · intro j t z;have I:j < nv:=by simpa[toL]using t
   have u:a0V j (fr0 w)=l.getD j .undef:=by
    unfold a0V;rcases Nat.lt_or_ge j 8 with h|h
    · rw[show j / 8=0 by omega,show j % 8=j by omega];exact y j h
    · have:pk8 (j / 8) (fr0 w)=u8:=by rcases lt8 (show j / 8 < 8 by omega)with e|e|e|e|e|e|e|e<;>rw[e]<;>first|(exfalso; omega)|rfl
      rw[this,d22,List.getD_eq_getElem?_getD,List.getElem?_eq_none (by omega)];rfl
   simp only[toL,List.getElem_map,List.getElem_range,u];rw[List.getElem_append];split
   · rename_i h; simp[List.getD,h]
   · rename_i h; rw[List.getD_eq_getElem?_getD,List.getElem?_eq_none (by omega)]; simp
end Go.Cb.G
