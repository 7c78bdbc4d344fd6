import Derived.Test.YtbibkdncfclnbaaGreatDoorXAms2
import Derived.Laws.CopyRow
import Derived.Laws.Externs
import Derived.Test.YtbibkdncfclnbaaGreatDoorXAms1
set_option maxRecDepth 4000
set_option linter.all false
namespace Go.Cb
open Classical
def a7w:List Nat→Bool
 | []=>true
 | x::xs=>!xs.any (Nat.beq x) && a7w xs
def a1J (c:Cx):List ResultVar→List ResK→Bool
 | [],[]=>true
 | .tmp t::rs,.v i::ks=>c.slots[i]? == some t && !c.bxs.contains i && a1J c rs ks
 | .tmp t::rs,.vs i::ks=>c.slots[i]? == some t && !c.bxs.contains i && a1J c rs ks
 | .cell a t::rs,.bx i agg n::ks=>c.slots[i]? == some a && B1 c t == some agg && A9 c t == some n && a1J c rs ks
 | _,_=>false
def b6c (P:Program) (gt:List (Nat×List AV)) (slots bxs:List Nat) (fn:Func) (f:AFn) (A:Nat→Prop):Bool :=
 f.ext.isNone && a7w slots && slots.all (fun s=>Nat.blt s fn.ntmps) && slots.take f.np == List.range f.np && Nat.ble f.np slots.length && Nat.beq f.nv slots.length &&
  (match fn.body with|some x=>E0 ⟨P,slots,bxs,fn.ntmps,gt,A⟩ x f.code|none=>false) && a1J ⟨P,slots,bxs,fn.ntmps,gt,A⟩ fn.results.toList f.results
def Y9 (P:Program) (gt:List (Nat×List AV)) (f:Nat) (e:List AV→St→Option (AV×St)):Prop :=
 ∀ (args:List AV) (st:St) (res:AV) (st':St),e args st=some (res,st')→(∀ x∈args,x.weak=x) →
  ∀ (g:Gh) (w:World) (vs:List Value),SRel g w st→Globs gt g w→RelL g w args vs→Calls P f vs.toArray w (CallPost g w st' res)
structure ProgOK (P:Program) (gt:List (Nat×List AV)) (tbl:Nat→Option AFn):Prop where
 mixed:P.follows .mixedOrders=true
 fn:∀ f af,tbl f=some af→a3o P f=true∧((∃ slots bxs fn,P.funcs[f]?=some fn∧∀ A,b6c P gt slots bxs fn af A=true)∨(∃ e,af.ext=some e∧Y9 P gt f e))
theorem a6c:∀ {xs:List Nat},a7w xs=true→xs.Nodup
 | [],_=>List.nodup_nil
 | x::xs,h=>by simp only[a7w,AA,Bool.not_eq_true',List.any_eq_false,Nat.beq_eq]at h;exact List.nodup_cons.2 ⟨fun e=>h.1 x e rfl,a6c h.2⟩
section
variable {c:Cx} {g:Gh} {w:World} {pr:Nat→Option Pl} {bx:Nat→Nat} {σ:Sig} {a:Act}
theorem c1V {t:TypeId} {n bb f:Nat} {L:Bool} {cs:List AV} {us:List Value} {r:AV} (J:B1 c t=some L) (T:A9 c t=some n) (I:RelL g w cs us) (O:w.rangeAt bb f us) (N:∀ u∈us,u.oneCell'=true) (z:l8 L n cs=some r) :
 ∃ v,(loadVar t (ad bb f)).run c.P w=.ok v w∧ValOK g w No r v:=by
 obtain⟨v,l,U⟩:=a0k (c:=c) (g:=g) (bx:=fun _=>0) (fr:=[]) (a:={ tmps:=#[.pointer (some (ad bb f))],defers:=[] }) (o:={ (default:Oper)with op:=.load t (.tmp 0) }) (x:=.tmp 0) rfl J T (by simp[Act.eval]) I O N z;refine⟨v,?_,?_⟩
 · simp only[execOp,Instr.loadAt,Instr.sureAddr,Act.eval,Sem.run_bind,Sem.run_pure]at l;have e:(Array.getD #[Value.pointer (some (ad bb f))] 0 undef)=.pointer (some (ad bb f)):=rfl;rw[e]at l;simp only[Sem.run_pure,Result.andThen_ok]at l;cases M:(loadVar t (ad bb f)).run c.P w with
   | ok u w' =>rw[M]at l;simp only[Result.andThen_ok,Result.ok.injEq,Next.value.injEq]at l;obtain⟨rfl,rfl⟩:=l;rfl
   | halt x w'=>rw[M]at l; cases l
 · cases r<;>first|exact U|skip
   · exfalso;unfold l8 at z;split at z
     · split at z<;>simp at z
     · split at z
       · rename_i y ys;simp only[AD]at z;simp only[RelL]at I;obtain⟨Y,W,_,C,_⟩:=I;cases y<;>simp only[AV.weak1,reduceCtorEq]at z;simp[Rel]at C
       · cases z
   · exfalso;unfold l8 at z;split at z
     · split at z<;>simp at z
     · split at z
       · rename_i y ys;simp only[AD]at z;simp only[RelL]at I;obtain⟨Y,W,_,C,_⟩:=I;cases y<;>simp only[AV.weak1,reduceCtorEq]at z;simp[Rel]at C
       · cases z
theorem VarOK.val {i:Nat} {x:AV} {v:Value} (h:VarOK g w pr bx i x v) (e:∀ cs,x≠.box cs):ValOK g w (fun b=>pr b=some (.var i)) x v:=by cases x<;>first|exact h|exact absurd rfl (e _)|exact h.elim
theorem b1H (h:S c g w pr bx σ a):∀ {rs:List ResultVar} {ks:List ResK} {vs:List AV},a1J c rs ks=true→U4 ks σ.fr=some vs →
 ∃ us:List Value,(rs.mapM fun(r:ResultVar)=>(match r with|.tmp t=>pure (a.tmps.getD t undef)|.cell x t=>do loadVar t (← asAddr (a.tmps.getD x undef)):Sem Value)).run c.P w=.ok us w ∧
  us.length=vs.length∧∀ (k:Nat) (x:AV) (u:Value),vs[k]?=some x→us[k]?=some u→ValOK g w (fun b=>∃ p,pr b=some p) x u
 | [],[],vs,_,hg=>by simp only[U4,AD]at hg;subst hg;exact⟨[],rfl,rfl,fun k x u z=>by simp at z⟩
 | r::rs,k::ks,vs,hok,hg=>by
  simp only[U4]at hg;split at hg
  case h_2=>cases hg
  rename_i x xs z a2;simp only[AD]at hg;subst hg;have one:∃ u,((match r with|.tmp t=>pure (a.tmps.getD t undef)|.cell x t=>do loadVar t (← asAddr (a.tmps.getD x undef)):Sem Value)).run c.P w=.ok u w∧ValOK g w (fun b=>∃ p,pr b=some p) x u∧a1J c rs ks=true:=by
   have l:∀ i,i ∉ c.bxs→∀ cs,σ.fr.getD i .undef≠.box cs:=fun i hi cs hc=>hi (h.fr.bxs i cs hc)
   unfold a1J at hok;split at hok<;>first|(rename_i C e2; cases C; cases e2; done)|skip
   · rename_i C e2; cases C
   · rename_i t Y i W C e2;cases C; cases e2;simp only[AA,beq_iff_eq]at hok;simp only[ResK.get,AD]at z;subst z;have I:=h.fr.var i t hok.1.1;have O:=l i (by simpa using hok.1.2);refine⟨_,rfl,?_,hok.2⟩;cases hq:σ.fr.getD i .undef<;>rw[hq]at I<;>first
      | exact ValOK.of_weak (ValOK.rel I)
      | exact I.elim
      | exact absurd hq (O _)
   · rename_i t Y i W C e2;cases C; cases e2;simp only[AA,beq_iff_eq]at hok;simp only[ResK.get,AD]at z;subst z;have I:=(h.fr.var i t hok.1.1).val (l i (by simpa using hok.1.2));exact⟨_,rfl,I.mono (Ext.refl _ _) fun b hb=>⟨⟨_,hb⟩,rfl,fun _ x=>x⟩,hok.2⟩
   · rename_i y t Y i ag n W C e2;cases C; cases e2;simp only[AA,beq_iff_eq]at hok;obtain⟨⟨⟨h1,h2⟩,h3⟩,h4⟩:=hok;simp only[ResK.get]at z;split at z
     · rename_i cs a0;have J:=h.fr.var i y h1;rw[a0]at J;obtain⟨U,_,_,arr,T,hh,hl,Z,_⟩:=J;obtain⟨u,hu,e⟩:=c1V (c:=c) h2 h3 hl (by simpa using a6h hh 0) Z z;refine⟨u,?_,e.mono (Ext.refl _ _) fun b hb=>hb.elim,h4⟩;simp only[U,asAddr,Sem.run_bind,Sem.run_pure,Result.andThen_ok];exact hu
     · cases z
   · cases hok
  obtain⟨u,hu,e,L⟩:=one;obtain⟨us,a1,N,M⟩:=b1H h L a2;refine⟨u::us,?_,by simp[N],fun j y v hy I=>?_⟩
  · rw[List.mapM_cons];simp only[Sem.run_bind,hu,a1,Result.andThen_ok,Sem.run_pure]
  · cases j with
    | zero=>simp at hy I; subst hy; subst I; exact e
    | succ j=>exact M j y v (by simpa using hy) (by simpa using I)
 | [],_::_,_,hok,_=>by simp[a1J]at hok
 | r::_,[],_,hok,_=>by cases r<;>simp[a1J]at hok
def c8f:List Value→Value
 | [v]=>v
 | us=>.tuple us.toArray
theorem a6e {P:Program} {fn:Func} {tmps:Array Value} {us:List Value} {w:World}
 (h:(fn.results.toList.mapM fun(r:ResultVar)=>(match r with|.tmp t=>pure (tmps.getD t undef)|.cell x t=>do loadVar t (← asAddr (tmps.getD x undef)):Sem Value)).run P w=.ok us w) :
 (results fn tmps).run P w=.ok (c8f us) w:=by
 unfold results;rw[Array.mapM_eq_mapM_toList];simp only[map_eq_pure_bind,bind_assoc,pure_bind,Sem.run_bind]
 erw [h]
 simp only[Result.andThen_ok,Sem.run_pure];match us with
 | []=>rfl
 | [v]=>rfl
 | u::v::us=>simp[c8f]
theorem c1L {P:Program} {gt:List (Nat×List AV)} {tbl:Nat→Option AFn} (hP:ProgOK P gt tbl):∀ n,Y0 P gt (k7 tbl n):=by
 intro n;induction n with
 | zero=>intro f args st res st' h; simp[k7]at h
 | succ n ih =>
  intro f args st res st' h J;simp only[k7]at h;cases I:tbl f with
  | none=>simp[I]at h
  | some l =>
   simp only[I]at h;obtain⟨b4,b5⟩:=hP.fn f l I;refine⟨b4,fun g w vs b1 a5 C=>?_⟩;rcases b5 with⟨slots,bxs,fn,hf,M⟩|⟨e,he,a4⟩
   case inr =>simp only[he]at h;exact a4 args st res st' h J g w vs b1 a5 C
   let A:Nat→Prop:=fun b=>w.heap.size≤b∨g.sr b≠none
   have M:=M A;simp only[b6c,AA,Option.isNone_iff_eq_none,beq_iff_eq,Nat.beq_eq]at M;obtain⟨⟨⟨⟨⟨⟨⟨o1,o2⟩,o3⟩,o4⟩,o5⟩,o6⟩,o7⟩,o8⟩:=M;have o5:=Nat.le_of_ble_eq_true o5;rw[o1]at h;simp only at h;split at o7
   case h_2=>cases o7
   rename_i body Y;unfold AFn.run at h;split at h
   case isFalse=>cases h
   rename_i O;split at h
   · cases h
   · rename_i ex b3 st1 b0 Z;let c:Cx:=⟨P,slots,bxs,fn.ntmps,gt,A⟩
     have a7:∀ s∈slots,s < fn.ntmps:=fun s U=>by have:=List.all_eq_true.1 o3 s U;simpa using this
     have fx:Fx c:=⟨a6c o2,a7⟩;have c1:vs.length=l.np:=by rw[← C.length]; exact O
     have c0:l.np≤fn.ntmps:=by
      rcases Nat.eq_zero_or_pos l.np with h0|h0
      · omega
      · have hm:l.np - 1∈slots:=by
         have:l.np - 1∈slots.take l.np:=by rw[o4]; simp; omega
         exact List.mem_of_mem_take this
        have:=a7 _ hm;omega
     have a1:∀ i s,slots[i]?=some s→i < l.np→s=i:=fun i s U hi=>by
      have h1:(slots.take l.np)[i]?=some s:=by rw[List.getElem?_take,if_pos hi]; exact U
      rw[o4]at h1;simp[hi]at h1;exact h1.symm
     let tm:Array Value:=vs.toArray++Array.replicate (fn.ntmps - vs.toArray.size) undef
     have hS:S c g w (fun _=>none) (fun _=>0) ⟨args++List.replicate (l.nv - l.np) .undef,fun _=>.undef,st⟩ { tmps:=tm,defers:=[] }:=by
      refine⟨⟨by simp[tm,c]; omega,by simp[c,O,o6]; omega,fun i s U=>?_,fun s _=>ValOK.undef,fun b p L=>(by cases L),fun i cs hi=>?_⟩,b1,a5,fun b L=>.inl L,fun b p L=>.inr (by rw[L]; simp)⟩
      · rcases Nat.lt_or_ge i l.np with hi|hi
        · have b6:=a1 i s U hi;subst b6;have ha:s < args.length:=by omega
          have hv:s < vs.length:=by omega
          obtain⟨v,b2,N⟩:=C.get (AE ha);have e1:(args++List.replicate (l.nv - l.np) AV.undef).getD s .undef=args[s]:=by rw[List.getD_eq_getElem?_getD,List.getElem?_append_left ha,AE ha]; rfl
          have e2:tm.getD s undef=v:=by simp only[tm,Array.getD_eq_getD_getElem?];rw[Array.getElem?_append_left (by simpa using hv)];simp[b2]
          rw[e1,e2];have hw:=J args[s] (List.getElem_mem ha);have z:ValOK g w (fun b=>(fun _=>none:Nat→Option Pl) b=some (.var s)) args[s].weak v:=ValOK.of_weak N;rw[hw]at z;revert z;cases args[s]<;>intro z<;>first|exact z|exact z.rel.elim
        · have e1:(args++List.replicate (l.nv - l.np) AV.undef).getD i .undef=.undef:=by
           rw[List.getD_eq_getElem?_getD,List.getElem?_append_right (by omega)];cases hq:(List.replicate (l.nv - l.np) AV.undef)[i - args.length]? with
           | none=>rfl
           | some x=>rw[List.eq_of_mem_replicate (List.mem_of_getElem? hq)]; rfl
          rw[e1];exact VarOK.undef
      · exfalso;rcases Nat.lt_or_ge i args.length with hi'|hi'
        · obtain⟨v,b2,N⟩:=C.get (AE hi');rw[List.getD_eq_getElem?_getD,List.getElem?_append_left hi',AE hi']at hi;simp only[Option.getD_some]at hi;rw[hi]at N;exact N
        · rw[List.getD_eq_getElem?_getD,List.getElem?_append_right hi']at hi;cases hq:(List.replicate (l.nv - l.np) AV.undef)[i - args.length]? with
          | none=>rw[hq]at hi; cases hi
          | some x=>rw[hq,List.eq_of_mem_replicate (List.mem_of_getElem? hq)]at hi; cases hi
     refine calls_of_wp hf Y ?_;refine t7 (c:=c) _ _ o7 fx hP.mixed ih hS Z fun a' w' g' c2 b8 c3 hd W ht=>?_
     have a3:bodyPost P fn (CallPost g w st' res) .ret a' w':=by
      refine⟨hd,?_⟩;have a6:∀ vs',U4 l.results b3=some vs'→some ((match vs' with|[v]=>v|vs'=>AV.tuple vs'),st1)=some (res,st')→∃ v,(results fn a'.tmps).run P w'=.ok v w'∧CallPost g w st' res (.returned v) w':=by
       intro vs' hg T;simp only[AD,AJ]at T;obtain⟨rfl,rfl⟩:=T;obtain⟨us,b7,a2,t⟩:=b1H (c:=c) W o8 hg;refine⟨_,a6e b7,_,g',rfl,W.st,⟨ht.ext,ht.size,ht.env,fun b L U _=>ht.keep b L U fun hA=>?_⟩,?_⟩
       · rcases hA with hA|hA
         · omega
         · exact hA U
       · match vs',us,a2,t with
         | [],[],_,_=>exact ValOK.mk' (by simp only[Rel]; exact⟨#[],rfl,by simp[RelL]⟩) (by simp) (by simp)
         | [x],[u],_,t =>
          refine(t 0 x u rfl rfl).mono (Ext.refl _ _) fun b L=>⟨?_,rfl,fun _ x=>x⟩
          obtain⟨p,hp⟩:=L;obtain⟨q1,q2,q3⟩:=W.fr.prv b p hp;exact⟨q1,q2,q3⟩
         | x::y::xs,u::v::us,a2,t =>refine ValOK.mk' ?_ (by simp) (by simp);simp only[Rel];exact⟨_,rfl,RelL.of_get (by simpa using a2.symm) fun i x u hx hu=>(t i x u hx hu).rel⟩
      split at h
      · rename_i v hg;exact a6 [v] hg h
      · rename_i vs' a0 hg;refine a6 vs' hg ?_;rw[← h];match vs',a0 with
        | [],_=>rfl
        | [v],a0=>exact absurd rfl (a0 v)
        | _::_::_,_=>rfl
      · cases h
     cases ex with
     | normal=>exact a3
     | ret=>exact a3
     | exit id=>exact(b0 id rfl).elim
   · cases h
end
end Go.Cb
namespace Go.Cb
open Classical
section
variable {c:Cx} {g:Gh} {w:World} {pr:Nat→Option Pl} {bx:Nat→Nat} {σ:Sig} {a:Act} {o:Oper}
theorem c7l (y:Fx c) (h:S c g w pr bx σ a) {t e:TypeId} {i:TypeInfo} {d:Dst} (C:o.op=.buildSlice t 0 #[]) (hu:c.P.underlying t=some (.slice e)) (hi:c.P.info? e=some i) (z:s7 c o.dst d=true)
 {next:Act→World→Prop} {Q:Exit→Act→World→Prop} (l:Post c g w a (d.put (.list true []) σ) next):o.wp c.P a w next Q:=by
 have u:(execOp a.eval o).run c.P w=.ok (.value (.slice (some (ad w.heap.size 0)) 0 0)) (w.alloc (.cells #[] e)):=by
  have v:(Array.map (fun _:Nat=>(default:Value)) (Array.range 0))=#[]:=by apply Array.ext'; simp
  simp[execOp,C,Instr.buildSlice,run_underlying hu,sizeOf,typeInfo,hi,Instr.fill,newRow,v]
 unfold Oper.wp;rw[u];refine l _ _ g pr bx (B9 _ _ _) (a0u y (h.alloc _ _) z (mine:=No) (r:=.list true []) ?_ fun _ x=>x.elim) (Tr.alloc _ h.st.cli _);refine(show ValOK g _ No (.list true []) _ from⟨?_,fun _ _=>.inl ⟨_,_,rfl⟩,fun _ e=>(by cases e)⟩);simp only[Rel];exact⟨_,0,0,rfl,rfl,AK _,fun _=>rfl,fun h=>absurd rfl h⟩
theorem c8N (C:Fx c) (h:S c g w pr bx σ a) {t O e:TypeId} {x:Operand} {d:Dst} {l:Option Addr} {n cap:Nat} (L:o.op=.binOp .eql t x (.const (.slice none 0 0)) O) (hu:c.P.underlying t=some (.slice e))
 (M:a.eval x=.slice l n cap) (I:s7 c o.dst d=true) {next:Act→World→Prop} {Q:Exit→Act→World→Prop} (u:Post c g w a (d.put (.bool l.isNone) σ) next):o.wp c.P a w next Q:=by
 have y:(execOp a.eval o).run c.P w=.ok (.value (.bool l.isNone)) w:=by
  have J:∀ v:Value,(eqGuard .eql t x (.const (.slice none 0 0)) (.slice l n cap) (.slice none 0 0)).run c.P w=.ok () w:=fun _=>rfl
  have N:a.eval (.const (.slice none 0 0))=.slice none 0 0:=rfl;have z:(Op.equal t (.slice l n cap) (.slice none 0 0)).run c.P w=.ok l.isNone w:=by rw[a0R,Op.equalIn,Sem.run_bind,run_underlying hu,Result.andThen_ok];cases l<;>rfl
  simp only[execOp,L,M,N,J (.bool true),binOp,Sem.run_bind,z,Result.andThen_ok,Sem.run_pure]
 exact b3E C h I (r:=.bool l.isNone) y (show ValOK g w No (.bool l.isNone) (.bool l.isNone)from ValOK.mk' (by simp[Rel]) (by simp) (by simp)) u
def b1D (P:Program) (t sz bytes:Nat):Bool:=match P.underlying t with
 | some (.slice e)=>match P.info? e with
  | some l=>l.size == sz && l.bytes == bytes && decide (0 < bytes) && (match l.zero with|some z=>z.cells.size == sz|none=>false)
  | none=>false
 | _=>false
structure CloneShape (P:Program) (fn:Func) (t sz bytes:Nat) where
 i0:Nat
 i1:Nat
 i2:Nat
 i3:Nat
 o0:Oper
 o1:Oper
 o2:Oper
 o3:Oper
 o4:Oper
 o5:Oper
 o6:Oper
 o7:Oper
 ty:TypeId
 body:fn.body=some (.seq (.region i0 #[o0] false) (.seq (.seq (.region i1 #[o1,o2] false) (.cond (.tmp 4) (.seq (.region i2 #[o3] false) .ret) .skip)) (.seq (.region i3 #[o4,o5,o6,o7] false) .ret)))
 nt:fn.ntmps=8
 res:fn.results=#[.tmp 2]
 d0:o0.dst=some 2∧o0.op=.assign (.const (.slice none 0 0))∧o0.guard=none
 d1:o1.dst=some 3∧o1.op=.move (.tmp 0)∧o1.guard=none
 d2:o2.dst=some 4∧o2.op=.binOp .eql t (.tmp 3) (.const (.slice none 0 0)) ty∧o2.guard=none
 d3:o3.dst=some 2∧o3.op=.assign (.const (.slice none 0 0))∧o3.guard=none
 d4:o4.dst=some 5∧o4.op=.buildSlice t 0 #[]∧o4.guard=none
 d5:o5.dst=some 6∧o5.op=.move (.tmp 0)∧o5.guard=none
 d6:o6.dst=some 7∧o6.op=.call { callee:=.builtin .append,args:=#[.tmp 5,.tmp 6],argTypes:=#[t,t] }∧o6.guard=none
 d7:o7.dst=some 2∧o7.op=.assign (.tmp 7)∧o7.guard=none
 tb:b1D P t sz bytes=true
theorem b2y {P:Program} {t sz bytes:Nat} (h:b1D P t sz bytes=true):∃ e l z,P.underlying t=some (.slice e)∧P.info? e=some l∧l.zero=some z∧l.size=sz∧l.bytes=bytes∧z.cells.size=sz∧0 < bytes:=by
 unfold b1D at h;split at h
 case h_2=>cases h
 rename_i e hu;split at h
 case h_2=>cases h
 rename_i l hi;simp only[AA,beq_iff_eq,decide_eq_true_eq]at h;obtain⟨⟨⟨v,x⟩,y⟩,u⟩:=h;split at u
 case h_2=>cases u
 rename_i z C;exact⟨e,l,z,hu,hi,C,v,x,by simpa using u,y⟩
theorem b1f {P:Program} {gt:List (Nat×List AV)} {f t sz bytes:Nat} {fn:Func} (hf:P.funcs[f]?=some fn) (C:CloneShape P fn t sz bytes):Y9 P gt f (a1e sz bytes):=by
 intro args st res st' h b5 g w vs f6 _ W;obtain⟨e,ie,z,tu,ti,tz,h8,h7,h9,h6⟩:=b2y C.tb;unfold a1e at h;split at h
 case h_2=>cases h
 rename_i own xs;split at h
 case isFalse=>cases h
 rename_i L;simp only[AA,decide_eq_true_eq]at L;obtain⟨b3,N⟩:=L;simp only[AD,AJ]at h;obtain⟨rfl,rfl⟩:=h;simp only[RelL]at W;obtain⟨v,_,rfl,hv,rfl⟩:=W;have c4:=hv;simp only[Rel]at c4;obtain⟨l,n,cap,rfl,rfl,i1,i3,k1⟩:=c4;let A:Nat→Prop:=fun b=>w.heap.size≤b∨g.sr b≠none
 let c:Cx:=⟨P,[0,2],[],8,[],A⟩
 have O:Fx c:=⟨show([0,2]:List Nat).Nodup by decide,show ∀ s∈([0,2]:List Nat),s < 8 by decide⟩;have c2:own=false:=by have:=b5 (.list own xs) (by simp);simpa[AV.weak]using this.symm
 subst c2;refine calls_of_wp hf C.body ?_;have hS:S c g w (fun _=>none) (fun _=>0) ⟨[.list false xs,.undef],fun _=>.undef,st⟩ { tmps:=#[Value.slice l xs.length cap]++Array.replicate (fn.ntmps - 1) undef,defers:=[] }:=by
  refine⟨⟨by simp[c,C.nt],rfl,fun i s M=>?_,fun s _=>ValOK.undef,fun b p J=>(by cases J),fun i cs hi=>?_⟩,f6,fun e he=>(by cases he),fun b J=>.inl J,fun b p J=>.inr (by rw[J]; simp)⟩
  · match i,M with
    | 0,M =>
     simp only[c,List.getElem?_cons_zero,AD]at M;subst M;have c3:ValOK g w (fun b=>(fun _=>none:Nat→Option Pl) b=some (.var 0)) (AV.list false xs).weak (.slice l xs.length cap):=ValOK.of_weak hv;have e0:(#[Value.slice l xs.length cap]++Array.replicate (fn.ntmps - 1) undef).getD 0 undef=.slice l xs.length cap:=by rw[C.nt]; rfl
     show VarOK g w (fun _=>none) (fun _=>0) 0 (.list false xs) ((#[Value.slice l xs.length cap]++Array.replicate (fn.ntmps - 1) undef).getD 0 undef);rw[e0];exact c3
    | 1,M=>exact VarOK.undef
    | i+2,M=>simp[c]at M
  · match i,hi with
    | 0,hi=>simp at hi
    | 1,hi=>simp at hi
    | i+2,hi=>simp at hi
 -- the end
 have fin:∀ (x:AV) (a':Act) (w':World) (g':Gh) (c6:Nat→Option Pl) (b7:Nat→Nat) (c8:Nat→AV),a'.defers=[]→S c g' w' c6 b7 ⟨[x,.list true xs],c8,st⟩ a'→Tr c.A g w g' w' →
  bodyPost P fn (CallPost g w st (.list true xs)) .ret a' w':=by
  intro x a' w' g' c6 b7 c8 hd Z ht;refine⟨hd,?_⟩;obtain⟨us,h3,h2,I⟩:=b1H (c:=c) Z (rs:=fn.results.toList) (ks:=[.vs 1]) (vs:=[.list true xs]) (by rw[C.res]; rfl) rfl;refine⟨_,a6e h3,_,g',rfl,Z.st,⟨ht.ext,ht.size,ht.env,fun b J M _=>ht.keep b J M fun hA=>?_⟩,?_⟩
  · rcases hA with hA|hA
    · omega
    · exact hA M
  · match us,h2,I with
    | [u],_,I =>
     refine(I 0 (.list true xs) u rfl rfl).mono (Ext.refl _ _) fun b J=>⟨?_,rfl,fun _ x=>x⟩
     obtain⟨p,hp⟩:=J;obtain⟨q1,q2,q3⟩:=Z.fr.prv b p hp;exact⟨q1,q2,q3⟩
 refine wp_seq (wp_region ?_);show wpOps P #[C.o0] _ [0] _ _;rw[wpOps_cons];refine a0l rfl C.d0.2.2 (a5X (c:=c) O hS (.inr C.d0.2.1) (p:=.c (.list true [])) (d:=.v 1) rfl (by rw[C.d0.1]; rfl) fun a1 w1 g1 k2 i5 e9 e3 f7=>?_);show(Code.seq _ _).wp P _ a1 w1;refine wp_seq (wp_seq (wp_region ?_));show wpOps P #[C.o1,C.o2] _ [0,1] _ _;rw[wpOps_cons];refine a0l rfl C.d1.2.2 (a5X (c:=c) O e3 (.inl C.d1.2.1) (p:=.v 0) (d:=.t 3) rfl (by rw[C.d1.1]; rfl) fun a2 w2 g2 pr2 i6 f0 c0 f8=>?_);rw[wpOps_cons];have e2:=O7 c0 (x:=.tmp 3) (p:=.t 3) rfl;have f5:Rel g2 w2 (.list false xs) (a2.eval (.tmp 3)):=ValOK.rel e2;have U:=f5;simp only[Rel]at U;obtain⟨b6,n2,i0,c1,k0,e7,b2,i2⟩:=U;refine a0l rfl C.d2.2.2 (c8N (c:=c) O c0 C.d2.2.1 tu c1 (d:=.t 4) (by rw[C.d2.1]; rfl) fun a3 w3 g3 k3 i7 f1 a0 f9=>?_);show(Code.cond _ _ _).wp P _ a3 w3;have Y:=(f7.trans f8).trans f9;have T:a3.defers=[]:=f1.trans (f0.trans e9);have J:=a3r a0 (x:=.tmp 4) (y:=.t 4) rfl (b:=b6.isNone) rfl;refine wp_cond J ?_;cases b6 with
 | none =>
  have h4:xs=[]:=by have:=b2 rfl;exact List.eq_nil_of_length_eq_zero (by omega)
  refine wp_seq (wp_region ?_);show wpOps P #[C.o3] _ [0] _ _;rw[wpOps_cons];refine a0l rfl C.d3.2.2 (a5X (c:=c) O a0 (.inr C.d3.2.1) (p:=.c (.list true [])) (d:=.v 1) rfl (by rw[C.d3.1]; rfl) fun a4 w4 g4 c7 b8 b1 b0 b4=>?_);show Code.ret.wp P _ a4 w4;refine wp_ret ?_;show bodyPost P fn _ .ret a4 w4;subst h4;exact fin _ a4 w4 g4 c7 b8 _ (b1.trans T) b0 (Y.trans b4)
 | some i4 =>refine wp_skip ?_;show(Code.seq _ _).wp P _ a3 w3;refine wp_seq (wp_region ?_);show wpOps P #[C.o4,C.o5,C.o6,C.o7] _ [0,1,2,3] _ _;rw[wpOps_cons];refine a0l rfl C.d4.2.2 (c7l (c:=c) O a0 C.d4.2.1 tu ti (d:=.t 5) (by rw[C.d4.1]; rfl) fun a4 w4 g4 c7 b8 b1 b0 b4=>?_);rw[wpOps_cons];refine a0l rfl C.d5.2.2 (a5X (c:=c) O b0 (.inl C.d5.2.1) (p:=.v 0) (d:=.t 6) rfl (by rw[C.d5.1]; rfl) fun a5 w5 g5 k4 i9 f2 e4 g0=>?_);rw[wpOps_cons];refine a0l rfl C.d6.2.2 (b75 (c:=c) O e4 C.d6.2.1 rfl tu ti tz h8 h7 h9 h6 (p0:=.ts 5) (p1:=.t 6) (d:=.t 7) rfl rfl (by rw[C.d6.1]; rfl) (by rw[C.d6.1]; rfl) (xs:=[]) (ys:=xs) (own:=false) rfl rfl rfl b3 (by simpa using N) fun a6 w6 g6 k5 j2 f3 e5 h0=>?_);rw[wpOps_cons];refine a0l rfl C.d7.2.2 (a5X (c:=c) O e5 (.inr C.d7.2.1) (p:=.ts 7) (d:=.v 1) rfl (by rw[C.d7.1]; rfl) fun a7 w7 g7 h5 e1 f4 e6 h1=>?_);show Code.ret.wp P _ a7 w7;refine wp_ret ?_;show bodyPost P fn _ .ret a7 w7;exact fin _ a7 w7 g7 h5 e1 _ (f4.trans (f3.trans (f2.trans (b1.trans T)))) e6 ((((Y.trans b4).trans g0).trans h0).trans h1)
end
end Go.Cb
namespace Go.Cb
open Classical
def a1V (sz bytes:Nat):List AV→St→Option (AV×St)
 | [.nils],st=>some (.nils,st)
 | [.sl o f n s],st=>match st[o]? with
  | some (.cells cs)=>if s=sz∧f+n*sz≤cs.length∧n*bytes≤70368744177664 then some (.sl st.length 0 n sz,st++[.cells (((cs.drop f).take (n*sz)).map AV.weak1)])else none
  | _=>none
 | _,_=>none
def O1 (sz i:Nat) (cs row:List AV):List AV:=(cs.take (i*sz)++row++cs.drop (i*sz)).map AV.weak1
def Z7 (sz bytes:Nat):List AV→St→Option (AV×St)
 | [.nils,.int .i64 i,.list _ [row]],st=>if i=0∧row.length=sz then some (.sl st.length 0 1 sz,st++[.cells (O1 sz 0 [] row)])else none
 | [.sl o 0 n s,.int .i64 i,.list _ [row]],st=>match st[o]? with
  | some (.cells cs)=>if s=sz∧0≤i∧i≤n∧cs.length=n*sz∧row.length=sz∧(n+1)*bytes≤70368744177664 then some (.sl st.length 0 (n+1) sz,st.set o .dead++[.cells (O1 sz i.toNat cs row)])else none
  | _=>none
 | _,_=>none
def a3C (sz i:Nat) (cs:List AV):List AV:=(cs.take (i*sz)++cs.drop ((i+1)*sz)).map AV.weak1
def b3S (sz bytes:Nat):List AV→St→Option (AV×St)
 | [.sl o 0 n s,.int .i64 i,.int .i64 j],st=>match st[o]? with
  | some (.cells cs)=>if s=sz∧0≤i∧i < n∧j=i+1∧cs.length=n*sz∧n*bytes≤70368744177664 then some (.sl st.length 0 (n - 1) sz,st.set o .dead++[.cells (a3C sz i.toNat cs)])else none
  | _=>none
 | _,_=>none
theorem Z1 {P:Program} (w:World) (L W ty elem:TypeId) (sz g o l x:Nat) (a:Addr) (u C:Nat) (e:Array Value) (t:TypeId) (cs:List Value)
 (hu:P.underlying L=some (.slice elem)) (M:(P.info? elem).map (·.size)=some sz)
 (O:w.heap[g]?=some (.cells e t (0,0))) (U:cs.length=Nat.min u l*sz)
 (z:∀ j v,cs[j]?=some v→w.cell? (a.add j)=some v) (y:o+cs.length≤e.size) (N:∀ v∈cs,v.oneCell'=true) :
 (Builtin.copy_ #[L,W] ty #[.slice (some ⟨g,o,none⟩) l x,.slice (some a) u C]).run P w =
  .ok (goInt (Nat.min u l)) (w.setRow g (e.toList.take o++cs++e.toList.drop (o+cs.length)).toArray):=by
 have T:=run_loadCells_list (P:=P) w a cs z;have J:=run_storeCells_at P g o t cs 0 e w O (by simpa using y) N;cases I:P.info? elem with
 | none=>simp[I]at M
 | some i =>
  have hi:i.size=sz:=by simpa[I]using M
  simp[Builtin.copy_,run_underlying hu,Builtin.lenOf,Builtin.firstCells,sizeOf,typeInfo,I,hi,← U,T,J]
theorem a4I {P:Program} (w:World) (Z tR e:TypeId) (W:P.underlying Z=some (.slice e)) (size:Nat) (Y:∀ w,(Go.sizeOf e).run P w=.ok size w)
 (a b:Addr) (la ca lb cb:Nat) (M:a.block≠b.block) {t l:Array Value} {TA TB:TypeId} {zA:Nat×Nat}
 (hA:w.heap[a.block]?=some (.cells t TA zA)) (hB:w.heap[b.block]?=some (.cells l TB (0,0))) (T:t.size≠0) (U:l.size≠0) :
 (Extern.SlicesOverlaps.overlaps #[Z,Z] #[tR] #[.slice (some a) la ca,.slice (some b) lb cb]).run P w=.ok (.bool false) w:=by
 have L:(a.block != b.block)=true:=by simpa using M
 have u:(a.block == b.block)=false:=by simpa using M
 have y:w.shape? a.block=some (TA,t.size):=by simp[World.shape?,hA]
 have z:w.shape? b.block=some (TB,l.size):=by simp[World.shape?,hB]
 have J:∀ x:Addr,x.block=b.block→w.frozen? x=false:=fun x hx=>by simp[World.frozen?,hx,hB]
 have C:=J b rfl;have v:=J { block:=b.block,off:=l.size } rfl;delta Extern.SlicesOverlaps.overlaps;dsimp only;delta Extern.SlicesOverlaps.overlaps.match_4;dsimp only[Array.size,List.length];simp only[dif_pos,Nat.reduceAdd,Nat.zero_add];dsimp only[Array.getLit,getElem,Array.getInternal,List.get];by_cases N:la=0∨lb=0∨size=0
 · simp[run_underlying W,Y,N]
 · cases hn:l.size with
   | zero=>exact absurd hn U
   | succ kB =>
    rw[hn]at z v;cases hm:t.size with
    | zero=>exact absurd hm T
    | succ kA =>
    rw[hm]at y;cases I:w.frozen? a with
    | true=>simp[run_underlying W,Y,N,L,u,frozen,noView,viewAt,mayBeOne,stringish,shape,Sem.run,y,z,I,C,v]
    | false =>
     cases O:w.frozen? { block:=a.block,off:=kA+1 } <;>
     simp[run_underlying W,Y,N,L,u,frozen,noView,viewAt,mayBeOne,stringish,shape,Sem.run,y,z,I,C,v,O]
def gh0 (W:World):Gh:={ n:=0,m:=fun _=>0,cl:=fun b _=>b < W.heap.size,sr:=fun _=>none,cp:=fun _=>0 }
theorem d04 (W:World):SRel (gh0 W) W []:=⟨rfl,fun o ob h=>by simp at h,fun b p h=>(by cases h),fun b f h=>h⟩
structure Kept (W W':World):Prop where
 kept:W.keptBut W' (fun _=>False)
 fz:∀ a:Addr,a.block < W.heap.size→W'.frozen? a=W.frozen? a
 size:W.heap.size≤W'.heap.size
 old:∀ b,b < W.heap.size→W'.heap[b]?=W.heap[b]?
theorem c9d {P:Program} {gt:List (Nat×List AV)} {tbl:Nat→Option AFn} (z:ProgOK P gt tbl) {n f:Nat} {args:List AV} {b:Bool} {st':St} (h:k7 tbl n f args []=some (.bool b,st')) (M:∀ x∈args,x.weak=x)
 {W:World} {vs:List Value} (J:Globs gt (gh0 W) W) (L:RelL (gh0 W) W args vs):Calls P f vs.toArray W (fun e y=>e=.returned (.bool b)∧Kept W y):=by
 refine((c1L z n f args [] _ _ h M).2 (gh0 W) W vs (d04 W) J L).mono fun e y I=>?_
 obtain⟨v,g',rfl,_,t,u⟩:=I;have u:=u.rel;simp only[Rel]at u;subst u;have l:∀ b,b < W.heap.size→y.heap[b]?=W.heap[b]?:=fun b C=>(t.keep b C rfl fun x=>x).1.1
 refine⟨rfl,⟨t.env.os,t.env.out,fun i hi=>?_⟩,t.env.fz,t.size,l⟩;rw[l i hi];cases N:W.heap[i]? with
 | none=>simp
 | some o=>cases o<;>simp
theorem a8 {α:Sort _} {a b:α} (h:a=b):a=b:=by cases h;rfl
def obind {α β:Type} (x:Option α) (f:α→Option β):Option β:=match x with
 | some a=>f a
 | none=>none
theorem y9 {α β:Type} (a:α) (f:α→Option β):obind (some a) f=f a:=a8 rfl
theorem g9 {α β:Type} {x e:Option α} {f:α→Option β} (h:x=e):obind x f=obind e f:=by rw[h]
def p1 (x:Option (AV×AV×St)):Option AV:=match x with
 | some (r,_,_)=>some r
 | none=>none
theorem c4a (r b:AV) (st:St):p1 (some (r,b,st))=some r:=a8 rfl
def p2 (x:Option (AV×AV×St)):Option (AV×St):=match x with
 | some (r,_,st)=>some (r,st)
 | none=>none
theorem a5Y (r b:AV) (st:St):p2 (some (r,b,st))=some (r,st):=a8 rfl
def gv (x:AV) (want:Bool) (e:Option AV):Option AV:=match x with
 | .bool b=>if b == want then e else some (.tuple [])
 | .tuple []=>some (.tuple [])
 | _=>none
def gv2 (x:AV) (want:Bool) (st:St) (e:Option (AV×St)):Option (AV×St):=match x with
 | .bool b=>if b == want then e else some (.tuple [],st)
 | .tuple []=>some (.tuple [],st)
 | _=>none
theorem b3G (want:Bool) (e:Option AV):gv (.tuple []) want e=some (.tuple []):=a8 rfl
theorem d0H (e:Option AV):gv (.bool true) true e=e:=a8 rfl
theorem d0D (e:Option AV):gv (.bool true) false e=some (.tuple []):=a8 rfl
theorem d2E (e:Option AV):gv (.bool false) false e=e:=a8 rfl
theorem d0O (e:Option AV):gv (.bool false) true e=some (.tuple []):=a8 rfl
theorem c6K (st:St) (e:Option (AV×St)):gv2 (.bool true) true st e=e:=a8 rfl
theorem c7E (st:St) (e:Option (AV×St)):gv2 (.bool true) false st e=some (.tuple [],st):=a8 rfl
theorem c9C (st:St) (e:Option (AV×St)):gv2 (.bool false) false st e=e:=a8 rfl
theorem c7G (st:St) (e:Option (AV×St)):gv2 (.bool false) true st e=some (.tuple [],st):=a8 rfl
theorem c1N (want:Bool) (st:St) (e:Option (AV×St)):gv2 (.tuple []) want st e=some (.tuple [],st):=a8 rfl
theorem j6 {x:AV} {want:Bool} {st:St} {e:Option (AV×St)} {l:AV} (h:x=l):gv2 x want st e=gv2 l want st e:=by rw[h]
def j3 (xs:List Opd):Bool:=xs.any Opd.steals
theorem Y7:∀ {xs:List Opd} {σ:Sig},j3 xs=false→d9 xs σ=σ
 | [],_,_=>rfl
 | x::xs,σ,h=>by
  simp only[j3,List.any_cons,Bool.or_eq_false_iff]at h;have e:x.spend σ=σ:=by cases x<;>simp_all [Opd.spend,Opd.steals]
  rw[d9,e];exact Y7 (xs:=xs) h.2
def goK (call:b9) {α:Type} (o:AOper) (σ:Sig) (k:Sig→Option α):Option α :=
 match o.kind.setSt || o.kind.alters || j3 o.args with
 | false=>obind (p1 (sem o.kind call (o.args.map (·.read σ)) (boxOf' o.box σ) σ.st)) fun r=>k (o.dst.put r σ)
 | true=>match o.kind.alters || j3 o.args with
  | false=>obind (p2 (sem o.kind call (o.args.map (·.read σ)) (boxOf' o.box σ) σ.st)) fun r=>k (o.dst.put r.1 { σ with st:=r.2 })
  | true=>obind (sem o.kind call (o.args.map (·.read σ)) (boxOf' o.box σ) σ.st) fun r =>
   let σ:=d9 o.args σ
   match o.box with
   | some i=>k (o.dst.put r.1 { σ with fr:=σ.fr.set i r.2.1,st:=r.2.2 })
   | none=>k (o.dst.put r.1 { σ with st:=r.2.2 })
where boxOf' (b:Option Nat) (σ:Sig):AV:=match b with|some i=>σ.fr.getD i .undef|none=>.undef
def a5A (call:b9) {α:Type} (o:AOper) (σ:Sig) (k:Sig→Option α):Option α :=
 match o.guard with
 | none=>goK call o σ k
 | some (x,want)=>match o.kind.setSt || o.kind.alters || j3 o.args with
  | false=>obind (gv (x.read σ) want (p1 (sem o.kind call (o.args.map (·.read σ)) (goK.boxOf' o.box σ) σ.st))) fun r=>k (o.dst.put r σ)
  | true=>match o.kind.alters || j3 o.args with
   | false=>obind (gv2 (x.read σ) want σ.st (p2 (sem o.kind call (o.args.map (·.read σ)) (goK.boxOf' o.box σ) σ.st))) fun r=>k (o.dst.put r.1 { σ with st:=r.2 })
   | true=>match x.read σ with
    | .bool b=>if b == want then goK call o σ k else k (o.dst.put (.tuple []) σ)
    | .tuple []=>k (o.dst.put (.tuple []) σ)
    | _=>none
def a9f (call:b9) {α:Type}:List AOper→Sig→(Sig→Option α)→Option α
 | [],σ,k=>k σ
 | o::os,σ,k=>a5A call o σ fun σ=>a9f call os σ k
theorem a5g (fr:List AV) (i:Nat):fr.set i (fr.getD i .undef)=fr:=by
 apply List.ext_getElem?;intro j;rw[List.getElem?_set];by_cases e:i=j
 · subst e;rw[if_pos rfl];split
   · rename_i h; simp[h]
   · rename_i h; rw[List.getElem?_eq_none (by omega)]
 · rw[if_neg e]
theorem a7f {call:b9} {α:Type} {o:AOper} {σ:Sig} {k:Sig→Option α}:goK call o σ k=obind (I5 call o σ) k:=by
 have I:goK.boxOf' o.box σ=(match o.box with|some i=>σ.fr.getD i .undef|none=>.undef):=rfl;unfold goK;rw[R9,I];split
 · rename_i v;simp only[Bool.or_eq_false_iff]at v;obtain⟨⟨C,t⟩,u⟩:=v;cases l:sem o.kind call (o.args.map (·.read σ)) (match o.box with|some i=>σ.fr.getD i .undef|none=>.undef) σ.st with
   | none=>rfl
   | some x =>
    obtain⟨r,b',st'⟩:=x;have z:=a4E C l;have e2:=a3w t l;subst z;simp only[p1,y9,Y7 u];cases e:o.box with
    | none=>rfl
    | some i =>simp only[e]at e2;rw[e2];simp only[a5g,y9]
 · rename_i v;split
   · rename_i y;simp only[Bool.or_eq_false_iff]at y;obtain⟨t,u⟩:=y;cases l:sem o.kind call (o.args.map (·.read σ)) (match o.box with|some i=>σ.fr.getD i .undef|none=>.undef) σ.st with
     | none=>rfl
     | some x =>
      obtain⟨r,b',st'⟩:=x;have e2:=a3w t l;simp only[p2,y9,Y7 u];cases e:o.box with
      | none=>rfl
      | some i =>simp only[e]at e2;rw[e2];simp only[a5g,y9]
   · cases l:sem o.kind call (o.args.map (·.read σ)) (match o.box with|some i=>σ.fr.getD i .undef|none=>.undef) σ.st with
     | none=>rfl
     | some x =>
      obtain⟨r,b',st'⟩:=x;simp only[y9];cases e:o.box with
      | none=>rfl
      | some i=>rfl
theorem c4e {α:Type} {x:AV} {want:Bool} {e:Option AV} {f:AV→Option α}:obind (gv x want e) f =
 (match x with|.bool b=>if b == want then obind e f else f (.tuple [])|.tuple []=>f (.tuple [])|_=>none):=by
 unfold gv;split
 · split<;>rfl
 · rfl
 · rfl
theorem c0C {α:Type} {x:AV} {want:Bool} {st:St} {e:Option (AV×St)} {f:AV×St→Option α}:obind (gv2 x want st e) f =
 (match x with|.bool b=>if b == want then obind e f else f (.tuple [],st)|.tuple []=>f (.tuple [],st)|_=>none):=by
 unfold gv2;split
 · split<;>rfl
 · rfl
 · rfl
theorem a4m {call:b9} {α:Type} {o:AOper} {σ:Sig} {k:Sig→Option α}:a5A call o σ k=obind (l9 call o σ) k:=by
 unfold a5A l9;cases y:o.guard with
 | none=>exact a7f
 | some v =>
  obtain⟨x,want⟩:=v;simp only;split
  · rename_i l;have e:obind (p1 (sem o.kind call (o.args.map (·.read σ)) (goK.boxOf' o.box σ) σ.st)) (fun r=>k (o.dst.put r σ))=obind (I5 call o σ) k:=by have:=a7f (call:=call) (o:=o) (σ:=σ) (k:=k);unfold goK at this;rw[l]at this;exact this
    rw[c4e];cases t:x.read σ<;>try rfl
    · dsimp only;split
      · exact e
      · rfl
    · rename_i vs;cases vs<;>rfl
  · rename_i l;split
    · rename_i u;have e:obind (p2 (sem o.kind call (o.args.map (·.read σ)) (goK.boxOf' o.box σ) σ.st)) (fun r=>k (o.dst.put r.1 { σ with st:=r.2 }))=obind (I5 call o σ) k:=by have:=a7f (call:=call) (o:=o) (σ:=σ) (k:=k);unfold goK at this;rw[l,u]at this;exact this
      rw[c0C];cases t:x.read σ<;>try rfl
      · dsimp only;split
        · exact e
        · rfl
      · rename_i vs;cases vs<;>rfl
    · cases t:x.read σ<;>try rfl
      · dsimp only;split
        · exact a7f
        · rfl
      · rename_i vs;cases vs<;>rfl
theorem a14 {call:b9} {α:Type} {k:Sig→Option α}:∀ {ops:List AOper} {σ:Sig},a9f call ops σ k=obind (q8 call ops σ) k
 | [],σ=>rfl
 | o::os,σ=>by
  simp only[a9f,q8,a4m];cases e:l9 call o σ with
  | none=>rfl
  | some σ1=>exact a14
def br (c:AV) (a b:Option Out):Option Out:=match c with
 | .bool true=>a
 | .bool false=>b
 | _=>none
theorem a2c (call:b9) (n:Nat) (kill:List Nat) (ps:List AOper) (fr:List AV) (st:St) :
 j1 call n (.reg kill ps) fr st=a9f call ps ⟨m9 kill fr,fun _=>.undef,st⟩ fun σ=>some (.normal,σ.fr,σ.st):=by
 rw[a14];simp only[j1,fL_eq];cases q8 call ps ⟨m9 kill fr,fun _=>.undef,st⟩<;>rfl
theorem a9Z (call:b9) (n:Nat) (kill:List Nat) (ps:List AOper) (c:Opd) (a b:ACode) (fr:List AV) (st:St) :
 j1 call n (.test kill ps c a b) fr st=a9f call ps ⟨m9 kill fr,fun _=>.undef,st⟩ fun σ=>br (c.read σ) (j1 call n a σ.fr σ.st) (j1 call n b σ.fr σ.st):=by
 rw[a14];simp only[j1,fL_eq];cases q8 call ps ⟨m9 kill fr,fun _=>.undef,st⟩with
 | none=>rfl
 | some σ =>simp only[y9];generalize c.read σ=y;cases y<;>rfl
def a5q (i:Nat) (x:AV):AV:=match x with
 | .box _=>.loc i 0
 | _=>.undef
def seqK (x:Option Out) (f:List AV→St→Option Out):Option Out:=match x with
 | some (.normal,fr,st)=>f fr st
 | r=>r
theorem a6o (fr:List AV) (st:St) (f:List AV→St→Option Out):seqK (some (.normal,fr,st)) f=f fr st:=a8 rfl
theorem b70 (id:Nat) (fr:List AV) (st:St) (f:List AV→St→Option Out):seqK (some (.exit id,fr,st)) f=some (.exit id,fr,st):=a8 rfl
theorem c0R (fr:List AV) (st:St) (f:List AV→St→Option Out):seqK (some (.ret,fr,st)) f=some (.ret,fr,st):=a8 rfl
theorem i8 {x e:Option Out} {f:List AV→St→Option Out} (h:x=e):seqK x f=seqK e f:=by rw[h]
theorem exec_seqK (call:b9) (n:Nat) (a b:ACode) (fr:List AV) (st:St):j1 call n (.seq a b) fr st=seqK (j1 call n a fr st) (j1 call n b):=by simp only[j1,seqK];split<;>rename_i h<;>simp only[h]
def finK (rs:List ResK) (x:Option Out):Option (AV×St):=match x with
 | some (.exit _,_,_)=>none
 | some (_,fr,st)=>match U4 rs fr with
  | some [v]=>some (v,st)
  | some vs=>some (.tuple vs,st)
  | none=>none
 | none=>none
theorem a6K (fn:AFn) (call:b9) (n:Nat) (args:List AV) (st:St) (h:args.length=fn.np) :
 fn.run call n args st=finK fn.results (j1 call n fn.code (args++List.replicate (fn.nv - fn.np) .undef) st):=by
 unfold AFn.run finK;rw[if_pos h];cases j1 call n fn.code (args++List.replicate (fn.nv - fn.np) .undef) st with
 | none=>rfl
 | some x =>
  obtain⟨e,fr,st'⟩:=x;cases e<;>dsimp only<;>cases U4 fn.results fr with
  | none=>rfl
  | some vs =>
   match vs with
   | []=>rfl
   | [v]=>rfl
   | _::_::_=>rfl
theorem b9s (call:b9) (n:Nat) (fr:List AV) (st:St):j1 call n .ret fr st=some (.ret,fr,st):=by simp only[j1]
theorem b7B (call:b9) (n id:Nat) (fr:List AV) (st:St):j1 call n (.exit id) fr st=some (.exit id,fr,st):=by simp only[j1]
theorem b7u (call:b9) (n:Nat) (fr:List AV) (st:St):j1 call n .skip fr st=some (.normal,fr,st):=by simp only[j1]
def a1n (c e:b9):Prop:=∀ f as st r,c f as st=some r→e f as st=some r
theorem c63 {c u:b9} (h:a1n c u) {k:Kind} {as:List AV} {b:AV} {st:St} {r:AV×AV×St} (e:sem k c as b st=some r):sem k u as b st=some r:=by
 cases k
 case call f =>
  simp only[sem,p7]at e ⊢;split at e
  · rename_i t;rw[if_pos t];obtain⟨x,v,rfl⟩:=AL.1 e;rw[h _ _ _ _ v];rfl
  · cases e
 case callA f m =>
  simp only[sem,H0]at e ⊢;cases l:p7 f c (as.take m) b st with
  | none=>rw[l]at e; cases e
  | some x =>
   rw[l]at e;have:p7 f u (as.take m) b st=some x:=by
    unfold p7 at l ⊢;split at l
    · rename_i t;rw[if_pos t];obtain⟨y,z,rfl⟩:=AL.1 l;rw[h _ _ _ _ z];rfl
    · cases l
   rw[this];exact e
 case callV =>
  simp only[sem]at e ⊢;unfold K8 at e ⊢;split at e
  · split at e
    · rename_i t;simp only[if_pos t];obtain⟨x,v,rfl⟩:=AL.1 e;rw[h _ _ _ _ v];rfl
    · cases e
  · cases e
 all_goals exact e
theorem b4b {c e:b9} (h:a1n c e) {o:AOper} {σ σ':Sig} (t:I5 c o σ=some σ'):I5 e o σ=some σ':=by obtain⟨r,b',st',l,rfl⟩:=m8 t;exact a5C (c63 h l)
theorem b7M {c t:b9} (h:a1n c t) {o:AOper} {σ σ':Sig} (e:l9 c o σ=some σ'):l9 t o σ=some σ':=by
 unfold l9 at e ⊢;split at e
 · exact b4b h e
 · split at e
   · split at e
     · rename_i l; rw[if_pos l]; exact b4b h e
     · rename_i l; rw[if_neg l]; exact e
   · exact e
   · cases e
theorem a4K {c l:b9} (h:a1n c l):∀ {os:List AOper} {σ σ':Sig},q8 c os σ=some σ'→q8 l os σ=some σ'
 | [],_,_,hs=>hs
 | o::os,σ,σ',hs=>by
  simp only[q8]at hs ⊢;cases e:l9 c o σ with
  | none=>simp[e]at hs
  | some σ1 =>simp only[e]at hs;simp only[b7M h e];exact a4K h hs
theorem a5G {body l:List AV→St→Option Out} (h:∀ fr st r,body fr st=some r→l fr st=some r):∀ {n m:Nat} {fr:List AV} {st:St} {r:Out},n≤m→a0i body n fr st=some r→a0i l m fr st=some r
 | 0,_,_,_,_,_,t=>by simp[a0i]at t
 | n+1,0,_,_,_,u,_=>by omega
 | n+1,m+1,fr,st,r,u,t=>by
  simp only[a0i]at t ⊢;cases v:body fr st with
  | none=>simp[v]at t
  | some o =>
   rw[v]at t;rw[h _ _ _ v];obtain⟨e,x,st1⟩:=o;cases e with
   | normal=>exact a5G h (by omega) t
   | exit id=>exact t
   | ret=>exact t
theorem H1 {c v:b9} (h:a1n c v) {n m:Nat} (t:n≤m):∀ {x:ACode} {fr:List AV} {st:St} {r:Out},j1 c n x fr st=some r→j1 v m x fr st=some r
 | .skip,_,_,_,l=>l
 | .exit _,_,_,_,l=>l
 | .ret,_,_,_,l=>l
 | .reg kill ops,fr,st,r,l=>by
  simp only[j1]at l ⊢;cases u:q8 c ops ⟨m9 kill fr,fun _=>.undef,st⟩with
  | none=>simp[u]at l
  | some σ=>rw[u]at l; rw[a4K h u]; exact l
 | .test kill ops x a b,fr,st,r,l=>by
  rw[a9Z]at l ⊢;rw[a14]at l ⊢;cases u:q8 c ops ⟨m9 kill fr,fun _=>.undef,st⟩with
  | none=>rw[u]at l; cases l
  | some σ =>
   rw[u]at l;rw[a4K h u];rw[y9]at l ⊢;unfold br at l ⊢;split at l
   · exact H1 h t l
   · exact H1 h t l
   · cases l
 | .either kill a b,fr,st,r,l=>by simp only[j1]at l ⊢;obtain⟨M,ob,z,C,y,L⟩:=a7G l;rw[H1 h t z,H1 h t C,a3T (y.trans L.symm),y]
 | .seq a b,fr,st,r,l=>by
  rw[exec_seqK]at l ⊢;cases u:j1 c n a fr st with
  | none=>rw[u]at l; cases l
  | some o =>
   rw[u]at l;rw[H1 h t u];obtain⟨e,I,st1⟩:=o;cases e with
   | normal=>exact H1 h t l
   | exit id=>exact l
   | ret=>exact l
 | .blk id a,fr,st,r,l=>by
  simp only[j1]at l ⊢;cases u:j1 c n a fr st with
  | none=>rw[u]at l; cases l
  | some o=>rw[u]at l; rw[H1 h t u]; exact l
 | .loop a,fr,st,r,l=>by simp only[j1]at l ⊢;exact a5G (fun _ _ _ J=>H1 h t J) t l
theorem b7F {c u:b9} (h:a1n c u) {n m:Nat} (l:n≤m) {fn:AFn} {args:List AV} {st:St} {r:AV×St} (e:fn.run c n args st=some r):fn.run u m args st=some r:=by
 have v:args.length=fn.np:=by
  unfold AFn.run at e;split at e
  · assumption
  · cases e
 rw[a6K _ _ _ _ _ v]at e ⊢;cases t:j1 c n fn.code (args++List.replicate (fn.nv - fn.np) .undef) st with
 | none=>rw[t]at e; cases e
 | some o=>rw[t]at e; rw[H1 h l t]; exact e
theorem T7 {tbl:Nat→Option AFn}:∀ {n m:Nat},n≤m→a1n (k7 tbl n) (k7 tbl m)
 | 0,_,_,_,_,_,_,l=>by simp[k7]at l
 | n+1,0,u,_,_,_,_,_=>by omega
 | n+1,m+1,u,f,as,st,r,l=>by
  simp only[k7]at l ⊢;cases t:tbl f with
  | none=>simp[t]at l
  | some fn =>
   simp only[t]at l ⊢;cases v:fn.ext with
   | some e=>simp only[v]at l ⊢; exact l
   | none =>simp only[v]at l ⊢;exact b7F (T7 (by omega)) (by omega) l
def Ev (tbl:Nat→Option AFn) (f:Nat) (as:List AV) (st:St) (r:AV) (st':St):Prop:=∃ n,k7 tbl n f as st=some (r,st')
theorem Ev.ge {tbl:Nat→Option AFn} {f:Nat} {as:List AV} {st:St} {r:AV} {st':St} (h:Ev tbl f as st r st'):∃ n0,∀ n,n0≤n→k7 tbl n f as st=some (r,st') :=
 let ⟨n,hn⟩:=h; ⟨n,fun m e=>T7 e _ _ _ _ hn⟩
end Go.Cb
namespace Go.Cb
open Classical
section
variable {tbl:Nat→Option AFn}
def XC (tbl:Nat→Option AFn) (x:ACode) (fr:List AV) (st:St) (out:Out):Prop:=∃ n,j1 (k7 tbl n) n x fr st=some out
theorem XC.ge {x:ACode} {fr:List AV} {st:St} {out:Out} (h:XC tbl x fr st out):∃ n0,∀ n,n0≤n→j1 (k7 tbl n) n x fr st=some out :=
 let ⟨n,hn⟩:=h; ⟨n,fun m e=>H1 (T7 e) e hn⟩
def LX (tbl:Nat→Option AFn) (x:ACode) (fr:List AV) (st:St) (out:Out):Prop:=∃ n k,a0i (j1 (k7 tbl n) n x) k fr st=some out
theorem LX.done {x:ACode} {fr:List AV} {st:St} {e:Ex} {l:List AV} {st':St} (h:XC tbl x fr st (e,l,st')) (t:e≠.normal):LX tbl x fr st (e,l,st'):=by
 obtain⟨n,u⟩:=h;refine⟨n,1,?_⟩;simp only[a0i,u];cases e with
 | normal=>exact absurd rfl t
 | exit id=>rfl
 | ret=>rfl
theorem LX.step {x:ACode} {fr e:List AV} {st st1:St} {out:Out} (h:XC tbl x fr st (.normal,e,st1)) (l:LX tbl x e st1 out):LX tbl x fr st out:=by obtain⟨n,y⟩:=h;obtain⟨m,k,v⟩:=l;refine⟨max n m,k+1,?_⟩;have t:=H1 (T7 (tbl:=tbl) (Nat.le_max_left n m)) (Nat.le_max_left n m) y;simp only[a0i,t];exact a5G (fun _ _ _ u=>H1 (T7 (Nat.le_max_right n m)) (Nat.le_max_right n m) u) (AK k) v
theorem XC.loop {x:ACode} {fr:List AV} {st:St} {out:Out} (h:LX tbl x fr st out):XC tbl (.loop x) fr st out:=by obtain⟨n,k,h⟩:=h;refine⟨max n k,?_⟩;simp only[j1];exact a5G (fun _ _ _ e=>H1 (T7 (Nat.le_max_left n k)) (Nat.le_max_left n k) e) (Nat.le_max_right n k) h
theorem XC.seq {a b:ACode} {fr e:List AV} {st st1:St} {out:Out} (h:XC tbl a fr st (.normal,e,st1)) (l:XC tbl b e st1 out):XC tbl (.seq a b) fr st out:=by obtain⟨n,u⟩:=h;obtain⟨m,t⟩:=l;refine⟨max n m,?_⟩;rw[exec_seqK,H1 (T7 (Nat.le_max_left n m)) (Nat.le_max_left n m) u,a6o];exact H1 (T7 (Nat.le_max_right n m)) (Nat.le_max_right n m) t
theorem XC.blk {id:Nat} {a:ACode} {fr l:List AV} {st st1:St} {e:Ex} (h:XC tbl a fr st (e,l,st1)):XC tbl (.blk id a) fr st (if e=.exit id then .normal else e,l,st1):=by
 obtain⟨n,u⟩:=h;refine⟨n,?_⟩;simp only[j1,u];cases e with
 | normal=>rfl
 | exit t =>
  by_cases hid:t=id
  · subst hid; simp
  · simp[hid]
 | ret=>rfl
theorem XC.skip {fr:List AV} {st:St}:XC tbl .skip fr st (.normal,fr,st):=⟨0,rfl⟩
theorem XC.exit {id:Nat} {fr:List AV} {st:St}:XC tbl (.exit id) fr st (.exit id,fr,st):=⟨0,rfl⟩
theorem XC.ret {fr:List AV} {st:St}:XC tbl .ret fr st (.ret,fr,st):=⟨0,rfl⟩
theorem XC.of {x:ACode} {fr:List AV} {st:St} {out:Out} (h:∃ n0,∀ n,n0≤n→j1 (k7 tbl n) n x fr st=some out):XC tbl x fr st out :=
 let ⟨n,hn⟩:=h; ⟨n,hn n (AK n)⟩
theorem XC.goes {x a:ACode} {fr e:List AV} {st st1:St} {out:Out} (h:∃ n0,∀ n,n0≤n→j1 (k7 tbl n) n x fr st=j1 (k7 tbl n) n a e st1) (l:XC tbl a e st1 out):XC tbl x fr st out:=by obtain⟨n,u⟩:=h;obtain⟨m,t⟩:=l.ge;exact⟨max n m,by rw[u _ (Nat.le_max_left n m)]; exact t _ (Nat.le_max_right n m)⟩
theorem Ev.of_body {f:Nat} {fn:AFn} {as:List AV} {st:St} {e:Ex} {l:List AV} {st':St} {r:AV×St} (t:tbl f=some fn) (u:fn.ext=none) (v:as.length=fn.np)
 (h:XC tbl fn.code (as++List.replicate (fn.nv - fn.np) .undef) st (e,l,st')) (y:finK fn.results (some (e,l,st'))=some r):Ev tbl f as st r.1 r.2:=by
 obtain⟨n,x⟩:=h;refine⟨n+1,?_⟩;simp only[k7,t,u];rw[a6K _ _ _ _ _ v,x,y]
theorem Ev.of_ext {f:Nat} {fn:AFn} {as:List AV} {st:St} {e:List AV→St→Option (AV×St)} {r:AV×St} (l:tbl f=some fn) (t:fn.ext=some e) (h:e as st=some r):Ev tbl f as st r.1 r.2 :=
 ⟨1,by simp only[k7,l,t]; exact h⟩
end
end Go.Cb
namespace Go.Cb
open Classical
def WC {α:Type} (c:Nat→Option α) (Q:α→Prop):Prop:=∃ n0 a,(∀ n,n0≤n→c n=some a)∧Q a
def EvQ (tbl:Nat→Option AFn) (f:Nat) (as:List AV) (st:St) (Q:AV→St→Prop):Prop:=∃ r st',Ev tbl f as st r st'∧Q r st'
theorem wc {α:Type} {a:α} {Q:α→Prop} (h:Q a):WC (fun _=>some a) Q:=⟨0,a,fun _ _=>rfl,h⟩
theorem WC.mono {α:Type} {c:Nat→Option α} {P Q:α→Prop} (h:WC c P) (e:∀ a,P a→Q a):WC c Q :=
 let ⟨n,a,ha,hp⟩:=h; ⟨n,a,ha,e a hp⟩
theorem WC.obind {α β:Type} {c:Nat→Option α} {k:Nat→α→Option β} {P:α→Prop} {Q:β→Prop} (h:WC c P) (u:∀ a,P a→WC (fun n=>k n a) Q):WC (fun n=>Go.Cb.obind (c n) (k n)) Q:=by obtain⟨n,a,e,v⟩:=h;obtain⟨m,b,l,x⟩:=u a v;refine⟨max n m,b,fun j t=>?_,x⟩;show Go.Cb.obind (c j) (k j)=some b;rw[e j (by omega),y9];exact l j (Nat.le_trans (Nat.le_max_right n m) t)
theorem EvQ.mono {tbl:Nat→Option AFn} {f:Nat} {as:List AV} {st:St} {P Q:AV→St→Prop} (h:EvQ tbl f as st P) (e:∀ r st',P r st'→Q r st'):EvQ tbl f as st Q :=
 let ⟨r,st',he,hp⟩:=h; ⟨r,st',he,e r st' hp⟩
section
variable {tbl:Nat→Option AFn}
theorem wa {β:Type} {f:Nat} {as e:List AV} {bx:AV} {st:St} {k:Nat→AV×St→Option β} {P:AV→St→Prop} {Q:β→Prop}
 (h:EvQ tbl f e st P) (z:C7 as=true) (I:as.map AV.weak=e) (v:∀ r st',P r st'→WC (fun n=>k n (r,st')) Q):WC (fun n=>Go.Cb.obind (p2 (p7 f (k7 tbl n) as bx st)) (k n)) Q:=by
 obtain⟨r,st',u,C⟩:=h;obtain⟨n0,l⟩:=u.ge;refine WC.obind (P:=fun x=>x=(r,st')) ⟨n0,(r,st'),fun n y=>?_,rfl⟩ (fun a t=>t ▸ v r st' C);simp only[p7,z,if_true,I,l n y,AO,a5Y]
theorem wl {β:Type} {f:Nat} {first e as l:List AV} {bx:AV} {st:St} {k:Nat→AV×St→Option β} {P:AV→St→Prop} {Q:β→Prop}
 (h:EvQ tbl f l st P) (C:C7 as=true) (J:(first++as++e).map AV.weak=l) (y:∀ r st',P r st'→WC (fun n=>k n (r,st')) Q):WC (fun n=>Go.Cb.obind (p2 (K8 (k7 tbl n) (.func f first e::as) bx st)) (k n)) Q:=by
 obtain⟨r,st',v,I⟩:=h;obtain⟨n0,t⟩:=v.ge;refine WC.obind (P:=fun x=>x=(r,st')) ⟨n0,(r,st'),fun n z=>?_,rfl⟩ (fun a u=>u ▸ y r st' I);simp only[K8,C,if_true,J,t n z,AO,a5Y]
def a1p (id:Nat) (o:Out):Out:=match o with
 | (.exit e,fr,st)=>if e=id then(.normal,fr,st)else(.exit e,fr,st)
 | o=>o
def blkK (id:Nat) (x:Option Out):Option Out:=match x with
 | some o=>some (a1p id o)
 | none=>none
theorem a9G (id:Nat) (o:Out):blkK id (some o)=some (a1p id o):=a8 rfl
theorem b0d (id:Nat) (fr:List AV) (st:St):a1p id (.normal,fr,st)=(.normal,fr,st):=a8 rfl
theorem b4A (id:Nat) (fr:List AV) (st:St):a1p id (.ret,fr,st)=(.ret,fr,st):=a8 rfl
theorem b2O (id e:Nat) (fr:List AV) (st:St):a1p id (.exit e,fr,st)=if e=id then(.normal,fr,st)else(.exit e,fr,st):=a8 rfl
theorem j0 {id:Nat} {x e:Option Out} (h:x=e):blkK id x=blkK id e:=by rw[h]
theorem b7K (call:b9) (n id:Nat) (a:ACode) (fr:List AV) (st:St):j1 call n (.blk id a) fr st=blkK id (j1 call n a fr st):=by
 simp only[j1,blkK];cases j1 call n a fr st with
 | none=>rfl
 | some o =>
  obtain⟨e,t,st'⟩:=o;cases e with
  | normal=>rfl
  | ret=>rfl
  | exit l=>by_cases h:l=id<;>simp[a1p,h]
theorem WC.seqK {c:Nat→Option Out} {g:Nat→List AV→St→Option Out} {P Q:Out→Prop} (h:WC c P) (t:∀ o,P o→WC (fun n=>Go.Cb.seqK (some o) (g n)) Q):WC (fun n=>Go.Cb.seqK (c n) (g n)) Q:=by obtain⟨n,a,e,u⟩:=h;obtain⟨m,b,l,v⟩:=t a u;exact⟨max n m,b,fun j x=>by dsimp only; rw[e j (by omega)]; exact l j (by omega),v⟩
theorem WC.blkK {id:Nat} {c:Nat→Option Out} {Q:Out→Prop} (h:WC c (fun o=>Q (a1p id o))):WC (fun n=>Go.Cb.blkK id (c n)) Q:=by obtain⟨n,a,e,t⟩:=h;exact⟨n,_,fun j l=>by dsimp only; rw[e j l,a9G],t⟩
theorem WC.finK {rs:List ResK} {c:Nat→Option Out} {P:Out→Prop} {Q:AV×St→Prop} (h:WC c P) (t:∀ o,P o→WC (fun n=>Go.Cb.finK rs (some o)) Q):WC (fun n=>Go.Cb.finK rs (c n)) Q:=by obtain⟨n,a,e,u⟩:=h;obtain⟨m,b,l,v⟩:=t a u;exact⟨max n m,b,fun j x=>by dsimp only; rw[e j (by omega)]; exact l j (by omega),v⟩
theorem WC.of_xc {x:ACode} {fr:List AV} {st:St} {out:Out} {Q:Out→Prop} (h:XC tbl x fr st out) (l:Q out):WC (fun n=>j1 (k7 tbl n) n x fr st) Q:=by obtain⟨n,e⟩:=h.ge;exact⟨n,out,e,l⟩
theorem WC.xc {x:ACode} {fr:List AV} {st:St} {Q:Out→Prop} (h:WC (fun n=>j1 (k7 tbl n) n x fr st) Q):∃ out,XC tbl x fr st out∧Q out:=by obtain⟨n,a,e,l⟩:=h;exact⟨a,⟨n,e n (AK n)⟩,l⟩
theorem WC.loop {x:ACode} {Q:Out→Prop} (I:Nat→List AV→St→Prop) {m:Nat} {fr:List AV} {st:St} (C:I m fr st)
 (J:∀ m fr st,I m fr st→WC (fun n=>j1 (k7 tbl n) n x fr st) (fun o=>(∃ m' l st',o=(.normal,l,st')∧m' < m∧I m' l st')∨(o.1≠.normal∧Q o))) :
 WC (fun n=>j1 (k7 tbl n) n (.loop x) fr st) Q:=by
 have key:∀ m fr st,I m fr st→∃ out,LX tbl x fr st out∧Q out:=by
  intro m;induction m using Nat.strongRecOn with
  | ind m M =>
   intro fr st h;obtain⟨out,z,L⟩:=(J m fr st h).xc;rcases L with⟨m',l,st',rfl,v,hi⟩|⟨y,t⟩
   · obtain⟨out,u,t⟩:=M m' v l st' hi;exact⟨out,LX.step z u,t⟩
   · obtain⟨e,l,st'⟩:=out;exact⟨_,LX.done z y,t⟩
 obtain⟨out,u,t⟩:=key m fr st C;exact WC.of_xc (XC.loop u) t
theorem EvQ.of_body {f:Nat} {fn:AFn} {as:List AV} {st:St} {Q:AV→St→Prop} (e:tbl f=some fn) (t:fn.ext=none) (u:as.length=fn.np)
 (h:WC (fun n=>Go.Cb.finK fn.results (j1 (k7 tbl n) n fn.code (as++List.replicate (fn.nv - fn.np) .undef) st)) (fun r=>Q r.1 r.2)):EvQ tbl f as st Q:=by
 obtain⟨n,a,l,v⟩:=h;refine⟨a.1,a.2,⟨n+1,?_⟩,v⟩;simp only[k7,e,t];rw[a6K _ _ _ _ _ u];exact l n (AK n)
theorem EvQ.of_ext {f:Nat} {fn:AFn} {as:List AV} {st:St} {e:List AV→St→Option (AV×St)} {r:AV×St} {Q:AV→St→Prop} (l:tbl f=some fn) (t:fn.ext=some e) (h:e as st=some r) (u:Q r.1 r.2):EvQ tbl f as st Q :=
 ⟨_,_,Ev.of_ext l t h,u⟩
end
end Go.Cb
namespace Go.Cb
open Classical
section
variable {tbl:Nat→Option AFn}
theorem wd {I:Nat→List AV→St→Prop} {m m':Nat} {e:List AV} {st':St} {R:Out→Prop} (l:m' < m) (hi:I m' e st') :
 WC (fun _=>some (Ex.normal,e,st')) (fun o=>(∃ m' e st',o=(.normal,e,st')∧m' < m∧I m' e st')∨(o.1≠.normal∧R o)):=wc (Or.inl ⟨m',e,st',rfl,l,hi⟩)
theorem we {I:Nat→List AV→St→Prop} {m id:Nat} {e:List AV} {st':St} {R:Out→Prop} (h:R (.exit id,e,st')) :
 WC (fun _=>some (Ex.exit id,e,st')) (fun o=>(∃ m' e st',o=(.normal,e,st')∧m' < m∧I m' e st')∨(o.1≠.normal∧R o)):=wc (Or.inr ⟨fun h=>by simp at h,h⟩)
theorem wh {I:Nat→List AV→St→Prop} {m:Nat} {e:List AV} {st':St} {R:Out→Prop} (h:R (.ret,e,st')) :
 WC (fun _=>some (Ex.ret,e,st')) (fun o=>(∃ m' e st',o=(.normal,e,st')∧m' < m∧I m' e st')∨(o.1≠.normal∧R o)):=wc (Or.inr ⟨fun h=>by simp at h,h⟩)
theorem wj {f:Nat} {fn:AFn} {as:List AV} {st:St} {Q:AV→St→Prop} (e:tbl f=some fn) (l:fn.ext=none) (t:as.length=fn.np)
 (h:WC (fun n=>j1 (k7 tbl n) n fn.code (as++List.replicate (fn.nv - fn.np) .undef) st) (fun o=>∃ r st',Go.Cb.finK fn.results (some o)=some (r,st')∧Q r st')):EvQ tbl f as st Q :=
 EvQ.of_body e l t (WC.finK h fun o ⟨r,st',v,u⟩=>⟨0,(r,st'),fun _ _=>v,u⟩)
end
end Go.Cb
namespace Go.Cb
open Classical
theorem R2 {n:Int} (e:-9223372036854775808≤n) (l:n < 9223372036854775808):n4 .i64 n=n:=by
 rw[Q1];simp only[IntKind.wrap,IntKind.signed,IntKind.bits,Bool.true_and];split
 · rename_i h; have h:=of_decide_eq_true h; omega
 · rename_i h; have h:¬ (n % 2 ^ 64 ≥ 2 ^ (64 - 1)):=fun x=>h (decide_eq_true x); omega
theorem k8 {i:Nat} (h:i+1 < 2 ^ 63):n4 .i64 (a2W (i:Int) 1)=((i+1:Nat):Int):=by rw[addI_eq,R2 (by omega) (by omega)];omega
theorem ltN (i j:Nat):ltI (i:Int) (j:Int)=decide (i < j):=by
 rw[ltI_eq];by_cases h:i < j
 · simp[h]
 · simp[h]
theorem c7x (i j:Nat):eqI (i:Int) (j:Int)=decide (i=j):=by
 rw[eqI_eq];by_cases h:i=j
 · simp[h]
 · simp[h]; omega
theorem e8 (b:Bool):b=true∨b=false:=by cases b<;>simp
theorem D6 {sz:Nat} {xs:List (List AV)} (h:∀ r∈xs,r.length=sz):k9 sz xs=true:=by
 cases xs with
 | nil=>rfl
 | cons r rs=>simp[k9,h r (by simp)]
def gV (x:AV) (want:Bool) (v:AV):AV:=match x with
 | .bool b=>if b == want then v else .tuple []
 | _=>.tuple []
theorem d1F (v:AV):gV (.bool true) true v=v:=a8 rfl
theorem d2C (v:AV):gV (.bool false) false v=v:=a8 rfl
theorem d2H (v:AV):gV (.bool true) false v=.tuple []:=a8 rfl
theorem d1h (v:AV):gV (.bool false) true v=.tuple []:=a8 rfl
theorem c5a (want:Bool) (v:AV):gV (.tuple []) want v=.tuple []:=a8 rfl
theorem b3P (c want:Bool) (v:AV):gv (.bool c) want (some v)=some (gV (.bool c) want v):=by cases c<;>cases want<;>rfl
theorem b2n (x:AV) (w b want:Bool) (v:AV):gv (gV x w (.bool b)) want (some v)=some (gV (gV x w (.bool b)) want v):=by
 unfold gV;cases x with
 | bool c=>cases c<;>cases w<;>cases b<;>cases want<;>rfl
 | _=>rfl
theorem j4 {x l:AV} {want:Bool} {e e':Option AV} (u:x=l) (v:l=.bool want→e=e'):gv x want e=gv l want e':=by
 subst u;unfold gv;split
 · rename_i b;by_cases t:b=want
   · rw[v (by rw[t])]
   · simp[t]
 · rfl
 · rfl
theorem c4t (x:AV) (w:Bool) (v:AV):(gV x w v).weak=gV x w v.weak:=by
 unfold gV;cases x with
 | bool c=>dsimp only; split<;>rfl
 | _=>rfl
theorem b9q (x:AV) (w:Bool) (v:AV):(gV x w v).strip=gV x w v.strip:=by
 unfold gV;cases x with
 | bool c=>dsimp only; split<;>rfl
 | _=>rfl
theorem b8d (x:AV) (w:Bool) (v:AV):(gV x w v).stripB=gV x w v.stripB:=by
 unfold gV;cases x with
 | bool c=>dsimp only; split<;>rfl
 | _=>rfl
theorem c8R (call:b9) (a b bx:AV) (st:St):p1 (F9 call [.bool true,a,b] bx st)=if a.plain then some a else none:=by unfold F9; dsimp only; by_cases h:a.plain=true<;>simp[h,p1]
theorem c8Q (call:b9) (a b bx:AV) (st:St):p1 (F9 call [.bool false,a,b] bx st)=if b.plain then some b else none:=by unfold F9; dsimp only; by_cases h:b.plain=true<;>simp[h,p1]
theorem c4A (call:b9) (c d:Bool) (bx:AV) (st:St):p1 (F9 call [.bool c,.bool true,gV (.bool c) false (.bool d)] bx st)=some (.bool (c || d)):=by cases c<;>rfl
theorem c1m (call:b9) (c d:Bool) (bx:AV) (st:St):p1 (F9 call [.bool c,gV (.bool c) true (.bool d),.bool false] bx st)=some (.bool (c && d)):=by cases c<;>rfl
theorem b6J (b:Bool):(AV.bool b).weak=.bool b:=a8 rfl
theorem c09 (k:IntKind) (n:Int):(AV.int k n).weak=.int k n:=a8 rfl
theorem b9L (s:List Nat):(AV.str s).weak=.str s:=a8 rfl
theorem b7D (o:Bool) (xs:List (List AV)):(AV.list o xs).weak=.list false xs:=a8 rfl
theorem c1Q (o f:Nat):(AV.ptr o f).weak=.ptr o f:=a8 rfl
theorem b7m:AV.nilp.weak=.nilp:=a8 rfl
theorem b8U:AV.nils.weak=.nils:=a8 rfl
theorem c4o (cs:List AV):(AV.ro cs).weak=.ro cs:=a8 rfl
theorem c0b (i f:Nat):(AV.loc i f).weak=.loc i f:=a8 rfl
theorem c0y (o:Nat):(AV.map o).weak=.map o:=a8 rfl
theorem b8S:AV.nilm.weak=.nilm:=a8 rfl
theorem b8h (f:Nat) (a b:List AV):(AV.func f a b).weak=.func f a b:=a8 rfl
theorem b7S:AV.nilf.weak=.nilf:=a8 rfl
theorem N3 (cs:List AV):(AV.agg cs).weak=.agg (cs.map AV.weak1):=a8 rfl
theorem c5g (o f n s:Nat):(AV.sl o f n s).weak=.sl o f n s:=a8 rfl
theorem b5i (t:Nat) (v:AV):(AV.iface t v).weak=.iface t v:=a8 rfl
theorem b72:AV.nili.weak=.nili:=a8 rfl
theorem b6t (vs:List AV):(AV.tuple vs).weak=.tuple vs:=a8 rfl
theorem b6a:AV.undef.weak=.undef:=a8 rfl
theorem b9Y (cs:List AV):(AV.box cs).weak=.box cs:=a8 rfl
theorem b5u (b:Bool):(AV.bool b).weak1=.bool b:=a8 rfl
theorem b7W (k:IntKind) (n:Int):(AV.int k n).weak1=.int k n:=a8 rfl
theorem b8r (s:List Nat):(AV.str s).weak1=.str s:=a8 rfl
theorem b5L (o:Bool) (xs:List (List AV)):(AV.list o xs).weak1=.list false xs:=a8 rfl
theorem c03 (o f n s:Nat):(AV.sl o f n s).weak1=.sl o f n s:=a8 rfl
theorem b5P (f:Nat) (a b:List AV):(AV.func f a b).weak1=.func f a b:=a8 rfl
theorem b7H (o f:Nat):(AV.ptr o f).weak1=.ptr o f:=a8 rfl
theorem b6j:AV.nilp.weak1=.nilp:=a8 rfl
theorem b40:AV.nils.weak1=.nils:=a8 rfl
theorem a0a (o:Nat):(AV.map o).weak1=.map o:=a8 rfl
theorem b5h:AV.nilm.weak1=.nilm:=a8 rfl
theorem b5H (b:Bool):(AV.bool b).strip=.bool b:=a8 rfl
theorem b8L (k:IntKind) (n:Int):(AV.int k n).strip=.int k n:=a8 rfl
theorem b7T (s:List Nat):(AV.str s).strip=.str s:=a8 rfl
theorem b5I (o:Bool) (xs:List (List AV)):(AV.list o xs).strip=.list o xs:=a8 rfl
theorem b74 (o f:Nat):(AV.ptr o f).strip=.ptr o f:=a8 rfl
theorem b5K:AV.nilp.strip=.nilp:=a8 rfl
theorem b6y:AV.nils.strip=.nils:=a8 rfl
theorem b97 (cs:List AV):(AV.ro cs).strip=.ro cs:=a8 rfl
theorem b8V (i f:Nat):(AV.loc i f).strip=.undef:=a8 rfl
theorem b8p (o:Nat):(AV.map o).strip=.map o:=a8 rfl
theorem b4q:AV.nilm.strip=.nilm:=a8 rfl
theorem b4l (f:Nat) (a b:List AV):(AV.func f a b).strip=.func f a b:=a8 rfl
theorem b5V:AV.nilf.strip=.nilf:=a8 rfl
theorem b8D (cs:List AV):(AV.agg cs).strip=.agg cs:=a8 rfl
theorem c0v (o f n s:Nat):(AV.sl o f n s).strip=.sl o f n s:=a8 rfl
theorem b2z (vs:List AV):(AV.tuple vs).strip=.tuple vs:=a8 rfl
theorem b24:AV.undef.strip=.undef:=a8 rfl
theorem b2P (b:Bool):(AV.bool b).stripB=.bool b:=a8 rfl
theorem b4x (k:IntKind) (n:Int):(AV.int k n).stripB=.int k n:=a8 rfl
theorem b6l (s:List Nat):(AV.str s).stripB=.str s:=a8 rfl
theorem b3b (o:Bool) (xs:List (List AV)):(AV.list o xs).stripB=.list o xs:=a8 rfl
theorem b6w (o f:Nat):(AV.ptr o f).stripB=.ptr o f:=a8 rfl
theorem b2Y:AV.nilp.stripB=.nilp:=a8 rfl
theorem b20:AV.nils.stripB=.nils:=a8 rfl
theorem b60 (cs:List AV):(AV.ro cs).stripB=.ro cs:=a8 rfl
theorem b4s (i f:Nat):(AV.loc i f).stripB=.loc i f:=a8 rfl
theorem b4X (o:Nat):(AV.map o).stripB=.map o:=a8 rfl
theorem b2H:AV.nilm.stripB=.nilm:=a8 rfl
theorem b2C (f:Nat) (a b:List AV):(AV.func f a b).stripB=.func f a b:=a8 rfl
theorem b2Q:AV.nilf.stripB=.nilf:=a8 rfl
theorem b4o (cs:List AV):(AV.agg cs).stripB=.agg cs:=a8 rfl
theorem b4r (xs:List (List AV)):(AV.fresh xs).weak=.fresh xs:=a8 rfl
theorem b2R (xs:List (List AV)):(AV.fresh xs).strip=.fresh xs:=a8 rfl
theorem b1n (xs:List (List AV)):(AV.fresh xs).stripB=.fresh xs:=a8 rfl
theorem b8X (o f n s:Nat):(AV.sl o f n s).stripB=.sl o f n s:=a8 rfl
theorem b14 (vs:List AV):(AV.tuple vs).stripB=.tuple vs:=a8 rfl
theorem b2k:AV.undef.stripB=.undef:=a8 rfl
def H5 {α:Type} (K:α→Option Out) (g:List AV→St→Option Out) (a:α):Option Out:=Go.Cb.seqK (K a) g
def U3 {α:Type} (id:Nat) (K:α→Option Out) (a:α):Option Out:=Go.Cb.blkK id (K a)
theorem c90 {α:Type} (K:α→Option Out) (g:List AV→St→Option Out) (a:α):H5 K g a=Go.Cb.seqK (K a) g:=a8 rfl
theorem c60 {α:Type} (id:Nat) (K:α→Option Out) (a:α):U3 id K a=Go.Cb.blkK id (K a):=a8 rfl
theorem b2J {α:Type} (x:Option α) (f:α→Option Out) (g:List AV→St→Option Out):Go.Cb.seqK (Go.Cb.obind x f) g=Go.Cb.obind x (H5 f g):=by cases x<;>rfl
theorem b2U {α:Type} (id:Nat) (x:Option α) (f:α→Option Out):Go.Cb.blkK id (Go.Cb.obind x f)=Go.Cb.obind x (U3 id f):=by cases x<;>rfl
def a3N (call:b9) (n:Nat) (a:ACode) (fr:List AV) (st:St) (_:Unit):Option Out:=j1 call n a fr st
def c08 (A:Unit→Option Out) (g:List AV→St→Option Out) (u:Unit):Option Out:=Go.Cb.seqK (A u) g
def c1j (id:Nat) (A:Unit→Option Out) (u:Unit):Option Out:=Go.Cb.blkK id (A u)
theorem c8k (call:b9) (n:Nat) (a:ACode) (fr:List AV) (st:St) (u:Unit):a3N call n a fr st u=j1 call n a fr st:=a8 rfl
theorem c76 (A:Unit→Option Out) (g:List AV→St→Option Out) (u:Unit):c08 A g u=Go.Cb.seqK (A u) g:=a8 rfl
theorem c7A (id:Nat) (A:Unit→Option Out) (u:Unit):c1j id A u=Go.Cb.blkK id (A u):=a8 rfl
def brT (c:AV) (A B:Unit→Option Out):Option Out:=match c with
 | .bool true=>A ()
 | .bool false=>B ()
 | _=>none
theorem c0a (A B:Unit→Option Out):brT (.bool true) A B=A ():=a8 rfl
theorem b8n (A B:Unit→Option Out):brT (.bool false) A B=B ():=a8 rfl
theorem j5 {c e:AV} {A B:Unit→Option Out} (h:c=e):brT c A B=brT e A B:=by rw[h]
theorem b9g (c:AV) (A B:Unit→Option Out) (g:List AV→St→Option Out):Go.Cb.seqK (brT c A B) g=brT c (c08 A g) (c08 B g):=by
 cases c<;>try rfl
 rename_i b; cases b<;>rfl
theorem c0I (id:Nat) (c:AV) (A B:Unit→Option Out):Go.Cb.blkK id (brT c A B)=brT c (c1j id A) (c1j id B):=by
 cases c<;>try rfl
 rename_i b; cases b<;>rfl
theorem d0e (call:b9) (n:Nat) (c:AV) (a b:ACode) (fr:List AV) (st:St):Go.Cb.br c (j1 call n a fr st) (j1 call n b fr st)=brT c (a3N call n a fr st) (a3N call n b fr st):=by cases c<;>try rfl
theorem a1D (call:b9) (n:Nat) (kill:List Nat) (ps:List AOper) (c:Opd) (a b:ACode) (fr:List AV) (st:St) :
 j1 call n (.test kill ps c a b) fr st=a9f call ps ⟨m9 kill fr,fun _=>.undef,st⟩ fun σ=>brT (c.read σ) (a3N call n a σ.fr σ.st) (a3N call n b σ.fr σ.st):=by
 rw[a9Z];simp only[d0e]
def a7L (call:b9) (n:Nat) (x:ACode) (fr:List AV) (st:St):Option Out:=j1 call n (.loop x) fr st
theorem b5F (call:b9) (n:Nat) (x:ACode) (fr:List AV) (st:St):j1 call n (.loop x) fr st=Go.Cb.obind (a7L call n x fr st) some:=by unfold a7L; cases j1 call n (.loop x) fr st<;>rfl
theorem wi {c:Bool} {A B:Nat→Unit→Option Out} {Q:Out→Prop} (l:c=true→WC (fun n=>A n ()) Q) (e:c=false→WC (fun n=>B n ()) Q):WC (fun n=>brT (.bool c) (A n) (B n)) Q:=by
 cases c with
 | true=>exact l rfl
 | false=>exact e rfl
theorem wg {tbl:Nat→Option AFn} {β:Type} {x:ACode} {K:Nat→Out→Option β} {Q:β→Prop} (I:Nat→List AV→St→Prop) {m:Nat} {fr:List AV} {st:St} (l:I m fr st)
 (t:∀ m fr st,I m fr st→WC (fun n=>j1 (k7 tbl n) n x fr st) (fun o=>(∃ m' e st',o=(.normal,e,st')∧m' < m∧I m' e st')∨(o.1≠.normal∧WC (fun n=>K n o) Q))) :
 WC (fun n=>Go.Cb.obind (a7L (k7 tbl n) n x fr st) (K n)) Q:=WC.obind (WC.loop I l t) fun _ u=>u
theorem wo {β:Type} {c want:Bool} {st:St} {E:Nat→Option (AV×St)} {k:Nat→AV×St→Option β} {Q:β→Prop} (u:c=want→WC (fun n=>Go.Cb.obind (E n) (k n)) Q) (t:c=!want→WC (fun n=>k n (.tuple [],st)) Q) :
 WC (fun n=>Go.Cb.obind (gv2 (.bool c) want st (E n)) (k n)) Q:=by
 by_cases h:c=want
 · subst h;have e:∀ n,gv2 (.bool c) c st (E n)=E n:=fun n=>by cases c<;>rfl
   simp only[e];exact u rfl
 · have l:c=!want:=by cases c<;>cases want<;>simp_all
   have e:∀ n,gv2 (.bool c) want st (E n)=some (.tuple [],st):=fun n=>by subst l; cases want<;>rfl
   simp only[e,y9];exact t l
end Go.Cb
namespace Go.Cb
def W (a:AV):AV:=AV.weak (AV.stripB a)
def brE (c:AV) (call:b9) (n:Nat) (a b:ACode) (fr:List AV) (st:St):Option Out:=brT c (a3N call n a fr st) (a3N call n b fr st)
def m1 {β:Type} (a:AV) (f:AV→Option β):Option β:=obind (p1 (some (a,AV.undef,([]:St)))) f
def gm {β:Type} (x:AV) (w:Bool) (a:AV) (f:AV→Option β):Option β:=obind (gv x w (some a)) f
theorem j9 {β:Type} {a e:AV} {f:AV→Option β} (h:a=e):m1 a f=m1 e f:=by rw[h]
theorem j8 {β:Type} {x t a l:AV} {w:Bool} {f:AV→Option β} (u:x=t) (v:t=.bool w→a=l):gm x w a f=gm t w l f:=by unfold gm;rw[j4 (e:=some a) (e':=some l) u (fun h=>by rw[v h])]
end Go.Cb
namespace Go.Cb.R
open Go.Cb
theorem d4n (call:b9) (bx:AV) (st:St) (a:AV):a2D call [a] bx st=some (a,bx,st):=a8 rfl
theorem b4C (call:b9) (bx:AV) (st:St) (o f:Nat):G3 call [.ptr o f] bx st=some (.ptr o f,bx,st):=a8 rfl
theorem b5m (call:b9) (bx:AV) (st:St) (o f:Nat):G3 call [.loc o f] bx st=some (.loc o f,bx,st):=a8 rfl
theorem b8I (call:b9) (bx:AV) (st:St) (cs:List AV):G3 call [.ro cs] bx st=some (.ro cs,bx,st):=a8 rfl
theorem b3j (call:b9) (bx:AV) (st:St) (f:Nat) (a b:List AV):G3 call [.func f a b] bx st=some (.func f a b,bx,st):=a8 rfl
theorem c3O (call:b9) (st:St) (zero:List AV):U0 zero call [] .undef st=some (.undef,.box zero,st):=a8 rfl
theorem c7b (call:b9) (st:St) (a:AV):a0M call [a] .undef st=if a.plain then some (.undef,.box a.cellsW,st)else none:=a8 rfl
theorem b81 (call:b9) (bx:AV) (st:St) (zero:List AV):M5 zero call [] bx st=some (.ptr st.length 0,bx,st++[.cells zero]):=a8 rfl
theorem c8S (call:b9) (bx:AV) (st:St) (a:AV):X6 call [a] bx st=if a.plain then some (.ptr st.length 0,bx,st++[.cells a.cellsW])else none:=a8 rfl
theorem c4w (call:b9) (bx:AV) (st:St) (zero:List AV) (e:List (Nat×Nat)) (as:List AV):N0 zero e call as bx st=(L1 e as zero).map fun cs=>(.agg cs,bx,st):=a8 rfl
theorem c0f (call:b9) (bx:AV) (st:St) (sz:Nat) (zero:List (List AV)) (at_:List Nat) (as:List AV):P7 sz zero at_ call as bx st=(J2 sz at_ as zero).map fun rs=>(.list true rs,bx,st):=a8 rfl
theorem c8Y (call:b9) (st:St) (i off n:Nat) (agg:Bool) (cs:List AV):P3 i agg n call [.loc i off] (.box cs) st=(l8 agg n (cs.drop off)).map (fun v=>(v,.box cs,st)):=by unfold P3; simp only[if_true]
theorem c9n (call:b9) (bx:AV) (st:St) (o off n:Nat) (agg:Bool):F4 agg n call [.ptr o off] bx st=match st[o]? with|some (.cells cs)=>(l8 agg n (cs.drop off)).map (fun v=>(v,bx,st))|_=>none:=a8 rfl
theorem c8Z (call:b9) (bx:AV) (st:St) (n:Nat) (agg:Bool) (cs:List AV):X1 agg n call [.ro cs] bx st=(l8 agg n cs).map (fun v=>(v,bx,st)):=a8 rfl
theorem c4W (call:b9) (bx:AV) (st:St) (n:Nat) (agg:Bool) (cs:List AV):J0 agg n call [.ro cs] bx st=(l8 agg n cs).map (fun v=>(v,bx,st)):=a8 rfl
theorem ldAn_ptr (call:b9) (bx:AV) (st:St) (o off n:Nat) (agg:Bool):J0 agg n call [.ptr o off] bx st=match st[o]? with|some (.cells cs)=>(l8 agg n (cs.drop off)).map (fun v=>(v,bx,st))|_=>none:=a8 rfl
theorem c58 (call:b9) (st:St) (i off:Nat) (cs:List AV):U2 i call [.loc i off] (.box cs) st=match cs[off]? with|some c=>some (c,.box (cs.set off c.weak1),st)|none=>none:=by unfold U2; simp only[if_true]; rfl
theorem c4L (call:b9) (bx:AV) (st:St) (o off:Nat):E6 call [.ptr o off] bx st=match st[o]? with|some (.cells cs)=>(match cs[off]? with|some c=>some (c,bx,st.set o (.cells (cs.set off c.weak1)))|none=>none)|_=>none:=a8 rfl
theorem c8b (call:b9) (st:St) (i n off:Nat) (x:AV) (cs:List AV):K5 i n call [.loc i off,x] (.box cs) st=if x.plain=true∧x.cells.length=n∧off+n≤cs.length then some (.tuple [],.box (u9 cs off x.cells),st)else none:=by unfold K5; simp only[true_and]
theorem c9S (call:b9) (bx:AV) (st:St) (o off n:Nat) (x:AV):I8 n call [.ptr o off,x] bx st=match st[o]? with|some (.cells cs)=>(if x.plain=true∧x.cells.length=n∧off+n≤cs.length then some (.tuple [],bx,st.set o (.cells (u9 cs off x.cells)))else none)|_=>none:=by unfold I8; simp only[fL_eq]; rfl
theorem c5p (call:b9) (bx:AV) (st:St) (off o f:Nat):M7 off call [.ptr o f] bx st=some (.ptr o (f+off),bx,st):=a8 rfl
theorem c3S (call:b9) (bx:AV) (st:St) (off o f:Nat):M7 off call [.loc o f] bx st=some (.loc o (f+off),bx,st):=a8 rfl
theorem c9H (call:b9) (bx:AV) (st:St) (off:Nat) (cs:List AV):M7 off call [.ro cs] bx st=some (.ro (cs.drop off),bx,st):=a8 rfl
theorem d1m (call:b9) (bx:AV) (st:St) (off n:Nat) (agg:Bool) (cs:List AV):a0y off n agg call [.agg cs] bx st=if off+n≤cs.length then(l8 agg n (cs.drop off)).map (fun v=>(v,bx,st))else none:=a8 rfl
theorem d2M (call:b9) (bx:AV) (st:St) (sz:Nat) (w:Bool) (xs:List (List AV)) (k:IntKind) (i:Int):L0 sz call [.list w xs,.int k i] bx st=if 0≤i then(match xs[i.toNat]? with|some r=>if r.length=sz then some (.ro r,bx,st)else none|none=>none)else none:=a8 rfl
theorem c7g (call:b9) (bx:AV) (st:St) (sz o f n s:Nat) (k:IntKind) (i:Int):L0 sz call [.sl o f n s,.int k i] bx st=if 0≤i∧i < (n:Int)∧s=sz then some (.ptr o (f+i.toNat*sz),bx,st)else none:=a8 rfl
theorem b8R (call:b9) (bx:AV) (st:St):H2 call [.nils] bx st=some (.int .i64 0,bx,st):=a8 rfl
theorem c5M (call:b9) (bx:AV) (st:St) (o f n s:Nat):H2 call [.sl o f n s] bx st=some (.int .i64 n,bx,st):=a8 rfl
theorem b8O (call:b9) (bx:AV) (st:St) (sz:Nat) (zero:List (List AV)) (at_:List Nat) (as:List AV):M6 sz zero at_ call as bx st=(C9 sz at_ as zero).map fun rs=>(.fresh rs,bx,st):=a8 rfl
theorem b7Y (call:b9) (bx:AV) (st:St) (sz:Nat) (zero:List (List AV)) (at_:List Nat) (as:List AV):M3 sz zero at_ call as bx st=(C9 sz at_ as zero).map fun rs=>(.sl st.length 0 zero.length sz,bx,st++[.cells rs.flatten]):=a8 rfl
theorem c9W (call:b9) (bx:AV) (st:St) (k e:IntKind) (a b:Int):a0T call [.int k a,.int e b] bx st=if k=e then some (.int k (b4p a b),bx,st)else none:=a8 rfl
theorem c6X (call:b9) (bx:AV) (st:St) (neg:Bool) (k e:IntKind) (a b:Int) (s t:List Nat):a0N neg call [.agg [.int k a,.str s],.agg [.int e b,.str t]] bx st=if k=e then some (.bool (a7D neg a b s t),bx,st)else none:=a8 rfl
theorem b2x (sz:Nat) (rs:List (List AV)):C9 sz [] [] rs=some rs:=a8 rfl
theorem b23 (sz i:Nat) (is:List Nat) (p:AV) (ps:List AV) (rs:List (List AV)):C9 sz (i::is) (p::ps) rs=if p.plain=true∧p.cells.length=sz∧i < rs.length then C9 sz is ps (rs.set i (p.cells.map AV.cellW1))else none:=a8 rfl
theorem b9R (call:b9) (bx:AV) (st:St) (sz bytes:Nat) (ys:List (List AV)) (gs:List AV):F7 sz bytes call (.list true []::.fresh ys::gs) bx st=if ys.isEmpty=false∧k9 sz ys=true∧ys.length*bytes≤2 ^ 47∧S9 none st.length gs=true then some (.sl st.length 0 ys.length sz,bx,st++[.cells ys.flatten])else none:=a8 rfl
theorem appM_nils (call:b9) (bx:AV) (st:St) (sz bytes:Nat) (ys:List (List AV)) (gs:List AV):F7 sz bytes call (.nils::.fresh ys::gs) bx st=if ys.isEmpty=false∧k9 sz ys=true∧ys.length*bytes≤2 ^ 47∧S9 none st.length gs=true then some (.sl st.length 0 ys.length sz,bx,st++[.cells ys.flatten])else none:=a8 rfl
theorem appM_sl (call:b9) (bx:AV) (st:St) (sz bytes o n s:Nat) (ys:List (List AV)) (gs:List AV):F7 sz bytes call (.sl o 0 n s::.fresh ys::gs) bx st=match st[o]? with|some (.cells xs)=>(if s=sz∧ys.isEmpty=false∧k9 sz ys=true∧xs.length=n*sz∧(n+ys.length)*bytes≤2 ^ 47∧S9 (some o) st.length gs=true then some (.sl st.length 0 (n+ys.length) sz,bx,st.set o .dead++[.cells (xs++ys.flatten)])else none)|_=>none:=a8 rfl
theorem c5d (o:Option Nat) (n:Nat):S9 o n []=true:=a8 rfl
theorem c4s (o:Option Nat) (n p f:Nat) (gs:List AV):S9 o n (.ptr p f::gs)=(Nat.blt p n && (match o with|some o=>!Nat.beq p o|none=>true) && S9 o n gs):=a8 rfl
theorem c6H {α:Type}:([]:List (List α)).flatten=[]:=a8 rfl
theorem c85 {α:Type} (a:List α) (l:List (List α)):(a::l).flatten=a++l.flatten:=a8 rfl
theorem d0F (call:b9) (bx:AV) (st:St) (w:Bool) (xs:List (List AV)):a0x call [.list w xs] bx st=(R6 xs).map fun s=>(.str s,bx,st):=a8 rfl
theorem b8P:R6 []=some []:=a8 rfl
theorem b8B (n:Int) (rs:List (List AV)):R6 ([.int .u8 n]::rs)=if 0≤n∧n < 256 then(R6 rs).map (n.toNat::·)else none:=a8 rfl
theorem c4m (call:b9) (bx:AV) (st:St) (len sz:Nat) (cs:List AV) (k:IntKind) (i:Int):P2 len sz call [.ro cs,.int k i] bx st=if 0≤i∧i < (len:Int)then some (.ro (cs.drop (i.toNat*sz)),bx,st)else none:=a8 rfl
theorem c0O (call:b9) (bx:AV) (st:St) (len sz o f:Nat) (k:IntKind) (i:Int):P2 len sz call [.ptr o f,.int k i] bx st=if 0≤i∧i < (len:Int)then some (.ptr o (f+i.toNat*sz),bx,st)else none:=a8 rfl
theorem c0u (call:b9) (bx:AV) (st:St) (len sz o f:Nat) (k:IntKind) (i:Int):P2 len sz call [.loc o f,.int k i] bx st=if 0≤i∧i < (len:Int)then some (.loc o (f+i.toNat*sz),bx,st)else none:=a8 rfl
theorem c8w (call:b9) (bx:AV) (st:St) (s:List Nat) (k:IntKind) (i:Int):R3 call [.str s,.int k i] bx st=if 0≤i then(match s[i.toNat]? with|some b=>some (.int .u8 b,bx,st)|none=>none)else none:=a8 rfl
theorem d0Q (call:b9) (bx:AV) (st:St) (e hi:Bool) (s:List Nat) (r:List AV):Y5 e hi call (.str s::r) bx st=(I2 e hi r s.length).map fun p=>(.str ((s.take p.2).drop p.1),bx,st):=a8 rfl
theorem c8v (call:b9) (bx:AV) (st:St) (sz:Nat) (e hi:Bool) (o f n s:Nat) (r:List AV):Y1 sz e hi call (.sl o f n s::r) bx st=if s=sz then(slB e hi r n).map fun p=>(.sl o (f+p.1*sz) (p.2 - p.1) s,bx,st)else none:=a8 rfl
theorem d1r (call:b9) (bx:AV) (st:St) (sz:Nat) (e hi:Bool) (w:Bool) (xs:List (List AV)) (r:List AV):Y1 sz e hi call (.list w xs::r) bx st=if k9 sz xs then(I2 e hi r xs.length).map fun p=>(.list false ((xs.take p.2).drop p.1),bx,st)else none:=a8 rfl
theorem d2r (call:b9) (bx:AV) (st:St) (w:Bool) (xs:List (List AV)):a0q call [.list w xs] bx st=some (.list true [],bx,st):=a8 rfl
theorem d2q (call:b9) (bx:AV) (st:St) (len sz:Nat) (e hi:Bool) (cs r:List AV):a0h len sz e hi call (.ro cs::r) bx st=if cs.length=len*sz then(I2 e hi r len).map fun p=>(.list false (((a1d sz len cs).take p.2).drop p.1),bx,st)else none:=a8 rfl
theorem d2I (call:b9) (bx:AV) (st:St) (op:BinOp) (a b:AV):E2 op call [a,b] bx st=(n9 op a b).map (fun v=>(v,bx,st)):=a8 rfl
theorem d0r (call:b9) (bx:AV) (st:St) (op:BinOp) (a b:AV):V0 op call [a,b] bx st=(a7I op a b).map (fun v=>(v,bx,st)):=a8 rfl
theorem c7z (call:b9) (bx:AV) (st:St) (op:BinOp) (a b:AV):X2 op call [a,b] bx st=(a1B op a b).map (fun v=>(v,bx,st)):=a8 rfl
theorem d0k (k:IntKind) (a b:Int):n9 .add (.int k a) (.int k b)=some (.int k (n4 k (a2W a b))):=by simp only[n9,if_true]
theorem c8U (k:IntKind) (a b:Int):n9 .sub (.int k a) (.int k b)=some (.int k (n4 k (a1v a b))):=by simp only[n9,if_true]
theorem d0b (k:IntKind) (a b:Int):n9 .mul (.int k a) (.int k b)=some (.int k (n4 k (a*b))):=by simp only[n9,if_true]
theorem d0o (k:IntKind) (a b:Int):n9 .quo (.int k a) (.int k b)=if b=0 then none else some (.int k (k.wrap (a.tdiv b))):=by simp only[n9,if_true]
theorem d0u (k:IntKind) (a b:Int):n9 .rem (.int k a) (.int k b)=if b=0 then none else some (.int k (a.tmod b)):=by simp only[n9,if_true]
theorem c6Q (k:IntKind) (a b:Int):n9 .eql (.int k a) (.int k b)=some (.bool (eqI a b)):=by simp only[n9,if_true]
theorem c8i (k:IntKind) (a b:Int):n9 .neq (.int k a) (.int k b)=some (.bool !(eqI a b)):=by simp only[n9,if_true]
theorem c6T (k:IntKind) (a b:Int):n9 .lss (.int k a) (.int k b)=some (.bool (ltI a b)):=by simp only[n9,if_true]
theorem c8H (k:IntKind) (a b:Int):n9 .leq (.int k a) (.int k b)=some (.bool !(ltI b a)):=by simp only[n9,if_true]
theorem c83 (k:IntKind) (a b:Int):n9 .gtr (.int k a) (.int k b)=some (.bool (ltI b a)):=by simp only[n9,if_true]
theorem c8I (k:IntKind) (a b:Int):n9 .geq (.int k a) (.int k b)=some (.bool !(ltI a b)):=by simp only[n9,if_true]
theorem c7Q (a b:List Nat):n9 .add (.str a) (.str b)=if a.length+b.length≤2 ^ 62 then some (.str (a++b))else none:=a8 rfl
theorem c6I (a b:List Nat):n9 .eql (.str a) (.str b)=some (.bool (eqN a b)):=a8 rfl
theorem c6i (a b:List Nat):n9 .neq (.str a) (.str b)=some (.bool !(eqN a b)):=a8 rfl
theorem c9g (a b:List Nat):n9 .lss (.str a) (.str b)=some (.bool (p8 a b)):=a8 rfl
theorem c6q (a b:Bool):a7I .eql (.bool a) (.bool b)=some (.bool (a == b)):=a8 rfl
theorem d0c (a b:Bool):a7I .neq (.bool a) (.bool b)=some (.bool !(a == b)):=a8 rfl
theorem c5J (o f:Nat):a1B .eql (.ptr o f) .nilp=some (.bool false):=a8 rfl
theorem c3H (o f:Nat):a1B .eql .nilp (.ptr o f)=some (.bool false):=a8 rfl
theorem c3N:a1B .eql .nilp .nilp=some (.bool true):=a8 rfl
theorem c53 (o f:Nat):a1B .neq (.ptr o f) .nilp=some (.bool true):=a8 rfl
theorem c5h (o f:Nat):a1B .neq .nilp (.ptr o f)=some (.bool true):=a8 rfl
theorem c3I:a1B .neq .nilp .nilp=some (.bool false):=a8 rfl
theorem c9F (call:b9) (bx:AV) (st:St) (b:Bool):a04 .not call [.bool b] bx st=some (.bool !b,bx,st):=a8 rfl
theorem c6O (call:b9) (bx:AV) (st:St) (k:IntKind) (n:Int):a04 .neg call [.int k n] bx st=some (.int k (n4 k (0 - n)),bx,st):=a8 rfl
theorem d0d (call:b9) (bx:AV) (st:St) (k e:IntKind) (n:Int):X5 k call [.int e n] bx st=some (.int k (n4 k n),bx,st):=a8 rfl
theorem d2n (call:b9) (bx:AV) (st:St) (f n:Nat) (as:List AV):a0p f n call as bx st=if C7 as then some (.func f ((as.map AV.weak).take n) ((as.map AV.weak).drop n),bx,st)else none:=a8 rfl
theorem d2f (call:b9) (bx:AV) (st:St):a1l call [] bx st=some (.map st.length,bx,st++[.map []]):=a8 rfl
theorem d1O (call:b9) (bx:AV) (st:St) (i:Nat) (vs:List AV):Y2 i call [.tuple vs] bx st=match vs[i]? with|some v=>some (v.weak,bx,st)|none=>none:=a8 rfl
theorem c6y (call:b9) (bx:AV) (st:St) (s:List Nat):X7 call [.str s] bx st=some (.int .i64 s.length,bx,st):=a8 rfl
theorem c87 (call:b9) (bx:AV) (st:St) (w:Bool) (xs:List (List AV)):H2 call [.list w xs] bx st=some (.int .i64 xs.length,bx,st):=a8 rfl
theorem d1K (call:b9) (bx:AV) (st:St) (sz bytes:Nat) (w:Bool) (xs ys:List (List AV)):a0C sz bytes call [.list true xs,.list w ys] bx st=if k9 sz xs && k9 sz ys && decide ((xs.length+ys.length)*bytes≤2 ^ 47)then some (.list true (xs++ys),bx,st)else none:=a8 rfl
theorem takeVal_t (n:Nat) (cs:List AV):l8 true n cs=if n≤cs.length then some (.agg ((cs.take n).map AV.weak1))else none:=a8 rfl
theorem b7Q (n:Nat) (c:AV) (cs:List AV):l8 false n (c::cs)=some c.weak1:=a8 rfl
theorem b5c (cs:List AV):L1 [] [] cs=some cs:=a8 rfl
theorem b59 (off n:Nat) (e:List (Nat×Nat)) (p:AV) (ps cs:List AV):L1 ((off,n)::e) (p::ps) cs=if p.plain=true∧p.cells.length=n∧off+n≤cs.length then L1 e ps (u9 cs off p.cells)else none:=a8 rfl
theorem b5W (sz:Nat) (rs:List (List AV)):J2 sz [] [] rs=some rs:=a8 rfl
theorem b5D (sz i:Nat) (is:List Nat) (p:AV) (ps:List AV) (rs:List (List AV)):J2 sz (i::is) (p::ps) rs=if p.plain=true∧p.cells.length=sz∧i < rs.length then J2 sz is ps (rs.set i (p.cells.map AV.weak1))else none:=a8 rfl
theorem b9n (cs:List AV) (off:Nat) (new:List AV):u9 cs off new=cs.take off++new++cs.drop (off+new.length):=a8 rfl
theorem b7E (n:Nat):I2 false false [] n=some (0,n):=a8 rfl
theorem b8c (l:AV) (n:Nat):I2 true false [l] n=(S8 l n).map fun l=>(l,n):=a8 rfl
theorem b6U (h:AV) (n:Nat):I2 false true [h] n=(S8 h n).map fun h=>(0,h):=a8 rfl
theorem b7i (l h:AV) (n:Nat):I2 true true [l,h] n=match S8 h n with|some h=>(S8 l h).map (fun l=>(l,h))|none=>none:=a8 rfl
theorem c5z (k:IntKind) (i:Int) (e:Nat):S8 (.int k i) e=if 0≤i∧i≤(e:Int)then some i.toNat else none:=a8 rfl
theorem b9T (sz:Nat):k9 sz []=true:=a8 rfl
theorem c1o (sz:Nat) (r:List AV) (rs:List (List AV)):k9 sz (r::rs)=(r.length == sz):=a8 rfl
theorem c5O (i:Nat) (cs:List AV):a5q i (.box cs)=.loc i 0:=a8 rfl
theorem b5p (b:Bool):AV.plain (.bool b)=true:=a8 rfl
theorem b5t (b:Bool):AV.cells (.bool b)=[.bool b]:=a8 rfl
theorem b2I (b:Bool):AV.cellW1 (.bool b)=.bool b:=a8 rfl
theorem b2D (b:Bool):AV.cellsW (.bool b)=[.bool b]:=a8 rfl
theorem b8H (k:IntKind) (n:Int):AV.plain (.int k n)=true:=a8 rfl
theorem b8w (k:IntKind) (n:Int):AV.cells (.int k n)=[.int k n]:=a8 rfl
theorem b5z (k:IntKind) (n:Int):AV.cellW1 (.int k n)=.int k n:=a8 rfl
theorem b4Y (k:IntKind) (n:Int):AV.cellsW (.int k n)=[.int k n]:=a8 rfl
theorem plain_str (s:List Nat):AV.plain (.str s)=true:=a8 rfl
theorem b8u (s:List Nat):AV.cells (.str s)=[.str s]:=a8 rfl
theorem b56 (s:List Nat):AV.cellW1 (.str s)=.str s:=a8 rfl
theorem b4z (s:List Nat):AV.cellsW (.str s)=[.str s]:=a8 rfl
theorem b45 (w:Bool) (xs:List (List AV)):AV.plain (.list w xs)=true:=a8 rfl
theorem b5b (w:Bool) (xs:List (List AV)):AV.cells (.list w xs)=[.list w xs]:=a8 rfl
theorem b8m (o f:Nat):AV.plain (.ptr o f)=true:=a8 rfl
theorem b6O (o f:Nat):AV.cells (.ptr o f)=[.ptr o f]:=a8 rfl
theorem b4U (o f:Nat):AV.cellW1 (.ptr o f)=.ptr o f:=a8 rfl
theorem b58 (o f:Nat):AV.cellsW (.ptr o f)=[.ptr o f]:=a8 rfl
theorem b4F :AV.plain (.nilp)=true:=a8 rfl
theorem b4w :AV.cells (.nilp)=[.nilp]:=a8 rfl
theorem b3d :AV.cellW1 (.nilp)=.nilp:=a8 rfl
theorem b27 :AV.cellsW (.nilp)=[.nilp]:=a8 rfl
theorem c0i (cs:List AV):AV.plain (.ro cs)=true:=a8 rfl
theorem c0c (cs:List AV):AV.cells (.ro cs)=[.ro cs]:=a8 rfl
theorem b6F (cs:List AV):AV.cellW1 (.ro cs)=.ro cs:=a8 rfl
theorem b6I (cs:List AV):AV.cellsW (.ro cs)=[.ro cs]:=a8 rfl
theorem b69 (o:Nat):AV.plain (.map o)=true:=a8 rfl
theorem b7I (o:Nat):AV.cells (.map o)=[.map o]:=a8 rfl
theorem b5w (o:Nat):AV.cellW1 (.map o)=.map o:=a8 rfl
theorem b6o (o:Nat):AV.cellsW (.map o)=[.map o]:=a8 rfl
theorem b4v :AV.plain (.nilm)=true:=a8 rfl
theorem b4Q :AV.cells (.nilm)=[.nilm]:=a8 rfl
theorem b2N :AV.cellW1 (.nilm)=.nilm:=a8 rfl
theorem b3a :AV.cellsW (.nilm)=[.nilm]:=a8 rfl
theorem b5j (f:Nat) (a b:List AV):AV.plain (.func f a b)=true:=a8 rfl
theorem b4V (f:Nat) (a b:List AV):AV.cells (.func f a b)=[.func f a b]:=a8 rfl
theorem b29 (f:Nat) (a b:List AV):AV.cellW1 (.func f a b)=.func f a b:=a8 rfl
theorem b2B (f:Nat) (a b:List AV):AV.cellsW (.func f a b)=[.func f a b]:=a8 rfl
theorem b6E :AV.plain (.nilf)=true:=a8 rfl
theorem b5M :AV.cells (.nilf)=[.nilf]:=a8 rfl
theorem b2G :AV.cellW1 (.nilf)=.nilf:=a8 rfl
theorem b2X :AV.cellsW (.nilf)=[.nilf]:=a8 rfl
theorem c0V (o f n s:Nat):AV.plain (.sl o f n s)=true:=a8 rfl
theorem b9W (o f n s:Nat):AV.cells (.sl o f n s)=[.sl o f n s]:=a8 rfl
theorem b6R (o f n s:Nat):AV.cellW1 (.sl o f n s)=.sl o f n s:=a8 rfl
theorem b7C (o f n s:Nat):AV.cellsW (.sl o f n s)=[.sl o f n s]:=a8 rfl
theorem b3g (t:Nat) (v:AV):AV.plain (.iface t v)=true:=a8 rfl
theorem b22 (t:Nat) (v:AV):AV.cells (.iface t v)=[.iface t v]:=a8 rfl
theorem b1E (t:Nat) (v:AV):AV.cellW1 (.iface t v)=.iface t v:=a8 rfl
theorem b0D (t:Nat) (v:AV):AV.cellsW (.iface t v)=[.iface t v]:=a8 rfl
theorem b6h :AV.plain (.nili)=true:=a8 rfl
theorem b6g :AV.cells (.nili)=[.nili]:=a8 rfl
theorem b28 :AV.cellW1 (.nili)=.nili:=a8 rfl
theorem b2W :AV.cellsW (.nili)=[.nili]:=a8 rfl
theorem b5J :AV.plain (.nils)=true:=a8 rfl
theorem b44 :AV.cells (.nils)=[.nils]:=a8 rfl
theorem b3e :AV.cellW1 (.nils)=.nils:=a8 rfl
theorem b3k :AV.cellsW (.nils)=[.nils]:=a8 rfl
theorem b21 (w:Bool) (xs:List (List AV)):AV.cellW1 (.list w xs)=.list (w && xs.isEmpty) xs:=a8 rfl
theorem plain_agg (cs:List AV):AV.plain (.agg cs)=true:=a8 rfl
theorem b6V (cs:List AV):AV.cells (.agg cs)=cs:=a8 rfl
theorem b6D (cs:List AV):AV.cellsW (.agg cs)=cs:=a8 rfl
theorem b2F (w:Bool) (xs:List (List AV)):AV.cellsW (.list w xs)=[.list (w && xs.isEmpty) xs]:=a8 rfl
theorem allPlain_n:C7 []=true:=a8 rfl
theorem allPlain_c (a:AV) (as:List AV):C7 (a::as)=(a.plain && C7 as):=a8 rfl
theorem d2k {α β:Type} (f:α→β):List.map f []=[]:=a8 rfl
theorem d1Z {α β:Type} (f:α→β) (a:α) (l:List α):List.map f (a::l)=f a::l.map f:=a8 rfl
theorem c6P {α:Type} (l:List α):List.drop 0 l=l:=a8 rfl
theorem c8y {α:Type} (n:Nat) (a:α) (l:List α):List.drop (n+1) (a::l)=l.drop n:=a8 rfl
theorem c9K {α:Type} (n:Nat):List.drop n ([]:List α)=[]:=by cases n<;>rfl
theorem c69 {α:Type} (l:List α):List.take 0 l=[]:=a8 rfl
theorem c7m {α:Type} (n:Nat) (a:α) (l:List α):List.take (n+1) (a::l)=a::l.take n:=a8 rfl
theorem c6A {α:Type} (n:Nat):List.take n ([]:List α)=[]:=by cases n<;>rfl
theorem d16 {α:Type}:([]:List α).length=0:=a8 rfl
theorem d0X {α:Type} (a:α) (l:List α):(a::l).length=l.length+1:=a8 rfl
theorem d1j {α:Type} (a:α) (l m:List α):(a::l)++m=a::(l++m):=a8 rfl
theorem d0J {α:Type} (l:List α):[]++l=l:=a8 rfl
theorem c5r {α:Type} (l:List α):l++[]=l:=List.append_nil l
theorem d0R {α:Type} (a:α) (l:List α):(a::l)[0]?=some a:=a8 rfl
theorem d1v {α:Type} (n:Nat) (a:α) (l:List α):(a::l)[n+1]?=l[n]?:=a8 rfl
theorem d1D {α:Type} (a b:α) (l:List α):(a::l).set 0 b=b::l:=a8 rfl
theorem d0M {α:Type} (n:Nat) (a b:α) (l:List α):(a::l).set (n+1) b=a::l.set n b:=a8 rfl
theorem d14 {α:Type} (a:α):List.replicate 0 a=[]:=a8 rfl
theorem d2d {α:Type} (n:Nat) (a:α):List.replicate (n+1) a=a::List.replicate n a:=a8 rfl
theorem c7q {α β:Type} (f:α→β) (a:α):Option.map f (some a)=some (f a):=a8 rfl
theorem c8a {α β:Type} (f:α→β):Option.map f none=none:=a8 rfl
theorem d1b {α:Type}:([]:List α).isEmpty=true:=a8 rfl
theorem d1W {α:Type} (a:α) (l:List α):(a::l).isEmpty=false:=a8 rfl
theorem d1o {α:Type} (a b:α):(if True then a else b)=a:=if_pos trivial
theorem d1f {α:Type} (a b:α):(if False then a else b)=b:=if_neg (fun h=>h)
theorem d10 {α:Type} (a b:α):(if true=true then a else b)=a:=if_pos rfl
theorem d2G {α:Type} (a b:α):(if false=true then a else b)=b:=if_neg (fun h=>by cases h)
theorem c9m:(true=false)=False:=by simp
theorem c7M:(false=true)=False:=by simp
theorem d18:(!true)=false:=a8 rfl
theorem d1U:(!false)=true:=a8 rfl
theorem d0U (b:Bool):(true && b)=b:=a8 rfl
theorem d02 (b:Bool):(b && true)=b:=by cases b<;>rfl
theorem d0P (b:Bool):(false && b)=false:=a8 rfl
theorem d0B (b:Bool):(b && false)=false:=by cases b<;>rfl
theorem d4I (b:Bool):(true || b)=true:=a8 rfl
theorem d4F (b:Bool):(b || true)=true:=by cases b<;>rfl
theorem d3j (b:Bool):(false || b)=b:=a8 rfl
theorem d4O (b:Bool):(b || false)=b:=by cases b<;>rfl
theorem d0V (p:Prop):(p∧True)=p:=by simp
theorem d1C (p:Prop):(True∧p)=p:=by simp
theorem d1a:decide True=true:=a8 rfl
theorem d1G:decide False=false:=a8 rfl
theorem eqs {α:Type} (a:α):(a=a)=True:=by simp
theorem nn (n:Nat):(0≤(n:Int))=True:=by simp
theorem tn (n:Nat):(n:Int).toNat=n:=Int.toNat_natCast n
theorem c95 (m n:Nat):((m:Int)≤(n:Int))=(m≤n):=by simp
theorem c9E (n:Nat):(n≤n)=True:=by simp
theorem d3z (i j:Nat):ltI (i:Int) (j:Int)=decide (i < j):=ltN i j
theorem d4E (i j:Nat):eqI (i:Int) (j:Int)=decide (i=j):=c7x i j
theorem d1P (c:AV) (call:b9) (n:Nat) (a b:ACode) (fr:List AV) (st:St):brE c call n a b fr st=brT c (a3N call n a fr st) (a3N call n b fr st):=a8 rfl
theorem d2U:(0 < (1:Nat))=True:=by simp
theorem d2X:(0 < (3:Nat))=True:=by simp
theorem d4j:(1 < (3:Nat))=True:=by simp
theorem d4q:(2 < (3:Nat))=True:=by simp
theorem il0:(0≤(0:Int))=True:=by simp
theorem it0:(0:Int).toNat=0:=a8 rfl
theorem il1:(0≤(1:Int))=True:=by simp
theorem it1:(1:Int).toNat=1:=a8 rfl
theorem il2:(0≤(2:Int))=True:=by simp
theorem it2:(2:Int).toNat=2:=a8 rfl
theorem m41:4*1=(4:Nat):=a8 rfl
theorem W_e (a:AV):W a=AV.weak (AV.stripB a):=a8 rfl
theorem d2S {β:Type} (a:AV) (f:AV→Option β):m1 a f=f a:=a8 rfl
theorem c3L {β:Type} (c w:Bool) (a:AV) (f:AV→Option β):gm (.bool c) w a f=f (gV (.bool c) w a):=by unfold gm; rw[b3P,y9]
theorem c0e {β:Type} (x:AV) (w b want:Bool) (a:AV) (f:AV→Option β):gm (gV x w (.bool b)) want a f=f (gV (gV x w (.bool b)) want a):=by unfold gm; rw[b2n,y9]
theorem c5e {β:Type} (w:Bool) (a:AV) (f:AV→Option β):gm (.tuple []) w a f=f (.tuple []):=by unfold gm; rw[b3G,y9]
theorem d0z (n:Nat):0+n=n:=Nat.zero_add n
theorem d2s (n:Nat):n+0=n:=a8 rfl
theorem b9K (n:Nat):(n == n)=true:=by simp
end Go.Cb.R
namespace Go.Cb
open Go.Cb.R
def SS:=AZ (AZ (AZ (AZ (AZ (AZ (AZ (AZ (@exec_seqK) (@b7K)) (AZ (@b9s) (AZ (@b7B) (@b7u)))) (AZ (AZ (@a6o) (AZ (@b70) (@c0R))) (AZ (@a9G) (AZ (@b0d) (@b4A))))) (AZ (AZ (AZ (@b2O) (@c90)) (AZ (@c60) (AZ (@b2J) (@b2U)))) (AZ (AZ (@c8k) (AZ (@c76) (@c7A))) (AZ (@c0a) (AZ (@b8n) (@b9g)))))) (AZ (AZ (AZ (AZ (@c0I) (@b5F)) (AZ (@c4a) (AZ (@a5Y) (@y9)))) (AZ (AZ (@d0H) (AZ (@d0D) (@d2E))) (AZ (@d0O) (AZ (@b3G) (@c6K))))) (AZ (AZ (AZ (@c7E) (@c9C)) (AZ (@c7G) (AZ (@c1N) (@d1F)))) (AZ (AZ (@d2C) (AZ (@d2H) (@d1h))) (AZ (@c5a) (AZ (@b3P) (@b2n))))))) (AZ (AZ (AZ (AZ (AZ (@c4t) (@b9q)) (AZ (@b8d) (AZ (@c8R) (@c8Q)))) (AZ (AZ (@c4A) (AZ (@c1m) (@b6J))) (AZ (@c09) (AZ (@b9L) (@b7D))))) (AZ (AZ (AZ (@c1Q) (@b7m)) (AZ (@b8U) (AZ (@c4o) (@c0b)))) (AZ (AZ (@c0y) (AZ (@b8S) (@b8h))) (AZ (@b7S) (AZ (@N3) (@c5g)))))) (AZ (AZ (AZ (AZ (@b5i) (@b72)) (AZ (@b6t) (AZ (@b6a) (@b9Y)))) (AZ (AZ (@b5u) (AZ (@b7W) (@b8r))) (AZ (@b5L) (AZ (@c03) (@b5P))))) (AZ (AZ (AZ (@b7H) (AZ (@b6j) (@b40))) (AZ (@a0a) (AZ (@b5h) (@b5H)))) (AZ (AZ (@b8L) (AZ (@b7T) (@b5I))) (AZ (@b74) (AZ (@b5K) (@b6y)))))))) (AZ (AZ (AZ (AZ (AZ (AZ (@b97) (@b8V)) (AZ (@b8p) (AZ (@b4q) (@b4l)))) (AZ (AZ (@b5V) (AZ (@b8D) (@c0v))) (AZ (@b2z) (AZ (@b24) (@b2P))))) (AZ (AZ (AZ (@b4x) (@b6l)) (AZ (@b3b) (AZ (@b6w) (@b2Y)))) (AZ (AZ (@b20) (AZ (@b60) (@b4s))) (AZ (@b4X) (AZ (@b2H) (@b2C)))))) (AZ (AZ (AZ (AZ (@b2Q) (@b4o)) (AZ (@b4r) (AZ (@b2R) (@b1n)))) (AZ (AZ (@b8X) (AZ (@b14) (@b2k))) (AZ (@d4n) (AZ (@b4C) (@b5m))))) (AZ (AZ (AZ (@b8I) (@b3j)) (AZ (@c3O) (AZ (@c7b) (@b81)))) (AZ (AZ (@c8S) (AZ (@c4w) (@c0f))) (AZ (@c8Y) (AZ (@c9n) (@c8Z))))))) (AZ (AZ (AZ (AZ (AZ (@c4W) (@ldAn_ptr)) (AZ (@c58) (AZ (@c4L) (@c8b)))) (AZ (AZ (@c9S) (AZ (@c5p) (@c3S))) (AZ (@c9H) (AZ (@d1m) (@d2M))))) (AZ (AZ (AZ (@c7g) (@b8R)) (AZ (@c5M) (AZ (@b8O) (@b7Y)))) (AZ (AZ (@c9W) (AZ (@c6X) (@b2x))) (AZ (@b23) (AZ (@b9R) (@appM_nils)))))) (AZ (AZ (AZ (AZ (@appM_sl) (@c5d)) (AZ (@c4s) (AZ (@c6H) (@c85)))) (AZ (AZ (@d0F) (AZ (@b8P) (@b8B))) (AZ (@c4m) (AZ (@c0O) (@c0u))))) (AZ (AZ (AZ (@c8w) (AZ (@d0Q) (@c8v))) (AZ (@d1r) (AZ (@d2r) (@d2q)))) (AZ (AZ (@d2I) (AZ (@d0r) (@c7z))) (AZ (@d0k) (AZ (@c8U) (@d0b))))))))) (AZ (AZ (AZ (AZ (AZ (AZ (AZ (@d0o) (@d0u)) (AZ (@c6Q) (AZ (@c8i) (@c6T)))) (AZ (AZ (@c8H) (AZ (@c83) (@c8I))) (AZ (@c7Q) (AZ (@c6I) (@c6i))))) (AZ (AZ (AZ (@c9g) (@c6q)) (AZ (@d0c) (AZ (@c5J) (@c3H)))) (AZ (AZ (@c3N) (AZ (@c53) (@c5h))) (AZ (@c3I) (AZ (@c9F) (@c6O)))))) (AZ (AZ (AZ (AZ (@d0d) (@d2n)) (AZ (@d2f) (AZ (@d1O) (@c6y)))) (AZ (AZ (@c87) (AZ (@d1K) (@takeVal_t))) (AZ (@b7Q) (AZ (@b5c) (@b59))))) (AZ (AZ (AZ (@b5W) (@b5D)) (AZ (@b9n) (AZ (@b7E) (@b8c)))) (AZ (AZ (@b6U) (AZ (@b7i) (@c5z))) (AZ (@b9T) (AZ (@c1o) (@c5O))))))) (AZ (AZ (AZ (AZ (AZ (@b5p) (@b5t)) (AZ (@b2I) (AZ (@b2D) (@b8H)))) (AZ (AZ (@b8w) (AZ (@b5z) (@b4Y))) (AZ (@plain_str) (AZ (@b8u) (@b56))))) (AZ (AZ (AZ (@b4z) (@b45)) (AZ (@b5b) (AZ (@b8m) (@b6O)))) (AZ (AZ (@b4U) (AZ (@b58) (@b4F))) (AZ (@b4w) (AZ (@b3d) (@b27)))))) (AZ (AZ (AZ (AZ (@c0i) (@c0c)) (AZ (@b6F) (AZ (@b6I) (@b69)))) (AZ (AZ (@b7I) (AZ (@b5w) (@b6o))) (AZ (@b4v) (AZ (@b4Q) (@b2N))))) (AZ (AZ (AZ (@b3a) (AZ (@b5j) (@b4V))) (AZ (@b29) (AZ (@b2B) (@b6E)))) (AZ (AZ (@b5M) (AZ (@b2G) (@b2X))) (AZ (@c0V) (AZ (@b9W) (@b6R)))))))) (AZ (AZ (AZ (AZ (AZ (AZ (@b7C) (@b3g)) (AZ (@b22) (AZ (@b1E) (@b0D)))) (AZ (AZ (@b6h) (AZ (@b6g) (@b28))) (AZ (@b2W) (AZ (@b5J) (@b44))))) (AZ (AZ (AZ (@b3e) (@b3k)) (AZ (@b21) (AZ (@plain_agg) (@b6V)))) (AZ (AZ (@b6D) (AZ (@b2F) (@allPlain_n))) (AZ (@allPlain_c) (AZ (@d2k) (@d1Z)))))) (AZ (AZ (AZ (AZ (@c6P) (@c8y)) (AZ (@c9K) (AZ (@c69) (@c7m)))) (AZ (AZ (@c6A) (AZ (@d16) (@d0X))) (AZ (@d1j) (AZ (@d0J) (@c5r))))) (AZ (AZ (AZ (@d0R) (AZ (@d1v) (@d1D))) (AZ (@d0M) (AZ (@d14) (@d2d)))) (AZ (AZ (@c7q) (AZ (@c8a) (@d1b))) (AZ (@d1W) (AZ (@d1o) (@d1f))))))) (AZ (AZ (AZ (AZ (AZ (@d10) (@d2G)) (AZ (@c9m) (AZ (@c7M) (@d18)))) (AZ (AZ (@d1U) (AZ (@d0U) (@d02))) (AZ (@d0P) (AZ (@d0B) (@d4I))))) (AZ (AZ (AZ (@d4F) (@d3j)) (AZ (@d4O) (AZ (@d0V) (@d1C)))) (AZ (AZ (@d1a) (AZ (@d1G) (@eqs))) (AZ (@nn) (AZ (@tn) (@c95)))))) (AZ (AZ (AZ (AZ (@c9E) (@d3z)) (AZ (@d4E) (AZ (@d1P) (@d2U)))) (AZ (AZ (@d2X) (AZ (@d4j) (@d4q))) (AZ (@il0) (AZ (@it0) (@il1))))) (AZ (AZ (AZ (@it1) (AZ (@il2) (@it2))) (AZ (@m41) (AZ (@W_e) (@d2S)))) (AZ (AZ (@c3L) (AZ (@c0e) (@c5e))) (AZ (@d0z) (AZ (@d2s) (@b9K)))))))))
end Go.Cb
namespace Go.Cb.V
open Go Go.Cb
def g8 (call:b9) (ops:List AOper) (σ:Sig) (k:Sig→Option Out):Option Out:=obind (q8 call ops σ) k
theorem runR_congr {call:b9} {ops:List AOper} {σ σ':Sig} {k:Sig→Option Out} (h:σ=σ'):g8 call ops σ k=g8 call ops σ' k:=by rw[h]
theorem c8e (call:b9) (σ:Sig) (k:Sig→Option Out):g8 call [] σ k=k σ:=a8 rfl
theorem a2a (call:b9) (o:AOper) (os:List AOper) (σ:Sig) (k:Sig→Option Out):g8 call (o::os) σ k=obind (l9 call o σ) fun σ=>g8 call os σ k:=by unfold g8;simp only[q8];cases l9 call o σ<;>rfl
theorem a05:∀ (as:List Opd) (σ:Sig),(d9 as σ).st=σ.st
 | [],_=>rfl
 | x::xs,σ=>by rw[d9,a05 xs]; cases x<;>rfl
section
variable (call:b9) (d:Dst) (as:List Opd) (os:List AOper) (σ:Sig) (k:Sig→Option Out)
theorem s6 {K:Kind} (l:K.setSt=false):g8 call (⟨d,K,as,none,none⟩::os) σ k=obind (p1 (sem K call (as.map (·.read σ)) .undef σ.st)) fun x=>g8 call os (d.put x (d9 as σ)) k:=by
 rw[a2a];simp only[l9];rw[R9];dsimp only;cases t:sem K call (as.map (·.read σ)) .undef σ.st with
 | none=>rfl
 | some x =>
  obtain⟨r,b,st⟩:=x;obtain rfl:=a4E l t;simp only[p1,y9];have e:({ d9 as σ with st:=σ.st }:Sig)=d9 as σ:=by have:=a05 as σ;cases h:d9 as σ;rw[h]at this;simp only at this;rw[this]
  rw[e]
theorem X3 {K:Kind}:g8 call (⟨d,K,as,none,none⟩::os) σ k=obind (p2 (sem K call (as.map (·.read σ)) .undef σ.st)) fun x=>g8 call os (d.put x.1 { d9 as σ with st:=x.2 }) k:=by
 rw[a2a];simp only[l9];rw[R9];dsimp only;cases e:sem K call (as.map (·.read σ)) .undef σ.st with
 | none=>rfl
 | some x =>obtain⟨r,b,st⟩:=x;simp only[p2,y9]
theorem b0h {K:Kind} (i:Nat):g8 call (⟨d,K,as,some i,none⟩::os) σ k=obind (sem K call (as.map (·.read σ)) (σ.fr.getD i .undef) σ.st) fun x=>g8 call os (d.put x.1 { d9 as σ with fr:=(d9 as σ).fr.set i x.2.1,st:=x.2.2 }) k:=by
 rw[a2a];simp only[l9];rw[R9];dsimp only;cases e:sem K call (as.map (·.read σ)) (σ.fr.getD i .undef) σ.st with
 | none=>rfl
 | some x =>obtain⟨r,b,st⟩:=x;simp only[y9]
end
theorem d0G {call:b9} {d:Dst} {as:List Opd} {os:List AOper} {σ:Sig} {k:Sig→Option Out} {K:Kind} {box:Option Nat} (h:(K.setSt || K.alters || j3 as)=false) :
 g8 call (⟨d,K,as,box,none⟩::os) σ k=obind (p1 (sem K call (as.map (·.read σ)) (goK.boxOf' box σ) σ.st)) fun r=>g8 call os (d.put r σ) k:=by
 rw[a2a,← a4m];simp only[a5A,goK,h]
theorem r8 {call:b9} {d:Dst} {as:List Opd} {os:List AOper} {σ:Sig} {k:Sig→Option Out} {K:Kind} {box:Option Nat} {x:Opd} {w:Bool} (h:(K.setSt || K.alters || j3 as)=false) :
 g8 call (⟨d,K,as,box,some (x,w)⟩::os) σ k=obind (gv (x.read σ) w (p1 (sem K call (as.map (·.read σ)) (goK.boxOf' box σ) σ.st))) fun r=>g8 call os (d.put r σ) k:=by
 rw[a2a,← a4m];simp only[a5A,h]
theorem P0 {call:b9} {d:Dst} {as:List Opd} {os:List AOper} {σ:Sig} {k:Sig→Option Out} {K:Kind} {box:Option Nat} {x:Opd} {w:Bool} (e:K.setSt=true) (l:K.alters=false) (h:j3 as=false) :
 g8 call (⟨d,K,as,box,some (x,w)⟩::os) σ k=obind (gv2 (x.read σ) w σ.st (p2 (sem K call (as.map (·.read σ)) (goK.boxOf' box σ) σ.st))) fun r=>g8 call os (d.put r.1 { σ with st:=r.2 }) k:=by
 rw[a2a,← a4m];simp only[a5A,e,l,h,Bool.true_or,Bool.or_false]
theorem d4H:j3 []=false:=a8 rfl
theorem d3n (s:Nat) (xs:List Opd):j3 (.t s::xs)=j3 xs:=a8 rfl
theorem d36 (s:Nat) (xs:List Opd):j3 (.v s::xs)=j3 xs:=a8 rfl
theorem d4z (s:Nat) (xs:List Opd):j3 (.l s::xs)=j3 xs:=a8 rfl
theorem d2Q (a:AV) (xs:List Opd):j3 (.c a::xs)=j3 xs:=a8 rfl
theorem b7b (call:b9) (n:Nat) (kill:List Nat) (ps:List AOper) (fr:List AV) (st:St) :
 j1 call n (.reg kill ps) fr st=g8 call ps ⟨m9 kill fr,fun _=>.undef,st⟩ fun σ=>some (.normal,σ.fr,σ.st):=by
 rw[a2c,a14]; rfl
theorem b6s (call:b9) (n:Nat) (kill:List Nat) (ps:List AOper) (c:Opd) (a b:ACode) (fr:List AV) (st:St) :
 j1 call n (.test kill ps c a b) fr st=g8 call ps ⟨m9 kill fr,fun _=>.undef,st⟩ fun σ=>brE (c.read σ) call n a b σ.fr σ.st:=by
 rw[a1D,a14]; rfl
theorem d3Q (s:Nat) (fr:List AV) (τ:Nat→AV) (st:St):Opd.read (.t s) ⟨fr,τ,st⟩=(τ s).weak:=a8 rfl
theorem d2z (s:Nat) (fr:List AV) (τ:Nat→AV) (st:St):Opd.read (.ts s) ⟨fr,τ,st⟩=τ s:=a8 rfl
theorem d32 (s:Nat) (fr:List AV) (τ:Nat→AV) (st:St):Opd.read (.v s) ⟨fr,τ,st⟩=(fr.getD s .undef).weak:=a8 rfl
theorem d03 (s:Nat) (fr:List AV) (τ:Nat→AV) (st:St):Opd.read (.vs s) ⟨fr,τ,st⟩=fr.getD s .undef:=a8 rfl
theorem d4N (s:Nat) (fr:List AV) (τ:Nat→AV) (st:St):Opd.read (.l s) ⟨fr,τ,st⟩=a5q s (fr.getD s .undef):=a8 rfl
theorem d3x (a:AV) (σ:Sig):Opd.read (.c a) σ=a:=a8 rfl
theorem d06 (τ:Nat→AV) (s:Nat) (a:AV) (j:Nat):C1 τ s a j=if j=s then a else τ j:=by
 unfold C1;by_cases h:j=s
 · subst h; simp
 · rw[if_neg h,if_neg]; intro e; exact h (Nat.eq_of_beq_eq_true e)
theorem put_t (s:Nat) (a:AV) (fr:List AV) (τ:Nat→AV) (st:St):Dst.put (.t s) a ⟨fr,τ,st⟩=⟨fr,C1 τ s a.stripB,st⟩:=a8 rfl
theorem put_v (s:Nat) (a:AV) (fr:List AV) (τ:Nat→AV) (st:St):Dst.put (.v s) a ⟨fr,τ,st⟩=⟨fr.set s a.strip,τ,st⟩:=a8 rfl
theorem d0y (a:AV) (σ:Sig):Dst.put .none a σ=σ:=a8 rfl
theorem d2h (a:AV) (σ:Sig):Dst.put .bx a σ=σ:=a8 rfl
theorem d3K (σ:Sig):d9 [] σ=σ:=a8 rfl
theorem d4h (x:Opd) (xs:List Opd) (σ:Sig):d9 (x::xs) σ=d9 xs (x.spend σ):=a8 rfl
theorem d4m (s:Nat) (σ:Sig):Opd.spend (.t s) σ=σ:=a8 rfl
theorem d4e (s:Nat) (σ:Sig):Opd.spend (.v s) σ=σ:=a8 rfl
theorem d4i (s:Nat) (σ:Sig):Opd.spend (.l s) σ=σ:=a8 rfl
theorem d3f (a:AV) (σ:Sig):Opd.spend (.c a) σ=σ:=a8 rfl
theorem d2v (s:Nat) (fr:List AV) (τ:Nat→AV) (st:St):Opd.spend (.ts s) ⟨fr,τ,st⟩=⟨fr,C1 τ s (τ s).weak,st⟩:=a8 rfl
theorem d1q (s:Nat) (fr:List AV) (τ:Nat→AV) (st:St):Opd.spend (.vs s) ⟨fr,τ,st⟩=⟨fr.set s (fr.getD s .undef).weak,τ,st⟩:=a8 rfl
theorem d29 (a d:AV) (l:List AV):(a::l).getD 0 d=a:=a8 rfl
theorem d3m (a d:AV) (l:List AV) (n:Nat):(a::l).getD (n+1) d=l.getD n d:=a8 rfl
theorem d4K (fr:List AV):m9 [] fr=fr:=a8 rfl
theorem d26 (i:Nat) (is:List Nat) (fr:List AV):m9 (i::is) fr=m9 is (fr.set i .undef):=a8 rfl
section
variable (call:b9) (d:Dst) (as:List Opd) (os:List AOper) (fr:List AV) (τ:Nat→AV) (s:St) (k:Sig→Option Out)
theorem d2V :g8 call (⟨d,.mv,as,none,none⟩::os) ⟨fr,τ,s⟩ k=obind (p1 (a2D call (as.map (·.read ⟨fr,τ,s⟩)) .undef s)) fun x=>g8 call os (d.put x (d9 as ⟨fr,τ,s⟩)) k:=s6 call d as os ⟨fr,τ,s⟩ k rfl
theorem c99 :g8 call (⟨d,.pick,as,none,none⟩::os) ⟨fr,τ,s⟩ k=obind (p1 (F9 call (as.map (·.read ⟨fr,τ,s⟩)) .undef s)) fun x=>g8 call os (d.put x (d9 as ⟨fr,τ,s⟩)) k:=s6 call d as os ⟨fr,τ,s⟩ k rfl
theorem c0W :g8 call (⟨d,.nilchk,as,none,none⟩::os) ⟨fr,τ,s⟩ k=obind (p1 (G3 call (as.map (·.read ⟨fr,τ,s⟩)) .undef s)) fun x=>g8 call os (d.put x (d9 as ⟨fr,τ,s⟩)) k:=s6 call d as os ⟨fr,τ,s⟩ k rfl
theorem c4Z (z:List AV) (o:List (Nat×Nat)):g8 call (⟨d,.build z o,as,none,none⟩::os) ⟨fr,τ,s⟩ k=obind (p1 (N0 z o call (as.map (·.read ⟨fr,τ,s⟩)) .undef s)) fun x=>g8 call os (d.put x (d9 as ⟨fr,τ,s⟩)) k:=s6 call d as os ⟨fr,τ,s⟩ k rfl
theorem c1i (q:Nat) (z:List (List AV)) (t:List Nat):g8 call (⟨d,.bslice q z t,as,none,none⟩::os) ⟨fr,τ,s⟩ k=obind (p1 (P7 q z t call (as.map (·.read ⟨fr,τ,s⟩)) .undef s)) fun x=>g8 call os (d.put x (d9 as ⟨fr,τ,s⟩)) k:=s6 call d as os ⟨fr,τ,s⟩ k rfl
theorem b7c (q:Nat) (z:List (List AV)) (t:List Nat):g8 call (⟨d,.bsliceM q z t,as,none,none⟩::os) ⟨fr,τ,s⟩ k=obind (p1 (M6 q z t call (as.map (·.read ⟨fr,τ,s⟩)) .undef s)) fun x=>g8 call os (d.put x (d9 as ⟨fr,τ,s⟩)) k:=s6 call d as os ⟨fr,τ,s⟩ k rfl
theorem c7c (g:Bool) (n:Nat):g8 call (⟨d,.ldSt g n,as,none,none⟩::os) ⟨fr,τ,s⟩ k=obind (p1 (F4 g n call (as.map (·.read ⟨fr,τ,s⟩)) .undef s)) fun x=>g8 call os (d.put x (d9 as ⟨fr,τ,s⟩)) k:=s6 call d as os ⟨fr,τ,s⟩ k rfl
theorem c6R (g:Bool) (n:Nat):g8 call (⟨d,.ldRo g n,as,none,none⟩::os) ⟨fr,τ,s⟩ k=obind (p1 (X1 g n call (as.map (·.read ⟨fr,τ,s⟩)) .undef s)) fun x=>g8 call os (d.put x (d9 as ⟨fr,τ,s⟩)) k:=s6 call d as os ⟨fr,τ,s⟩ k rfl
theorem c7F (g:Bool) (n:Nat):g8 call (⟨d,.ldAn g n,as,none,none⟩::os) ⟨fr,τ,s⟩ k=obind (p1 (J0 g n call (as.map (·.read ⟨fr,τ,s⟩)) .undef s)) fun x=>g8 call os (d.put x (d9 as ⟨fr,τ,s⟩)) k:=s6 call d as os ⟨fr,τ,s⟩ k rfl
theorem c3V (g:Bool) (n:Nat):g8 call (⟨d,.ldStR g n,as,none,none⟩::os) ⟨fr,τ,s⟩ k=obind (p1 (K7 g n call (as.map (·.read ⟨fr,τ,s⟩)) .undef s)) fun x=>g8 call os (d.put x (d9 as ⟨fr,τ,s⟩)) k:=s6 call d as os ⟨fr,τ,s⟩ k rfl
theorem d0S (n:Nat):g8 call (⟨d,.fad n,as,none,none⟩::os) ⟨fr,τ,s⟩ k=obind (p1 (M7 n call (as.map (·.read ⟨fr,τ,s⟩)) .undef s)) fun x=>g8 call os (d.put x (d9 as ⟨fr,τ,s⟩)) k:=s6 call d as os ⟨fr,τ,s⟩ k rfl
theorem d0N (o n:Nat) (g:Bool):g8 call (⟨d,.fld o n g,as,none,none⟩::os) ⟨fr,τ,s⟩ k=obind (p1 (a0y o n g call (as.map (·.read ⟨fr,τ,s⟩)) .undef s)) fun x=>g8 call os (d.put x (d9 as ⟨fr,τ,s⟩)) k:=s6 call d as os ⟨fr,τ,s⟩ k rfl
theorem d2A (n:Nat):g8 call (⟨d,.iad n,as,none,none⟩::os) ⟨fr,τ,s⟩ k=obind (p1 (L0 n call (as.map (·.read ⟨fr,τ,s⟩)) .undef s)) fun x=>g8 call os (d.put x (d9 as ⟨fr,τ,s⟩)) k:=s6 call d as os ⟨fr,τ,s⟩ k rfl
theorem c7Y (l n:Nat):g8 call (⟨d,.iadA l n,as,none,none⟩::os) ⟨fr,τ,s⟩ k=obind (p1 (P2 l n call (as.map (·.read ⟨fr,τ,s⟩)) .undef s)) fun x=>g8 call os (d.put x (d9 as ⟨fr,τ,s⟩)) k:=s6 call d as os ⟨fr,τ,s⟩ k rfl
theorem c8r :g8 call (⟨d,.idxS,as,none,none⟩::os) ⟨fr,τ,s⟩ k=obind (p1 (R3 call (as.map (·.read ⟨fr,τ,s⟩)) .undef s)) fun x=>g8 call os (d.put x (d9 as ⟨fr,τ,s⟩)) k:=s6 call d as os ⟨fr,τ,s⟩ k rfl
theorem d00 (a b:Bool):g8 call (⟨d,.slS a b,as,none,none⟩::os) ⟨fr,τ,s⟩ k=obind (p1 (Y5 a b call (as.map (·.read ⟨fr,τ,s⟩)) .undef s)) fun x=>g8 call os (d.put x (d9 as ⟨fr,τ,s⟩)) k:=s6 call d as os ⟨fr,τ,s⟩ k rfl
theorem d1V (n:Nat) (a b:Bool):g8 call (⟨d,.slL n a b,as,none,none⟩::os) ⟨fr,τ,s⟩ k=obind (p1 (Y1 n a b call (as.map (·.read ⟨fr,τ,s⟩)) .undef s)) fun x=>g8 call os (d.put x (d9 as ⟨fr,τ,s⟩)) k:=s6 call d as os ⟨fr,τ,s⟩ k rfl
theorem d2i :g8 call (⟨d,.slZ,as,none,none⟩::os) ⟨fr,τ,s⟩ k=obind (p1 (a0q call (as.map (·.read ⟨fr,τ,s⟩)) .undef s)) fun x=>g8 call os (d.put x (d9 as ⟨fr,τ,s⟩)) k:=s6 call d as os ⟨fr,τ,s⟩ k rfl
theorem d1e (l n:Nat) (a b:Bool):g8 call (⟨d,.slA l n a b,as,none,none⟩::os) ⟨fr,τ,s⟩ k=obind (p1 (a0h l n a b call (as.map (·.read ⟨fr,τ,s⟩)) .undef s)) fun x=>g8 call os (d.put x (d9 as ⟨fr,τ,s⟩)) k:=s6 call d as os ⟨fr,τ,s⟩ k rfl
theorem d1S (o:BinOp):g8 call (⟨d,.bin o,as,none,none⟩::os) ⟨fr,τ,s⟩ k=obind (p1 (E2 o call (as.map (·.read ⟨fr,τ,s⟩)) .undef s)) fun x=>g8 call os (d.put x (d9 as ⟨fr,τ,s⟩)) k:=s6 call d as os ⟨fr,τ,s⟩ k rfl
theorem c7R (o:BinOp):g8 call (⟨d,.binB o,as,none,none⟩::os) ⟨fr,τ,s⟩ k=obind (p1 (V0 o call (as.map (·.read ⟨fr,τ,s⟩)) .undef s)) fun x=>g8 call os (d.put x (d9 as ⟨fr,τ,s⟩)) k:=s6 call d as os ⟨fr,τ,s⟩ k rfl
theorem c68 (o:BinOp):g8 call (⟨d,.binP o,as,none,none⟩::os) ⟨fr,τ,s⟩ k=obind (p1 (X2 o call (as.map (·.read ⟨fr,τ,s⟩)) .undef s)) fun x=>g8 call os (d.put x (d9 as ⟨fr,τ,s⟩)) k:=s6 call d as os ⟨fr,τ,s⟩ k rfl
theorem d28 (o:UnOp):g8 call (⟨d,.un o,as,none,none⟩::os) ⟨fr,τ,s⟩ k=obind (p1 (a04 o call (as.map (·.read ⟨fr,τ,s⟩)) .undef s)) fun x=>g8 call os (d.put x (d9 as ⟨fr,τ,s⟩)) k:=s6 call d as os ⟨fr,τ,s⟩ k rfl
theorem c7H (t:IntKind):g8 call (⟨d,.conv t,as,none,none⟩::os) ⟨fr,τ,s⟩ k=obind (p1 (X5 t call (as.map (·.read ⟨fr,τ,s⟩)) .undef s)) fun x=>g8 call os (d.put x (d9 as ⟨fr,τ,s⟩)) k:=s6 call d as os ⟨fr,τ,s⟩ k rfl
theorem d19 (f n:Nat):g8 call (⟨d,.mkF f n,as,none,none⟩::os) ⟨fr,τ,s⟩ k=obind (p1 (a0p f n call (as.map (·.read ⟨fr,τ,s⟩)) .undef s)) fun x=>g8 call os (d.put x (d9 as ⟨fr,τ,s⟩)) k:=s6 call d as os ⟨fr,τ,s⟩ k rfl
theorem c9A (a:Nat) (z:List AV) (b c:Bool):g8 call (⟨d,.mget a z b c,as,none,none⟩::os) ⟨fr,τ,s⟩ k=obind (p1 (R7 a z b c call (as.map (·.read ⟨fr,τ,s⟩)) .undef s)) fun x=>g8 call os (d.put x (d9 as ⟨fr,τ,s⟩)) k:=s6 call d as os ⟨fr,τ,s⟩ k rfl
theorem d1c (n:Nat):g8 call (⟨d,.ext n,as,none,none⟩::os) ⟨fr,τ,s⟩ k=obind (p1 (Y2 n call (as.map (·.read ⟨fr,τ,s⟩)) .undef s)) fun x=>g8 call os (d.put x (d9 as ⟨fr,τ,s⟩)) k:=s6 call d as os ⟨fr,τ,s⟩ k rfl
theorem c9a :g8 call (⟨d,.lenS,as,none,none⟩::os) ⟨fr,τ,s⟩ k=obind (p1 (X7 call (as.map (·.read ⟨fr,τ,s⟩)) .undef s)) fun x=>g8 call os (d.put x (d9 as ⟨fr,τ,s⟩)) k:=s6 call d as os ⟨fr,τ,s⟩ k rfl
theorem c9D :g8 call (⟨d,.lenL,as,none,none⟩::os) ⟨fr,τ,s⟩ k=obind (p1 (H2 call (as.map (·.read ⟨fr,τ,s⟩)) .undef s)) fun x=>g8 call os (d.put x (d9 as ⟨fr,τ,s⟩)) k:=s6 call d as os ⟨fr,τ,s⟩ k rfl
theorem d0Z (n b:Nat):g8 call (⟨d,.app n b,as,none,none⟩::os) ⟨fr,τ,s⟩ k=obind (p1 (a0C n b call (as.map (·.read ⟨fr,τ,s⟩)) .undef s)) fun x=>g8 call os (d.put x (d9 as ⟨fr,τ,s⟩)) k:=s6 call d as os ⟨fr,τ,s⟩ k rfl
theorem d0w :g8 call (⟨d,.b2s,as,none,none⟩::os) ⟨fr,τ,s⟩ k=obind (p1 (a0x call (as.map (·.read ⟨fr,τ,s⟩)) .undef s)) fun x=>g8 call os (d.put x (d9 as ⟨fr,τ,s⟩)) k:=s6 call d as os ⟨fr,τ,s⟩ k rfl
theorem c6g (z:List AV) (o:List (Nat×Nat)) (x:Opd) (w:Bool) (h:j3 as=false):g8 call (⟨d,.build z o,as,none,some (x,w)⟩::os) ⟨fr,τ,s⟩ k=obind (gv (x.read ⟨fr,τ,s⟩) w (p1 (N0 z o call (as.map (·.read ⟨fr,τ,s⟩)) .undef s))) fun r=>g8 call os (d.put r ⟨fr,τ,s⟩) k:=r8 (by rw[h]; rfl)
theorem c1I (q:Nat) (z:List (List AV)) (t:List Nat) (x:Opd) (w:Bool) (h:j3 as=false):g8 call (⟨d,.bslice q z t,as,none,some (x,w)⟩::os) ⟨fr,τ,s⟩ k=obind (gv (x.read ⟨fr,τ,s⟩) w (p1 (P7 q z t call (as.map (·.read ⟨fr,τ,s⟩)) .undef s))) fun r=>g8 call os (d.put r ⟨fr,τ,s⟩) k:=r8 (by rw[h]; rfl)
theorem b7j (q:Nat) (z:List (List AV)) (t:List Nat) (x:Opd) (w:Bool) (h:j3 as=false):g8 call (⟨d,.bsliceM q z t,as,none,some (x,w)⟩::os) ⟨fr,τ,s⟩ k=obind (gv (x.read ⟨fr,τ,s⟩) w (p1 (M6 q z t call (as.map (·.read ⟨fr,τ,s⟩)) .undef s))) fun r=>g8 call os (d.put r ⟨fr,τ,s⟩) k:=r8 (by rw[h]; rfl)
theorem c8s (g:Bool) (n:Nat) (x:Opd) (w:Bool) (h:j3 as=false):g8 call (⟨d,.ldSt g n,as,none,some (x,w)⟩::os) ⟨fr,τ,s⟩ k=obind (gv (x.read ⟨fr,τ,s⟩) w (p1 (F4 g n call (as.map (·.read ⟨fr,τ,s⟩)) .undef s))) fun r=>g8 call os (d.put r ⟨fr,τ,s⟩) k:=r8 (by rw[h]; rfl)
theorem c7e (g:Bool) (n:Nat) (x:Opd) (w:Bool) (h:j3 as=false):g8 call (⟨d,.ldRo g n,as,none,some (x,w)⟩::os) ⟨fr,τ,s⟩ k=obind (gv (x.read ⟨fr,τ,s⟩) w (p1 (X1 g n call (as.map (·.read ⟨fr,τ,s⟩)) .undef s))) fun r=>g8 call os (d.put r ⟨fr,τ,s⟩) k:=r8 (by rw[h]; rfl)
theorem c6M (g:Bool) (n:Nat) (x:Opd) (w:Bool) (h:j3 as=false):g8 call (⟨d,.ldAn g n,as,none,some (x,w)⟩::os) ⟨fr,τ,s⟩ k=obind (gv (x.read ⟨fr,τ,s⟩) w (p1 (J0 g n call (as.map (·.read ⟨fr,τ,s⟩)) .undef s))) fun r=>g8 call os (d.put r ⟨fr,τ,s⟩) k:=r8 (by rw[h]; rfl)
theorem c4T (g:Bool) (n:Nat) (x:Opd) (w:Bool) (h:j3 as=false):g8 call (⟨d,.ldStR g n,as,none,some (x,w)⟩::os) ⟨fr,τ,s⟩ k=obind (gv (x.read ⟨fr,τ,s⟩) w (p1 (K7 g n call (as.map (·.read ⟨fr,τ,s⟩)) .undef s))) fun r=>g8 call os (d.put r ⟨fr,τ,s⟩) k:=r8 (by rw[h]; rfl)
theorem d1H (n:Nat) (x:Opd) (w:Bool) (h:j3 as=false):g8 call (⟨d,.fad n,as,none,some (x,w)⟩::os) ⟨fr,τ,s⟩ k=obind (gv (x.read ⟨fr,τ,s⟩) w (p1 (M7 n call (as.map (·.read ⟨fr,τ,s⟩)) .undef s))) fun r=>g8 call os (d.put r ⟨fr,τ,s⟩) k:=r8 (by rw[h]; rfl)
theorem d0T (o n:Nat) (g:Bool) (x:Opd) (w:Bool) (h:j3 as=false):g8 call (⟨d,.fld o n g,as,none,some (x,w)⟩::os) ⟨fr,τ,s⟩ k=obind (gv (x.read ⟨fr,τ,s⟩) w (p1 (a0y o n g call (as.map (·.read ⟨fr,τ,s⟩)) .undef s))) fun r=>g8 call os (d.put r ⟨fr,τ,s⟩) k:=r8 (by rw[h]; rfl)
theorem d1z (n:Nat) (x:Opd) (w:Bool) (h:j3 as=false):g8 call (⟨d,.iad n,as,none,some (x,w)⟩::os) ⟨fr,τ,s⟩ k=obind (gv (x.read ⟨fr,τ,s⟩) w (p1 (L0 n call (as.map (·.read ⟨fr,τ,s⟩)) .undef s))) fun r=>g8 call os (d.put r ⟨fr,τ,s⟩) k:=r8 (by rw[h]; rfl)
theorem c9y (l n:Nat) (x:Opd) (w:Bool) (h:j3 as=false):g8 call (⟨d,.iadA l n,as,none,some (x,w)⟩::os) ⟨fr,τ,s⟩ k=obind (gv (x.read ⟨fr,τ,s⟩) w (p1 (P2 l n call (as.map (·.read ⟨fr,τ,s⟩)) .undef s))) fun r=>g8 call os (d.put r ⟨fr,τ,s⟩) k:=r8 (by rw[h]; rfl)
theorem d2L (a b:Bool) (x:Opd) (w:Bool) (h:j3 as=false):g8 call (⟨d,.slS a b,as,none,some (x,w)⟩::os) ⟨fr,τ,s⟩ k=obind (gv (x.read ⟨fr,τ,s⟩) w (p1 (Y5 a b call (as.map (·.read ⟨fr,τ,s⟩)) .undef s))) fun r=>g8 call os (d.put r ⟨fr,τ,s⟩) k:=r8 (by rw[h]; rfl)
theorem d0E (n:Nat) (a b:Bool) (x:Opd) (w:Bool) (h:j3 as=false):g8 call (⟨d,.slL n a b,as,none,some (x,w)⟩::os) ⟨fr,τ,s⟩ k=obind (gv (x.read ⟨fr,τ,s⟩) w (p1 (Y1 n a b call (as.map (·.read ⟨fr,τ,s⟩)) .undef s))) fun r=>g8 call os (d.put r ⟨fr,τ,s⟩) k:=r8 (by rw[h]; rfl)
theorem d2b (l n:Nat) (a b:Bool) (x:Opd) (w:Bool) (h:j3 as=false):g8 call (⟨d,.slA l n a b,as,none,some (x,w)⟩::os) ⟨fr,τ,s⟩ k=obind (gv (x.read ⟨fr,τ,s⟩) w (p1 (a0h l n a b call (as.map (·.read ⟨fr,τ,s⟩)) .undef s))) fun r=>g8 call os (d.put r ⟨fr,τ,s⟩) k:=r8 (by rw[h]; rfl)
theorem d01 (o:BinOp) (x:Opd) (w:Bool) (h:j3 as=false):g8 call (⟨d,.bin o,as,none,some (x,w)⟩::os) ⟨fr,τ,s⟩ k=obind (gv (x.read ⟨fr,τ,s⟩) w (p1 (E2 o call (as.map (·.read ⟨fr,τ,s⟩)) .undef s))) fun r=>g8 call os (d.put r ⟨fr,τ,s⟩) k:=r8 (by rw[h]; rfl)
theorem c6o (o:BinOp) (x:Opd) (w:Bool) (h:j3 as=false):g8 call (⟨d,.binB o,as,none,some (x,w)⟩::os) ⟨fr,τ,s⟩ k=obind (gv (x.read ⟨fr,τ,s⟩) w (p1 (V0 o call (as.map (·.read ⟨fr,τ,s⟩)) .undef s))) fun r=>g8 call os (d.put r ⟨fr,τ,s⟩) k:=r8 (by rw[h]; rfl)
theorem c6V (o:BinOp) (x:Opd) (w:Bool) (h:j3 as=false):g8 call (⟨d,.binP o,as,none,some (x,w)⟩::os) ⟨fr,τ,s⟩ k=obind (gv (x.read ⟨fr,τ,s⟩) w (p1 (X2 o call (as.map (·.read ⟨fr,τ,s⟩)) .undef s))) fun r=>g8 call os (d.put r ⟨fr,τ,s⟩) k:=r8 (by rw[h]; rfl)
theorem d4A (o:UnOp) (x:Opd) (w:Bool) (h:j3 as=false):g8 call (⟨d,.un o,as,none,some (x,w)⟩::os) ⟨fr,τ,s⟩ k=obind (gv (x.read ⟨fr,τ,s⟩) w (p1 (a04 o call (as.map (·.read ⟨fr,τ,s⟩)) .undef s))) fun r=>g8 call os (d.put r ⟨fr,τ,s⟩) k:=r8 (by rw[h]; rfl)
theorem c9w (t:IntKind) (x:Opd) (w:Bool) (h:j3 as=false):g8 call (⟨d,.conv t,as,none,some (x,w)⟩::os) ⟨fr,τ,s⟩ k=obind (gv (x.read ⟨fr,τ,s⟩) w (p1 (X5 t call (as.map (·.read ⟨fr,τ,s⟩)) .undef s))) fun r=>g8 call os (d.put r ⟨fr,τ,s⟩) k:=r8 (by rw[h]; rfl)
theorem d1T (f n:Nat) (x:Opd) (w:Bool) (h:j3 as=false):g8 call (⟨d,.mkF f n,as,none,some (x,w)⟩::os) ⟨fr,τ,s⟩ k=obind (gv (x.read ⟨fr,τ,s⟩) w (p1 (a0p f n call (as.map (·.read ⟨fr,τ,s⟩)) .undef s))) fun r=>g8 call os (d.put r ⟨fr,τ,s⟩) k:=r8 (by rw[h]; rfl)
theorem c78 (a:Nat) (z:List AV) (b c:Bool) (x:Opd) (w:Bool) (h:j3 as=false):g8 call (⟨d,.mget a z b c,as,none,some (x,w)⟩::os) ⟨fr,τ,s⟩ k=obind (gv (x.read ⟨fr,τ,s⟩) w (p1 (R7 a z b c call (as.map (·.read ⟨fr,τ,s⟩)) .undef s))) fun r=>g8 call os (d.put r ⟨fr,τ,s⟩) k:=r8 (by rw[h]; rfl)
theorem d17 (n:Nat) (x:Opd) (w:Bool) (h:j3 as=false):g8 call (⟨d,.ext n,as,none,some (x,w)⟩::os) ⟨fr,τ,s⟩ k=obind (gv (x.read ⟨fr,τ,s⟩) w (p1 (Y2 n call (as.map (·.read ⟨fr,τ,s⟩)) .undef s))) fun r=>g8 call os (d.put r ⟨fr,τ,s⟩) k:=r8 (by rw[h]; rfl)
theorem d1i (n b:Nat) (x:Opd) (w:Bool) (h:j3 as=false):g8 call (⟨d,.app n b,as,none,some (x,w)⟩::os) ⟨fr,τ,s⟩ k=obind (gv (x.read ⟨fr,τ,s⟩) w (p1 (a0C n b call (as.map (·.read ⟨fr,τ,s⟩)) .undef s))) fun r=>g8 call os (d.put r ⟨fr,τ,s⟩) k:=r8 (by rw[h]; rfl)
theorem c6S (i:Nat) (g:Bool) (n:Nat) (j:Nat) (h:j3 as=false):g8 call (⟨d,.ldLc i g n,as,some j,none⟩::os) ⟨fr,τ,s⟩ k=obind (p1 (P3 i g n call (as.map (·.read ⟨fr,τ,s⟩)) (fr.getD j .undef) s)) fun r=>g8 call os (d.put r ⟨fr,τ,s⟩) k:=d0G (by rw[h]; rfl)
theorem c3Y (i:Nat) (g:Bool) (n:Nat) (j:Nat) (x:Opd) (w:Bool) (h:j3 as=false):g8 call (⟨d,.ldLc i g n,as,some j,some (x,w)⟩::os) ⟨fr,τ,s⟩ k=obind (gv (x.read ⟨fr,τ,s⟩) w (p1 (P3 i g n call (as.map (·.read ⟨fr,τ,s⟩)) (fr.getD j .undef) s))) fun r=>g8 call os (d.put r ⟨fr,τ,s⟩) k:=r8 (by rw[h]; rfl)
theorem b87 (z:List AV):g8 call (⟨d,.allocO z,as,none,none⟩::os) ⟨fr,τ,s⟩ k=obind (p2 (M5 z call (as.map (·.read ⟨fr,τ,s⟩)) .undef s)) fun x=>g8 call os (d.put x.1 { d9 as ⟨fr,τ,s⟩with st:=x.2 }) k:=X3 call d as os ⟨fr,τ,s⟩ k
theorem b8K (z:List AV) (x:Opd) (w:Bool) (h:j3 as=false):g8 call (⟨d,.allocO z,as,none,some (x,w)⟩::os) ⟨fr,τ,s⟩ k=obind (gv2 (x.read ⟨fr,τ,s⟩) w s (p2 (M5 z call (as.map (·.read ⟨fr,τ,s⟩)) .undef s))) fun r=>g8 call os (d.put r.1 ⟨fr,τ,r.2⟩) k:=P0 rfl rfl h
theorem c8D:g8 call (⟨d,.boxO,as,none,none⟩::os) ⟨fr,τ,s⟩ k=obind (p2 (X6 call (as.map (·.read ⟨fr,τ,s⟩)) .undef s)) fun x=>g8 call os (d.put x.1 { d9 as ⟨fr,τ,s⟩with st:=x.2 }) k:=X3 call d as os ⟨fr,τ,s⟩ k
theorem c6c (x:Opd) (w:Bool) (h:j3 as=false):g8 call (⟨d,.boxO,as,none,some (x,w)⟩::os) ⟨fr,τ,s⟩ k=obind (gv2 (x.read ⟨fr,τ,s⟩) w s (p2 (X6 call (as.map (·.read ⟨fr,τ,s⟩)) .undef s))) fun r=>g8 call os (d.put r.1 ⟨fr,τ,r.2⟩) k:=P0 rfl rfl h
theorem b8M (q:Nat) (z:List (List AV)) (t:List Nat):g8 call (⟨d,.bsliceO q z t,as,none,none⟩::os) ⟨fr,τ,s⟩ k=obind (p2 (M3 q z t call (as.map (·.read ⟨fr,τ,s⟩)) .undef s)) fun x=>g8 call os (d.put x.1 { d9 as ⟨fr,τ,s⟩with st:=x.2 }) k:=X3 call d as os ⟨fr,τ,s⟩ k
theorem b52 (q:Nat) (z:List (List AV)) (t:List Nat) (x:Opd) (w:Bool) (h:j3 as=false):g8 call (⟨d,.bsliceO q z t,as,none,some (x,w)⟩::os) ⟨fr,τ,s⟩ k=obind (gv2 (x.read ⟨fr,τ,s⟩) w s (p2 (M3 q z t call (as.map (·.read ⟨fr,τ,s⟩)) .undef s))) fun r=>g8 call os (d.put r.1 ⟨fr,τ,r.2⟩) k:=P0 rfl rfl h
theorem c6v (n b:Nat):g8 call (⟨d,.appM n b,as,none,none⟩::os) ⟨fr,τ,s⟩ k=obind (p2 (F7 n b call (as.map (·.read ⟨fr,τ,s⟩)) .undef s)) fun x=>g8 call os (d.put x.1 { d9 as ⟨fr,τ,s⟩with st:=x.2 }) k:=X3 call d as os ⟨fr,τ,s⟩ k
theorem c3Z (n b:Nat) (x:Opd) (w:Bool) (h:j3 as=false):g8 call (⟨d,.appM n b,as,none,some (x,w)⟩::os) ⟨fr,τ,s⟩ k=obind (gv2 (x.read ⟨fr,τ,s⟩) w s (p2 (F7 n b call (as.map (·.read ⟨fr,τ,s⟩)) .undef s))) fun r=>g8 call os (d.put r.1 ⟨fr,τ,r.2⟩) k:=P0 rfl rfl h
theorem c0w (n:Nat):g8 call (⟨d,.ldStSR n,as,none,none⟩::os) ⟨fr,τ,s⟩ k=obind (p2 (G4 n call (as.map (·.read ⟨fr,τ,s⟩)) .undef s)) fun x=>g8 call os (d.put x.1 { d9 as ⟨fr,τ,s⟩with st:=x.2 }) k:=X3 call d as os ⟨fr,τ,s⟩ k
theorem b7v (n:Nat) (x:Opd) (w:Bool) (h:j3 as=false):g8 call (⟨d,.ldStSR n,as,none,some (x,w)⟩::os) ⟨fr,τ,s⟩ k=obind (gv2 (x.read ⟨fr,τ,s⟩) w s (p2 (G4 n call (as.map (·.read ⟨fr,τ,s⟩)) .undef s))) fun r=>g8 call os (d.put r.1 ⟨fr,τ,r.2⟩) k:=P0 rfl rfl h
theorem c48 (n:Nat):g8 call (⟨d,.stStA n,as,none,none⟩::os) ⟨fr,τ,s⟩ k=obind (p2 (J4 n call (as.map (·.read ⟨fr,τ,s⟩)) .undef s)) fun x=>g8 call os (d.put x.1 { d9 as ⟨fr,τ,s⟩with st:=x.2 }) k:=X3 call d as os ⟨fr,τ,s⟩ k
theorem b98 (n:Nat) (x:Opd) (w:Bool) (h:j3 as=false):g8 call (⟨d,.stStA n,as,none,some (x,w)⟩::os) ⟨fr,τ,s⟩ k=obind (gv2 (x.read ⟨fr,τ,s⟩) w s (p2 (J4 n call (as.map (·.read ⟨fr,τ,s⟩)) .undef s))) fun r=>g8 call os (d.put r.1 ⟨fr,τ,r.2⟩) k:=P0 rfl rfl h
theorem c54 (f m:Nat):g8 call (⟨d,.callA f m,as,none,none⟩::os) ⟨fr,τ,s⟩ k=obind (p2 (H0 f m call (as.map (·.read ⟨fr,τ,s⟩)) .undef s)) fun x=>g8 call os (d.put x.1 { d9 as ⟨fr,τ,s⟩with st:=x.2 }) k:=X3 call d as os ⟨fr,τ,s⟩ k
theorem c0K (f m:Nat) (x:Opd) (w:Bool) (h:j3 as=false):g8 call (⟨d,.callA f m,as,none,some (x,w)⟩::os) ⟨fr,τ,s⟩ k=obind (gv2 (x.read ⟨fr,τ,s⟩) w s (p2 (H0 f m call (as.map (·.read ⟨fr,τ,s⟩)) .undef s))) fun r=>g8 call os (d.put r.1 ⟨fr,τ,r.2⟩) k:=P0 rfl rfl h
theorem c4V:g8 call (⟨d,.ldStS,as,none,none⟩::os) ⟨fr,τ,s⟩ k=obind (p2 (E6 call (as.map (·.read ⟨fr,τ,s⟩)) .undef s)) fun x=>g8 call os (d.put x.1 { d9 as ⟨fr,τ,s⟩with st:=x.2 }) k:=X3 call d as os ⟨fr,τ,s⟩ k
theorem c0G (x:Opd) (w:Bool) (h:j3 as=false):g8 call (⟨d,.ldStS,as,none,some (x,w)⟩::os) ⟨fr,τ,s⟩ k=obind (gv2 (x.read ⟨fr,τ,s⟩) w s (p2 (E6 call (as.map (·.read ⟨fr,τ,s⟩)) .undef s))) fun r=>g8 call os (d.put r.1 ⟨fr,τ,r.2⟩) k:=P0 rfl rfl h
theorem c6k (n:Nat):g8 call (⟨d,.stSt n,as,none,none⟩::os) ⟨fr,τ,s⟩ k=obind (p2 (I8 n call (as.map (·.read ⟨fr,τ,s⟩)) .undef s)) fun x=>g8 call os (d.put x.1 { d9 as ⟨fr,τ,s⟩with st:=x.2 }) k:=X3 call d as os ⟨fr,τ,s⟩ k
theorem c30 (n:Nat) (x:Opd) (w:Bool) (h:j3 as=false):g8 call (⟨d,.stSt n,as,none,some (x,w)⟩::os) ⟨fr,τ,s⟩ k=obind (gv2 (x.read ⟨fr,τ,s⟩) w s (p2 (I8 n call (as.map (·.read ⟨fr,τ,s⟩)) .undef s))) fun r=>g8 call os (d.put r.1 ⟨fr,τ,r.2⟩) k:=P0 rfl rfl h
theorem d0K:g8 call (⟨d,.mkM,as,none,none⟩::os) ⟨fr,τ,s⟩ k=obind (p2 (a1l call (as.map (·.read ⟨fr,τ,s⟩)) .undef s)) fun x=>g8 call os (d.put x.1 { d9 as ⟨fr,τ,s⟩with st:=x.2 }) k:=X3 call d as os ⟨fr,τ,s⟩ k
theorem c92 (x:Opd) (w:Bool) (h:j3 as=false):g8 call (⟨d,.mkM,as,none,some (x,w)⟩::os) ⟨fr,τ,s⟩ k=obind (gv2 (x.read ⟨fr,τ,s⟩) w s (p2 (a1l call (as.map (·.read ⟨fr,τ,s⟩)) .undef s))) fun r=>g8 call os (d.put r.1 ⟨fr,τ,r.2⟩) k:=P0 rfl rfl h
theorem c7B (n:Nat):g8 call (⟨d,.mset n,as,none,none⟩::os) ⟨fr,τ,s⟩ k=obind (p2 (a0L n call (as.map (·.read ⟨fr,τ,s⟩)) .undef s)) fun x=>g8 call os (d.put x.1 { d9 as ⟨fr,τ,s⟩with st:=x.2 }) k:=X3 call d as os ⟨fr,τ,s⟩ k
theorem c31 (n:Nat) (x:Opd) (w:Bool) (h:j3 as=false):g8 call (⟨d,.mset n,as,none,some (x,w)⟩::os) ⟨fr,τ,s⟩ k=obind (gv2 (x.read ⟨fr,τ,s⟩) w s (p2 (a0L n call (as.map (·.read ⟨fr,τ,s⟩)) .undef s))) fun r=>g8 call os (d.put r.1 ⟨fr,τ,r.2⟩) k:=P0 rfl rfl h
theorem c8F (f:Nat):g8 call (⟨d,.call f,as,none,none⟩::os) ⟨fr,τ,s⟩ k=obind (p2 (p7 f call (as.map (·.read ⟨fr,τ,s⟩)) .undef s)) fun x=>g8 call os (d.put x.1 { d9 as ⟨fr,τ,s⟩with st:=x.2 }) k:=X3 call d as os ⟨fr,τ,s⟩ k
theorem c5B (f:Nat) (x:Opd) (w:Bool) (h:j3 as=false):g8 call (⟨d,.call f,as,none,some (x,w)⟩::os) ⟨fr,τ,s⟩ k=obind (gv2 (x.read ⟨fr,τ,s⟩) w s (p2 (p7 f call (as.map (·.read ⟨fr,τ,s⟩)) .undef s))) fun r=>g8 call os (d.put r.1 ⟨fr,τ,r.2⟩) k:=P0 rfl rfl h
theorem c45:g8 call (⟨d,.callV,as,none,none⟩::os) ⟨fr,τ,s⟩ k=obind (p2 (K8 call (as.map (·.read ⟨fr,τ,s⟩)) .undef s)) fun x=>g8 call os (d.put x.1 { d9 as ⟨fr,τ,s⟩with st:=x.2 }) k:=X3 call d as os ⟨fr,τ,s⟩ k
theorem b9k (x:Opd) (w:Bool) (h:j3 as=false):g8 call (⟨d,.callV,as,none,some (x,w)⟩::os) ⟨fr,τ,s⟩ k=obind (gv2 (x.read ⟨fr,τ,s⟩) w s (p2 (K8 call (as.map (·.read ⟨fr,τ,s⟩)) .undef s))) fun r=>g8 call os (d.put r.1 ⟨fr,τ,r.2⟩) k:=P0 rfl rfl h
theorem c4c (z:List AV) (j:Nat):g8 call (⟨d,.alloc z,as,some j,none⟩::os) ⟨fr,τ,s⟩ k=obind (U0 z call (as.map (·.read ⟨fr,τ,s⟩)) (fr.getD j .undef) s) fun x=>g8 call os (d.put x.1 { d9 as ⟨fr,τ,s⟩with fr:=(d9 as ⟨fr,τ,s⟩).fr.set j x.2.1,st:=x.2.2 }) k:=b0h call d as os ⟨fr,τ,s⟩ k j
theorem c8m (j:Nat):g8 call (⟨d,.boxV,as,some j,none⟩::os) ⟨fr,τ,s⟩ k=obind (a0M call (as.map (·.read ⟨fr,τ,s⟩)) (fr.getD j .undef) s) fun x=>g8 call os (d.put x.1 { d9 as ⟨fr,τ,s⟩with fr:=(d9 as ⟨fr,τ,s⟩).fr.set j x.2.1,st:=x.2.2 }) k:=b0h call d as os ⟨fr,τ,s⟩ k j
theorem c5F (i:Nat) (j:Nat):g8 call (⟨d,.ldLcS i,as,some j,none⟩::os) ⟨fr,τ,s⟩ k=obind (U2 i call (as.map (·.read ⟨fr,τ,s⟩)) (fr.getD j .undef) s) fun x=>g8 call os (d.put x.1 { d9 as ⟨fr,τ,s⟩with fr:=(d9 as ⟨fr,τ,s⟩).fr.set j x.2.1,st:=x.2.2 }) k:=b0h call d as os ⟨fr,τ,s⟩ k j
theorem c6C (i n:Nat) (j:Nat):g8 call (⟨d,.stLc i n,as,some j,none⟩::os) ⟨fr,τ,s⟩ k=obind (K5 i n call (as.map (·.read ⟨fr,τ,s⟩)) (fr.getD j .undef) s) fun x=>g8 call os (d.put x.1 { d9 as ⟨fr,τ,s⟩with fr:=(d9 as ⟨fr,τ,s⟩).fr.set j x.2.1,st:=x.2.2 }) k:=b0h call d as os ⟨fr,τ,s⟩ k j
theorem d3k (x:Opd) (w:Bool) (h:j3 as=false):g8 call (⟨d,.mv,as,none,some (x,w)⟩::os) ⟨fr,τ,s⟩ k=obind (gv (x.read ⟨fr,τ,s⟩) w (p1 (a2D call (as.map (·.read ⟨fr,τ,s⟩)) .undef s))) fun r=>g8 call os (d.put r ⟨fr,τ,s⟩) k:=r8 (by rw[h]; rfl)
theorem c8T (x:Opd) (w:Bool) (h:j3 as=false):g8 call (⟨d,.pick,as,none,some (x,w)⟩::os) ⟨fr,τ,s⟩ k=obind (gv (x.read ⟨fr,τ,s⟩) w (p1 (F9 call (as.map (·.read ⟨fr,τ,s⟩)) .undef s))) fun r=>g8 call os (d.put r ⟨fr,τ,s⟩) k:=r8 (by rw[h]; rfl)
theorem c0Y (x:Opd) (w:Bool) (h:j3 as=false):g8 call (⟨d,.nilchk,as,none,some (x,w)⟩::os) ⟨fr,τ,s⟩ k=obind (gv (x.read ⟨fr,τ,s⟩) w (p1 (G3 call (as.map (·.read ⟨fr,τ,s⟩)) .undef s))) fun r=>g8 call os (d.put r ⟨fr,τ,s⟩) k:=r8 (by rw[h]; rfl)
theorem c84 (x:Opd) (w:Bool) (h:j3 as=false):g8 call (⟨d,.idxS,as,none,some (x,w)⟩::os) ⟨fr,τ,s⟩ k=obind (gv (x.read ⟨fr,τ,s⟩) w (p1 (R3 call (as.map (·.read ⟨fr,τ,s⟩)) .undef s))) fun r=>g8 call os (d.put r ⟨fr,τ,s⟩) k:=r8 (by rw[h]; rfl)
theorem d1t (x:Opd) (w:Bool) (h:j3 as=false):g8 call (⟨d,.slZ,as,none,some (x,w)⟩::os) ⟨fr,τ,s⟩ k=obind (gv (x.read ⟨fr,τ,s⟩) w (p1 (a0q call (as.map (·.read ⟨fr,τ,s⟩)) .undef s))) fun r=>g8 call os (d.put r ⟨fr,τ,s⟩) k:=r8 (by rw[h]; rfl)
theorem c6W (x:Opd) (w:Bool) (h:j3 as=false):g8 call (⟨d,.lenS,as,none,some (x,w)⟩::os) ⟨fr,τ,s⟩ k=obind (gv (x.read ⟨fr,τ,s⟩) w (p1 (X7 call (as.map (·.read ⟨fr,τ,s⟩)) .undef s))) fun r=>g8 call os (d.put r ⟨fr,τ,s⟩) k:=r8 (by rw[h]; rfl)
theorem c8c (x:Opd) (w:Bool) (h:j3 as=false):g8 call (⟨d,.lenL,as,none,some (x,w)⟩::os) ⟨fr,τ,s⟩ k=obind (gv (x.read ⟨fr,τ,s⟩) w (p1 (H2 call (as.map (·.read ⟨fr,τ,s⟩)) .undef s))) fun r=>g8 call os (d.put r ⟨fr,τ,s⟩) k:=r8 (by rw[h]; rfl)
theorem d1A (x:Opd) (w:Bool) (h:j3 as=false):g8 call (⟨d,.b2s,as,none,some (x,w)⟩::os) ⟨fr,τ,s⟩ k=obind (gv (x.read ⟨fr,τ,s⟩) w (p1 (a0x call (as.map (·.read ⟨fr,τ,s⟩)) .undef s))) fun r=>g8 call os (d.put r ⟨fr,τ,s⟩) k:=r8 (by rw[h]; rfl)
end
def VV:=(AZ (AZ (AZ (AZ (AZ (AZ @c8e (AZ @b7b @b6s)) (AZ (AZ @d3Q @d2z) (AZ @d32 @d03))) (AZ (AZ (AZ @d4N @d3x) (AZ @d06 @put_t)) (AZ (AZ @put_v @d0y) (AZ @d2h @d3K)))) (AZ (AZ (AZ (AZ @d4h @d4m) (AZ @d4e @d4i)) (AZ (AZ @d3f @d2v) (AZ @d1q @d29))) (AZ (AZ (AZ @d3m @d4K) (AZ @d26 @d2V)) (AZ (AZ @c99 @c0W) (AZ @c4Z @c1i))))) (AZ (AZ (AZ (AZ @b7c (AZ @c7c @c6R)) (AZ (AZ @c7F @c3V) (AZ @d0S @d0N))) (AZ (AZ (AZ @d2A @c7Y) (AZ @c8r @d00)) (AZ (AZ @d1V @d2i) (AZ @d1e @d1S)))) (AZ (AZ (AZ (AZ @c7R @c68) (AZ @d28 @c7H)) (AZ (AZ @d19 @c9A) (AZ @d1c @c9a))) (AZ (AZ (AZ @c9D @d0Z) (AZ @d0w @c6g)) (AZ (AZ @c1I @b7j) (AZ @c8s @c7e)))))) (AZ (AZ (AZ (AZ (AZ @c6M (AZ @c4T @d1H)) (AZ (AZ @d0T @d1z) (AZ @c9y @d2L))) (AZ (AZ (AZ @d0E @d2b) (AZ @d01 @c6o)) (AZ (AZ @c6V @d4A) (AZ @c9w @d1T)))) (AZ (AZ (AZ (AZ @c78 @d17) (AZ @d1i @c6S)) (AZ (AZ @c3Y @b87) (AZ @b8K @c8D))) (AZ (AZ (AZ @c6c @b8M) (AZ @b52 @c6v)) (AZ (AZ @c3Z @c0w) (AZ @b7v @c48))))) (AZ (AZ (AZ (AZ (AZ @b98 @c54) (AZ @c0K @c4V)) (AZ (AZ @c0G @c6k) (AZ @c30 @d0K))) (AZ (AZ (AZ @c92 @c7B) (AZ @c31 @c8F)) (AZ (AZ @c5B @c45) (AZ @b9k @c4c)))) (AZ (AZ (AZ (AZ @c8m @c5F) (AZ @c6C @d4H)) (AZ (AZ @d3n @d36) (AZ @d4z @d2Q))) (AZ (AZ (AZ @d3k @c8T) (AZ @c0Y @c84)) (AZ (AZ @d1t @c6W) (AZ @c8c @d1A)))))))
end Go.Cb.V
namespace Go.Cb.G
open Go Go.Cb
variable {ρ:Type}
section
noncomputable def onI (x:AV) (e:(Option ρ)) (k:IntKind→Int→(Option ρ)):(Option ρ):=AV.rec (motive_1:=fun _=>(Option ρ)) (motive_2:=fun _=>Unit) (motive_3:=fun _=>Unit)
 e (fun _=>e) (fun t n=>k t n) (fun _=>e) (fun _ _ _=>e) (fun _ _=>e) e (fun _ _=>e) (fun _ _=>e) (fun _ _=>e) (fun _=>e) e (fun _ _ _ _ _=>e) e (fun _ _=>e) (fun _ _=>e) (fun _ _ _=>e) e (fun _ _ _ _=>e) (fun _ _=>e) e
 () (fun _ _ _ _=>()) () (fun _ _ _ _=>()) x
noncomputable def b9C (x:AV) (e:(Option ρ)) (k:IntKind→Int→(Option ρ)) (l:List Nat→(Option ρ)):(Option ρ):=AV.rec (motive_1:=fun _=>(Option ρ)) (motive_2:=fun _=>Unit) (motive_3:=fun _=>Unit)
 e (fun _=>e) (fun t n=>k t n) (fun s=>l s) (fun _ _ _=>e) (fun _ _=>e) e (fun _ _=>e) (fun _ _=>e) (fun _ _=>e) (fun _=>e) e (fun _ _ _ _ _=>e) e (fun _ _=>e) (fun _ _=>e) (fun _ _ _=>e) e (fun _ _ _ _=>e) (fun _ _=>e) e
 () (fun _ _ _ _=>()) () (fun _ _ _ _=>()) x
noncomputable def onS (x:AV) (e:(Option ρ)) (k:List Nat→(Option ρ)):(Option ρ):=AV.rec (motive_1:=fun _=>(Option ρ)) (motive_2:=fun _=>Unit) (motive_3:=fun _=>Unit)
 e (fun _=>e) (fun t n=>e) (fun s=>k s) (fun _ _ _=>e) (fun _ _=>e) e (fun _ _=>e) (fun _ _=>e) (fun _ _=>e) (fun _=>e) e (fun _ _ _ _ _=>e) e (fun _ _=>e) (fun _ _=>e) (fun _ _ _=>e) e (fun _ _ _ _=>e) (fun _ _=>e) e
 () (fun _ _ _ _=>()) () (fun _ _ _ _=>()) x
noncomputable def onB (x:AV) (e:(Option ρ)) (k:Bool→(Option ρ)):(Option ρ):=AV.rec (motive_1:=fun _=>(Option ρ)) (motive_2:=fun _=>Unit) (motive_3:=fun _=>Unit)
 e (fun b=>k b) (fun t n=>e) (fun s=>e) (fun _ _ _=>e) (fun _ _=>e) e (fun _ _=>e) (fun _ _=>e) (fun _ _=>e) (fun _=>e) e (fun _ _ _ _ _=>e) e (fun _ _=>e) (fun _ _=>e) (fun _ _ _=>e) e (fun _ _ _ _=>e) (fun _ _=>e) e
 () (fun _ _ _ _=>()) () (fun _ _ _ _=>()) x
noncomputable def c61 (x:AV) (e:(Option ρ)) (k:Bool→(Option ρ)) (t:List AV→(Option ρ)):(Option ρ):=AV.rec (motive_1:=fun _=>(Option ρ)) (motive_2:=fun _=>Unit) (motive_3:=fun _=>Unit)
 e (fun b=>k b) (fun t n=>e) (fun s=>e) (fun _ _ _=>e) (fun _ _=>e) e (fun _ _=>e) (fun _ _=>e) (fun _ _=>e) (fun _=>e) e (fun _ _ _ _ _=>e) e (fun _ _=>e) (fun vs _=>t vs) (fun _ _ _=>e) e (fun _ _ _ _=>e) (fun _ _=>e) e
 () (fun _ _ _ _=>()) () (fun _ _ _ _=>()) x
noncomputable def onL (x:AV) (e:(Option ρ)) (k:List (List AV)→(Option ρ)):(Option ρ):=AV.rec (motive_1:=fun _=>(Option ρ)) (motive_2:=fun _=>Unit) (motive_3:=fun _=>Unit)
 e (fun b=>e) (fun t n=>e) (fun s=>e) (fun _ xs _=>k xs) (fun _ _=>e) e (fun _ _=>e) (fun _ _=>e) (fun _ _=>e) (fun _=>e) e (fun _ _ _ _ _=>e) e (fun _ _=>e) (fun _ _=>e) (fun _ _ _=>e) e (fun _ _ _ _=>e) (fun _ _=>e) e
 () (fun _ _ _ _=>()) () (fun _ _ _ _=>()) x
noncomputable def onP (x:AV) (e:(Option ρ)) (k:Nat→Nat→(Option ρ)):(Option ρ):=AV.rec (motive_1:=fun _=>(Option ρ)) (motive_2:=fun _=>Unit) (motive_3:=fun _=>Unit)
 e (fun b=>e) (fun t n=>e) (fun s=>e) (fun _ xs _=>e) (fun o f=>k o f) e (fun _ _=>e) (fun _ _=>e) (fun _ _=>e) (fun _=>e) e (fun _ _ _ _ _=>e) e (fun _ _=>e) (fun _ _=>e) (fun _ _ _=>e) e (fun _ _ _ _=>e) (fun _ _=>e) e
 () (fun _ _ _ _=>()) () (fun _ _ _ _=>()) x
noncomputable def b0s (x:AV) (e:(Option ρ)) (k:Nat→Nat→(Option ρ)) (l:List AV→(Option ρ)) (m:Nat→Nat→(Option ρ)):(Option ρ):=AV.rec (motive_1:=fun _=>(Option ρ)) (motive_2:=fun _=>Unit) (motive_3:=fun _=>Unit)
 e (fun b=>e) (fun t n=>e) (fun s=>e) (fun _ xs _=>e) (fun o f=>k o f) e (fun cs _=>l cs) (fun i f=>m i f) (fun _ _=>e) (fun _=>e) e (fun _ _ _ _ _=>e) e (fun _ _=>e) (fun _ _=>e) (fun _ _ _=>e) e (fun _ _ _ _=>e) (fun _ _=>e) e
 () (fun _ _ _ _=>()) () (fun _ _ _ _=>()) x
noncomputable def onR (x:AV) (e:(Option ρ)) (l:List AV→(Option ρ)):(Option ρ):=AV.rec (motive_1:=fun _=>(Option ρ)) (motive_2:=fun _=>Unit) (motive_3:=fun _=>Unit)
 e (fun b=>e) (fun t n=>e) (fun s=>e) (fun _ xs _=>e) (fun o f=>e) e (fun cs _=>l cs) (fun _ _=>e) (fun _ _=>e) (fun _=>e) e (fun _ _ _ _ _=>e) e (fun _ _=>e) (fun _ _=>e) (fun _ _ _=>e) e (fun _ _ _ _=>e) (fun _ _=>e) e
 () (fun _ _ _ _=>()) () (fun _ _ _ _=>()) x
noncomputable def b5q (x:AV) (e:(Option ρ)) (l:List AV→(Option ρ)):(Option ρ):=AV.rec (motive_1:=fun _=>(Option ρ)) (motive_2:=fun _=>Unit) (motive_3:=fun _=>Unit)
 e (fun b=>e) (fun t n=>e) (fun s=>e) (fun _ xs _=>e) (fun o f=>e) e (fun cs _=>e) (fun _ _=>e) (fun cs _=>l cs) (fun _=>e) e (fun _ _ _ _ _=>e) e (fun _ _=>e) (fun _ _=>e) (fun _ _ _=>e) e (fun _ _ _ _=>e) (fun _ _=>e) e
 () (fun _ _ _ _=>()) () (fun _ _ _ _=>()) x
noncomputable def c0x (x:AV) (e:(Option ρ)) (l:Nat→Nat→(Option ρ)):(Option ρ):=AV.rec (motive_1:=fun _=>(Option ρ)) (motive_2:=fun _=>Unit) (motive_3:=fun _=>Unit)
 e (fun b=>e) (fun t n=>e) (fun s=>e) (fun _ xs _=>e) (fun o f=>e) e (fun cs _=>e) (fun i f=>l i f) (fun cs _=>e) (fun _=>e) e (fun _ _ _ _ _=>e) e (fun _ _=>e) (fun _ _=>e) (fun _ _ _=>e) e (fun _ _ _ _=>e) (fun _ _=>e) e
 () (fun _ _ _ _=>()) () (fun _ _ _ _=>()) x
theorem a08 (x:AV) (e:(Option ρ)) (k:IntKind→Int→(Option ρ)):onI x e k=match x with|.int t n=>k t n|_=>e:=by cases x<;>rfl
theorem b4k (x:AV) (e:(Option ρ)) (k:IntKind→Int→(Option ρ)) (l:List Nat→(Option ρ)):b9C x e k l=match x with|.int t n=>k t n|.str s=>l s|_=>e:=by cases x<;>rfl
theorem a4B (x:AV) (e:(Option ρ)) (k:List Nat→(Option ρ)):onS x e k=match x with|.str s=>k s|_=>e:=by cases x<;>rfl
theorem b2e (x:AV) (e:(Option ρ)) (k:Bool→(Option ρ)):onB x e k=match x with|.bool b=>k b|_=>e:=by cases x<;>rfl
theorem c55 (x:AV) (e:(Option ρ)) (k:Bool→(Option ρ)) (t:List AV→(Option ρ)):c61 x e k t=match x with|.bool b=>k b|.tuple vs=>t vs|_=>e:=by cases x<;>rfl
theorem b2w (x:AV) (e:(Option ρ)) (k:List (List AV)→(Option ρ)):onL x e k=match x with|.list _ xs=>k xs|_=>e:=by cases x<;>rfl
theorem b7N (x:AV) (e:(Option ρ)) (k:Nat→Nat→(Option ρ)):onP x e k=match x with|.ptr o f=>k o f|_=>e:=by cases x<;>rfl
theorem a6w (x:AV) (e:(Option ρ)) (k:Nat→Nat→(Option ρ)) (l:List AV→(Option ρ)) (m:Nat→Nat→(Option ρ)):b0s x e k l m=match x with|.ptr o f=>k o f|.ro cs=>l cs|.loc i f=>m i f|_=>e:=by cases x<;>rfl
theorem c9G (x:AV) (e:(Option ρ)) (l:List AV→(Option ρ)):onR x e l=match x with|.ro cs=>l cs|_=>e:=by cases x<;>rfl
theorem a8t (x:AV) (e:(Option ρ)) (l:List AV→(Option ρ)):b5q x e l=match x with|.box cs=>l cs|_=>e:=by cases x<;>rfl
theorem b30 (x:AV) (e:(Option ρ)) (l:Nat→Nat→(Option ρ)):c0x x e l=match x with|.loc i f=>l i f|_=>e:=by cases x<;>rfl
end
noncomputable def kIx (k:IntKind):Nat:=IntKind.rec (motive:=fun _=>Nat) 0 1 2 3 4 5 6 7 k
noncomputable def cB (b:Bool) (x y:(Option ρ)):(Option ρ):=Bool.rec (motive:=fun _=>(Option ρ)) y x b
theorem T1 (b:Bool) (x y:(Option ρ)):cB b x y=if b=true then x else y:=by cases b<;>rfl
theorem a49 (a b:IntKind):Nat.beq (kIx a) (kIx b)=decide (a=b):=by cases a<;>cases b<;>rfl
noncomputable def bo (b:Bool) (k:AV→(Option ρ)):(Option ρ):=cB b (k (.bool true)) (k (.bool false))
theorem a7u (b:Bool) (k:AV→(Option ρ)):bo b k=k (.bool b):=by cases b<;>rfl
noncomputable def a4u (n:Nat) (k:Nat→(Option ρ)):(Option ρ):=Nat.rec (motive:=fun _=>(Option ρ)) (k 0) (fun m _=>k (Nat.succ m)) n
theorem a0O (n:Nat) (k:Nat→(Option ρ)):a4u n k=k n:=by cases n<;>rfl
noncomputable def nn (a b:Int) (e:(Option ρ)) (k:Nat→Nat→(Option ρ)):(Option ρ):=Int.rec (motive:=fun _=>(Option ρ)) (fun a=>Int.rec (motive:=fun _=>(Option ρ)) (fun b=>k a b) (fun _=>e) b) (fun _=>e) a
theorem a5K (a b:Int) (e:(Option ρ)) (k:Nat→Nat→(Option ρ)):nn a b e k=match a,b with|.ofNat a,.ofNat b=>k a b|_,_=>e:=by cases a<;>cases b<;>rfl
noncomputable def eqF (x:List Nat):List Nat→Bool:=List.rec (motive:=fun _=>List Nat→Bool) (fun y=>List.rec (motive:=fun _=>Bool) true (fun _ _ _=>false) y)
 (fun a _ e y=>List.rec (motive:=fun _=>Bool) false (fun b t _=>Bool.rec (motive:=fun _=>Bool) false (e t) (Nat.beq a b)) y) x
theorem b1X:∀ x y:List Nat,eqF x y=eqN x y
 | [],[]=>rfl
 | [],_::_=>rfl
 | _::_,[]=>rfl
 | a::x,b::y=>by have e:=b1X x y;show(Bool.rec (motive:=fun _=>Bool) false (eqF x y) (Nat.beq a b))=(Nat.beq a b && eqN x y);rw[e];cases Nat.beq a b<;>rfl
noncomputable def a4Q {β:Type} (l:List β) (e:(Option ρ)) (k:β→(Option ρ)):Nat→(Option ρ):=List.rec (motive:=fun _=>Nat→(Option ρ)) (fun _=>e) (fun a _ t i=>Nat.rec (motive:=fun _=>(Option ρ)) (k a) (fun j _=>t j) i) l
theorem a3F {β:Type}:∀ (l:List β) (e:(Option ρ)) (k:β→(Option ρ)) (i:Nat),a4Q l e k i=match l[i]? with|some a=>k a|none=>e
 | [],e,k,i=>by cases i<;>rfl
 | a::l,e,k,0=>rfl
 | a::l,e,k,i+1=>by have:=a3F l e k i;show a4Q l e k i=_;rw[this];simp
noncomputable def L5 {β:Type} (l:List β):Nat:=List.rec (motive:=fun _=>Nat) 0 (fun _ _ n=>Nat.add n 1) l
theorem I6 {β:Type}:∀ l:List β,L5 l=l.length
 | []=>rfl
 | a::l=>by show Nat.add (L5 l) 1=_;rw[I6 l];rfl
noncomputable def a8b (n:Nat):List AV→List AV:=Nat.rec (motive:=fun _=>List AV→List AV) (fun l=>l) (fun _ e l=>List.rec (motive:=fun _=>List AV) [] (fun _ t _=>e t) l) n
theorem a2n:∀ (n:Nat) (l:List AV),a8b n l=l.drop n
 | 0,l=>rfl
 | n+1,[]=>rfl
 | n+1,a::l=>a2n n l
noncomputable def b0i {β:Type} (i:Nat) (l:List β):List β:=Nat.rec (motive:=fun _=>List β) l (fun _ e=>List.rec (motive:=fun _=>List β) [] (fun _ t _=>t) e) i
theorem a6T {β:Type}:∀ (i:Nat) (l:List β),b0i i l=l.drop i
 | 0,l=>rfl
 | i+1,l=>by have:=a6T i l;show List.rec (motive:=fun _=>List β) [] (fun _ t _=>t) (b0i i l)=_;rw[this,show l.drop (i+1)=(l.drop i).drop 1 by rw[List.drop_drop]];cases l.drop i<;>rfl
noncomputable def atO {β:Type} (l:List β) (e:(Option ρ)) (k:β→(Option ρ)) (i:Nat):(Option ρ):=List.rec (motive:=fun _=>(Option ρ)) e (fun a _ _=>k a) (b0i i l)
theorem b7e {β:Type} (l:List β) (e:(Option ρ)) (k:β→(Option ρ)) (i:Nat):atO l e k i=match l[i]? with|some a=>k a|none=>e:=by
 unfold atO;rw[a6T];have h:l[i]?=(l.drop i)[0]?:=by simp
 rw[h];cases l.drop i<;>rfl
noncomputable def b0m {β:Type} (n:Nat) (l:List β) (k:List β→(Option ρ)):(Option ρ):=Nat.rec (motive:=fun _=>List β→(List β→(Option ρ))→(Option ρ)) (fun _ k=>k []) (fun _ e l k=>List.rec (motive:=fun _=>(Option ρ)) (k []) (fun a t _=>e t fun r=>k (a::r)) l) n l k
theorem a36 {β:Type}:∀ (n:Nat) (l:List β) (k:List β→(Option ρ)),b0m n l k=k (l.take n)
 | 0,l,k=>by show k []=_; rw[List.take_zero]
 | n+1,[],k=>rfl
 | n+1,a::l,k=>a36 n l fun r=>k (a::r)
noncomputable def a6L {β:Type} (l r:List β) (k:List β→(Option ρ)):(Option ρ):=List.rec (motive:=fun _=>(List β→(Option ρ))→(Option ρ)) (fun k=>k r) (fun a _ e k=>e fun t=>k (a::t)) l k
theorem a5r {β:Type} (r:List β):∀ (l:List β) (k:List β→(Option ρ)),a6L l r k=k (l++r)
 | [],k=>rfl
 | a::l,k=>a5r r l fun t=>k (a::t)
noncomputable def c1Y (l:List AV) (e:(Option ρ)) (k:AV→(Option ρ)):(Option ρ):=List.rec (motive:=fun _=>(Option ρ)) e (fun a _ _=>k a) l
theorem b92 (l:List AV) (e:(Option ρ)) (k:AV→(Option ρ)):c1Y l e k=match l with|a::_=>k a|[]=>e:=by cases l<;>rfl
noncomputable def w1K (x:AV) (k:AV→(Option ρ)):(Option ρ):=AV.rec (motive_1:=fun _=>(Option ρ)) (motive_2:=fun _=>Unit) (motive_3:=fun _=>Unit)
 (k .undef) (fun b=>k (.bool b)) (fun t n=>k (.int t n)) (fun s=>k (.str s)) (fun _ xs _=>k (.list false xs)) (fun o f=>k (.ptr o f)) (k .nilp) (fun cs _=>k (.ro cs)) (fun i f=>k (.loc i f)) (fun cs _=>k (.box cs)) (fun o=>k (.map o)) (k .nilm) (fun f a c _ _=>k (.func f a c)) (k .nilf) (fun cs _=>k (.agg cs)) (fun vs _=>k (.tuple vs)) (fun t v _=>k (.iface t v)) (k .nili) (fun o f n s=>k (.sl o f n s)) (fun xs _=>k (.fresh xs)) (k .nils)
 () (fun _ _ _ _=>()) () (fun _ _ _ _=>()) x
theorem b61 (x:AV) (k:AV→(Option ρ)):w1K x k=k x.weak1:=by cases x<;>rfl
noncomputable def c0n (l:List AV) (k:List AV→(Option ρ)):(Option ρ):=List.rec (motive:=fun _=>(List AV→(Option ρ))→(Option ρ)) (fun k=>k []) (fun a _ e k=>w1K a fun w=>e fun r=>k (w::r)) l k
theorem b3I:∀ (l:List AV) (k:List AV→(Option ρ)),c0n l k=k (l.map AV.weak1)
 | [],k=>rfl
 | a::l,k=>by show w1K a (fun w=>c0n l fun r=>k (w::r))=_;rw[b61,b3I l];rfl
noncomputable def a7q {β:Type} (l:List β) (e:(Option ρ)) (k:List β→(Option ρ)):(Option ρ):=List.rec (motive:=fun _=>(Option ρ)) e (fun _ l _=>List.rec (motive:=fun _=>(Option ρ)) e (fun _ l _=>List.rec (motive:=fun _=>(Option ρ)) e (fun _ l _=>List.rec (motive:=fun _=>(Option ρ)) e (fun _ l _=>List.rec (motive:=fun _=>(Option ρ)) e (fun _ l _=>List.rec (motive:=fun _=>(Option ρ)) e (fun _ l _=>List.rec (motive:=fun _=>(Option ρ)) e (fun _ l _=>List.rec (motive:=fun _=>(Option ρ)) e (fun _ l _=>k l) l) l) l) l) l) l) l) l
theorem b9y {β:Type} (l:List β) (e:(Option ρ)) (k:List β→(Option ρ)):a7q l e k=if 8≤l.length then k (l.drop 8)else e:=by
 match l with
 | []=>rfl
 | [_]=>rfl
 | [_,_]=>rfl
 | [_,_,_]=>rfl
 | [_,_,_,_]=>rfl
 | [_,_,_,_,_]=>rfl
 | [_,_,_,_,_,_]=>rfl
 | [_,_,_,_,_,_,_]=>rfl
 | _::_::_::_::_::_::_::_::t=>rw[if_pos (by simp)]; rfl
noncomputable def b4B {β:Type} (l:List β) (e:(Option ρ)) (k:β→(Option ρ)) (i:Nat):(Option ρ):=Nat.rec (motive:=fun _=>List β→(Option ρ)) (fun l=>a4Q l e k (Nat.mod i 8)) (fun _ t l=>a7q l e t) (Nat.div i 8) l
theorem b3q {β:Type} (e:(Option ρ)) (k:β→(Option ρ)) (r:Nat):∀ (q:Nat) (l:List β),Nat.rec (motive:=fun _=>List β→(Option ρ)) (fun l=>a4Q l e k r) (fun _ t l=>a7q l e t) q l=a4Q l e k (8*q+r)
 | 0,l=>by show a4Q l e k r=_; rw[Nat.mul_zero,Nat.zero_add]
 | q+1,l=>by
  show a7q l e (fun l=>Nat.rec (motive:=fun _=>List β→(Option ρ)) (fun l=>a4Q l e k r) (fun _ t l=>a7q l e t) q l)=_;rw[b9y,b3q e k r q (l.drop 8),a3F,a3F];split
  · rw[List.getElem?_drop,show 8+(8*q+r)=8*(q+1)+r by omega]
  · rw[List.getElem?_eq_none (by omega)]
theorem b3V {β:Type} (l:List β) (e:(Option ρ)) (k:β→(Option ρ)) (i:Nat):b4B l e k i=match l[i]? with|some a=>k a|none=>e:=by unfold b4B;rw[b3q e k (Nat.mod i 8) (Nat.div i 8) l,a3F,show 8*Nat.div i 8+Nat.mod i 8=i from Nat.div_add_mod i 8]
noncomputable def a4b {β:Type} (l:List β) (e:(Option ρ)) (t:List β→(List β→(Option ρ))→(Option ρ)) (k:List β→(Option ρ)):(Option ρ):=List.rec (motive:=fun _=>(Option ρ)) e (fun a0 l _=>List.rec (motive:=fun _=>(Option ρ)) e (fun a1 l _=>List.rec (motive:=fun _=>(Option ρ)) e (fun a2 l _=>List.rec (motive:=fun _=>(Option ρ)) e (fun a3 l _=>List.rec (motive:=fun _=>(Option ρ)) e (fun a4 l _=>List.rec (motive:=fun _=>(Option ρ)) e (fun a5 l _=>List.rec (motive:=fun _=>(Option ρ)) e (fun a6 l _=>List.rec (motive:=fun _=>(Option ρ)) e (fun a7 l _=>t l (fun r=>k (a0::a1::a2::a3::a4::a5::a6::a7::r))) l) l) l) l) l) l) l) l
theorem b4e {β:Type} (l:List β) (e:(Option ρ)) (u:List β→(List β→(Option ρ))→(Option ρ)) (k:List β→(Option ρ)):a4b l e u k=if 8≤l.length then u (l.drop 8) (fun r=>k (l.take 8++r))else e:=by
 match l with
 | []=>rfl
 | [_]=>rfl
 | [_,_]=>rfl
 | [_,_,_]=>rfl
 | [_,_,_,_]=>rfl
 | [_,_,_,_,_]=>rfl
 | [_,_,_,_,_,_]=>rfl
 | [_,_,_,_,_,_,_]=>rfl
 | _::_::_::_::_::_::_::_::t=>rw[if_pos (by simp)]; rfl
section
variable (c:b9) (b:AV) (s:St) (f:AV→(Option ρ))
noncomputable def c02 (x y:AV):(Option ρ):=b9C x none (fun t m=>onI y none fun u n=>cB (Nat.beq (kIx t) (kIx u)) (nn m n (bo (eqI m n) f) fun a b=>bo (Nat.beq a b) f) none) (fun l=>onS y none fun r=>bo (eqF l r) f)
noncomputable def c0J (x y:AV):(Option ρ):=b9C x none (fun t m=>onI y none fun u n=>cB (Nat.beq (kIx t) (kIx u)) (nn m n (bo (!eqI m n) f) fun a b=>cB (Nat.beq a b) (f (.bool false)) (f (.bool true))) none) (fun l=>onS y none fun r=>cB (eqF l r) (f (.bool false)) (f (.bool true)))
noncomputable def a3c (op:BinOp) (g:Nat→Nat→Bool) (x y:AV):(Option ρ):=onI x (obind (p1 (sem (.bin op) c [x,y] b s)) f) (fun t m=>onI y none fun u n=>cB (Nat.beq (kIx t) (kIx u)) (nn m n (obind (p1 (sem (.bin op) c [.int t m,.int u n] b s)) f) fun a b=>bo (g a b) f) none)
noncomputable def b9w (x y:AV):(Option ρ):=onI x (obind (p1 (sem (.bin .add) c [x,y] b s)) f) (fun t m=>onI y none fun u n=>cB (Nat.beq (kIx t) (kIx u)) (nn m n (obind (p1 (sem (.bin .add) c [.int t m,.int u n] b s)) f)
 fun i j=>a4u (Nat.add i j) fun r=>cB (Nat.blt r 128) (f (.int t (.ofNat r))) (cB (Nat.beq (kIx t) 3) (cB (Nat.blt r 9223372036854775808) (f (.int t (.ofNat r))) (obind (p1 (sem (.bin .add) c [.int t m,.int u n] b s)) f)) (obind (p1 (sem (.bin .add) c [.int t m,.int u n] b s)) f))) none)
noncomputable def c1c (x y:AV):(Option ρ):=onI x (obind (p1 (sem (.bin .sub) c [x,y] b s)) f) (fun t m=>onI y none fun u n=>cB (Nat.beq (kIx t) (kIx u)) (nn m n (obind (p1 (sem (.bin .sub) c [.int t m,.int u n] b s)) f)
 fun i j=>cB (Nat.ble j i) (a4u (Nat.sub i j) fun r=>cB (Nat.blt r 128) (f (.int t (.ofNat r))) (cB (Nat.beq (kIx t) 3) (cB (Nat.blt r 9223372036854775808) (f (.int t (.ofNat r))) (obind (p1 (sem (.bin .sub) c [.int t m,.int u n] b s)) f)) (obind (p1 (sem (.bin .sub) c [.int t m,.int u n] b s)) f))) (obind (p1 (sem (.bin .sub) c [.int t m,.int u n] b s)) f)) none)
noncomputable def b8Z (x:AV):(Option ρ):=onB x none fun y=>cB y (f (.bool false)) (f (.bool true))
noncomputable def b1q (x:AV):(Option ρ):=cB x.plain (f x) none
noncomputable def b5s (x y z:AV):(Option ρ):=onB x none fun v=>cB v (b1q f y) (b1q f z)
noncomputable def b83 (x:AV):(Option ρ):=b0s x (obind (p1 (sem .nilchk c [x] b s)) f) (fun o i=>f (.ptr o i)) (fun cs=>f (.ro cs)) (fun i j=>f (.loc i j))
noncomputable def b9Z (d:Nat) (x:AV):(Option ρ):=b0s x none (fun o i=>a4u (Nat.add i d) fun i=>f (.ptr o i)) (fun cs=>f (.ro (a8b d cs))) (fun o i=>a4u (Nat.add i d) fun i=>f (.loc o i))
noncomputable def a5x (e:Bool) (n:Nat) (cs:List AV):(Option ρ):=cB e (cB (Nat.ble n (L5 cs)) (b0m n cs fun r=>c0n r fun r=>f (.agg r)) none) (c1Y cs none fun x=>w1K x f)
noncomputable def b0P (x:Obj) (k:List AV→(Option ρ)):(Option ρ):=Obj.rec (motive:=fun _=>(Option ρ)) k (fun _=>none) none x
noncomputable def a7Q (e:Bool) (n:Nat) (x:AV):(Option ρ):=onP x none fun o i=>b4B s none (fun ob=>b0P ob fun cs=>a5x f e n (a8b i cs)) o
noncomputable def a7Y (e:Bool) (n:Nat) (x:AV):(Option ρ):=onR x none fun cs=>a5x f e n cs
noncomputable def b6A (i:Nat) (e:Bool) (n:Nat) (x:AV):(Option ρ):=c0x x none fun j off=>b5q b none fun cs=>cB (Nat.beq i j) (a5x f e n (a8b off cs)) none
noncomputable def b4R (x:AV):(Option ρ):=onS x none fun l=>a4u (L5 l) fun n=>f (.int .i64 (.ofNat n))
noncomputable def b41 (x:AV):(Option ρ):=onL x (obind (p1 (sem .lenL c [x] b s)) f) fun l=>a4u (L5 l) fun n=>f (.int .i64 (.ofNat n))
noncomputable def c1p (x y:AV):(Option ρ):=onS x none fun l=>onI y none fun _ n=>Int.rec (motive:=fun _=>(Option ρ)) (fun i=>atO l none (fun m=>f (.int .u8 (.ofNat m))) i) (fun _=>none) n
noncomputable def b9V (sz:Nat) (x y:AV):(Option ρ):=onL x (obind (p1 (sem (.iad sz) c [x,y] b s)) f) fun l=>onI y none fun _ n=>Int.rec (motive:=fun _=>(Option ρ)) (fun i=>atO l none (fun r=>cB (Nat.beq (L5 r) sz) (f (.ro r)) none) i) (fun _=>none) n
end
section
variable (c:b9) (b:AV) (s:St) (f:AV→(Option ρ))
theorem c4Q (x y:AV):c02 f x y=obind (p1 (sem (.bin .eql) c [x,y] b s)) f:=by
 simp only[c02,b4k,a08,a4B,T1,a7u,a5K,b1X,a49,sem,E2];cases x<;>cases y<;>try rfl
 · rename_i t m u n;by_cases h:t=u
   · subst h;cases m<;>cases n<;>simp[n9,p1,obind,eqI]
   · simp[n9,h,p1,obind]
theorem c57 (x y:AV):c0J f x y=obind (p1 (sem (.bin .neq) c [x,y] b s)) f:=by
 simp only[c0J,b4k,a08,a4B,T1,a7u,a5K,b1X,a49,sem,E2];cases x<;>cases y<;>try rfl
 · rename_i t m u n;by_cases h:t=u
   · subst h;cases m<;>cases n<;>simp[n9,p1,obind,eqI];rename_i m n;by_cases h:m=n
     · subst h; simp
     · have e:Nat.beq m n=false:=Bool.eq_false_iff.mpr (fun q=>h (Nat.eq_of_beq_eq_true q));simp[e,h]
   · simp[n9,h,p1,obind]
 · rename_i l r;simp only[n9,AO,p1,obind];cases eqN l r<;>rfl
theorem b9d {op:BinOp} (e:op=.lss∨op=.leq∨op=.gtr∨op=.geq) (t:IntKind) (m:Int) (y:AV) (l:∀ u n,y≠.int u n):n9 op (.int t m) y=none:=by cases y<;>first|(exfalso; exact l _ _ rfl)|(rcases e with rfl|rfl|rfl|rfl<;>rfl)
theorem c9Y {op:BinOp} (e:op=.lss∨op=.leq∨op=.gtr∨op=.geq) {t u:IntKind} (h:t≠u) (m n:Int):n9 op (.int t m) (.int u n)=none:=by rcases e with rfl|rfl|rfl|rfl<;>simp[n9,h]
theorem a5V (op:BinOp) (g:Nat→Nat→Bool) (e:op=.lss∨op=.leq∨op=.gtr∨op=.geq) (l:∀ (t:IntKind) (i j:Nat),n9 op (.int t (.ofNat i)) (.int t (.ofNat j))=some (.bool (g i j))) (x y:AV):a3c c b s f op g x y=obind (p1 (sem (.bin op) c [x,y] b s)) f:=by
 simp only[a3c,a08,T1,a7u,a5K,a49];cases x<;>try rfl
 rename_i t m;cases y
 case int u n =>
  simp only;by_cases h:t=u
  · subst h;simp only[decide_true,if_true];cases m<;>cases n<;>try rfl
    rename_i i j;simp only[sem,E2,l,AO,p1,obind]
  · simp only[h,decide_false,Bool.false_eq_true,if_false,sem,E2,c9Y e h,Option.map_none,p1,obind]
 all_goals (simp only[sem,E2]; rw[b9d e _ _ _ (by simp)]; rfl)
theorem a7r (t:IntKind) {r:Nat} (h:r < 128):n4 t (Int.ofNat r)=Int.ofNat r:=by rw[Q1];cases t<;>simp[IntKind.wrap,IntKind.signed,IntKind.bits]<;>omega
theorem b0b {r:Nat} (h:r < 9223372036854775808):n4 .i64 (Int.ofNat r)=Int.ofNat r:=by simp only[n4];rw[if_pos (by simpa using h)]
theorem c2G (t:IntKind):Nat.beq (kIx t) 3=true→t=.i64:=by cases t<;>decide
theorem a7y {op:BinOp} (e:op=.add∨op=.sub) (t:IntKind) (m:Int) (y:AV) (l:∀ u n,y≠.int u n):n9 op (.int t m) y=none:=by cases y<;>first|(exfalso; exact l _ _ rfl)|(rcases e with rfl|rfl<;>rfl)
theorem c4N (x y:AV):b9w c b s f x y=obind (p1 (sem (.bin .add) c [x,y] b s)) f:=by
 simp only[b9w,a08,T1,a7u,a5K,a49,a0O];cases x<;>try rfl
 rename_i t m;cases y
 case int u n =>
  simp only;by_cases h:t=u
  · subst h;simp only[decide_true,if_true];cases m<;>cases n<;>try rfl
    rename_i i j;dsimp only;have e:∀ r,Nat.add i j=r→n4 t (Int.ofNat r)=Int.ofNat r→f (.int t (.ofNat r))=obind (p1 (sem (.bin .add) c [.int t (.ofNat i),.int t (.ofNat j)] b s)) f:=fun r z C=>by subst z;simp only[sem,E2,n9,if_true,a2W,C,AO,p1,obind]
    split
    · rename_i l;exact e _ rfl (a7r t (by simpa using l))
    · split
      · rename_i v;have:=c2G t v;subst this;split
        · rename_i l;exact e _ rfl (b0b (by simpa using l))
        · rfl
      · rfl
  · simp only[h,decide_false,Bool.false_eq_true,if_false,sem,E2,n9,Option.map_none,p1,obind]
 all_goals (simp only[sem,E2]; rw[a7y (.inl rfl) _ _ _ (by simp)]; rfl)
theorem c43 (x y:AV):c1c c b s f x y=obind (p1 (sem (.bin .sub) c [x,y] b s)) f:=by
 simp only[c1c,a08,T1,a7u,a5K,a49,a0O];cases x<;>try rfl
 rename_i t m;cases y
 case int u n =>
  simp only;by_cases h:t=u
  · subst h;simp only[decide_true,if_true];cases m<;>cases n<;>try rfl
    rename_i i j;dsimp only;split
    · rename_i v;have e:∀ r,Nat.sub i j=r→n4 t (Int.ofNat r)=Int.ofNat r→f (.int t (.ofNat r))=obind (p1 (sem (.bin .sub) c [.int t (.ofNat i),.int t (.ofNat j)] b s)) f:=fun r C I=>by subst C;simp only[sem,E2,n9,if_true,a1v,v,I,AO,p1,obind]
      split
      · rename_i l;exact e _ rfl (a7r t (by simpa using l))
      · split
        · rename_i z;have:=c2G t z;subst this;split
          · rename_i l;exact e _ rfl (b0b (by simpa using l))
          · rfl
        · rfl
    · rfl
  · simp only[h,decide_false,Bool.false_eq_true,if_false,sem,E2,n9,Option.map_none,p1,obind]
 all_goals (simp only[sem,E2]; rw[a7y (.inr rfl) _ _ _ (by simp)]; rfl)
theorem c5v (x:AV):b8Z f x=obind (p1 (sem (.un .not) c [x] b s)) f:=by
 simp only[b8Z,b2e,T1,sem];cases x<;>try rfl
 rename_i y; cases y<;>rfl
theorem c0t (x y z:AV):b5s f x y z=obind (p1 (sem .pick c [x,y,z] b s)) f:=by
 simp only[b5s,b1q,b2e,T1,sem];cases x<;>try rfl
 rename_i v;cases v
 · simp only[F9,Bool.false_eq_true,if_false]; split<;>rfl
 · simp only[F9,if_true]; split<;>rfl
theorem c4C (x:AV):b83 c b s f x=obind (p1 (sem .nilchk c [x] b s)) f:=by simp only[b83,a6w];cases x<;>rfl
theorem c4q (d:Nat) (x:AV):b9Z f d x=obind (p1 (sem (.fad d) c [x] b s)) f:=by simp only[b9Z,a6w,a0O,a2n];cases x<;>rfl
theorem a4j (l:Bool) (n:Nat) (cs:List AV):a5x f l n cs=match l8 l n cs with|some v=>f v|none=>none:=by
 simp only[a5x,T1,b92,I6,a36,b3I,b61];cases l
 · cases cs<;>rfl
 · simp only[l8,if_true];by_cases h:n≤cs.length
   · have e:Nat.ble n cs.length=true:=by simpa using h
     simp only[e,h,if_true]
   · have e:Nat.ble n cs.length=false:=Bool.eq_false_iff.mpr (fun q=>h (Nat.le_of_ble_eq_true q));simp only[e,h,Bool.false_eq_true,if_false]
theorem a9Q (x:Obj) (k:List AV→(Option ρ)):b0P x k=match x with|.cells cs=>k cs|_=>none:=by cases x<;>rfl
theorem b2q {x:Option AV}:obind (p1 (x.map fun v=>(v,b,s))) f=match x with|some v=>f v|none=>none:=by cases x<;>rfl
theorem b0X (e:Bool) (n:Nat) (x:AV):a7Q s f e n x=obind (p1 (sem (.ldSt e n) c [x] b s)) f:=by
 simp only[a7Q,b7N,b3V,a9Q,a4j,a2n];cases x<;>try rfl
 rename_i o i;simp only[sem,F4];cases s[o]? with
 | none=>rfl
 | some ob=>cases ob<;>first|rfl|exact(b2q b s f).symm
theorem b1r (e:Bool) (n:Nat) (x:AV):a7Y f e n x=obind (p1 (sem (.ldRo e n) c [x] b s)) f:=by
 simp only[a7Y,c9G,a4j];cases x<;>try rfl
 exact(b2q b s f).symm
theorem c1T (i:Nat) (e:Bool) (n:Nat) (x:AV):b6A b f i e n x=obind (p1 (sem (.ldLc i e n) c [x] b s)) f:=by
 simp only[b6A,b30,a8t,a4j,a2n,T1];cases x<;>try rfl
 rename_i j off;cases b<;>try rfl
 rename_i cs;simp only[sem,P3];by_cases h:i=j
 · simp only[h,Nat.beq_refl,if_true];exact(b2q _ s f).symm
 · have:Nat.beq i j=false:=Bool.eq_false_iff.mpr (fun q=>h (Nat.eq_of_beq_eq_true q));simp only[this,h,Bool.false_eq_true,if_false];rfl
theorem b89 (x:AV):b4R f x=obind (p1 (sem .lenS c [x] b s)) f:=by simp only[b4R,a4B,a0O,I6];cases x<;>rfl
theorem b9a (x:AV):b41 c b s f x=obind (p1 (sem .lenL c [x] b s)) f:=by simp only[b41,b2w,a0O,I6];cases x<;>rfl
theorem c4h (x y:AV):c1p f x y=obind (p1 (sem .idxS c [x,y] b s)) f:=by
 simp only[c1p,a4B,a08,b7e];cases x<;>try rfl
 cases y<;>try rfl
 rename_i l k n;simp only[sem,R3];cases n with
 | ofNat i =>have e:(Int.ofNat i).toNat=i:=rfl;simp only[Int.ofNat_eq_natCast,Int.natCast_nonneg,if_true,Int.toNat_natCast];cases l[i]?<;>rfl
 | negSucc i=>rfl
theorem c5W (sz:Nat) (x y:AV):b9V c b s f sz x y=obind (p1 (sem (.iad sz) c [x,y] b s)) f:=by
 simp only[b9V,b2w,a08,b7e,T1,I6];cases x<;>try rfl
 cases y<;>try rfl
 rename_i w l k n;simp only[sem,L0];cases n with
 | ofNat i =>
  simp only[Int.ofNat_eq_natCast,Int.natCast_nonneg,if_true,Int.toNat_natCast];cases l[i]? with
  | none=>rfl
  | some r =>
   by_cases h:r.length=sz
   · have:Nat.beq r.length sz=true:=by rw[h]; exact Nat.beq_refl sz
     simp only[this,if_true,if_pos h];rfl
   · have:Nat.beq r.length sz=false:=Bool.eq_false_iff.mpr (fun q=>h (Nat.eq_of_beq_eq_true q));simp only[this,h,Bool.false_eq_true,if_false];rfl
 | negSucc i=>rfl
end
noncomputable def qSb (x:AV) (k:AV→AV→(Option ρ)):(Option ρ):=AV.rec (motive_1:=fun _=>(Option ρ)) (motive_2:=fun _=>Unit) (motive_3:=fun _=>Unit)
 (k .undef .undef)
 (fun b=>k (.bool b) (.bool b))
 (fun t n=>k (.int t n) (.int t n))
 (fun s=>k (.str s) (.str s))
 (fun o xs _=>k (.list o xs) (.list false xs))
 (fun o f=>k (.ptr o f) (.ptr o f))
 (k .nilp .nilp)
 (fun cs _=>k (.ro cs) (.ro cs))
 (fun i f=>k (.loc i f) (.loc i f))
 (fun cs _=>k .undef .undef)
 (fun o=>k (.map o) (.map o))
 (k .nilm .nilm)
 (fun f a c _ _=>k (.func f a c) (.func f a c))
 (k .nilf .nilf)
 (fun cs _=>k (.agg cs) (.agg (cs.map AV.weak1)))
 (fun vs _=>k (.tuple vs) (.tuple vs))
 (fun t v _=>k (.iface t v) (.iface t v))
 (k .nili .nili)
 (fun o f n s=>k (.sl o f n s) (.sl o f n s))
 (fun xs _=>k (.fresh xs) (.fresh xs))
 (k .nils .nils)
 () (fun _ _ _ _=>()) () (fun _ _ _ _=>()) x
noncomputable def qSv (x:AV) (k:AV→AV→(Option ρ)):(Option ρ):=AV.rec (motive_1:=fun _=>(Option ρ)) (motive_2:=fun _=>Unit) (motive_3:=fun _=>Unit)
 (k .undef .undef)
 (fun b=>k (.bool b) (.bool b))
 (fun t n=>k (.int t n) (.int t n))
 (fun s=>k (.str s) (.str s))
 (fun o xs _=>k (.list o xs) (.list false xs))
 (fun o f=>k (.ptr o f) (.ptr o f))
 (k .nilp .nilp)
 (fun cs _=>k (.ro cs) (.ro cs))
 (fun i f=>k .undef .undef)
 (fun cs _=>k .undef .undef)
 (fun o=>k (.map o) (.map o))
 (k .nilm .nilm)
 (fun f a c _ _=>k (.func f a c) (.func f a c))
 (k .nilf .nilf)
 (fun cs _=>k (.agg cs) (.agg (cs.map AV.weak1)))
 (fun vs _=>k (.tuple vs) (.tuple vs))
 (fun t v _=>k (.iface t v) (.iface t v))
 (k .nili .nili)
 (fun o f n s=>k (.sl o f n s) (.sl o f n s))
 (fun xs _=>k (.fresh xs) (.fresh xs))
 (k .nils .nils)
 () (fun _ _ _ _=>()) () (fun _ _ _ _=>()) x
noncomputable def qWk (x:AV) (k:AV→(Option ρ)):(Option ρ):=AV.rec (motive_1:=fun _=>(Option ρ)) (motive_2:=fun _=>Unit) (motive_3:=fun _=>Unit)
 (k .undef)
 (fun b=>k (.bool b))
 (fun t n=>k (.int t n))
 (fun s=>k (.str s))
 (fun o xs _=>k (.list false xs))
 (fun o f=>k (.ptr o f))
 (k .nilp)
 (fun cs _=>k (.ro cs))
 (fun i f=>k (.loc i f))
 (fun cs _=>k (.box cs))
 (fun o=>k (.map o))
 (k .nilm)
 (fun f a c _ _=>k (.func f a c))
 (k .nilf)
 (fun cs _=>k (.agg (cs.map AV.weak1)))
 (fun vs _=>k (.tuple vs))
 (fun t v _=>k (.iface t v))
 (k .nili)
 (fun o f n s=>k (.sl o f n s))
 (fun xs _=>k (.fresh xs))
 (k .nils)
 () (fun _ _ _ _=>()) () (fun _ _ _ _=>()) x
theorem b64 (x:AV) (k:AV→AV→(Option ρ)):qSb x k=k (AV.stripB x) (AV.weak (AV.stripB x)):=by cases x<;>rfl
theorem c9O (x:AV) (k:AV→AV→(Option ρ)):qSv x k=k (AV.strip x) (AV.weak (AV.strip x)):=by cases x<;>rfl
theorem a2i (x:AV) (k:AV→(Option ρ)):qWk x k=k (AV.weak x):=by cases x<;>rfl
noncomputable def onT (x:AV) (k:List AV→(Option ρ)):(Option ρ):=AV.rec (motive_1:=fun _=>(Option ρ)) (motive_2:=fun _=>Unit) (motive_3:=fun _=>Unit)
 (none)
 (fun b=>none)
 (fun t n=>none)
 (fun s=>none)
 (fun o xs _=>none)
 (fun o f=>none)
 (none)
 (fun cs _=>none)
 (fun i f=>none)
 (fun cs _=>none)
 (fun o=>none)
 (none)
 (fun f a c _ _=>none)
 (none)
 (fun cs _=>none)
 (fun vs _=>k vs)
 (fun t v _=>none)
 (none)
 (fun o f n s=>none)
 (fun xs _=>none)
 (none)
 () (fun _ _ _ _=>()) () (fun _ _ _ _=>()) x
theorem c8G (x:AV) (k:List AV→(Option ρ)):onT x k=match x with|.tuple vs=>k vs|_=>none:=by cases x<;>rfl
noncomputable def c8V (x:AV) (e:(Option ρ)) (k:Bool→List (List AV)→(Option ρ)):(Option ρ):=AV.rec (motive_1:=fun _=>(Option ρ)) (motive_2:=fun _=>Unit) (motive_3:=fun _=>Unit)
 (e)
 (fun b=>e)
 (fun t n=>e)
 (fun s=>e)
 (fun o xs _=>k o xs)
 (fun o f=>e)
 (e)
 (fun cs _=>e)
 (fun i f=>e)
 (fun cs _=>e)
 (fun o=>e)
 (e)
 (fun f a c _ _=>e)
 (e)
 (fun cs _=>e)
 (fun vs _=>e)
 (fun t v _=>e)
 (e)
 (fun o f n s=>e)
 (fun xs _=>e)
 (e)
 () (fun _ _ _ _=>()) () (fun _ _ _ _=>()) x
theorem c4U (x:AV) (e:(Option ρ)) (k:Bool→List (List AV)→(Option ρ)):c8V x e k=match x with|.list o xs=>k o xs|_=>e:=by cases x<;>rfl
noncomputable def onU (x:AV) (k:(Option ρ)):(Option ρ):=AV.rec (motive_1:=fun _=>(Option ρ)) (motive_2:=fun _=>Unit) (motive_3:=fun _=>Unit)
 (k)
 (fun b=>none)
 (fun t n=>none)
 (fun s=>none)
 (fun o xs _=>none)
 (fun o f=>none)
 (none)
 (fun cs _=>none)
 (fun i f=>none)
 (fun cs _=>none)
 (fun o=>none)
 (none)
 (fun f a c _ _=>none)
 (none)
 (fun cs _=>none)
 (fun vs _=>none)
 (fun t v _=>none)
 (none)
 (fun o f n s=>none)
 (fun xs _=>none)
 (none)
 () (fun _ _ _ _=>()) () (fun _ _ _ _=>()) x
theorem c8O (x:AV) (k:(Option ρ)):onU x k=match x with|.undef=>k|_=>none:=by cases x<;>rfl
noncomputable def onC (x:AV) (k:List AV→(Option ρ)):(Option ρ):=AV.rec (motive_1:=fun _=>(Option ρ)) (motive_2:=fun _=>Unit) (motive_3:=fun _=>Unit)
 (k [.undef])
 (fun b=>k [(.bool b)])
 (fun t n=>k [(.int t n)])
 (fun s=>k [(.str s)])
 (fun o xs _=>k [(.list o xs)])
 (fun o f=>k [(.ptr o f)])
 (k [.nilp])
 (fun cs _=>k [(.ro cs)])
 (fun i f=>k [(.loc i f)])
 (fun cs _=>k [(.box cs)])
 (fun o=>k [(.map o)])
 (k [.nilm])
 (fun f a c _ _=>k [(.func f a c)])
 (k [.nilf])
 (fun cs _=>k cs)
 (fun vs _=>k [(.tuple vs)])
 (fun t v _=>k [(.iface t v)])
 (k [.nili])
 (fun o f n s=>k [(.sl o f n s)])
 (fun xs _=>k [(.fresh xs)])
 (k [.nils])
 () (fun _ _ _ _=>()) () (fun _ _ _ _=>()) x
theorem b7G (x:AV) (k:List AV→(Option ρ)):onC x k=k x.cells:=by cases x<;>rfl
noncomputable def plB (x:AV) (k:(Option ρ)):(Option ρ):=AV.rec (motive_1:=fun _=>(Option ρ)) (motive_2:=fun _=>Unit) (motive_3:=fun _=>Unit)
 (none)
 (fun b=>k)
 (fun t n=>k)
 (fun s=>k)
 (fun o xs _=>k)
 (fun o f=>k)
 (k)
 (fun cs _=>k)
 (fun i f=>none)
 (fun cs _=>none)
 (fun o=>k)
 (k)
 (fun f a c _ _=>k)
 (k)
 (fun cs _=>k)
 (fun vs _=>none)
 (fun t v _=>k)
 (k)
 (fun o f n s=>k)
 (fun xs _=>none)
 (k)
 () (fun _ _ _ _=>()) () (fun _ _ _ _=>()) x
theorem a7x (x:AV) (k:(Option ρ)):plB x k=if x.plain then k else none:=by cases x<;>rfl
noncomputable def b84 (f:AV→(Option ρ)) (d:Nat) (x:AV):(Option ρ):=onT x fun vs=>a4Q vs none (fun v=>qWk v f) d
theorem c6a (c:b9) (b:AV) (s:St) (f:AV→(Option ρ)) (d:Nat) (x:AV):b84 f d x=obind (p1 (sem (.ext d) c [x] b s)) f:=by
 simp only[b84,c8G,a3F,a2i];cases x<;>try rfl
 rename_i vs;simp only[sem,Y2];cases vs[d]?<;>rfl
noncomputable def a7k (xs:List AV) (k:List AV→(Option ρ)):(Option ρ):=List.rec (motive:=fun _=>(List AV→(Option ρ))→(Option ρ)) (fun k=>k []) (fun a _ e k=>plB a (qWk a fun w=>e fun ws=>k (w::ws))) xs k
theorem a5b:∀ (xs:List AV) (k:List AV→(Option ρ)),a7k xs k=if C7 xs then k (xs.map AV.weak)else none
 | [],k=>rfl
 | a::xs,k=>by show plB a (qWk a fun w=>a7k xs fun ws=>k (w::ws))=_;rw[a7x,a2i,a5b xs];simp only[C7,AA,AH];by_cases e:a.plain=true<;>by_cases l:C7 xs=true<;>simp[e,l]
noncomputable def c1E (x:Option (AV×St)) (k:AV→St→(Option ρ)):(Option ρ):=Option.rec (motive:=fun _=>(Option ρ)) none (fun p=>Prod.rec (motive:=fun _=>(Option ρ)) (fun v s=>k v s) p) x
theorem b31 (x:Option (AV×St)) (k:AV→St→(Option ρ)):c1E x k=match x with|some (v,s)=>k v s|none=>none:=by cases x<;>rfl
noncomputable def b9t (c:b9) (b:AV) (s:St) (f:AV→(Option ρ)) (x y z:AV):(Option ρ):=onS x none fun l=>onI z none fun _ m=>onI y (obind (p1 (sem (.slS true true) c [x,y,z] b s)) f) fun _ i=>nn i m (obind (p1 (sem (.slS true true) c [x,y,z] b s)) f) fun i m =>cB (Nat.ble m (L5 l)) (cB (Nat.ble i m) (b0m (Nat.sub m i) (b0i i l) fun r=>f (.str r)) none) none
theorem c5k (c:b9) (b:AV) (s:St) (f:AV→(Option ρ)) (x y z:AV):b9t c b s f x y z=obind (p1 (sem (.slS true true) c [x,y,z] b s)) f:=by
 simp only[b9t,a4B,a08,a5K,T1,a36,a6T,I6];cases x<;>try rfl
 cases z<;>try rfl
 cases y<;>try rfl
 rename_i l _ m _ i;cases i<;>cases m<;>try rfl
 rename_i i m;simp only[sem,Y5,I2,S8,Int.ofNat_eq_natCast,Int.natCast_nonneg,true_and,Int.toNat_natCast,Int.ofNat_le,Nat.ble_eq];by_cases e:m≤l.length
 · simp only[e,if_true];by_cases t:i≤m
   · simp only[t,if_true,AO,p1,obind];rw[List.drop_take];rfl
   · simp only[t,if_false];rfl
 · simp only[e,if_false];rfl
noncomputable def b6z (sz:Nat) (l:List (List AV)):Bool:=List.rec (motive:=fun _=>Bool) true (fun r _ _=>Nat.beq (L5 r) sz) l
theorem c1u (sz:Nat) (l:List (List AV)):b6z sz l=k9 sz l:=by
 cases l with
 | nil=>rfl
 | cons r l =>show Nat.beq (L5 r) sz=(r.length == sz);rw[I6,Bool.eq_iff_iff];simp
noncomputable def c1O (b:AV) (s:St) (f:AV×AV×St→(Option ρ)) (d e:Nat) (x y:AV):(Option ρ):=c8V x none fun o xs=>onL y none fun ys=>cB o (cB (b6z d xs) (cB (b6z d ys) (cB (Nat.ble (Nat.mul (Nat.add (L5 xs) (L5 ys)) e) 140737488355328) (a6L xs ys fun r=>f (.list true r,b,s)) none) none) none) none
theorem c4x (c:b9) (b:AV) (s:St) (f:AV×AV×St→(Option ρ)) (d e:Nat) (x y:AV):c1O b s f d e x y=obind (sem (.app d e) c [x,y] b s) f:=by
 simp only[c1O,c4U,b2w,T1,c1u,I6,a5r];cases x<;>try rfl
 rename_i o xs;cases y<;>try (cases o<;>rfl)
 rename_i o2 ys;cases o<;>try rfl
 simp only[sem,a0C,if_true];have l:(Nat.ble (Nat.mul (Nat.add xs.length ys.length) e) 140737488355328)=decide ((xs.length+ys.length)*e≤2 ^ 47):=by rw[Bool.eq_iff_iff];simp
 rw[l];cases k9 d xs<;>cases k9 d ys<;>try rfl
 simp only[Bool.true_and,if_true];split<;>rfl
noncomputable def b03 (b:AV) (s:St) (f:AV×AV×St→(Option ρ)) (d:List AV):(Option ρ):=onU b (f (.undef,.box d,s))
theorem b7w (c:b9) (b:AV) (s:St) (f:AV×AV×St→(Option ρ)) (d:List AV):b03 b s f d=obind (sem (.alloc d) c [] b s) f:=by simp only[b03,c8O];cases b<;>rfl
noncomputable def b5R (cs:List AV) (off:Nat) (new:List AV) (k:List AV→(Option ρ)):(Option ρ):=b0m off cs fun a=>a6L new (a8b (Nat.add off (L5 new)) cs) fun t=>a6L a t k
theorem b4h (cs:List AV) (off:Nat) (new:List AV) (k:List AV→(Option ρ)):b5R cs off new k=k (u9 cs off new):=by simp only[b5R,a36,a5r,a2n,I6,u9,AX];rfl
noncomputable def b5G (b:AV) (s:St) (f:AV×AV×St→(Option ρ)) (i d:Nat) (x y:AV):(Option ρ):=c0x x none fun j off=>b5q b none fun cs=>cB (Nat.beq i j) (plB y (onC y fun new=>cB (Nat.beq (L5 new) d) (cB (Nat.ble (Nat.add off d) (L5 cs)) (b5R cs off new fun r=>f (.tuple [],.box r,s)) none) none)) none
theorem c3D (a b:Nat):(Nat.beq a b=true)=(a=b):=by simp
theorem c2b (a b:Nat):(Nat.ble a b=true)=(a≤b):=by simp
theorem c0g (c:b9) (b:AV) (s:St) (f:AV×AV×St→(Option ρ)) (i d:Nat) (x y:AV):b5G b s f i d x y=obind (sem (.stLc i d) c [x,y] b s) f:=by
 simp only[b5G,b30,a8t,T1,a7x,b7G,I6,b4h,c3D,c2b];cases x<;>try rfl
 rename_i j off;cases b<;>try rfl
 rename_i cs;simp only[sem,K5];by_cases e:i=j<;>by_cases l:y.plain=true<;>by_cases t:y.cells.length=d<;>by_cases u:off+d≤cs.length<;>simp[e,l,t,u,obind]
noncomputable def b1a {β:Type} (l:List β) (i:Nat) (x:β) (k:List β→(Option ρ)):(Option ρ):=List.rec (motive:=fun _=>Nat→(List β→(Option ρ))→(Option ρ)) (fun _ k=>k []) (fun a t e i k=>Nat.rec (motive:=fun _=>(Option ρ)) (k (x::t)) (fun j _=>e j fun r=>k (a::r)) i) l i k
theorem b3l {β:Type} (x:β):∀ (l:List β) (i:Nat) (k:List β→(Option ρ)),b1a l i x k=k (l.set i x)
 | [],_,_=>rfl
 | a::l,0,k=>rfl
 | a::l,i+1,k=>b3l x l i fun r=>k (a::r)
noncomputable def b9j {β:Type} (l:List β) (i:Nat) (x:β) (k:List β→(Option ρ)):(Option ρ):=Nat.rec (motive:=fun _=>List β→(List β→(Option ρ))→(Option ρ)) (fun l k=>b1a l (Nat.mod i 8) x k) (fun _ e l k=>a4b l (k l) e k) (Nat.div i 8) l k
theorem b3u {β:Type} (x:β) (r:Nat):∀ (q:Nat) (l:List β) (k:List β→(Option ρ)),Nat.rec (motive:=fun _=>List β→(List β→(Option ρ))→(Option ρ)) (fun l k=>b1a l r x k) (fun _ e l k=>a4b l (k l) e k) q l k=k (l.set (8*q+r) x)
 | 0,l,k=>by show b1a l r x k=_; rw[b3l,Nat.mul_zero,Nat.zero_add]
 | q+1,l,k=>by
  show a4b l (k l) (fun l k=>Nat.rec (motive:=fun _=>List β→(List β→(Option ρ))→(Option ρ)) (fun l k=>b1a l r x k) (fun _ e l k=>a4b l (k l) e k) q l k) k=_;rw[b4e];split
  · rename_i h;rw[b3u x r q (l.drop 8)];congr 1;rw[show 8*(q+1)+r=8+(8*q+r)by omega];conv=>rhs; rw[← List.take_append_drop 8 l]
    rw[List.set_append_right _ _ (by rw[AP]; omega),AP,Nat.min_eq_left h,Nat.add_sub_cancel_left]
  · rename_i h;rw[List.set_eq_of_length_le (by omega)]
theorem c3P {β:Type} (x:β) (l:List β) (i:Nat) (k:List β→(Option ρ)):b9j l i x k=k (l.set i x):=by unfold b9j;rw[b3u x (Nat.mod i 8) (Nat.div i 8) l k,show 8*Nat.div i 8+Nat.mod i 8=i from Nat.div_add_mod i 8]
noncomputable def b4S (s:St) (f:AV×St→(Option ρ)) (d:Nat) (x y:AV):(Option ρ):=onP x none fun o off=>b4B s none (fun ob=>b0P ob fun cs=>plB y (onC y fun new=>cB (Nat.beq (L5 new) d) (cB (Nat.ble (Nat.add off d) (L5 cs)) (b5R cs off new fun r=>b9j s o (.cells r) fun s=>f (.tuple [],s)) none) none)) o
theorem c0Z (c:b9) (b:AV) (s:St) (f:AV×St→(Option ρ)) (d:Nat) (x y:AV):b4S s f d x y=obind (p2 (sem (.stSt d) c [x,y] b s)) f:=by
 simp only[b4S,b7N,b3V,a9Q,T1,a7x,b7G,I6,b4h,c3P,c3D,c2b];cases x<;>try rfl
 rename_i o off;simp only[sem,I8,fL_eq];cases s[o]? with
 | none=>rfl
 | some ob =>
  cases ob<;>try rfl
  rename_i cs;by_cases e:y.plain=true<;>by_cases l:y.cells.length=d<;>by_cases t:off+d≤cs.length<;>simp[e,l,t,obind,p2]
noncomputable def bW (v w:Bool) (x y:(Option ρ)):(Option ρ):=Bool.rec (motive:=fun _=>(Option ρ)) (Bool.rec (motive:=fun _=>(Option ρ)) x y w) (Bool.rec (motive:=fun _=>(Option ρ)) y x w) v
theorem d2u (v w:Bool) (x y:(Option ρ)):bW v w x y=if v == w then x else y:=by cases v<;>cases w<;>rfl
theorem nb (i j:Nat):(!Nat.blt j i)=Nat.ble i j:=by
 have e:(Nat.blt j i=true)↔j < i:=by simp
 have l:(Nat.ble i j=true)↔i≤j:=by simp
 cases t:Nat.blt j i<;>cases u:Nat.ble i j<;>simp only[t,u,true_iff,false_iff,Bool.false_eq_true]at e l<;>first|rfl|omega
theorem c79 (c:b9) (b:AV) (s:St) (f:AV→(Option ρ)) (x y:AV):a3c c b s f .lss Nat.blt x y=obind (p1 (sem (.bin .lss) c [x,y] b s)) f:=a5V c b s f .lss _ (by simp) (fun t i j=>by simp[n9,ltI]) x y
theorem d0n (c:b9) (b:AV) (s:St) (f:AV→(Option ρ)) (x y:AV):a3c c b s f .leq Nat.ble x y=obind (p1 (sem (.bin .leq) c [x,y] b s)) f:=a5V c b s f .leq _ (by simp) (fun t i j=>by simp only[n9,if_true,Int.ofNat_eq_natCast]; rw[show ∀ a b:Nat,ltI (a:Int) (b:Int)=Nat.blt a b from fun _ _=>rfl,nb]) x y
theorem c8z (c:b9) (b:AV) (s:St) (f:AV→(Option ρ)) (x y:AV):a3c c b s f .gtr (fun i j=>Nat.blt j i) x y=obind (p1 (sem (.bin .gtr) c [x,y] b s)) f:=a5V c b s f .gtr _ (by simp) (fun t i j=>by simp[n9,ltI]) x y
theorem c7N (c:b9) (b:AV) (s:St) (f:AV→(Option ρ)) (x y:AV):a3c c b s f .geq (fun i j=>Nat.ble j i) x y=obind (p1 (sem (.bin .geq) c [x,y] b s)) f:=a5V c b s f .geq _ (by simp) (fun t i j=>by simp only[n9,if_true,Int.ofNat_eq_natCast]; rw[show ∀ a b:Nat,ltI (a:Int) (b:Int)=Nat.blt a b from fun _ _=>rfl,nb]) x y
end Go.Cb.G
namespace Go.Cb.G
open Go Go.Cb
inductive W8 (α:Type) where
 | mk (x0 x1 x2 x3 x4 x5 x6 x7:α)
abbrev Fr:=W8 (W8 AV)
def pk8 {α:Type} (i:Nat) (w:W8 α):α:=match w with
 | .mk e l t u v x y z=>match i with
  | 0=>e
  | 1=>l
  | 2=>t
  | 3=>u
  | 4=>v
  | 5=>x
  | 6=>y
  | _=>z
def st8 {α:Type} (i:Nat) (x:α) (w:W8 α):W8 α:=match w with
 | .mk e l t u v y z C=>match i with
  | 0=>.mk x l t u v y z C
  | 1=>.mk e x t u v y z C
  | 2=>.mk e l x u v y z C
  | 3=>.mk e l t x v y z C
  | 4=>.mk e l t u x y z C
  | 5=>.mk e l t u v x z C
  | 6=>.mk e l t u v y x C
  | _=>.mk e l t u v y z x
theorem lt8 {i:Nat} (h:i < 8):i=0∨i=1∨i=2∨i=3∨i=4∨i=5∨i=6∨i=7:=by omega
theorem b7J {α:Type} {i j:Nat} (hi:i < 8) (e:j < 8) (x:α) (w:W8 α):pk8 j (st8 i x w)=if j=i then x else pk8 j w:=by cases w;rcases lt8 hi with rfl|rfl|rfl|rfl|rfl|rfl|rfl|rfl<;>rcases lt8 e with rfl|rfl|rfl|rfl|rfl|rfl|rfl|rfl<;>rfl
def a0H (i:Nat) (fr:Fr):AV:=pk8 (i % 8) (pk8 (i / 8) fr)
def a2F (i:Nat) (x:AV) (fr:Fr):Fr:=st8 (i / 8) (st8 (i % 8) x (pk8 (i / 8) fr)) fr
theorem c3W {i j:Nat} (hi:i < 64) (t:j < 64) (x:AV) (fr:Fr):a0H j (a2F i x fr)=if j=i then x else a0H j fr:=by
 unfold a0H a2F;rw[b7J (by omega) (by omega)];by_cases h:j / 8=i / 8
 · rw[if_pos h,b7J (by omega) (by omega),← h];by_cases l:j % 8=i % 8
   · rw[if_pos l,if_pos (by omega)]
   · rw[if_neg l,if_neg (by omega)]
 · rw[if_neg h,if_neg (by intro e; exact h (by rw[e]))]
def toL (nv:Nat) (fr:Fr):List AV:=(List.range nv).map fun i=>a0H i fr
theorem c5l (nv:Nat) (fr:Fr):(toL nv fr).length=nv:=by simp[toL]
theorem R4 {i nv:Nat} (h:i < nv) (fr:Fr):(toL nv fr).getD i .undef=a0H i fr:=by simp[toL,List.getD,h]
theorem a3M {i nv:Nat} (h:i < nv) (v:nv≤64) (x:AV) (fr:Fr):(toL nv fr).set i x=toL nv (a2F i x fr):=by
 apply List.ext_getElem
 · simp[toL]
 · intro j l t;have u:j < nv:=by simpa[toL]using l
   rw[List.getElem_set];simp only[toL,List.getElem_map,List.getElem_range];rw[c3W (by omega) (by omega)];by_cases e:i=j
   · rw[if_pos e,if_pos e.symm]
   · rw[if_neg e,if_neg (fun q=>e q.symm)]
theorem a6n {i nv:Nat} (h:¬ i < nv) (x:AV) (fr:Fr):(toL nv fr).set i x=toL nv fr:=List.set_eq_of_length_le (by rw[c5l]; omega)
noncomputable def b0V {α β:Type} (i:Nat) (e:β) (Q:α→β) (l t u v x y z C:α):β :=
 Nat.rec (motive:=fun _=>β) (Q l) (fun i _=>Nat.rec (motive:=fun _=>β) (Q t) (fun i _=>Nat.rec (motive:=fun _=>β) (Q u) (fun i _=>Nat.rec (motive:=fun _=>β) (Q v) (fun i _=>Nat.rec (motive:=fun _=>β) (Q x) (fun i _=>Nat.rec (motive:=fun _=>β) (Q y) (fun i _=>Nat.rec (motive:=fun _=>β) (Q z) (fun i _=>Nat.rec (motive:=fun _=>β) (Q C) (fun i _=>e) i) i) i) i) i) i) i) i
theorem a2T {α β:Type} {G:β→Prop} {i:Nat} {e:β} {Q:α→β} {l t u v x y z C:α} (W:G e) (I:i=0→G (Q l)) (J:i=1→G (Q t)) (L:i=2→G (Q u)) (M:i=3→G (Q v)) (N:i=4→G (Q x)) (O:i=5→G (Q y)) (T:i=6→G (Q z)) (U:i=7→G (Q C)):G (b0V i e Q l t u v x y z C):=by
 match i,I,J,L,M,N,O,T,U with
 | 0,h,_,_,_,_,_,_,_=>exact h rfl
 | 1,_,h,_,_,_,_,_,_=>exact h rfl
 | 2,_,_,h,_,_,_,_,_=>exact h rfl
 | 3,_,_,_,h,_,_,_,_=>exact h rfl
 | 4,_,_,_,_,h,_,_,_=>exact h rfl
 | 5,_,_,_,_,_,h,_,_=>exact h rfl
 | 6,_,_,_,_,_,_,h,_=>exact h rfl
 | 7,_,_,_,_,_,_,_,h=>exact h rfl
 | _+8,_,_,_,_,_,_,_,_=>exact W
abbrev Gt (ρ:Type):=Fr→(AV→Option ρ)→Option ρ
abbrev Wr (ρ:Type):=AV→Fr→(Fr→Option ρ)→Option ρ
section
variable {ρ β:Type}
noncomputable def a4l (i:Nat) (e:β) (Q:Gt ρ→β):β:=b0V (i / 8) e (fun o:Fr→(W8 AV→Option ρ)→Option ρ=>b0V (i % 8) e (fun n:W8 AV→(AV→Option ρ)→Option ρ=>Q fun fr k=>o fr fun w=>n w k)
 (fun w k=>W8.rec (motive:=fun _=>Option ρ) (fun l t u v x y z C=>k l) w)
 (fun w k=>W8.rec (motive:=fun _=>Option ρ) (fun l t u v x y z C=>k t) w)
 (fun w k=>W8.rec (motive:=fun _=>Option ρ) (fun l t u v x y z C=>k u) w)
 (fun w k=>W8.rec (motive:=fun _=>Option ρ) (fun l t u v x y z C=>k v) w)
 (fun w k=>W8.rec (motive:=fun _=>Option ρ) (fun l t u v x y z C=>k x) w)
 (fun w k=>W8.rec (motive:=fun _=>Option ρ) (fun l t u v x y z C=>k y) w)
 (fun w k=>W8.rec (motive:=fun _=>Option ρ) (fun l t u v x y z C=>k z) w)
 (fun w k=>W8.rec (motive:=fun _=>Option ρ) (fun l t u v x y z C=>k C) w))
 (fun w k=>W8.rec (motive:=fun _=>Option ρ) (fun l t u v x y z C=>k l) w)
 (fun w k=>W8.rec (motive:=fun _=>Option ρ) (fun l t u v x y z C=>k t) w)
 (fun w k=>W8.rec (motive:=fun _=>Option ρ) (fun l t u v x y z C=>k u) w)
 (fun w k=>W8.rec (motive:=fun _=>Option ρ) (fun l t u v x y z C=>k v) w)
 (fun w k=>W8.rec (motive:=fun _=>Option ρ) (fun l t u v x y z C=>k x) w)
 (fun w k=>W8.rec (motive:=fun _=>Option ρ) (fun l t u v x y z C=>k y) w)
 (fun w k=>W8.rec (motive:=fun _=>Option ρ) (fun l t u v x y z C=>k z) w)
 (fun w k=>W8.rec (motive:=fun _=>Option ρ) (fun l t u v x y z C=>k C) w)
theorem P6 {G:β→Prop} {i:Nat} {e:β} {Q:Gt ρ→β} (hi:i < 64) (l:G e) (h:∀ g:Gt ρ,(∀ fr k,g fr k=k (a0H i fr))→G (Q g)):G (a4l i e Q):=by
 refine a2T l ?_ ?_ ?_ ?_ ?_ ?_ ?_ ?_<;>intro t<;>refine a2T l ?_ ?_ ?_ ?_ ?_ ?_ ?_ ?_<;>intro u<;>refine h _ (fun fr k=>?_)<;>unfold a0H<;>rw[t,u]<;>cases fr with
  | mk w0 w1 v x y z C I=>first|(cases w0; rfl)|(cases w1; rfl)|(cases v; rfl)|(cases x; rfl)|(cases y; rfl)|(cases z; rfl)|(cases C; rfl)|(cases I; rfl)
noncomputable def a8F (i:Nat) (e:β) (Q:Wr ρ→β):β:=b0V (i / 8) e (fun o:Fr→(W8 AV→(W8 AV→Option ρ)→Option ρ)→(Fr→Option ρ)→Option ρ=>b0V (i % 8) e (fun n:AV→W8 AV→(W8 AV→Option ρ)→Option ρ=>Q fun x fr k=>o fr (n x) k)
 (fun y w k=>W8.rec (motive:=fun _=>Option ρ) (fun l t v z C I J L=>k (.mk y t v z C I J L)) w)
 (fun y w k=>W8.rec (motive:=fun _=>Option ρ) (fun l t v z C I J L=>k (.mk l y v z C I J L)) w)
 (fun y w k=>W8.rec (motive:=fun _=>Option ρ) (fun l t v z C I J L=>k (.mk l t y z C I J L)) w)
 (fun y w k=>W8.rec (motive:=fun _=>Option ρ) (fun l t v z C I J L=>k (.mk l t v y C I J L)) w)
 (fun y w k=>W8.rec (motive:=fun _=>Option ρ) (fun l t v z C I J L=>k (.mk l t v z y I J L)) w)
 (fun y w k=>W8.rec (motive:=fun _=>Option ρ) (fun l t v z C I J L=>k (.mk l t v z C y J L)) w)
 (fun y w k=>W8.rec (motive:=fun _=>Option ρ) (fun l t v z C I J L=>k (.mk l t v z C I y L)) w)
 (fun y w k=>W8.rec (motive:=fun _=>Option ρ) (fun l t v z C I J L=>k (.mk l t v z C I J y)) w))
 (fun w u k=>W8.rec (motive:=fun _=>Option ρ) (fun l t v z C I J L=>u l fun y=>k (.mk y t v z C I J L)) w)
 (fun w u k=>W8.rec (motive:=fun _=>Option ρ) (fun l t v z C I J L=>u t fun y=>k (.mk l y v z C I J L)) w)
 (fun w u k=>W8.rec (motive:=fun _=>Option ρ) (fun l t v z C I J L=>u v fun y=>k (.mk l t y z C I J L)) w)
 (fun w u k=>W8.rec (motive:=fun _=>Option ρ) (fun l t v z C I J L=>u z fun y=>k (.mk l t v y C I J L)) w)
 (fun w u k=>W8.rec (motive:=fun _=>Option ρ) (fun l t v z C I J L=>u C fun y=>k (.mk l t v z y I J L)) w)
 (fun w u k=>W8.rec (motive:=fun _=>Option ρ) (fun l t v z C I J L=>u I fun y=>k (.mk l t v z C y J L)) w)
 (fun w u k=>W8.rec (motive:=fun _=>Option ρ) (fun l t v z C I J L=>u J fun y=>k (.mk l t v z C I y L)) w)
 (fun w u k=>W8.rec (motive:=fun _=>Option ρ) (fun l t v z C I J L=>u L fun y=>k (.mk l t v z C I J y)) w)
theorem a2B {G:β→Prop} {i:Nat} {e:β} {Q:Wr ρ→β} (hi:i < 64) (l:G e) (h:∀ g:Wr ρ,(∀ x fr k,g x fr k=k (a2F i x fr))→G (Q g)):G (a8F i e Q):=by
 refine a2T l ?_ ?_ ?_ ?_ ?_ ?_ ?_ ?_<;>intro t<;>refine a2T l ?_ ?_ ?_ ?_ ?_ ?_ ?_ ?_<;>intro u<;>refine h _ (fun x fr k=>?_)<;>unfold a2F<;>rw[t,u]<;>cases fr with
  | mk w0 w1 v y z C I J=>first|(cases w0; rfl)|(cases w1; rfl)|(cases v; rfl)|(cases y; rfl)|(cases z; rfl)|(cases C; rfl)|(cases I; rfl)|(cases J; rfl)
noncomputable def b5Y (i:Nat) (Q:(List AV→(AV→Option ρ)→Option ρ)→β):β:=Nat.rec (motive:=fun _=>((List AV→(AV→Option ρ)→Option ρ)→β)→β)
 (fun Q=>Q fun l k=>List.rec (motive:=fun _=>Option ρ) none (fun a _ _=>k a) l)
 (fun _ e Q=>e fun r=>Q fun l k=>List.rec (motive:=fun _=>Option ρ) none (fun _ t _=>r t k) l) i Q
theorem a09 {G:β→Prop}:∀ (i:Nat) {Q:(List AV→(AV→Option ρ)→Option ρ)→β},(∀ r:List AV→(AV→Option ρ)→Option ρ,(∀ l k,r l k=match l[i]? with|some a=>k a|none=>none)→G (Q r))→G (b5Y i Q)
 | 0,Q,h=>h _ fun l k=>by cases l<;>rfl
 | i+1,Q,h=>a09 i fun r e=>h _ fun l k=>by
  cases l with
  | nil=>rfl
  | cons a t=>show r t k=_; rw[e]; simp
end
abbrev U:AV:=.undef
def u8:W8 AV:=.mk U U U U U U U U
noncomputable def b9E {ρ:Type} (l:List AV) (k:W8 AV→Option ρ):Option ρ:=List.rec (motive:=fun _=>Option ρ) (k (.mk U U U U U U U U)) (fun e l _=>List.rec (motive:=fun _=>Option ρ) (k (.mk e U U U U U U U)) (fun t l _=>List.rec (motive:=fun _=>Option ρ) (k (.mk e t U U U U U U)) (fun u l _=>List.rec (motive:=fun _=>Option ρ) (k (.mk e t u U U U U U)) (fun v l _=>List.rec (motive:=fun _=>Option ρ) (k (.mk e t u v U U U U)) (fun x l _=>List.rec (motive:=fun _=>Option ρ) (k (.mk e t u v x U U U)) (fun y l _=>List.rec (motive:=fun _=>Option ρ) (k (.mk e t u v x y U U)) (fun z l _=>List.rec (motive:=fun _=>Option ρ) (k (.mk e t u v x y z U)) (fun C l _=>List.rec (motive:=fun _=>Option ρ) (k (.mk e t u v x y z C)) (fun _ _ _=>none) l) l) l) l) l) l) l) l) l
theorem d08 (i:Nat):pk8 i u8=U:=by show(match i with|0=>U|1=>U|2=>U|3=>U|4=>U|5=>U|6=>U|_=>U)=U;split<;>rfl
theorem c52 {ρ:Type} {l:List AV} {k:W8 AV→Option ρ} {r:ρ} (h:b9E l k=some r):∃ w:W8 AV,k w=some r∧l.length≤8∧∀ i,i < 8→pk8 i w=l.getD i .undef:=by
 match l,h with
 | [],h=>exact⟨_,h,by simp,fun i hi=>by rcases lt8 hi with rfl|rfl|rfl|rfl|rfl|rfl|rfl|rfl<;>rfl⟩
 | [y0],h=>exact⟨_,h,by simp,fun i hi=>by rcases lt8 hi with rfl|rfl|rfl|rfl|rfl|rfl|rfl|rfl<;>rfl⟩
 | [y0,y1],h=>exact⟨_,h,by simp,fun i hi=>by rcases lt8 hi with rfl|rfl|rfl|rfl|rfl|rfl|rfl|rfl<;>rfl⟩
 | [y0,y1,y2],h=>exact⟨_,h,by simp,fun i hi=>by rcases lt8 hi with rfl|rfl|rfl|rfl|rfl|rfl|rfl|rfl<;>rfl⟩
 | [y0,y1,y2,y3],h=>exact⟨_,h,by simp,fun i hi=>by rcases lt8 hi with rfl|rfl|rfl|rfl|rfl|rfl|rfl|rfl<;>rfl⟩
 | [y0,y1,y2,y3,y4],h=>exact⟨_,h,by simp,fun i hi=>by rcases lt8 hi with rfl|rfl|rfl|rfl|rfl|rfl|rfl|rfl<;>rfl⟩
 | [y0,y1,y2,y3,y4,y5],h=>exact⟨_,h,by simp,fun i hi=>by rcases lt8 hi with rfl|rfl|rfl|rfl|rfl|rfl|rfl|rfl<;>rfl⟩
 | [y0,y1,y2,y3,y4,y5,y6],h=>exact⟨_,h,by simp,fun i hi=>by rcases lt8 hi with rfl|rfl|rfl|rfl|rfl|rfl|rfl|rfl<;>rfl⟩
 | [y0,y1,y2,y3,y4,y5,y6,y7],h=>exact⟨_,h,by simp,fun i hi=>by rcases lt8 hi with rfl|rfl|rfl|rfl|rfl|rfl|rfl|rfl<;>rfl⟩
 | _::_::_::_::_::_::_::_::_::_,h=>cases h
def fr0 (w:W8 AV):Fr:=.mk w u8 u8 u8 u8 u8 u8 u8
theorem c6p {w:W8 AV} {l:List AV} {np nv:Nat} (y:∀ i,i < 8→pk8 i w=l.getD i .undef) (v:l.length=np) (C:l.length≤8) (x:np≤nv) (J:nv≤64):toL nv (fr0 w)=l++List.replicate (nv - np) .undef:=by
 apply List.ext_getElem
 · simp[toL,v]; omega
 · intro j t z;have I:j < nv:=by simpa[toL]using t
   have u:a0H j (fr0 w)=l.getD j .undef:=by
    unfold a0H;rcases Nat.lt_or_ge j 8 with h|h
    · rw[show j / 8=0 by omega,show j % 8=j by omega];exact y j h
    · have:pk8 (j / 8) (fr0 w)=u8:=by rcases lt8 (show j / 8 < 8 by omega)with e|e|e|e|e|e|e|e<;>rw[e]<;>first|(exfalso; omega)|rfl
      rw[this,d08,List.getD_eq_getElem?_getD,List.getElem?_eq_none (by omega)];rfl
   simp only[toL,List.getElem_map,List.getElem_range,u];rw[List.getElem_append];split
   · rename_i h; simp[List.getD,h]
   · rename_i h; rw[List.getD_eq_getElem?_getD,List.getElem?_eq_none (by omega)]; simp
end Go.Cb.G
