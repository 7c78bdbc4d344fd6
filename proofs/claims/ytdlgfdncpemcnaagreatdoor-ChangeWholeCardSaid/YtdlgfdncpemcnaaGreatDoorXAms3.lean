import Derived.Test.YtdlgfdncpemcnaaGreatDoorXAms2
set_option maxRecDepth 4000
set_option linter.all false
namespace Go.Cb
open Classical
def a2h:List Nat→Bool
 | []=>true
 | x::xs=>!xs.any (Nat.beq x) && a2h xs
def V5 (c:Cx):List ResultVar→List ResK→Bool
 | [],[]=>true
 | .tmp t::rs,.v i::ks=>c.slots[i]? == some t && !c.bxs.contains i && V5 c rs ks
 | .tmp t::rs,.vs i::ks=>c.slots[i]? == some t && !c.bxs.contains i && V5 c rs ks
 | .cell a t::rs,.bx i agg n::ks=>c.slots[i]? == some a && s4 c t == some agg && r5 c t == some n && V5 c rs ks
 | .cell a t::rs,.po i agg n::ks=>c.slots[i]? == some a && !c.bxs.contains i && s4 c t == some agg && r5 c t == some n && V5 c rs ks
 | _,_=>false
def a1c (P:Program) (gt:List (Nat×List AV)) (slots bxs:List Nat) (fn:Func) (f:AFn) (A:Nat→Prop):Bool :=
 f.ext.isNone && a2h slots && slots.all (fun s=>Nat.blt s fn.ntmps) && slots.take f.np == List.range f.np && Nat.ble f.np slots.length && Nat.beq f.nv slots.length &&
  (match fn.body with|some x=>n5 ⟨P,slots,bxs,fn.ntmps,gt,A⟩ x f.code|none=>false) && V5 ⟨P,slots,bxs,fn.ntmps,gt,A⟩ fn.results.toList f.results
def G1 (P:Program) (gt:List (Nat×List AV)) (f:Nat) (e:List AV→St→Option (AV×St)):Prop :=
 ∀ (args:List AV) (st:St) (res:AV) (st':St),e args st=some (res,st')→(∀ x∈args,x.weak=x) →
  ∀ (g:Gh) (w:World) (vs:List Value),SRel g w st→Globs gt g w→RelL g w args vs→Calls P f vs.toArray w (CallPost g w st' res)
structure ProgOK (P:Program) (gt:List (Nat×List AV)) (tbl:Nat→Option AFn):Prop where
 mixed:P.follows .mixedOrders=true
 fn:∀ f af,tbl f=some af→U8 P f=true∧((∃ slots bxs fn,P.funcs[f]?=some fn∧∀ A,a1c P gt slots bxs fn af A=true)∨(∃ e,af.ext=some e∧G1 P gt f e))
theorem a5a:∀ {xs:List Nat},a2h xs=true→xs.Nodup
 | [],_=>List.nodup_nil
 | x::xs,h=>by simp only[a2h,AA,Bool.not_eq_true',List.any_eq_false,Nat.beq_eq]at h;exact List.nodup_cons.2 ⟨fun i=>h.1 x i rfl,a5a h.2⟩
section
variable {c:Cx} {g:Gh} {w:World} {pr:Nat→Option Pl} {bx:Nat→Nat} {σ:Sig} {a:Act}
theorem a8W {t:TypeId} {n bb f:Nat} {B:Bool} {cs:List AV} {us:List Value} {r:AV} (z:s4 c t=some B) (G:r5 c t=some n) (hl:RelL g w cs us) (F:w.rangeAt bb f us) (E:∀ u∈us,u.oneCell'=true) (j:j0 B n cs=some r) :
 ∃ v,(loadVar t (ad bb f)).run c.P w=.ok v w∧ValOK g w No r v:=by
 obtain⟨v,i,I⟩:=Y6 (c:=c) (g:=g) (bx:=fun _=>0) (fr:=[]) (a:={ tmps:=#[.pointer (some (ad bb f))],defers:=[] }) (o:={ (default:Oper)with op:=.load t (.tmp 0) }) (x:=.tmp 0) rfl z G (by simp[Act.eval]) hl F E j;refine⟨v,?_,?_⟩
 · simp only[execOp,Instr.loadAt,Instr.sureAddr,Act.eval,Sem.run_bind,Sem.run_pure]at i;have e:(Array.getD #[Value.pointer (some (ad bb f))] 0 undef)=.pointer (some (ad bb f)):=rfl;rw[e]at i;simp only[Sem.run_pure,Result.andThen_ok]at i;cases D:(loadVar t (ad bb f)).run c.P w with
   | ok u w' =>rw[D]at i;simp only[Result.andThen_ok,Result.ok.injEq,Next.value.injEq]at i;obtain⟨rfl,rfl⟩:=i;rfl
   | halt x w'=>rw[D]at i; cases i
 · cases r<;>first|exact I|skip
   · exfalso;unfold j0 at j;split at j
     · split at j<;>simp at j
     · split at j
       · rename_i y ys;simp only[AC]at j;simp only[RelL]at hl;obtain⟨M,J,_,l,_⟩:=hl;cases y<;>simp only[AV.weak1,reduceCtorEq]at j;simp[Rel]at l
       · cases j
   · exfalso;unfold j0 at j;split at j
     · split at j<;>simp at j
     · split at j
       · rename_i y ys;simp only[AC]at j;simp only[RelL]at hl;obtain⟨M,J,_,l,_⟩:=hl;cases y<;>simp only[AV.weak1,reduceCtorEq]at j;simp[Rel]at l
       · cases j
theorem VarOK.val {i:Nat} {x:AV} {v:Value} (h:VarOK g w pr bx i x v) (j:∀ cs,x≠.box cs):ValOK g w (fun b=>pr b=some (.var i)) x v:=by cases x<;>first|exact h|exact absurd rfl (j _)|exact h.elim
theorem a9D (h:S c g w pr bx σ a):∀ {rs:List ResultVar} {ks:List ResK} {vs:List AV},V5 c rs ks=true→B1 ks σ.fr σ.st=some vs →
 ∃ us:List Value,(rs.mapM fun(r:ResultVar)=>(match r with|.tmp t=>pure (a.tmps.getD t undef)|.cell x t=>do loadVar t (← asAddr (a.tmps.getD x undef)):Sem Value)).run c.P w=.ok us w ∧
  us.length=vs.length∧∀ (k:Nat) (x:AV) (u:Value),vs[k]?=some x→us[k]?=some u→ValOK g w (fun b=>∃ p,pr b=some p) x u
 | [],[],vs,_,hg=>by simp only[B1,AC]at hg;subst hg;exact⟨[],rfl,rfl,fun k x u B=>by simp at B⟩
 | r::rs,k::ks,vs,hok,hg=>by
  simp only[B1]at hg;split at hg
  case h_2=>cases hg
  rename_i x xs B a2;simp only[AC]at hg;subst hg;have one:∃ u,((match r with|.tmp t=>pure (a.tmps.getD t undef)|.cell x t=>do loadVar t (← asAddr (a.tmps.getD x undef)):Sem Value)).run c.P w=.ok u w∧ValOK g w (fun b=>∃ p,pr b=some p) x u∧V5 c rs ks=true:=by
   have E:∀ i,i ∉ c.bxs→∀ cs,σ.fr.getD i .undef≠.box cs:=fun i hi cs hc=>hi (h.fr.bxs i cs hc)
   unfold V5 at hok;split at hok<;>first|(rename_i D F; cases D; cases F; done)|skip
   · rename_i D F; cases D
   · rename_i t O i N D F;cases D; cases F;simp only[AA,beq_iff_eq]at hok;simp only[ResK.get,AC]at B;subst B;have G:=h.fr.var i t hok.1.1;have Y:=E i (by simpa using hok.1.2);refine⟨_,rfl,?_,hok.2⟩;cases hq:σ.fr.getD i .undef<;>rw[hq]at G<;>first
      | exact ValOK.of_weak (ValOK.rel G)
      | exact G.elim
      | exact absurd hq (Y _)
   · rename_i t O i N D F;cases D; cases F;simp only[AA,beq_iff_eq]at hok;simp only[ResK.get,AC]at B;subst B;have G:=(h.fr.var i t hok.1.1).val (E i (by simpa using hok.1.2));exact⟨_,rfl,G.mono (Ext.refl _ _) fun b V=>⟨⟨_,V⟩,rfl,fun _ x=>x⟩,hok.2⟩
   · rename_i y t O i ag n N D F;cases D; cases F;simp only[AA,beq_iff_eq]at hok;obtain⟨⟨⟨h1,h2⟩,h3⟩,h4⟩:=hok;simp only[ResK.get]at B;split at B
     · rename_i cs J;have z:=h.fr.var i y h1;rw[J]at z;obtain⟨Z,_,_,arr,T,hh,hl,I,_⟩:=z;obtain⟨u,hu,l⟩:=a8W (c:=c) h2 h3 hl (by simpa using a5d hh 0) I B;refine⟨u,?_,l.mono (Ext.refl _ _) fun b V=>V.elim,h4⟩;simp only[Z,asAddr,Sem.run_bind,Sem.run_pure,Result.andThen_ok];exact hu
     · cases B
   · rename_i y t O i ag n N D F;cases D; cases F;simp only[AA,beq_iff_eq]at hok;obtain⟨⟨⟨⟨h1,h0⟩,h2⟩,h3⟩,h4⟩:=hok;simp only[ResK.get]at B;split at B
     · rename_i o off J;split at B
       · rename_i cs a0;have z:=h.fr.var i y h1;rw[J]at z;have e:Rel g w (.ptr o off) (a.tmps.getD y undef):=ValOK.rel z;simp only[Rel]at e;obtain⟨_,_,arr,T,hh,_,hl,I,_⟩:=h.st.obj _ _ a0;obtain⟨u,hu,l⟩:=a8W (c:=c) h2 h3 (hl.drop off) (a4f hh cs.length off) (fun u hu=>I u (List.mem_of_mem_drop hu)) B;refine⟨u,?_,l.mono (Ext.refl _ _) fun b V=>V.elim,h4⟩;simp only[e.2,asAddr,Sem.run_bind,Sem.run_pure,Result.andThen_ok];exact hu
       · cases B
     · cases B
   · cases hok
  obtain⟨u,hu,l,M⟩:=one;obtain⟨us,a1,W,U⟩:=a9D h M a2;refine⟨u::us,?_,by simp[W],fun j y v hy G=>?_⟩
  · rw[List.mapM_cons];simp only[Sem.run_bind,hu,a1,Result.andThen_ok,Sem.run_pure]
  · cases j with
    | zero=>simp at hy G; subst hy; subst G; exact l
    | succ j=>exact U j y v (by simpa using hy) (by simpa using G)
 | [],_::_,_,hok,_=>by simp[V5]at hok
 | r::_,[],_,hok,_=>by cases r<;>simp[V5]at hok
def d8b:List Value→Value
 | [v]=>v
 | us=>.tuple us.toArray
theorem a5b {P:Program} {fn:Func} {tmps:Array Value} {us:List Value} {w:World}
 (h:(fn.results.toList.mapM fun(r:ResultVar)=>(match r with|.tmp t=>pure (tmps.getD t undef)|.cell x t=>do loadVar t (← asAddr (tmps.getD x undef)):Sem Value)).run P w=.ok us w) :
 (results fn tmps).run P w=.ok (d8b us) w:=by
 unfold results;rw[Array.mapM_eq_mapM_toList];simp only[map_eq_pure_bind,bind_assoc,pure_bind,Sem.run_bind]
 erw [h]
 simp only[Result.andThen_ok,Sem.run_pure];match us with
 | []=>rfl
 | [v]=>rfl
 | u::v::us=>simp[d8b]
theorem b0e {P:Program} {gt:List (Nat×List AV)} {slots bxs:List Nat} {fn:Func} {j:AFn} {g:Gh} {w:World} {args:List AV} {vs:List Value} {st:St} (o2:a2h slots=true) (o3:slots.all (fun s=>Nat.blt s fn.ntmps)=true) (o4:slots.take j.np=List.range j.np)
 (o5:j.np≤slots.length) (o6:j.nv=slots.length) (y:args.length=j.np) (B:∀ x∈args,x.weak=x) (U:SRel g w st) (O:Globs gt g w) (t:RelL g w args vs) :
 Fx ⟨P,slots,bxs,fn.ntmps,gt,fun b=>w.heap.size≤b∨g.sr b≠none⟩∧S ⟨P,slots,bxs,fn.ntmps,gt,fun b=>w.heap.size≤b∨g.sr b≠none⟩ g w (fun _=>none) (fun _=>0) ⟨args++List.replicate (j.nv - j.np) .undef,fun _=>.undef,st⟩ { tmps:=vs.toArray++Array.replicate (fn.ntmps - vs.toArray.size) undef,defers:=[] }:=by
 let A:Nat→Prop:=fun b=>w.heap.size≤b∨g.sr b≠none
 let c:Cx:=⟨P,slots,bxs,fn.ntmps,gt,A⟩
 have E:∀ s∈slots,s < fn.ntmps:=fun s hs=>by have:=List.all_eq_true.1 o3 s hs;simpa using this
 have W:Fx c:=⟨a5a o2,E⟩;have a1:vs.length=j.np:=by rw[← t.length]; exact y
 have a0:j.np≤fn.ntmps:=by
  rcases Nat.eq_zero_or_pos j.np with h0|h0
  · omega
  · have Z:j.np - 1∈slots:=by
     have:j.np - 1∈slots.take j.np:=by rw[o4]; simp; omega
     exact List.mem_of_mem_take this
    have:=E _ Z;omega
 have z:∀ i s,slots[i]?=some s→i < j.np→s=i:=fun i s hs hi=>by
  have N:(slots.take j.np)[i]?=some s:=by rw[List.getElem?_take,if_pos hi]; exact hs
  rw[o4]at N;simp[hi]at N;exact N.symm
 let J:Array Value:=vs.toArray++Array.replicate (fn.ntmps - vs.toArray.size) undef
 have Y:S c g w (fun _=>none) (fun _=>0) ⟨args++List.replicate (j.nv - j.np) .undef,fun _=>.undef,st⟩ { tmps:=J,defers:=[] }:=by
  refine⟨⟨by simp[J,c]; omega,by simp[c,y,o6]; omega,fun i s hs=>?_,fun s _=>ValOK.undef,fun b p D=>(by cases D),fun i cs hi=>?_⟩,U,O,fun b D=>.inl D,fun b p D=>.inr (by rw[D]; simp)⟩
  · rcases Nat.lt_or_ge i j.np with hi|hi
    · have T:=z i s hs hi;subst T;have I:s < args.length:=by omega
      have hv:s < vs.length:=by omega
      obtain⟨v,G,u⟩:=t.get (AD I);have M:(args++List.replicate (j.nv - j.np) AV.undef).getD s .undef=args[s]:=by rw[List.getD_eq_getElem?_getD,List.getElem?_append_left I,AD I]; rfl
      have V:J.getD s undef=v:=by simp only[J,Array.getD_eq_getD_getElem?];rw[Array.getElem?_append_left (by simpa using hv)];simp[G]
      rw[M,V];have hw:=B args[s] (List.getElem_mem I);have l:ValOK g w (fun b=>(fun _=>none:Nat→Option Pl) b=some (.var s)) args[s].weak v:=ValOK.of_weak u;rw[hw]at l;revert l;cases args[s]<;>intro l<;>first|exact l|exact l.rel.elim
    · have M:(args++List.replicate (j.nv - j.np) AV.undef).getD i .undef=.undef:=by
       rw[List.getD_eq_getElem?_getD,List.getElem?_append_right (by omega)];cases F:(List.replicate (j.nv - j.np) AV.undef)[i - args.length]? with
       | none=>rfl
       | some x=>rw[List.eq_of_mem_replicate (List.mem_of_getElem? F)]; rfl
      rw[M];exact VarOK.undef
  · exfalso;rcases Nat.lt_or_ge i args.length with hi'|hi'
    · obtain⟨v,G,u⟩:=t.get (AD hi');rw[List.getD_eq_getElem?_getD,List.getElem?_append_left hi',AD hi']at hi;simp only[Option.getD_some]at hi;rw[hi]at u;exact u
    · rw[List.getD_eq_getElem?_getD,List.getElem?_append_right hi']at hi;cases F:(List.replicate (j.nv - j.np) AV.undef)[i - args.length]? with
      | none=>rw[F]at hi; cases hi
      | some x=>rw[F,List.eq_of_mem_replicate (List.mem_of_getElem? F)]at hi; cases hi
 exact⟨W,Y⟩
theorem b6B {P:Program} {gt:List (Nat×List AV)} {slots bxs:List Nat} {fn:Func} {J:AFn} {g g':Gh} {w w':World} {T:Nat→Option Pl} {M:Nat→Nat} {U:Nat→AV} {z:List AV} {l st':St} {I:Act} {res:AV}
 (B:S ⟨P,slots,bxs,fn.ntmps,gt,fun b=>w.heap.size≤b∨g.sr b≠none⟩ g' w' T M ⟨z,U,l⟩ I) (G:Tr (fun b=>w.heap.size≤b∨g.sr b≠none) g w g' w') (Y:V5 ⟨P,slots,bxs,fn.ntmps,gt,fun b=>w.heap.size≤b∨g.sr b≠none⟩ fn.results.toList J.results=true)
 (h:(match B1 J.results z l with|some [v]=>some (v,l)|some vs=>some (.tuple vs,l)|none=>none)=some (res,st')):∃ v,(results fn I.tmps).run P w'=.ok v w'∧CallPost g w st' res (.returned v) w':=by
 let c:Cx:=⟨P,slots,bxs,fn.ntmps,gt,fun b=>w.heap.size≤b∨g.sr b≠none⟩
 have F:∀ vs',B1 J.results z l=some vs'→some ((match vs' with|[v]=>v|vs'=>AV.tuple vs'),l)=some (res,st')→∃ v,(results fn I.tmps).run P w'=.ok v w'∧CallPost g w st' res (.returned v) w':=by
  intro vs' hg t;simp only[AC,AH]at t;obtain⟨rfl,rfl⟩:=t;obtain⟨us,O,E,j⟩:=a9D (c:=c) B Y hg;refine⟨_,a5b O,_,g',rfl,B.st,⟨G.ext,G.size,G.env,fun b N hs _=>G.keep b N hs fun hA=>?_⟩,?_⟩
  · rcases hA with hA|hA
    · omega
    · exact hA hs
  · match vs',us,E,j with
    | [],[],_,_=>exact ValOK.mk' (by simp only[Rel]; exact⟨#[],rfl,by simp[RelL]⟩) (by simp) (by simp)
    | [x],[u],_,j =>
     refine(j 0 x u rfl rfl).mono (Ext.refl _ _) fun b N=>⟨?_,rfl,fun _ x=>x⟩
     obtain⟨p,V⟩:=N;obtain⟨Z,q2,q3⟩:=B.fr.prv b p V;exact⟨Z,q2,q3⟩
    | x::y::xs,u::v::us,E,j =>refine ValOK.mk' ?_ (by simp) (by simp);simp only[Rel];exact⟨_,rfl,RelL.of_get (by simpa using E.symm) fun i x u W hu=>(j i x u W hu).rel⟩
 split at h
 · rename_i v hg;exact F [v] hg h
 · rename_i vs' D hg;refine F vs' hg ?_;rw[← h];match vs',D with
   | [],_=>rfl
   | [v],D=>exact absurd rfl (D v)
   | _::_::_,_=>rfl
 · cases h
theorem b4L {P:Program} {gt:List (Nat×List AV)} {slots bxs:List Nat} {fn:Func} {F:AFn} {g:Gh} {w:World} {args:List AV} {vs:List Value} {st st':St} {res:AV} {call:d8} {n:Nat} (T:P.follows .mixedOrders=true) (O:F5 P gt call)
 (i:∀ A,a1c P gt slots bxs fn F A=true) (h:F.run call n args st=some (res,st')) (t:∀ x∈args,x.weak=x) (E:SRel g w st) (D:Globs gt g w) (z:RelL g w args vs) :
 ∃ body,fn.body=some body∧body.wp P (bodyPost P fn (CallPost g w st' res)) { tmps:=vs.toArray++Array.replicate (fn.ntmps - vs.toArray.size) undef,defers:=[] } w:=by
 have i:=i fun b=>w.heap.size≤b∨g.sr b≠none
 simp only[a1c,AA,Option.isNone_iff_eq_none,beq_iff_eq,Nat.beq_eq]at i;obtain⟨⟨⟨⟨⟨⟨⟨o1,o2⟩,o3⟩,o4⟩,o5⟩,o6⟩,o7⟩,V⟩:=i;have o5:=Nat.le_of_ble_eq_true o5;split at o7
 case h_2=>cases o7
 rename_i body j;unfold AFn.run at h;split at h
 case isFalse=>cases h
 rename_i v;split at h
 · cases h
 · rename_i ex J Y y l;obtain⟨M,N⟩:=b0e (bxs:=bxs) o2 o3 o4 o5 o6 v t E D z;refine⟨body,j,?_⟩;refine m5 _ _ o7 M T O N l fun G w' g' W I Z S B U=>?_
   have u:bodyPost P fn (CallPost g w st' res) .ret G w':=⟨S,b6B B U V h⟩;cases ex with
   | normal=>exact u
   | ret=>exact u
   | exit id=>exact(y id rfl).elim
 · cases h
theorem b8t {P:Program} {gt:List (Nat×List AV)} {tbl:Nat→Option AFn} (F:ProgOK P gt tbl):∀ n,F5 P gt (j9 tbl n):=by
 intro n;induction n with
 | zero=>intro f args st res st' h; simp[j9]at h
 | succ n J =>
  intro f args st res st' h j;simp only[j9]at h;cases i:tbl f with
  | none=>simp[i]at h
  | some E =>
   simp only[i]at h;obtain⟨z,B⟩:=F.fn f E i;refine⟨z,fun g w vs x u l=>?_⟩;rcases B with⟨slots,bxs,fn,I,v⟩|⟨e,y,t⟩
   case inr =>simp only[y]at h;exact t args st res st' h j g w vs x u l
   have y:E.ext=none:=by
    have:=v fun _=>True
    simp only[a1c,AA,Option.isNone_iff_eq_none]at this;exact this.1.1.1.1.1.1.1
   simp only[y]at h;obtain⟨body,G,D⟩:=b4L F.mixed J v h j x u l;exact calls_of_wp I G D
end
end Go.Cb
namespace Go.Cb
open Classical
section
variable {c:Cx} {g:Gh} {w:World} {pr:Nat→Option Pl} {bx:Nat→Nat} {σ:Sig} {a:Act} {o:Oper}
theorem e2x (v:Fx c) (h:S c g w pr bx σ a) {t e:TypeId} {i:TypeInfo} {d:Dst} (z:o.op=.buildSlice t 0 #[]) (hu:c.P.underlying t=some (.slice e)) (hi:c.P.info? e=some i) (y:q6 c o.dst d=true)
 {next:Act→World→Prop} {Q:Exit→Act→World→Prop} (j:Post c g w a (d.put (.list true []) σ) next):o.wp c.P a w next Q:=by
 have l:(execOp a.eval o).run c.P w=.ok (.value (.slice (some (ad w.heap.size 0)) 0 0)) (w.alloc (.cells #[] e)):=by
  have u:(Array.map (fun _:Nat=>(default:Value)) (Array.range 0))=#[]:=by apply Array.ext'; simp
  simp[execOp,z,Instr.buildSlice,run_underlying hu,sizeOf,typeInfo,hi,Instr.fill,newRow,u]
 unfold Oper.wp;rw[l];refine j _ _ g pr bx (s7 _ _ _) (V0 v (h.alloc _ _) y (mine:=No) (r:=.list true []) ?_ fun _ x=>x.elim) (Tr.alloc _ h.st.cli _);refine(show ValOK g _ No (.list true []) _ from⟨?_,fun _ _=>.inl ⟨_,_,rfl⟩,fun _ e=>(by cases e)⟩);simp only[Rel];exact⟨_,0,0,rfl,rfl,AJ _,fun _=>rfl,fun h=>absurd rfl h⟩
theorem e2b (y:Fx c) (h:S c g w pr bx σ a) {t F e:TypeId} {x:Operand} {d:Dst} {i:Option Addr} {n cap:Nat} (B:o.op=.binOp .eql t x (.const (.slice none 0 0)) F) (hu:c.P.underlying t=some (.slice e))
 (D:a.eval x=.slice i n cap) (z:q6 c o.dst d=true) {next:Act→World→Prop} {Q:Exit→Act→World→Prop} (j:Post c g w a (d.put (.bool i.isNone) σ) next):o.wp c.P a w next Q:=by
 have l:(execOp a.eval o).run c.P w=.ok (.value (.bool i.isNone)) w:=by
  have hg:∀ v:Value,(eqGuard .eql t x (.const (.slice none 0 0)) (.slice i n cap) (.slice none 0 0)).run c.P w=.ok () w:=fun _=>rfl
  have E:a.eval (.const (.slice none 0 0))=.slice none 0 0:=rfl;have u:(Op.equal t (.slice i n cap) (.slice none 0 0)).run c.P w=.ok i.isNone w:=by rw[P2,Op.equalIn,Sem.run_bind,run_underlying hu,Result.andThen_ok];cases i<;>rfl
  simp only[execOp,B,D,E,hg (.bool true),binOp,Sem.run_bind,u,Result.andThen_ok,Sem.run_pure]
 exact b2k y h z (r:=.bool i.isNone) l (show ValOK g w No (.bool i.isNone) (.bool i.isNone)from ValOK.mk' (by simp[Rel]) (by simp) (by simp)) j
def b0l (P:Program) (t j bytes:Nat):Bool:=match P.underlying t with
 | some (.slice e)=>match P.info? e with
  | some i=>i.size == j && i.bytes == bytes && decide (0 < bytes) && (match i.zero with|some z=>z.cells.size == j|none=>false)
  | none=>false
 | _=>false
structure CloneShape (P:Program) (fn:Func) (t sz bytes:Nat) where
 i0:Nat
 i1:Nat
 i2:Nat
 i3:Nat
 o0:Oper
 o1:Oper
 o2:Oper
 o3:Oper
 o4:Oper
 o5:Oper
 o6:Oper
 o7:Oper
 ty:TypeId
 body:fn.body=some (.seq (.region i0 #[o0] false) (.seq (.seq (.region i1 #[o1,o2] false) (.cond (.tmp 4) (.seq (.region i2 #[o3] false) .ret) .skip)) (.seq (.region i3 #[o4,o5,o6,o7] false) .ret)))
 nt:fn.ntmps=8
 res:fn.results=#[.tmp 2]
 d0:o0.dst=some 2∧o0.op=.assign (.const (.slice none 0 0))∧o0.guard=none
 d1:o1.dst=some 3∧o1.op=.move (.tmp 0)∧o1.guard=none
 d2:o2.dst=some 4∧o2.op=.binOp .eql t (.tmp 3) (.const (.slice none 0 0)) ty∧o2.guard=none
 d3:o3.dst=some 2∧o3.op=.assign (.const (.slice none 0 0))∧o3.guard=none
 d4:o4.dst=some 5∧o4.op=.buildSlice t 0 #[]∧o4.guard=none
 d5:o5.dst=some 6∧o5.op=.move (.tmp 0)∧o5.guard=none
 d6:o6.dst=some 7∧o6.op=.call { callee:=.builtin .append,args:=#[.tmp 5,.tmp 6],argTypes:=#[t,t] }∧o6.guard=none
 d7:o7.dst=some 2∧o7.op=.assign (.tmp 7)∧o7.guard=none
 tb:b0l P t sz bytes=true
theorem b1C {P:Program} {t l bytes:Nat} (h:b0l P t l bytes=true):∃ e i z,P.underlying t=some (.slice e)∧P.info? e=some i∧i.zero=some z∧i.size=l∧i.bytes=bytes∧z.cells.size=l∧0 < bytes:=by
 unfold b0l at h;split at h
 case h_2=>cases h
 rename_i e hu;split at h
 case h_2=>cases h
 rename_i i hi;simp only[AA,beq_iff_eq,decide_eq_true_eq]at h;obtain⟨⟨⟨u,v⟩,x⟩,j⟩:=h;split at j
 case h_2=>cases j
 rename_i z y;exact⟨e,i,z,hu,hi,y,u,v,by simpa using j,x⟩
theorem a8Q {P:Program} {gt:List (Nat×List AV)} {f t sz bytes:Nat} {fn:Func} (hf:P.funcs[f]?=some fn) (C:CloneShape P fn t sz bytes):G1 P gt f (Y2 sz bytes):=by
 intro args st res st' h Z g w vs f1 _ J;obtain⟨e,ie,z,tu,ti,tz,h3,h2,h4,h1⟩:=b1C C.tb;unfold Y2 at h;split at h
 case h_2=>cases h
 rename_i own xs;split at h
 case isFalse=>cases h
 rename_i D;simp only[AA,decide_eq_true_eq]at D;obtain⟨W,E⟩:=D;simp only[AC,AH]at h;obtain⟨rfl,rfl⟩:=h;simp only[RelL]at J;obtain⟨v,_,rfl,hv,rfl⟩:=J;have b6:=hv;simp only[Rel]at b6;obtain⟨j,n,cap,rfl,rfl,h6,h8,i9⟩:=b6;let A:Nat→Prop:=fun b=>w.heap.size≤b∨g.sr b≠none
 let c:Cx:=⟨P,[0,2],[],8,[],A⟩
 have F:Fx c:=⟨show([0,2]:List Nat).Nodup by decide,show ∀ s∈([0,2]:List Nat),s < 8 by decide⟩;have b4:own=false:=by have:=Z (.list own xs) (by simp);simpa[AV.weak]using this.symm
 subst b4;refine calls_of_wp hf C.body ?_;have hS:S c g w (fun _=>none) (fun _=>0) ⟨[.list false xs,.undef],fun _=>.undef,st⟩ { tmps:=#[Value.slice j xs.length cap]++Array.replicate (fn.ntmps - 1) undef,defers:=[] }:=by
  refine⟨⟨by simp[c,C.nt],rfl,fun i s hs=>?_,fun s _=>ValOK.undef,fun b p B=>(by cases B),fun i cs hi=>?_⟩,f1,fun e he=>(by cases he),fun b B=>.inl B,fun b p B=>.inr (by rw[B]; simp)⟩
  · match i,hs with
    | 0,hs =>
     simp only[c,List.getElem?_cons_zero,AC]at hs;subst hs;have b5:ValOK g w (fun b=>(fun _=>none:Nat→Option Pl) b=some (.var 0)) (AV.list false xs).weak (.slice j xs.length cap):=ValOK.of_weak hv;have e0:(#[Value.slice j xs.length cap]++Array.replicate (fn.ntmps - 1) undef).getD 0 undef=.slice j xs.length cap:=by rw[C.nt]; rfl
     show VarOK g w (fun _=>none) (fun _=>0) 0 (.list false xs) ((#[Value.slice j xs.length cap]++Array.replicate (fn.ntmps - 1) undef).getD 0 undef);rw[e0];exact b5
    | 1,hs=>exact VarOK.undef
    | i+2,hs=>simp[c]at hs
  · match i,hi with
    | 0,hi=>simp at hi
    | 1,hi=>simp at hi
    | i+2,hi=>simp at hi
 -- the end
 have fin:∀ (x:AV) (a':Act) (w':World) (g':Gh) (b7:Nat→Option Pl) (b0:Nat→Nat) (c0:Nat→AV),a'.defers=[]→S c g' w' b7 b0 ⟨[x,.list true xs],c0,st⟩ a'→Tr c.A g w g' w' →
  bodyPost P fn (CallPost g w st (.list true xs)) .ret a' w':=by
  intro x a' w' g' b7 b0 c0 hd N ht;refine⟨hd,?_⟩;obtain⟨us,f9,f8,l⟩:=a9D (c:=c) N (rs:=fn.results.toList) (ks:=[.vs 1]) (vs:=[.list true xs]) (by rw[C.res]; rfl) rfl;refine⟨_,a5b f9,_,g',rfl,N.st,⟨ht.ext,ht.size,ht.env,fun b B hs _=>ht.keep b B hs fun hA=>?_⟩,?_⟩
  · rcases hA with hA|hA
    · omega
    · exact hA hs
  · match us,f8,l with
    | [u],_,l =>
     refine(l 0 (.list true xs) u rfl rfl).mono (Ext.refl _ _) fun b B=>⟨?_,rfl,fun _ x=>x⟩
     obtain⟨p,hp⟩:=B;obtain⟨q1,q2,q3⟩:=N.fr.prv b p hp;exact⟨q1,q2,q3⟩
 refine wp_seq (wp_region ?_);show wpOps P #[C.o0] _ [0] _ _;rw[wpOps_cons];refine R4 rfl C.d0.2.2 (a4K (c:=c) F hS (.inr C.d0.2.1) (p:=.c (.list true [])) (d:=.v 1) rfl (by rw[C.d0.1]; rfl) fun a1 w1 g1 l0 i0 e1 c3 f2=>?_);show(Code.seq _ _).wp P _ a1 w1;refine wp_seq (wp_seq (wp_region ?_));show wpOps P #[C.o1,C.o2] _ [0,1] _ _;rw[wpOps_cons];refine R4 rfl C.d1.2.2 (a4K (c:=c) F c3 (.inl C.d1.2.1) (p:=.v 0) (d:=.t 3) rfl (by rw[C.d1.1]; rfl) fun a2 w2 g2 pr2 i1 e2 b2 f3=>?_);rw[wpOps_cons];have c2:=N4 b2 (x:=.tmp 3) (p:=.t 3) rfl;have f0:Rel g2 w2 (.list false xs) (a2.eval (.tmp 3)):=ValOK.rel c2;have I:=f0;simp only[Rel]at I;obtain⟨a0,n2,h5,b3,i5,c8,V,h7⟩:=I;refine R4 rfl C.d2.2.2 (e2b (c:=c) F b2 C.d2.2.1 tu b3 (d:=.t 4) (by rw[C.d2.1]; rfl) fun a3 w3 g3 l1 i2 e3 O f4=>?_);show(Code.cond _ _ _).wp P _ a3 w3;have M:=(f2.trans f3).trans f4;have G:a3.defers=[]:=e3.trans (e2.trans e1);have B:=a2A O (x:=.tmp 4) (y:=.t 4) rfl (b:=a0.isNone) rfl;refine wp_cond B ?_;cases a0 with
 | none =>
  have g0:xs=[]:=by have:=V rfl;exact List.eq_nil_of_length_eq_zero (by omega)
  refine wp_seq (wp_region ?_);show wpOps P #[C.o3] _ [0] _ _;rw[wpOps_cons];refine R4 rfl C.d3.2.2 (a4K (c:=c) F O (.inr C.d3.2.1) (p:=.c (.list true [])) (d:=.v 1) rfl (by rw[C.d3.1]; rfl) fun a4 w4 g4 b8 b1 U T Y=>?_);show Code.ret.wp P _ a4 w4;refine wp_ret ?_;show bodyPost P fn _ .ret a4 w4;subst g0;exact fin _ a4 w4 g4 b8 b1 _ (U.trans G) T (M.trans Y)
 | some h9 =>refine wp_skip ?_;show(Code.seq _ _).wp P _ a3 w3;refine wp_seq (wp_region ?_);show wpOps P #[C.o4,C.o5,C.o6,C.o7] _ [0,1,2,3] _ _;rw[wpOps_cons];refine R4 rfl C.d4.2.2 (e2x (c:=c) F O C.d4.2.1 tu ti (d:=.t 5) (by rw[C.d4.1]; rfl) fun a4 w4 g4 b8 b1 U T Y=>?_);rw[wpOps_cons];refine R4 rfl C.d5.2.2 (a4K (c:=c) F T (.inl C.d5.2.1) (p:=.v 0) (d:=.t 6) rfl (by rw[C.d5.1]; rfl) fun a5 w5 g5 l2 i3 e4 c4 f5=>?_);rw[wpOps_cons];refine R4 rfl C.d6.2.2 (b6A (c:=c) F c4 C.d6.2.1 rfl tu ti tz h3 h2 h4 h1 (p0:=.ts 5) (p1:=.t 6) (d:=.t 7) rfl rfl (by rw[C.d6.1]; rfl) (by rw[C.d6.1]; rfl) (xs:=[]) (ys:=xs) (own:=false) rfl rfl rfl W (by simpa using E) fun a6 w6 g6 l4 i4 e5 c6 f6=>?_);rw[wpOps_cons];refine R4 rfl C.d7.2.2 (a4K (c:=c) F c6 (.inr C.d7.2.1) (p:=.ts 7) (d:=.v 1) rfl (by rw[C.d7.1]; rfl) fun a7 w7 g7 h0 c1 e6 c7 f7=>?_);show Code.ret.wp P _ a7 w7;refine wp_ret ?_;show bodyPost P fn _ .ret a7 w7;exact fin _ a7 w7 g7 h0 c1 _ (e6.trans (e5.trans (e4.trans (U.trans G)))) c7 ((((M.trans Y).trans f5).trans f6).trans f7)
end
end Go.Cb
namespace Go.Cb
open Classical
def T4 (i bytes:Nat):List AV→St→Option (AV×St)
 | [.nils],st=>some (.nils,st)
 | [.sl o f n s],st=>match st[o]? with
  | some (.cells cs)=>if s=i∧f+n*i≤cs.length∧n*bytes≤70368744177664 then some (.sl st.length 0 n i,st++[.cells (((cs.drop f).take (n*i)).map AV.weak1)])else none
  | _=>none
 | _,_=>none
def G9 (j i:Nat) (cs row:List AV):List AV:=(cs.take (i*j)++row++cs.drop (i*j)).map AV.weak1
def J6 (j bytes:Nat):List AV→St→Option (AV×St)
 | [.nils,.int .i64 i,.list _ [row]],st=>if i=0∧row.length=j then some (.sl st.length 0 1 j,st++[.cells (G9 j 0 [] row)])else none
 | [.sl o 0 n s,.int .i64 i,.list _ [row]],st=>match st[o]? with
  | some (.cells cs)=>if s=j∧0≤i∧i≤n∧cs.length=n*j∧row.length=j∧(n+1)*bytes≤70368744177664 then some (.sl st.length 0 (n+1) j,st.set o .dead++[.cells (G9 j i.toNat cs row)])else none
  | _=>none
 | _,_=>none
def Y7 (j i:Nat) (cs:List AV):List AV:=(cs.take (i*j)++cs.drop ((i+1)*j)).map AV.weak1
def Z3 (l bytes:Nat):List AV→St→Option (AV×St)
 | [.sl o 0 n s,.int .i64 i,.int .i64 j],st=>match st[o]? with
  | some (.cells cs)=>if s=l∧0≤i∧i < n∧j=i+1∧cs.length=n*l∧n*bytes≤70368744177664 then some (.sl st.length 0 (n - 1) l,st.set o .dead++[.cells (Y7 l i.toNat cs)])else none
  | _=>none
 | _,_=>none
def gh0 (W:World):Gh:={ n:=0,m:=fun _=>0,cl:=fun b _=>b < W.heap.size,sr:=fun _=>none,cp:=fun _=>0 }
theorem c0D (W:World):SRel (gh0 W) W []:=⟨rfl,fun o i h=>by simp at h,fun b p h=>(by cases h),fun b f h=>h⟩
structure Kept (W W':World):Prop where
 kept:W.keptBut W' (fun _=>False)
 fz:∀ a:Addr,a.block < W.heap.size→W'.frozen? a=W.frozen? a
 size:W.heap.size≤W'.heap.size
 old:∀ b,b < W.heap.size→W'.heap[b]?=W.heap[b]?
theorem E7 {P:Program} {gt:List (Nat×List AV)} {tbl:Nat→Option AFn} (y:ProgOK P gt tbl) {n f:Nat} {args:List AV} {b:Bool} {st':St} (h:j9 tbl n f args []=some (.bool b,st')) (F:∀ x∈args,x.weak=x)
 {W:World} {vs:List Value} (hg:Globs gt (gh0 W) W) (E:RelL (gh0 W) W args vs):Calls P f vs.toArray W (fun e u=>e=.returned (.bool b)∧Kept W u):=by
 refine((b8t y n f args [] _ _ h F).2 (gh0 W) W vs (c0D W) hg E).mono fun e u D=>?_
 obtain⟨v,g',rfl,_,l,t⟩:=D;have t:=t.rel;simp only[Rel]at t;subst t;have j:∀ b,b < W.heap.size→u.heap[b]?=W.heap[b]?:=fun b B=>(l.keep b B rfl fun x=>x).1.1
 refine⟨rfl,⟨l.env.os,l.env.out,fun i hi=>?_⟩,fun a z=>by unfold World.frozen?; rw[j a.block z],l.size,j⟩;rw[j i hi];cases G:W.heap[i]? with
 | none=>simp
 | some o=>cases o<;>simp
theorem b9 {α:Sort _} {a b:α} (h:a=b):a=b:=by cases h;rfl
def obind {α β:Type} (x:Option α) (f:α→Option β):Option β:=match x with
 | some a=>f a
 | none=>none
theorem o9 {α β:Type} (a:α) (f:α→Option β):obind (some a) f=f a:=b9 rfl
theorem H6 {α β:Type} {x i:Option α} {f:α→Option β} (h:x=i):obind x f=obind i f:=by rw[h]
def p1 (x:Option (AV×AV×St)):Option AV:=match x with
 | some (r,_,_)=>some r
 | none=>none
theorem c82 (r b:AV) (st:St):p1 (some (r,b,st))=some r:=b9 rfl
def p2 (x:Option (AV×AV×St)):Option (AV×St):=match x with
 | some (r,_,st)=>some (r,st)
 | none=>none
theorem a7h (r b:AV) (st:St):p2 (some (r,b,st))=some (r,st):=b9 rfl
def gv (x:AV) (want:Bool) (e:Option AV):Option AV:=match x with
 | .bool b=>if b == want then e else some (.tuple [])
 | .tuple []=>some (.tuple [])
 | _=>none
def gv2 (x:AV) (want:Bool) (st:St) (e:Option (AV×St)):Option (AV×St):=match x with
 | .bool b=>if b == want then e else some (.tuple [],st)
 | .tuple []=>some (.tuple [],st)
 | _=>none
theorem b1S (want:Bool) (e:Option AV):gv (.tuple []) want e=some (.tuple []):=b9 rfl
theorem f83 (e:Option AV):gv (.bool true) true e=e:=b9 rfl
theorem g3b (e:Option AV):gv (.bool true) false e=some (.tuple []):=b9 rfl
theorem f5J (e:Option AV):gv (.bool false) false e=e:=b9 rfl
theorem g2H (e:Option AV):gv (.bool false) true e=some (.tuple []):=b9 rfl
theorem f4P (st:St) (e:Option (AV×St)):gv2 (.bool true) true st e=e:=b9 rfl
theorem e2F (st:St) (e:Option (AV×St)):gv2 (.bool true) false st e=some (.tuple [],st):=b9 rfl
theorem e26 (st:St) (e:Option (AV×St)):gv2 (.bool false) false st e=e:=b9 rfl
theorem f0z (st:St) (e:Option (AV×St)):gv2 (.bool false) true st e=some (.tuple [],st):=b9 rfl
theorem b8W (want:Bool) (st:St) (e:Option (AV×St)):gv2 (.tuple []) want st e=some (.tuple [],st):=b9 rfl
theorem O2 {x:AV} {want:Bool} {st:St} {e:Option (AV×St)} {i:AV} (h:x=i):gv2 x want st e=gv2 i want st e:=by rw[h]
def g8 (xs:List Opd):Bool:=xs.any Opd.steals
theorem W4:∀ {xs:List Opd} {σ:Sig},g8 xs=false→d9 xs σ=σ
 | [],_,_=>rfl
 | x::xs,σ,h=>by
  simp only[g8,List.any_cons,Bool.or_eq_false_iff]at h;have e:x.spend σ=σ:=by cases x<;>simp_all [Opd.spend,Opd.steals]
  rw[d9,e];exact W4 (xs:=xs) h.2
def goK (call:d8) {α:Type} (o:AOper) (σ:Sig) (k:Sig→Option α):Option α :=
 match o.kind.setSt || o.kind.alters || g8 o.args with
 | false=>obind (p1 (sem o.kind call (o.args.map (·.read σ)) (boxOf' o.box σ) σ.st)) fun r=>k (o.dst.put r σ)
 | true=>match o.kind.alters || g8 o.args with
  | false=>obind (p2 (sem o.kind call (o.args.map (·.read σ)) (boxOf' o.box σ) σ.st)) fun r=>k (o.dst.put r.1 { σ with st:=r.2 })
  | true=>obind (sem o.kind call (o.args.map (·.read σ)) (boxOf' o.box σ) σ.st) fun r =>
   let σ:=d9 o.args σ
   match o.box with
   | some i=>k (o.dst.put r.1 { σ with fr:=σ.fr.set i r.2.1,st:=r.2.2 })
   | none=>k (o.dst.put r.1 { σ with st:=r.2.2 })
where boxOf' (b:Option Nat) (σ:Sig):AV:=match b with|some i=>σ.fr.getD i .undef|none=>.undef
def a4J (call:d8) {α:Type} (o:AOper) (σ:Sig) (k:Sig→Option α):Option α :=
 match o.guard with
 | none=>goK call o σ k
 | some (x,want)=>match o.kind.setSt || o.kind.alters || g8 o.args with
  | false=>obind (gv (x.read σ) want (p1 (sem o.kind call (o.args.map (·.read σ)) (goK.boxOf' o.box σ) σ.st))) fun r=>k (o.dst.put r σ)
  | true=>match o.kind.alters || g8 o.args with
   | false=>obind (gv2 (x.read σ) want σ.st (p2 (sem o.kind call (o.args.map (·.read σ)) (goK.boxOf' o.box σ) σ.st))) fun r=>k (o.dst.put r.1 { σ with st:=r.2 })
   | true=>match x.read σ with
    | .bool b=>if b == want then goK call o σ k else k (o.dst.put (.tuple []) σ)
    | .tuple []=>k (o.dst.put (.tuple []) σ)
    | _=>none
def a6Q (call:d8) {α:Type}:List AOper→Sig→(Sig→Option α)→Option α
 | [],σ,k=>k σ
 | o::os,σ,k=>a4J call o σ fun σ=>a6Q call os σ k
theorem a3v (fr:List AV) (i:Nat):fr.set i (fr.getD i .undef)=fr:=by
 apply List.ext_getElem?;intro j;rw[List.getElem?_set];by_cases e:i=j
 · subst e;rw[if_pos rfl];split
   · rename_i h; simp[h]
   · rename_i h; rw[List.getElem?_eq_none (by omega)]
 · rw[if_neg e]
theorem a6b {call:d8} {α:Type} {o:AOper} {σ:Sig} {k:Sig→Option α}:goK call o σ k=obind (y9 call o σ) k:=by
 have D:goK.boxOf' o.box σ=(match o.box with|some i=>σ.fr.getD i .undef|none=>.undef):=rfl;unfold goK;rw[J4,D];split
 · rename_i v;simp only[Bool.or_eq_false_iff]at v;obtain⟨⟨B,t⟩,u⟩:=v;cases hs:sem o.kind call (o.args.map (·.read σ)) (match o.box with|some i=>σ.fr.getD i .undef|none=>.undef) σ.st with
   | none=>rfl
   | some x =>
    obtain⟨r,b',st'⟩:=x;have z:=a1w B hs;have l:=a2o t hs;subst z;simp only[p1,o9,W4 u];cases j:o.box with
    | none=>rfl
    | some i =>simp only[j]at l;rw[l];simp only[a3v,o9]
 · rename_i v;split
   · rename_i y;simp only[Bool.or_eq_false_iff]at y;obtain⟨t,u⟩:=y;cases hs:sem o.kind call (o.args.map (·.read σ)) (match o.box with|some i=>σ.fr.getD i .undef|none=>.undef) σ.st with
     | none=>rfl
     | some x =>
      obtain⟨r,b',st'⟩:=x;have l:=a2o t hs;simp only[p2,o9,W4 u];cases j:o.box with
      | none=>rfl
      | some i =>simp only[j]at l;rw[l];simp only[a3v,o9]
   · cases hs:sem o.kind call (o.args.map (·.read σ)) (match o.box with|some i=>σ.fr.getD i .undef|none=>.undef) σ.st with
     | none=>rfl
     | some x =>
      obtain⟨r,b',st'⟩:=x;simp only[o9];cases j:o.box with
      | none=>rfl
      | some i=>rfl
theorem c2D {α:Type} {x:AV} {want:Bool} {e:Option AV} {f:AV→Option α}:obind (gv x want e) f =
 (match x with|.bool b=>if b == want then obind e f else f (.tuple [])|.tuple []=>f (.tuple [])|_=>none):=by
 unfold gv;split
 · split<;>rfl
 · rfl
 · rfl
theorem b9G {α:Type} {x:AV} {want:Bool} {st:St} {e:Option (AV×St)} {f:AV×St→Option α}:obind (gv2 x want st e) f =
 (match x with|.bool b=>if b == want then obind e f else f (.tuple [],st)|.tuple []=>f (.tuple [],st)|_=>none):=by
 unfold gv2;split
 · split<;>rfl
 · rfl
 · rfl
theorem a3e {call:d8} {α:Type} {o:AOper} {σ:Sig} {k:Sig→Option α}:a4J call o σ k=obind (i7 call o σ) k:=by
 unfold a4J i7;cases hg:o.guard with
 | none=>exact a6b
 | some u =>
  obtain⟨x,want⟩:=u;simp only;split
  · rename_i j;have i:obind (p1 (sem o.kind call (o.args.map (·.read σ)) (goK.boxOf' o.box σ) σ.st)) (fun r=>k (o.dst.put r σ))=obind (y9 call o σ) k:=by have:=a6b (call:=call) (o:=o) (σ:=σ) (k:=k);unfold goK at this;rw[j]at this;exact this
    rw[c2D];cases l:x.read σ<;>try rfl
    · dsimp only;split
      · exact i
      · rfl
    · rename_i vs;cases vs<;>rfl
  · rename_i j;split
    · rename_i t;have i:obind (p2 (sem o.kind call (o.args.map (·.read σ)) (goK.boxOf' o.box σ) σ.st)) (fun r=>k (o.dst.put r.1 { σ with st:=r.2 }))=obind (y9 call o σ) k:=by have:=a6b (call:=call) (o:=o) (σ:=σ) (k:=k);unfold goK at this;rw[j,t]at this;exact this
      rw[b9G];cases l:x.read σ<;>try rfl
      · dsimp only;split
        · exact i
        · rfl
      · rename_i vs;cases vs<;>rfl
    · cases l:x.read σ<;>try rfl
      · dsimp only;split
        · exact a6b
        · rfl
      · rename_i vs;cases vs<;>rfl
theorem Z0 {call:d8} {α:Type} {k:Sig→Option α}:∀ {ops:List AOper} {σ:Sig},a6Q call ops σ k=obind (g9 call ops σ) k
 | [],σ=>rfl
 | o::os,σ=>by
  simp only[a6Q,g9,a3e];cases hs:i7 call o σ with
  | none=>rfl
  | some σ1=>exact Z0
def br (c:AV) (a b:Option Out):Option Out:=match c with
 | .bool true=>a
 | .bool false=>b
 | _=>none
theorem b97 (call:d8) (n:Nat) (kill:List Nat) (i:List AOper) (fr:List AV) (st:St) :
 exec call n (.reg kill i) fr st=a6Q call i ⟨i6 kill fr,fun _=>.undef,st⟩ fun σ=>some (.normal,σ.fr,σ.st):=by
 rw[Z0];simp only[exec,fL_eq];cases g9 call i ⟨i6 kill fr,fun _=>.undef,st⟩<;>rfl
theorem a3Z (call:d8) (n:Nat) (kill:List Nat) (i:List AOper) (c:Opd) (a b:ACode) (fr:List AV) (st:St) :
 exec call n (.test kill i c a b) fr st=a6Q call i ⟨i6 kill fr,fun _=>.undef,st⟩ fun σ=>br (c.read σ) (exec call n a σ.fr σ.st) (exec call n b σ.fr σ.st):=by
 rw[Z0];simp only[exec,fL_eq];cases g9 call i ⟨i6 kill fr,fun _=>.undef,st⟩with
 | none=>rfl
 | some σ =>simp only[o9];generalize c.read σ=y;cases y<;>rfl
def c0E (i:Nat) (x:AV):AV:=match x with
 | .box _=>.loc i 0
 | _=>.undef
def seqK (x:Option Out) (f:List AV→St→Option Out):Option Out:=match x with
 | some (.normal,fr,st)=>f fr st
 | r=>r
theorem a2d (fr:List AV) (st:St) (f:List AV→St→Option Out):seqK (some (.normal,fr,st)) f=f fr st:=b9 rfl
theorem b6a (id:Nat) (fr:List AV) (st:St) (f:List AV→St→Option Out):seqK (some (.exit id,fr,st)) f=some (.exit id,fr,st):=b9 rfl
theorem b8K (fr:List AV) (st:St) (f:List AV→St→Option Out):seqK (some (.ret,fr,st)) f=some (.ret,fr,st):=b9 rfl
theorem K5 {x i:Option Out} {f:List AV→St→Option Out} (h:x=i):seqK x f=seqK i f:=by rw[h]
theorem exec_seqK (call:d8) (n:Nat) (a b:ACode) (fr:List AV) (st:St):exec call n (.seq a b) fr st=seqK (exec call n a fr st) (exec call n b):=by simp only[exec,seqK];split<;>rename_i h<;>simp only[h]
def finK (rs:List ResK) (x:Option Out):Option (AV×St):=match x with
 | some (.exit _,_,_)=>none
 | some (_,fr,st)=>match B1 rs fr st with
  | some [v]=>some (v,st)
  | some vs=>some (.tuple vs,st)
  | none=>none
 | none=>none
theorem S7 (fn:AFn) (call:d8) (n:Nat) (args:List AV) (st:St) (h:args.length=fn.np) :
 fn.run call n args st=finK fn.results (exec call n fn.code (args++List.replicate (fn.nv - fn.np) .undef) st):=by
 unfold AFn.run finK;rw[if_pos h];cases exec call n fn.code (args++List.replicate (fn.nv - fn.np) .undef) st with
 | none=>rfl
 | some x =>
  obtain⟨e,fr,st'⟩:=x;cases e<;>dsimp only<;>cases B1 fn.results fr st' with
  | none=>rfl
  | some vs =>
   match vs with
   | []=>rfl
   | [v]=>rfl
   | _::_::_=>rfl
theorem b8c (call:d8) (n:Nat) (fr:List AV) (st:St):exec call n .ret fr st=some (.ret,fr,st):=by simp only[exec]
theorem b6t (call:d8) (n id:Nat) (fr:List AV) (st:St):exec call n (.exit id) fr st=some (.exit id,fr,st):=by simp only[exec]
theorem b5b (call:d8) (n:Nat) (fr:List AV) (st:St):exec call n .skip fr st=some (.normal,fr,st):=by simp only[exec]
def Q4 (c i:d8):Prop:=∀ f as st r,c f as st=some r→i f as st=some r
theorem d81 {c l:d8} (h:Q4 c l) {k:Kind} {as:List AV} {b:AV} {st:St} {r:AV×AV×St} (hs:sem k c as b st=some r):sem k l as b st=some r:=by
 cases k
 case call f =>
  simp only[sem,n6]at hs ⊢;split at hs
  · rename_i j;rw[if_pos j];obtain⟨x,t,rfl⟩:=AK.1 hs;rw[h _ _ _ _ t];rfl
  · cases hs
 case callA f m =>
  simp only[sem,C5]at hs ⊢;cases i:n6 f c (as.take m) b st with
  | none=>rw[i]at hs; cases hs
  | some x =>
   rw[i]at hs;have:n6 f l (as.take m) b st=some x:=by
    unfold n6 at i ⊢;split at i
    · rename_i j;rw[if_pos j];obtain⟨y,u,rfl⟩:=AK.1 i;rw[h _ _ _ _ u];rfl
    · cases i
   rw[this];exact hs
 case callV =>
  simp only[sem]at hs ⊢;unfold D5 at hs ⊢;split at hs
  · split at hs
    · rename_i j;simp only[if_pos j];obtain⟨x,t,rfl⟩:=AK.1 hs;rw[h _ _ _ _ t];rfl
    · cases hs
  · cases hs
 all_goals exact hs
theorem b1M {c i:d8} (h:Q4 c i) {o:AOper} {σ σ':Sig} (hs:y9 c o σ=some σ'):y9 i o σ=some σ':=by obtain⟨r,b',st',j,rfl⟩:=l6 hs;exact a01 (d81 h j)
theorem a3V {c j:d8} (h:Q4 c j) {o:AOper} {σ σ':Sig} (hs:i7 c o σ=some σ'):i7 j o σ=some σ':=by
 unfold i7 at hs ⊢;split at hs
 · exact b1M h hs
 · split at hs
   · split at hs
     · rename_i i; rw[if_pos i]; exact b1M h hs
     · rename_i i; rw[if_neg i]; exact hs
   · exact hs
   · cases hs
theorem S1 {c j:d8} (h:Q4 c j):∀ {os:List AOper} {σ σ':Sig},g9 c os σ=some σ'→g9 j os σ=some σ'
 | [],_,_,hs=>hs
 | o::os,σ,σ',hs=>by
  simp only[g9]at hs ⊢;cases i:i7 c o σ with
  | none=>simp[i]at hs
  | some σ1 =>simp only[i]at hs;simp only[a3V h i];exact S1 h hs
theorem a2C {body i:List AV→St→Option Out} (h:∀ fr st r,body fr st=some r→i fr st=some r):∀ {n m:Nat} {fr:List AV} {st:St} {r:Out},n≤m→E6 body n fr st=some r→E6 i m fr st=some r
 | 0,_,_,_,_,_,hs=>by simp[E6]at hs
 | n+1,0,_,_,_,j,_=>by omega
 | n+1,m+1,fr,st,r,j,hs=>by
  simp only[E6]at hs ⊢;cases l:body fr st with
  | none=>simp[l]at hs
  | some o =>
   rw[l]at hs;rw[h _ _ _ l];obtain⟨e,t,u⟩:=o;cases e with
   | normal=>exact a2C h (by omega) hs
   | exit id=>exact hs
   | ret=>exact hs
theorem s5 {c l:d8} (h:Q4 c l) {n m:Nat} (i:n≤m):∀ {x:ACode} {fr:List AV} {st:St} {r:Out},exec c n x fr st=some r→exec l m x fr st=some r
 | .skip,_,_,_,hs=>hs
 | .exit _,_,_,_,hs=>hs
 | .ret,_,_,_,hs=>hs
 | .reg kill ops,fr,st,r,hs=>by
  simp only[exec]at hs ⊢;cases j:g9 c ops ⟨i6 kill fr,fun _=>.undef,st⟩with
  | none=>simp[j]at hs
  | some σ=>rw[j]at hs; rw[S1 h j]; exact hs
 | .test kill ops x a b,fr,st,r,hs=>by
  rw[a3Z]at hs ⊢;rw[Z0]at hs ⊢;cases j:g9 c ops ⟨i6 kill fr,fun _=>.undef,st⟩with
  | none=>rw[j]at hs; cases hs
  | some σ =>
   rw[j]at hs;rw[S1 h j];rw[o9]at hs ⊢;unfold br at hs ⊢;split at hs
   · exact s5 h i hs
   · exact s5 h i hs
   · cases hs
 | .either kill a b,fr,st,r,hs=>by simp only[exec]at hs ⊢;obtain⟨E,F,u,v,t,B⟩:=a0U hs;rw[s5 h i u,s5 h i v,a3f (t.trans B.symm),t]
 | .seq a b,fr,st,r,hs=>by
  rw[exec_seqK]at hs ⊢;cases j:exec c n a fr st with
  | none=>rw[j]at hs; cases hs
  | some o =>
   rw[j]at hs;rw[s5 h i j];obtain⟨e,y,D⟩:=o;cases e with
   | normal=>exact s5 h i hs
   | exit id=>exact hs
   | ret=>exact hs
 | .blk id a,fr,st,r,hs=>by
  simp only[exec]at hs ⊢;cases j:exec c n a fr st with
  | none=>rw[j]at hs; cases hs
  | some o=>rw[j]at hs; rw[s5 h i j]; exact hs
 | .loop a,fr,st,r,hs=>by simp only[exec]at hs ⊢;exact a2C (fun _ _ _ z=>s5 h i z) i hs
theorem b0u {c l:d8} (h:Q4 c l) {n m:Nat} (i:n≤m) {fn:AFn} {args:List AV} {st:St} {r:AV×St} (hs:fn.run c n args st=some r):fn.run l m args st=some r:=by
 have hl:args.length=fn.np:=by
  unfold AFn.run at hs;split at hs
  · assumption
  · cases hs
 rw[S7 _ _ _ _ _ hl]at hs ⊢;cases j:exec c n fn.code (args++List.replicate (fn.nv - fn.np) .undef) st with
 | none=>rw[j]at hs; cases hs
 | some o=>rw[j]at hs; rw[s5 h i j]; exact hs
theorem E8 {tbl:Nat→Option AFn}:∀ {n m:Nat},n≤m→Q4 (j9 tbl n) (j9 tbl m)
 | 0,_,_,_,_,_,_,hs=>by simp[j9]at hs
 | n+1,0,j,_,_,_,_,_=>by omega
 | n+1,m+1,j,f,as,st,r,hs=>by
  simp only[j9]at hs ⊢;cases i:tbl f with
  | none=>simp[i]at hs
  | some fn =>
   simp only[i]at hs ⊢;cases l:fn.ext with
   | some e=>simp only[l]at hs ⊢; exact hs
   | none =>simp only[l]at hs ⊢;exact b0u (E8 (by omega)) (by omega) hs
def Ev (tbl:Nat→Option AFn) (f:Nat) (as:List AV) (st:St) (r:AV) (st':St):Prop:=∃ n,j9 tbl n f as st=some (r,st')
theorem Ev.ge {tbl:Nat→Option AFn} {f:Nat} {as:List AV} {st:St} {r:AV} {st':St} (h:Ev tbl f as st r st'):∃ j,∀ n,j≤n→j9 tbl n f as st=some (r,st') :=
 let ⟨n,hn⟩:=h; ⟨n,fun m i=>E8 i _ _ _ _ hn⟩
end Go.Cb
namespace Go.Cb
open Classical
section
variable {tbl:Nat→Option AFn}
def XC (tbl:Nat→Option AFn) (x:ACode) (fr:List AV) (st:St) (out:Out):Prop:=∃ n,exec (j9 tbl n) n x fr st=some out
theorem XC.ge {x:ACode} {fr:List AV} {st:St} {out:Out} (h:XC tbl x fr st out):∃ j,∀ n,j≤n→exec (j9 tbl n) n x fr st=some out :=
 let ⟨n,hn⟩:=h; ⟨n,fun m i=>s5 (E8 i) i hn⟩
def LX (tbl:Nat→Option AFn) (x:ACode) (fr:List AV) (st:St) (out:Out):Prop:=∃ n k,E6 (exec (j9 tbl n) n x) k fr st=some out
theorem LX.done {x:ACode} {fr:List AV} {st:St} {e:Ex} {i:List AV} {st':St} (h:XC tbl x fr st (e,i,st')) (j:e≠.normal):LX tbl x fr st (e,i,st'):=by
 obtain⟨n,l⟩:=h;refine⟨n,1,?_⟩;simp only[E6,l];cases e with
 | normal=>exact absurd rfl j
 | exit id=>rfl
 | ret=>rfl
theorem LX.step {x:ACode} {fr i:List AV} {st j:St} {out:Out} (h:XC tbl x fr st (.normal,i,j)) (l:LX tbl x i j out):LX tbl x fr st out:=by obtain⟨n,y⟩:=h;obtain⟨m,k,v⟩:=l;refine⟨max n m,k+1,?_⟩;have t:=s5 (E8 (tbl:=tbl) (Nat.le_max_left n m)) (Nat.le_max_left n m) y;simp only[E6,t];exact a2C (fun _ _ _ u=>s5 (E8 (Nat.le_max_right n m)) (Nat.le_max_right n m) u) (AJ k) v
theorem XC.loop {x:ACode} {fr:List AV} {st:St} {out:Out} (h:LX tbl x fr st out):XC tbl (.loop x) fr st out:=by obtain⟨n,k,h⟩:=h;refine⟨max n k,?_⟩;simp only[exec];exact a2C (fun _ _ _ i=>s5 (E8 (Nat.le_max_left n k)) (Nat.le_max_left n k) i) (Nat.le_max_right n k) h
theorem XC.seq {a b:ACode} {fr i:List AV} {st j:St} {out:Out} (h:XC tbl a fr st (.normal,i,j)) (l:XC tbl b i j out):XC tbl (.seq a b) fr st out:=by obtain⟨n,u⟩:=h;obtain⟨m,t⟩:=l;refine⟨max n m,?_⟩;rw[exec_seqK,s5 (E8 (Nat.le_max_left n m)) (Nat.le_max_left n m) u,a2d];exact s5 (E8 (Nat.le_max_right n m)) (Nat.le_max_right n m) t
theorem XC.seq_out {a b:ACode} {fr i:List AV} {st j:St} {e:Ex} (h:XC tbl a fr st (e,i,j)) (l:e≠.normal):XC tbl (.seq a b) fr st (e,i,j):=by
 obtain⟨n,t⟩:=h;refine⟨n,?_⟩;rw[exec_seqK,t];cases e with
 | normal=>exact absurd rfl l
 | exit id=>rfl
 | ret=>rfl
theorem XC.blk {id:Nat} {a:ACode} {fr i:List AV} {st j:St} {e:Ex} (h:XC tbl a fr st (e,i,j)):XC tbl (.blk id a) fr st (if e=.exit id then .normal else e,i,j):=by
 obtain⟨n,t⟩:=h;refine⟨n,?_⟩;simp only[exec,t];cases e with
 | normal=>rfl
 | exit l =>
  by_cases hid:l=id
  · subst hid; simp
  · simp[hid]
 | ret=>rfl
theorem XC.skip {fr:List AV} {st:St}:XC tbl .skip fr st (.normal,fr,st):=⟨0,rfl⟩
theorem XC.exit {id:Nat} {fr:List AV} {st:St}:XC tbl (.exit id) fr st (.exit id,fr,st):=⟨0,rfl⟩
theorem XC.ret {fr:List AV} {st:St}:XC tbl .ret fr st (.ret,fr,st):=⟨0,rfl⟩
theorem XC.of {x:ACode} {fr:List AV} {st:St} {out:Out} (h:∃ i,∀ n,i≤n→exec (j9 tbl n) n x fr st=some out):XC tbl x fr st out :=
 let ⟨n,hn⟩:=h; ⟨n,hn n (AJ n)⟩
theorem XC.goes {x a:ACode} {fr i:List AV} {st j:St} {out:Out} (h:∃ v,∀ n,v≤n→exec (j9 tbl n) n x fr st=exec (j9 tbl n) n a i j) (l:XC tbl a i j out):XC tbl x fr st out:=by obtain⟨n,u⟩:=h;obtain⟨m,t⟩:=l.ge;exact⟨max n m,by rw[u _ (Nat.le_max_left n m)]; exact t _ (Nat.le_max_right n m)⟩
theorem Ev.of_body {f:Nat} {fn:AFn} {as:List AV} {st:St} {e:Ex} {i:List AV} {st':St} {r:AV×St} (j:tbl f=some fn) (l:fn.ext=none) (hl:as.length=fn.np)
 (h:XC tbl fn.code (as++List.replicate (fn.nv - fn.np) .undef) st (e,i,st')) (u:finK fn.results (some (e,i,st'))=some r):Ev tbl f as st r.1 r.2:=by
 obtain⟨n,t⟩:=h;refine⟨n+1,?_⟩;simp only[j9,j,l];rw[S7 _ _ _ _ _ hl,t,u]
theorem Ev.of_ext {f:Nat} {fn:AFn} {as:List AV} {st:St} {e:List AV→St→Option (AV×St)} {r:AV×St} (i:tbl f=some fn) (j:fn.ext=some e) (h:e as st=some r):Ev tbl f as st r.1 r.2 :=
 ⟨1,by simp only[j9,i,j]; exact h⟩
end
end Go.Cb
namespace Go.Cb.G
open Go Go.Cb
variable {ρ:Type}
section
noncomputable def onI (x:AV) (e:(Option ρ)) (k:IntKind→Int→(Option ρ)):(Option ρ):=AV.rec (motive_1:=fun _=>(Option ρ)) (motive_2:=fun _=>Unit) (motive_3:=fun _=>Unit)
 e (fun _=>e) (fun t n=>k t n) (fun _=>e) (fun _ _ _=>e) (fun _ _=>e) e (fun _ _=>e) (fun _ _=>e) (fun _ _=>e) (fun _=>e) e (fun _ _ _ _ _=>e) e (fun _ _=>e) (fun _ _=>e) (fun _ _ _=>e) e (fun _ _ _ _=>e) (fun _ _=>e) e
 () (fun _ _ _ _=>()) () (fun _ _ _ _=>()) x
noncomputable def b8v (x:AV) (e:(Option ρ)) (k:IntKind→Int→(Option ρ)) (l:List Nat→(Option ρ)):(Option ρ):=AV.rec (motive_1:=fun _=>(Option ρ)) (motive_2:=fun _=>Unit) (motive_3:=fun _=>Unit)
 e (fun _=>e) (fun t n=>k t n) (fun s=>l s) (fun _ _ _=>e) (fun _ _=>e) e (fun _ _=>e) (fun _ _=>e) (fun _ _=>e) (fun _=>e) e (fun _ _ _ _ _=>e) e (fun _ _=>e) (fun _ _=>e) (fun _ _ _=>e) e (fun _ _ _ _=>e) (fun _ _=>e) e
 () (fun _ _ _ _=>()) () (fun _ _ _ _=>()) x
noncomputable def onS (x:AV) (e:(Option ρ)) (k:List Nat→(Option ρ)):(Option ρ):=AV.rec (motive_1:=fun _=>(Option ρ)) (motive_2:=fun _=>Unit) (motive_3:=fun _=>Unit)
 e (fun _=>e) (fun t n=>e) (fun s=>k s) (fun _ _ _=>e) (fun _ _=>e) e (fun _ _=>e) (fun _ _=>e) (fun _ _=>e) (fun _=>e) e (fun _ _ _ _ _=>e) e (fun _ _=>e) (fun _ _=>e) (fun _ _ _=>e) e (fun _ _ _ _=>e) (fun _ _=>e) e
 () (fun _ _ _ _=>()) () (fun _ _ _ _=>()) x
noncomputable def onB (x:AV) (e:(Option ρ)) (k:Bool→(Option ρ)):(Option ρ):=AV.rec (motive_1:=fun _=>(Option ρ)) (motive_2:=fun _=>Unit) (motive_3:=fun _=>Unit)
 e (fun b=>k b) (fun t n=>e) (fun s=>e) (fun _ _ _=>e) (fun _ _=>e) e (fun _ _=>e) (fun _ _=>e) (fun _ _=>e) (fun _=>e) e (fun _ _ _ _ _=>e) e (fun _ _=>e) (fun _ _=>e) (fun _ _ _=>e) e (fun _ _ _ _=>e) (fun _ _=>e) e
 () (fun _ _ _ _=>()) () (fun _ _ _ _=>()) x
noncomputable def f22 (x:AV) (e:(Option ρ)) (k:Bool→(Option ρ)) (t:List AV→(Option ρ)):(Option ρ):=AV.rec (motive_1:=fun _=>(Option ρ)) (motive_2:=fun _=>Unit) (motive_3:=fun _=>Unit)
 e (fun b=>k b) (fun t n=>e) (fun s=>e) (fun _ _ _=>e) (fun _ _=>e) e (fun _ _=>e) (fun _ _=>e) (fun _ _=>e) (fun _=>e) e (fun _ _ _ _ _=>e) e (fun _ _=>e) (fun vs _=>t vs) (fun _ _ _=>e) e (fun _ _ _ _=>e) (fun _ _=>e) e
 () (fun _ _ _ _=>()) () (fun _ _ _ _=>()) x
noncomputable def onL (x:AV) (e:(Option ρ)) (k:List (List AV)→(Option ρ)):(Option ρ):=AV.rec (motive_1:=fun _=>(Option ρ)) (motive_2:=fun _=>Unit) (motive_3:=fun _=>Unit)
 e (fun b=>e) (fun t n=>e) (fun s=>e) (fun _ xs _=>k xs) (fun _ _=>e) e (fun _ _=>e) (fun _ _=>e) (fun _ _=>e) (fun _=>e) e (fun _ _ _ _ _=>e) e (fun _ _=>e) (fun _ _=>e) (fun _ _ _=>e) e (fun _ _ _ _=>e) (fun _ _=>e) e
 () (fun _ _ _ _=>()) () (fun _ _ _ _=>()) x
noncomputable def onP (x:AV) (e:(Option ρ)) (k:Nat→Nat→(Option ρ)):(Option ρ):=AV.rec (motive_1:=fun _=>(Option ρ)) (motive_2:=fun _=>Unit) (motive_3:=fun _=>Unit)
 e (fun b=>e) (fun t n=>e) (fun s=>e) (fun _ xs _=>e) (fun o f=>k o f) e (fun _ _=>e) (fun _ _=>e) (fun _ _=>e) (fun _=>e) e (fun _ _ _ _ _=>e) e (fun _ _=>e) (fun _ _=>e) (fun _ _ _=>e) e (fun _ _ _ _=>e) (fun _ _=>e) e
 () (fun _ _ _ _=>()) () (fun _ _ _ _=>()) x
noncomputable def a8x (x:AV) (e:(Option ρ)) (k:Nat→Nat→(Option ρ)) (l:List AV→(Option ρ)) (m:Nat→Nat→(Option ρ)):(Option ρ):=AV.rec (motive_1:=fun _=>(Option ρ)) (motive_2:=fun _=>Unit) (motive_3:=fun _=>Unit)
 e (fun b=>e) (fun t n=>e) (fun s=>e) (fun _ xs _=>e) (fun o f=>k o f) e (fun cs _=>l cs) (fun i f=>m i f) (fun _ _=>e) (fun _=>e) e (fun _ _ _ _ _=>e) e (fun _ _=>e) (fun _ _=>e) (fun _ _ _=>e) e (fun _ _ _ _=>e) (fun _ _=>e) e
 () (fun _ _ _ _=>()) () (fun _ _ _ _=>()) x
noncomputable def onR (x:AV) (e:(Option ρ)) (l:List AV→(Option ρ)):(Option ρ):=AV.rec (motive_1:=fun _=>(Option ρ)) (motive_2:=fun _=>Unit) (motive_3:=fun _=>Unit)
 e (fun b=>e) (fun t n=>e) (fun s=>e) (fun _ xs _=>e) (fun o f=>e) e (fun cs _=>l cs) (fun _ _=>e) (fun _ _=>e) (fun _=>e) e (fun _ _ _ _ _=>e) e (fun _ _=>e) (fun _ _=>e) (fun _ _ _=>e) e (fun _ _ _ _=>e) (fun _ _=>e) e
 () (fun _ _ _ _=>()) () (fun _ _ _ _=>()) x
noncomputable def b2U (x:AV) (e:(Option ρ)) (l:List AV→(Option ρ)):(Option ρ):=AV.rec (motive_1:=fun _=>(Option ρ)) (motive_2:=fun _=>Unit) (motive_3:=fun _=>Unit)
 e (fun b=>e) (fun t n=>e) (fun s=>e) (fun _ xs _=>e) (fun o f=>e) e (fun cs _=>e) (fun _ _=>e) (fun cs _=>l cs) (fun _=>e) e (fun _ _ _ _ _=>e) e (fun _ _=>e) (fun _ _=>e) (fun _ _ _=>e) e (fun _ _ _ _=>e) (fun _ _=>e) e
 () (fun _ _ _ _=>()) () (fun _ _ _ _=>()) x
noncomputable def b8m (x:AV) (e:(Option ρ)) (l:Nat→Nat→(Option ρ)):(Option ρ):=AV.rec (motive_1:=fun _=>(Option ρ)) (motive_2:=fun _=>Unit) (motive_3:=fun _=>Unit)
 e (fun b=>e) (fun t n=>e) (fun s=>e) (fun _ xs _=>e) (fun o f=>e) e (fun cs _=>e) (fun i f=>l i f) (fun cs _=>e) (fun _=>e) e (fun _ _ _ _ _=>e) e (fun _ _=>e) (fun _ _=>e) (fun _ _ _=>e) e (fun _ _ _ _=>e) (fun _ _=>e) e
 () (fun _ _ _ _=>()) () (fun _ _ _ _=>()) x
theorem a0t (x:AV) (e:(Option ρ)) (k:IntKind→Int→(Option ρ)):onI x e k=match x with|.int t n=>k t n|_=>e:=by cases x<;>rfl
theorem b1V (x:AV) (e:(Option ρ)) (k:IntKind→Int→(Option ρ)) (l:List Nat→(Option ρ)):b8v x e k l=match x with|.int t n=>k t n|.str s=>l s|_=>e:=by cases x<;>rfl
theorem a3n (x:AV) (e:(Option ρ)) (k:List Nat→(Option ρ)):onS x e k=match x with|.str s=>k s|_=>e:=by cases x<;>rfl
theorem a8O (x:AV) (e:(Option ρ)) (k:Bool→(Option ρ)):onB x e k=match x with|.bool b=>k b|_=>e:=by cases x<;>rfl
theorem d0X (x:AV) (e:(Option ρ)) (k:Bool→(Option ρ)) (t:List AV→(Option ρ)):f22 x e k t=match x with|.bool b=>k b|.tuple vs=>t vs|_=>e:=by cases x<;>rfl
theorem a9Z (x:AV) (e:(Option ρ)) (k:List (List AV)→(Option ρ)):onL x e k=match x with|.list _ xs=>k xs|_=>e:=by cases x<;>rfl
theorem b0i (x:AV) (e:(Option ρ)) (k:Nat→Nat→(Option ρ)):onP x e k=match x with|.ptr o f=>k o f|_=>e:=by cases x<;>rfl
theorem a5u (x:AV) (e:(Option ρ)) (k:Nat→Nat→(Option ρ)) (l:List AV→(Option ρ)) (m:Nat→Nat→(Option ρ)):a8x x e k l m=match x with|.ptr o f=>k o f|.ro cs=>l cs|.loc i f=>m i f|_=>e:=by cases x<;>rfl
theorem d5K (x:AV) (e:(Option ρ)) (l:List AV→(Option ρ)):onR x e l=match x with|.ro cs=>l cs|_=>e:=by cases x<;>rfl
theorem a7H (x:AV) (e:(Option ρ)) (l:List AV→(Option ρ)):b2U x e l=match x with|.box cs=>l cs|_=>e:=by cases x<;>rfl
theorem b1H (x:AV) (e:(Option ρ)) (l:Nat→Nat→(Option ρ)):b8m x e l=match x with|.loc i f=>l i f|_=>e:=by cases x<;>rfl
end
noncomputable def kIx (k:IntKind):Nat:=IntKind.rec (motive:=fun _=>Nat) 0 1 2 3 4 5 6 7 k
noncomputable def cB (b:Bool) (x y:(Option ρ)):(Option ρ):=Bool.rec (motive:=fun _=>(Option ρ)) y x b
theorem R5 (b:Bool) (x y:(Option ρ)):cB b x y=if b=true then x else y:=by cases b<;>rfl
theorem a3C (a b:IntKind):Nat.beq (kIx a) (kIx b)=decide (a=b):=by cases a<;>cases b<;>rfl
noncomputable def bo (b:Bool) (k:AV→(Option ρ)):(Option ρ):=cB b (k (.bool true)) (k (.bool false))
theorem a5W (b:Bool) (k:AV→(Option ρ)):bo b k=k (.bool b):=by cases b<;>rfl
noncomputable def a2S (n:Nat) (k:Nat→(Option ρ)):(Option ρ):=Nat.rec (motive:=fun _=>(Option ρ)) (k 0) (fun m _=>k (Nat.succ m)) n
theorem Y8 (n:Nat) (k:Nat→(Option ρ)):a2S n k=k n:=by cases n<;>rfl
noncomputable def nn (a b:Int) (e:(Option ρ)) (k:Nat→Nat→(Option ρ)):(Option ρ):=Int.rec (motive:=fun _=>(Option ρ)) (fun a=>Int.rec (motive:=fun _=>(Option ρ)) (fun b=>k a b) (fun _=>e) b) (fun _=>e) a
theorem a4C (a b:Int) (e:(Option ρ)) (k:Nat→Nat→(Option ρ)):nn a b e k=match a,b with|.ofNat a,.ofNat b=>k a b|_,_=>e:=by cases a<;>cases b<;>rfl
noncomputable def eqF (x:List Nat):List Nat→Bool:=List.rec (motive:=fun _=>List Nat→Bool) (fun y=>List.rec (motive:=fun _=>Bool) true (fun _ _ _=>false) y)
 (fun a _ i y=>List.rec (motive:=fun _=>Bool) false (fun b t _=>Bool.rec (motive:=fun _=>Bool) false (i t) (Nat.beq a b)) y) x
theorem b0A:∀ x y:List Nat,eqF x y=eqN x y
 | [],[]=>rfl
 | [],_::_=>rfl
 | _::_,[]=>rfl
 | a::x,b::y=>by have i:=b0A x y;show(Bool.rec (motive:=fun _=>Bool) false (eqF x y) (Nat.beq a b))=(Nat.beq a b && eqN x y);rw[i];cases Nat.beq a b<;>rfl
noncomputable def a3B {β:Type} (l:List β) (e:(Option ρ)) (k:β→(Option ρ)):Nat→(Option ρ):=List.rec (motive:=fun _=>Nat→(Option ρ)) (fun _=>e) (fun a _ t i=>Nat.rec (motive:=fun _=>(Option ρ)) (k a) (fun j _=>t j) i) l
theorem a2r {β:Type}:∀ (l:List β) (e:(Option ρ)) (k:β→(Option ρ)) (i:Nat),a3B l e k i=match l[i]? with|some a=>k a|none=>e
 | [],e,k,i=>by cases i<;>rfl
 | a::l,e,k,0=>rfl
 | a::l,e,k,i+1=>by have:=a2r l e k i;show a3B l e k i=_;rw[this];simp
noncomputable def J2 {β:Type} (l:List β):Nat:=List.rec (motive:=fun _=>Nat) 0 (fun _ _ n=>Nat.add n 1) l
theorem G0 {β:Type}:∀ l:List β,J2 l=l.length
 | []=>rfl
 | a::l=>by show Nat.add (J2 l) 1=_;rw[G0 l];rfl
noncomputable def a6k (n:Nat):List AV→List AV:=Nat.rec (motive:=fun _=>List AV→List AV) (fun l=>l) (fun _ i l=>List.rec (motive:=fun _=>List AV) [] (fun _ t _=>i t) l) n
theorem Z4:∀ (n:Nat) (l:List AV),a6k n l=l.drop n
 | 0,l=>rfl
 | n+1,[]=>rfl
 | n+1,a::l=>Z4 n l
noncomputable def a8A {β:Type} (i:Nat) (l:List β):List β:=Nat.rec (motive:=fun _=>List β) l (fun _ j=>List.rec (motive:=fun _=>List β) [] (fun _ t _=>t) j) i
theorem a5K {β:Type}:∀ (i:Nat) (l:List β),a8A i l=l.drop i
 | 0,l=>rfl
 | i+1,l=>by have:=a5K i l;show List.rec (motive:=fun _=>List β) [] (fun _ t _=>t) (a8A i l)=_;rw[this,show l.drop (i+1)=(l.drop i).drop 1 by rw[List.drop_drop]];cases l.drop i<;>rfl
noncomputable def atO {β:Type} (l:List β) (e:(Option ρ)) (k:β→(Option ρ)) (i:Nat):(Option ρ):=List.rec (motive:=fun _=>(Option ρ)) e (fun a _ _=>k a) (a8A i l)
theorem b5d {β:Type} (l:List β) (e:(Option ρ)) (k:β→(Option ρ)) (i:Nat):atO l e k i=match l[i]? with|some a=>k a|none=>e:=by
 unfold atO;rw[a5K];have h:l[i]?=(l.drop i)[0]?:=by simp
 rw[h];cases l.drop i<;>rfl
noncomputable def a8y {β:Type} (n:Nat) (l:List β) (k:List β→(Option ρ)):(Option ρ):=Nat.rec (motive:=fun _=>List β→(List β→(Option ρ))→(Option ρ)) (fun _ k=>k []) (fun _ i l k=>List.rec (motive:=fun _=>(Option ρ)) (k []) (fun a t _=>i t fun r=>k (a::r)) l) n l k
theorem a3h {β:Type}:∀ (n:Nat) (l:List β) (k:List β→(Option ρ)),a8y n l k=k (l.take n)
 | 0,l,k=>by show k []=_; rw[List.take_zero]
 | n+1,[],k=>rfl
 | n+1,a::l,k=>a3h n l fun r=>k (a::r)
noncomputable def a5A {β:Type} (l r:List β) (k:List β→(Option ρ)):(Option ρ):=List.rec (motive:=fun _=>(List β→(Option ρ))→(Option ρ)) (fun k=>k r) (fun a _ i k=>i fun t=>k (a::t)) l k
theorem a4O {β:Type} (r:List β):∀ (l:List β) (k:List β→(Option ρ)),a5A l r k=k (l++r)
 | [],k=>rfl
 | a::l,k=>a4O r l fun t=>k (a::t)
noncomputable def c0s (l:List AV) (e:(Option ρ)) (k:AV→(Option ρ)):(Option ρ):=List.rec (motive:=fun _=>(Option ρ)) e (fun a _ _=>k a) l
theorem b81 (l:List AV) (e:(Option ρ)) (k:AV→(Option ρ)):c0s l e k=match l with|a::_=>k a|[]=>e:=by cases l<;>rfl
noncomputable def w1K (x:AV) (k:AV→(Option ρ)):(Option ρ):=AV.rec (motive_1:=fun _=>(Option ρ)) (motive_2:=fun _=>Unit) (motive_3:=fun _=>Unit)
 (k .undef) (fun b=>k (.bool b)) (fun t n=>k (.int t n)) (fun s=>k (.str s)) (fun _ xs _=>k (.list false xs)) (fun o f=>k (.ptr o f)) (k .nilp) (fun cs _=>k (.ro cs)) (fun i f=>k (.loc i f)) (fun cs _=>k (.box cs)) (fun o=>k (.map o)) (k .nilm) (fun f a c _ _=>k (.func f a c)) (k .nilf) (fun cs _=>k (.agg cs)) (fun vs _=>k (.tuple vs)) (fun t v _=>k (.iface t v)) (k .nili) (fun o f n s=>k (.sl o f n s)) (fun xs _=>k (.fresh xs)) (k .nils)
 () (fun _ _ _ _=>()) () (fun _ _ _ _=>()) x
theorem b6h (x:AV) (k:AV→(Option ρ)):w1K x k=k x.weak1:=by cases x<;>rfl
noncomputable def b8P (l:List AV) (k:List AV→(Option ρ)):(Option ρ):=List.rec (motive:=fun _=>(List AV→(Option ρ))→(Option ρ)) (fun k=>k []) (fun a _ i k=>w1K a fun w=>i fun r=>k (w::r)) l k
theorem b17:∀ (l:List AV) (k:List AV→(Option ρ)),b8P l k=k (l.map AV.weak1)
 | [],k=>rfl
 | a::l,k=>by show w1K a (fun w=>b8P l fun r=>k (w::r))=_;rw[b6h,b17 l];rfl
noncomputable def a6f {β:Type} (l:List β) (e:(Option ρ)) (k:List β→(Option ρ)):(Option ρ):=List.rec (motive:=fun _=>(Option ρ)) e (fun _ l _=>List.rec (motive:=fun _=>(Option ρ)) e (fun _ l _=>List.rec (motive:=fun _=>(Option ρ)) e (fun _ l _=>List.rec (motive:=fun _=>(Option ρ)) e (fun _ l _=>List.rec (motive:=fun _=>(Option ρ)) e (fun _ l _=>List.rec (motive:=fun _=>(Option ρ)) e (fun _ l _=>List.rec (motive:=fun _=>(Option ρ)) e (fun _ l _=>List.rec (motive:=fun _=>(Option ρ)) e (fun _ l _=>k l) l) l) l) l) l) l) l) l
theorem b7E {β:Type} (l:List β) (e:(Option ρ)) (k:List β→(Option ρ)):a6f l e k=if 8≤l.length then k (l.drop 8)else e:=by
 match l with
 | []=>rfl
 | [_]=>rfl
 | [_,_]=>rfl
 | [_,_,_]=>rfl
 | [_,_,_,_]=>rfl
 | [_,_,_,_,_]=>rfl
 | [_,_,_,_,_,_]=>rfl
 | [_,_,_,_,_,_,_]=>rfl
 | _::_::_::_::_::_::_::_::t=>rw[if_pos (by simp)]; rfl
noncomputable def b4E {β:Type} (l:List β) (e:(Option ρ)) (k:β→(Option ρ)) (i:Nat):(Option ρ):=Nat.rec (motive:=fun _=>List β→(Option ρ)) (fun l=>a3B l e k (Nat.mod i 8)) (fun _ j l=>a6f l e j) (Nat.div i 8) l
theorem b1Y {β:Type} (e:(Option ρ)) (k:β→(Option ρ)) (r:Nat):∀ (q:Nat) (l:List β),Nat.rec (motive:=fun _=>List β→(Option ρ)) (fun l=>a3B l e k r) (fun _ i l=>a6f l e i) q l=a3B l e k (8*q+r)
 | 0,l=>by show a3B l e k r=_; rw[Nat.mul_zero,Nat.zero_add]
 | q+1,l=>by
  show a6f l e (fun l=>Nat.rec (motive:=fun _=>List β→(Option ρ)) (fun l=>a3B l e k r) (fun _ i l=>a6f l e i) q l)=_;rw[b7E,b1Y e k r q (l.drop 8),a2r,a2r];split
  · rw[List.getElem?_drop,show 8+(8*q+r)=8*(q+1)+r by omega]
  · rw[List.getElem?_eq_none (by omega)]
theorem a7b {β:Type} (l:List β) (e:(Option ρ)) (k:β→(Option ρ)) (i:Nat):b4E l e k i=match l[i]? with|some a=>k a|none=>e:=by unfold b4E;rw[b1Y e k (Nat.mod i 8) (Nat.div i 8) l,a2r,show 8*Nat.div i 8+Nat.mod i 8=i from Nat.div_add_mod i 8]
noncomputable def a2E {β:Type} (l:List β) (e:(Option ρ)) (i:List β→(List β→(Option ρ))→(Option ρ)) (k:List β→(Option ρ)):(Option ρ):=List.rec (motive:=fun _=>(Option ρ)) e (fun a0 l _=>List.rec (motive:=fun _=>(Option ρ)) e (fun a1 l _=>List.rec (motive:=fun _=>(Option ρ)) e (fun a2 l _=>List.rec (motive:=fun _=>(Option ρ)) e (fun a3 l _=>List.rec (motive:=fun _=>(Option ρ)) e (fun a4 l _=>List.rec (motive:=fun _=>(Option ρ)) e (fun a5 l _=>List.rec (motive:=fun _=>(Option ρ)) e (fun a6 l _=>List.rec (motive:=fun _=>(Option ρ)) e (fun a7 l _=>i l (fun r=>k (a0::a1::a2::a3::a4::a5::a6::a7::r))) l) l) l) l) l) l) l) l
theorem b2d {β:Type} (l:List β) (e:(Option ρ)) (i:List β→(List β→(Option ρ))→(Option ρ)) (k:List β→(Option ρ)):a2E l e i k=if 8≤l.length then i (l.drop 8) (fun r=>k (l.take 8++r))else e:=by
 match l with
 | []=>rfl
 | [_]=>rfl
 | [_,_]=>rfl
 | [_,_,_]=>rfl
 | [_,_,_,_]=>rfl
 | [_,_,_,_,_]=>rfl
 | [_,_,_,_,_,_]=>rfl
 | [_,_,_,_,_,_,_]=>rfl
 | _::_::_::_::_::_::_::_::t=>rw[if_pos (by simp)]; rfl
section
variable (c:d8) (b:AV) (s:St) (f:AV→(Option ρ))
noncomputable def b9C (x y:AV):(Option ρ):=b8v x none (fun t m=>onI y none fun u n=>cB (Nat.beq (kIx t) (kIx u)) (nn m n (bo (eqI m n) f) fun a b=>bo (Nat.beq a b) f) none) (fun l=>onS y none fun r=>bo (eqF l r) f)
noncomputable def b7x (x y:AV):(Option ρ):=b8v x none (fun t m=>onI y none fun u n=>cB (Nat.beq (kIx t) (kIx u)) (nn m n (bo (!eqI m n) f) fun a b=>cB (Nat.beq a b) (f (.bool false)) (f (.bool true))) none) (fun l=>onS y none fun r=>cB (eqF l r) (f (.bool false)) (f (.bool true)))
noncomputable def a2a (op:BinOp) (g:Nat→Nat→Bool) (x y:AV):(Option ρ):=onI x (obind (p1 (sem (.bin op) c [x,y] b s)) f) (fun t m=>onI y none fun u n=>cB (Nat.beq (kIx t) (kIx u)) (nn m n (obind (p1 (sem (.bin op) c [.int t m,.int u n] b s)) f) fun a b=>bo (g a b) f) none)
noncomputable def b8Q (x y:AV):(Option ρ):=onI x (obind (p1 (sem (.bin .add) c [x,y] b s)) f) (fun t m=>onI y none fun u n=>cB (Nat.beq (kIx t) (kIx u)) (nn m n (obind (p1 (sem (.bin .add) c [.int t m,.int u n] b s)) f)
 fun i j=>a2S (Nat.add i j) fun r=>cB (Nat.blt r 128) (f (.int t (.ofNat r))) (cB (Nat.beq (kIx t) 3) (cB (Nat.blt r 9223372036854775808) (f (.int t (.ofNat r))) (obind (p1 (sem (.bin .add) c [.int t m,.int u n] b s)) f)) (obind (p1 (sem (.bin .add) c [.int t m,.int u n] b s)) f))) none)
noncomputable def b96 (x y:AV):(Option ρ):=onI x (obind (p1 (sem (.bin .sub) c [x,y] b s)) f) (fun t m=>onI y none fun u n=>cB (Nat.beq (kIx t) (kIx u)) (nn m n (obind (p1 (sem (.bin .sub) c [.int t m,.int u n] b s)) f)
 fun i j=>cB (Nat.ble j i) (a2S (Nat.sub i j) fun r=>cB (Nat.blt r 128) (f (.int t (.ofNat r))) (cB (Nat.beq (kIx t) 3) (cB (Nat.blt r 9223372036854775808) (f (.int t (.ofNat r))) (obind (p1 (sem (.bin .sub) c [.int t m,.int u n] b s)) f)) (obind (p1 (sem (.bin .sub) c [.int t m,.int u n] b s)) f))) (obind (p1 (sem (.bin .sub) c [.int t m,.int u n] b s)) f)) none)
noncomputable def b8L (x:AV):(Option ρ):=onB x none fun y=>cB y (f (.bool false)) (f (.bool true))
noncomputable def a9t (x:AV):(Option ρ):=cB x.plain (f x) none
noncomputable def b3j (x y z:AV):(Option ρ):=onB x none fun v=>cB v (a9t f y) (a9t f z)
noncomputable def b7t (x:AV):(Option ρ):=a8x x (obind (p1 (sem .nilchk c [x] b s)) f) (fun o i=>f (.ptr o i)) (fun cs=>f (.ro cs)) (fun i j=>f (.loc i j))
noncomputable def c0b (d:Nat) (x:AV):(Option ρ):=a8x x none (fun o i=>a2S (Nat.add i d) fun i=>f (.ptr o i)) (fun cs=>f (.ro (a6k d cs))) (fun o i=>a2S (Nat.add i d) fun i=>f (.loc o i))
noncomputable def a4F (i:Bool) (n:Nat) (cs:List AV):(Option ρ):=cB i (cB (Nat.ble n (J2 cs)) (a8y n cs fun r=>b8P r fun r=>f (.agg r)) none) (c0s cs none fun x=>w1K x f)
noncomputable def b0F (x:Obj) (k:List AV→(Option ρ)):(Option ρ):=Obj.rec (motive:=fun _=>(Option ρ)) k (fun _=>none) none x
noncomputable def a2Q (j:Bool) (n:Nat) (x:AV):(Option ρ):=onP x none fun o i=>b4E s none (fun l=>b0F l fun cs=>a4F f j n (a6k i cs)) o
noncomputable def a6p (i:Bool) (n:Nat) (x:AV):(Option ρ):=onR x none fun cs=>a4F f i n cs
noncomputable def b4f (i:Nat) (l:Bool) (n:Nat) (x:AV):(Option ρ):=b8m x none fun j off=>b2U b none fun cs=>cB (Nat.beq i j) (a4F f l n (a6k off cs)) none
noncomputable def b4G (x:AV):(Option ρ):=onS x none fun l=>a2S (J2 l) fun n=>f (.int .i64 (.ofNat n))
noncomputable def b3N (x:AV):(Option ρ):=onL x (obind (p1 (sem .lenL c [x] b s)) f) fun l=>a2S (J2 l) fun n=>f (.int .i64 (.ofNat n))
noncomputable def b7w (x y:AV):(Option ρ):=onS x none fun l=>onI y none fun _ n=>Int.rec (motive:=fun _=>(Option ρ)) (fun i=>atO l none (fun m=>f (.int .u8 (.ofNat m))) i) (fun _=>none) n
noncomputable def b83 (j:Nat) (x y:AV):(Option ρ):=onL x (obind (p1 (sem (.iad j) c [x,y] b s)) f) fun l=>onI y none fun _ n=>Int.rec (motive:=fun _=>(Option ρ)) (fun i=>atO l none (fun r=>cB (Nat.beq (J2 r) j) (f (.ro r)) none) i) (fun _=>none) n
end
section
variable (c:d8) (b:AV) (s:St) (f:AV→(Option ρ))
theorem c1q (x y:AV):b9C f x y=obind (p1 (sem (.bin .eql) c [x,y] b s)) f:=by
 simp only[b9C,b1V,a0t,a3n,R5,a5W,a4C,b0A,a3C,sem,z6];cases x<;>cases y<;>try rfl
 · rename_i t m u n;by_cases h:t=u
   · subst h;cases m<;>cases n<;>simp[l8,p1,obind,eqI]
   · simp[l8,h,p1,obind]
theorem c3X (x y:AV):b7x f x y=obind (p1 (sem (.bin .neq) c [x,y] b s)) f:=by
 simp only[b7x,b1V,a0t,a3n,R5,a5W,a4C,b0A,a3C,sem,z6];cases x<;>cases y<;>try rfl
 · rename_i t m u n;by_cases h:t=u
   · subst h;cases m<;>cases n<;>simp[l8,p1,obind,eqI];rename_i m n;by_cases h:m=n
     · subst h; simp
     · have e:Nat.beq m n=false:=Bool.eq_false_iff.mpr (fun q=>h (Nat.eq_of_beq_eq_true q));simp[e,h]
   · simp[l8,h,p1,obind]
 · rename_i l r;simp only[l8,AN,p1,obind];cases eqN l r<;>rfl
theorem b8j {op:BinOp} (i:op=.lss∨op=.leq∨op=.gtr∨op=.geq) (t:IntKind) (m:Int) (y:AV) (j:∀ u n,y≠.int u n):l8 op (.int t m) y=none:=by cases y<;>first|(exfalso; exact j _ _ rfl)|(rcases i with rfl|rfl|rfl|rfl<;>rfl)
theorem d4a {op:BinOp} (i:op=.lss∨op=.leq∨op=.gtr∨op=.geq) {t u:IntKind} (h:t≠u) (m n:Int):l8 op (.int t m) (.int u n)=none:=by rcases i with rfl|rfl|rfl|rfl<;>simp[l8,h]
theorem a4B (op:BinOp) (g:Nat→Nat→Bool) (l:op=.lss∨op=.leq∨op=.gtr∨op=.geq) (hg:∀ (t:IntKind) (i j:Nat),l8 op (.int t (.ofNat i)) (.int t (.ofNat j))=some (.bool (g i j))) (x y:AV):a2a c b s f op g x y=obind (p1 (sem (.bin op) c [x,y] b s)) f:=by
 simp only[a2a,a0t,R5,a5W,a4C,a3C];cases x<;>try rfl
 rename_i t m;cases y
 case int u n =>
  simp only;by_cases h:t=u
  · subst h;simp only[decide_true,if_true];cases m<;>cases n<;>try rfl
    rename_i i j;simp only[sem,z6,hg,AN,p1,obind]
  · simp only[h,decide_false,Bool.false_eq_true,if_false,sem,z6,d4a l h,Option.map_none,p1,obind]
 all_goals (simp only[sem,z6]; rw[b8j l _ _ _ (by simp)]; rfl)
theorem a6i (t:IntKind) {r:Nat} (h:r < 128):A0 t (Int.ofNat r)=Int.ofNat r:=by rw[R8];cases t<;>simp[IntKind.wrap,IntKind.signed,IntKind.bits]<;>omega
theorem a7O {r:Nat} (h:r < 9223372036854775808):A0 .i64 (Int.ofNat r)=Int.ofNat r:=by simp only[A0];rw[if_pos (by simpa using h)]
theorem c0q (t:IntKind):Nat.beq (kIx t) 3=true→t=.i64:=by cases t<;>decide
theorem a6v {op:BinOp} (i:op=.add∨op=.sub) (t:IntKind) (m:Int) (y:AV) (j:∀ u n,y≠.int u n):l8 op (.int t m) y=none:=by cases y<;>first|(exfalso; exact j _ _ rfl)|(rcases i with rfl|rfl<;>rfl)
theorem d0o (x y:AV):b8Q c b s f x y=obind (p1 (sem (.bin .add) c [x,y] b s)) f:=by
 simp only[b8Q,a0t,R5,a5W,a4C,a3C,Y8];cases x<;>try rfl
 rename_i t m;cases y
 case int u n =>
  simp only;by_cases h:t=u
  · subst h;simp only[decide_true,if_true];cases m<;>cases n<;>try rfl
    rename_i i j;dsimp only;have e:∀ r,Nat.add i j=r→A0 t (Int.ofNat r)=Int.ofNat r→f (.int t (.ofNat r))=obind (p1 (sem (.bin .add) c [.int t (.ofNat i),.int t (.ofNat j)] b s)) f:=fun r l v=>by subst l;simp only[sem,z6,l8,if_true,a6U,v,AN,p1,obind]
    split
    · rename_i hl;exact e _ rfl (a6i t (by simpa using hl))
    · split
      · rename_i hk;have:=c0q t hk;subst this;split
        · rename_i hl;exact e _ rfl (a7O (by simpa using hl))
        · rfl
      · rfl
  · simp only[h,decide_false,Bool.false_eq_true,if_false,sem,z6,l8,Option.map_none,p1,obind]
 all_goals (simp only[sem,z6]; rw[a6v (.inl rfl) _ _ _ (by simp)]; rfl)
theorem c4q (x y:AV):b96 c b s f x y=obind (p1 (sem (.bin .sub) c [x,y] b s)) f:=by
 simp only[b96,a0t,R5,a5W,a4C,a3C,Y8];cases x<;>try rfl
 rename_i t m;cases y
 case int u n =>
  simp only;by_cases h:t=u
  · subst h;simp only[decide_true,if_true];cases m<;>cases n<;>try rfl
    rename_i i j;dsimp only;split
    · rename_i l;have e:∀ r,Nat.sub i j=r→A0 t (Int.ofNat r)=Int.ofNat r→f (.int t (.ofNat r))=obind (p1 (sem (.bin .sub) c [.int t (.ofNat i),.int t (.ofNat j)] b s)) f:=fun r v z=>by subst v;simp only[sem,z6,l8,if_true,a9Q,l,z,AN,p1,obind]
      split
      · rename_i hl;exact e _ rfl (a6i t (by simpa using hl))
      · split
        · rename_i hk;have:=c0q t hk;subst this;split
          · rename_i hl;exact e _ rfl (a7O (by simpa using hl))
          · rfl
        · rfl
    · rfl
  · simp only[h,decide_false,Bool.false_eq_true,if_false,sem,z6,l8,Option.map_none,p1,obind]
 all_goals (simp only[sem,z6]; rw[a6v (.inr rfl) _ _ _ (by simp)]; rfl)
theorem c2l (x:AV):b8L f x=obind (p1 (sem (.un .not) c [x] b s)) f:=by
 simp only[b8L,a8O,R5,sem];cases x<;>try rfl
 rename_i y; cases y<;>rfl
theorem b7L (x y z:AV):b3j f x y z=obind (p1 (sem .pick c [x,y,z] b s)) f:=by
 simp only[b3j,a9t,a8O,R5,sem];cases x<;>try rfl
 rename_i v;cases v
 · simp only[A9,Bool.false_eq_true,if_false]; split<;>rfl
 · simp only[A9,if_true]; split<;>rfl
theorem c2v (x:AV):b7t c b s f x=obind (p1 (sem .nilchk c [x] b s)) f:=by simp only[b7t,a5u];cases x<;>rfl
theorem c5q (d:Nat) (x:AV):c0b f d x=obind (p1 (sem (.fad d) c [x] b s)) f:=by simp only[c0b,a5u,Y8,Z4];cases x<;>rfl
theorem a1u (i:Bool) (n:Nat) (cs:List AV):a4F f i n cs=match j0 i n cs with|some v=>f v|none=>none:=by
 simp only[a4F,R5,b81,G0,a3h,b17,b6h];cases i
 · cases cs<;>rfl
 · simp only[j0,if_true];by_cases h:n≤cs.length
   · have e:Nat.ble n cs.length=true:=by simpa using h
     simp only[e,h,if_true]
   · have e:Nat.ble n cs.length=false:=Bool.eq_false_iff.mpr (fun q=>h (Nat.le_of_ble_eq_true q));simp only[e,h,Bool.false_eq_true,if_false]
theorem a3T (x:Obj) (k:List AV→(Option ρ)):b0F x k=match x with|.cells cs=>k cs|_=>none:=by cases x<;>rfl
theorem a9C {x:Option AV}:obind (p1 (x.map fun v=>(v,b,s))) f=match x with|some v=>f v|none=>none:=by cases x<;>rfl
theorem b0H (j:Bool) (n:Nat) (x:AV):a2Q s f j n x=obind (p1 (sem (.ldSt j n) c [x] b s)) f:=by
 simp only[a2Q,b0i,a7b,a3T,a1u,Z4];cases x<;>try rfl
 rename_i o i;simp only[sem,B0];cases s[o]? with
 | none=>rfl
 | some l=>cases l<;>first|rfl|exact(a9C b s f).symm
theorem a9r (i:Bool) (n:Nat) (x:AV):a6p f i n x=obind (p1 (sem (.ldRo i n) c [x] b s)) f:=by
 simp only[a6p,d5K,a1u];cases x<;>try rfl
 exact(a9C b s f).symm
theorem b8n (i:Nat) (l:Bool) (n:Nat) (x:AV):b4f b f i l n x=obind (p1 (sem (.ldLc i l n) c [x] b s)) f:=by
 simp only[b4f,b1H,a7H,a1u,Z4,R5];cases x<;>try rfl
 rename_i j off;cases b<;>try rfl
 rename_i cs;simp only[sem,G4];by_cases h:i=j
 · simp only[h,Nat.beq_refl,if_true];exact(a9C _ s f).symm
 · have:Nat.beq i j=false:=Bool.eq_false_iff.mpr (fun q=>h (Nat.eq_of_beq_eq_true q));simp only[this,h,Bool.false_eq_true,if_false];rfl
theorem b94 (x:AV):b4G f x=obind (p1 (sem .lenS c [x] b s)) f:=by simp only[b4G,a3n,Y8,G0];cases x<;>rfl
theorem b7C (x:AV):b3N c b s f x=obind (p1 (sem .lenL c [x] b s)) f:=by simp only[b3N,a9Z,Y8,G0];cases x<;>rfl
theorem d0x (x y:AV):b7w f x y=obind (p1 (sem .idxS c [x,y] b s)) f:=by
 simp only[b7w,a3n,a0t,b5d];cases x<;>try rfl
 cases y<;>try rfl
 rename_i l k n;simp only[sem,H8];cases n with
 | ofNat i =>have e:(Int.ofNat i).toNat=i:=rfl;simp only[Int.ofNat_eq_natCast,Int.natCast_nonneg,if_true,Int.toNat_natCast];cases l[i]?<;>rfl
 | negSucc i=>rfl
theorem c2E (j:Nat) (x y:AV):b83 c b s f j x y=obind (p1 (sem (.iad j) c [x,y] b s)) f:=by
 simp only[b83,a9Z,a0t,b5d,R5,G0];cases x<;>try rfl
 cases y<;>try rfl
 rename_i w l k n;simp only[sem,I1];cases n with
 | ofNat i =>
  simp only[Int.ofNat_eq_natCast,Int.natCast_nonneg,if_true,Int.toNat_natCast];cases l[i]? with
  | none=>rfl
  | some r =>
   by_cases h:r.length=j
   · have:Nat.beq r.length j=true:=by rw[h]; exact Nat.beq_refl j
     simp only[this,if_true,if_pos h];rfl
   · have:Nat.beq r.length j=false:=Bool.eq_false_iff.mpr (fun q=>h (Nat.eq_of_beq_eq_true q));simp only[this,h,Bool.false_eq_true,if_false];rfl
 | negSucc i=>rfl
end
noncomputable def qSb (x:AV) (k:AV→AV→(Option ρ)):(Option ρ):=AV.rec (motive_1:=fun _=>(Option ρ)) (motive_2:=fun _=>Unit) (motive_3:=fun _=>Unit)
 (k .undef .undef)
 (fun b=>k (.bool b) (.bool b))
 (fun t n=>k (.int t n) (.int t n))
 (fun s=>k (.str s) (.str s))
 (fun o xs _=>k (.list o xs) (.list false xs))
 (fun o f=>k (.ptr o f) (.ptr o f))
 (k .nilp .nilp)
 (fun cs _=>k (.ro cs) (.ro cs))
 (fun i f=>k (.loc i f) (.loc i f))
 (fun cs _=>k .undef .undef)
 (fun o=>k (.map o) (.map o))
 (k .nilm .nilm)
 (fun f a c _ _=>k (.func f a c) (.func f a c))
 (k .nilf .nilf)
 (fun cs _=>k (.agg cs) (.agg (cs.map AV.weak1)))
 (fun vs _=>k (.tuple vs) (.tuple vs))
 (fun t v _=>k (.iface t v) (.iface t v))
 (k .nili .nili)
 (fun o f n s=>k (.sl o f n s) (.sl o f n s))
 (fun xs _=>k (.fresh xs) (.fresh xs))
 (k .nils .nils)
 () (fun _ _ _ _=>()) () (fun _ _ _ _=>()) x
noncomputable def qSv (x:AV) (k:AV→AV→(Option ρ)):(Option ρ):=AV.rec (motive_1:=fun _=>(Option ρ)) (motive_2:=fun _=>Unit) (motive_3:=fun _=>Unit)
 (k .undef .undef)
 (fun b=>k (.bool b) (.bool b))
 (fun t n=>k (.int t n) (.int t n))
 (fun s=>k (.str s) (.str s))
 (fun o xs _=>k (.list o xs) (.list false xs))
 (fun o f=>k (.ptr o f) (.ptr o f))
 (k .nilp .nilp)
 (fun cs _=>k (.ro cs) (.ro cs))
 (fun i f=>k .undef .undef)
 (fun cs _=>k .undef .undef)
 (fun o=>k (.map o) (.map o))
 (k .nilm .nilm)
 (fun f a c _ _=>k (.func f a c) (.func f a c))
 (k .nilf .nilf)
 (fun cs _=>k (.agg cs) (.agg (cs.map AV.weak1)))
 (fun vs _=>k (.tuple vs) (.tuple vs))
 (fun t v _=>k (.iface t v) (.iface t v))
 (k .nili .nili)
 (fun o f n s=>k (.sl o f n s) (.sl o f n s))
 (fun xs _=>k (.fresh xs) (.fresh xs))
 (k .nils .nils)
 () (fun _ _ _ _=>()) () (fun _ _ _ _=>()) x
noncomputable def qWk (x:AV) (k:AV→(Option ρ)):(Option ρ):=AV.rec (motive_1:=fun _=>(Option ρ)) (motive_2:=fun _=>Unit) (motive_3:=fun _=>Unit)
 (k .undef)
 (fun b=>k (.bool b))
 (fun t n=>k (.int t n))
 (fun s=>k (.str s))
 (fun o xs _=>k (.list false xs))
 (fun o f=>k (.ptr o f))
 (k .nilp)
 (fun cs _=>k (.ro cs))
 (fun i f=>k (.loc i f))
 (fun cs _=>k (.box cs))
 (fun o=>k (.map o))
 (k .nilm)
 (fun f a c _ _=>k (.func f a c))
 (k .nilf)
 (fun cs _=>k (.agg (cs.map AV.weak1)))
 (fun vs _=>k (.tuple vs))
 (fun t v _=>k (.iface t v))
 (k .nili)
 (fun o f n s=>k (.sl o f n s))
 (fun xs _=>k (.fresh xs))
 (k .nils)
 () (fun _ _ _ _=>()) () (fun _ _ _ _=>()) x
theorem b59 (x:AV) (k:AV→AV→(Option ρ)):qSb x k=k (AV.stripB x) (AV.weak (AV.stripB x)):=by cases x<;>rfl
theorem e4X (x:AV) (k:AV→AV→(Option ρ)):qSv x k=k (AV.strip x) (AV.weak (AV.strip x)):=by cases x<;>rfl
theorem a1B (x:AV) (k:AV→(Option ρ)):qWk x k=k (AV.weak x):=by cases x<;>rfl
noncomputable def onT (x:AV) (k:List AV→(Option ρ)):(Option ρ):=AV.rec (motive_1:=fun _=>(Option ρ)) (motive_2:=fun _=>Unit) (motive_3:=fun _=>Unit)
 (none)
 (fun b=>none)
 (fun t n=>none)
 (fun s=>none)
 (fun o xs _=>none)
 (fun o f=>none)
 (none)
 (fun cs _=>none)
 (fun i f=>none)
 (fun cs _=>none)
 (fun o=>none)
 (none)
 (fun f a c _ _=>none)
 (none)
 (fun cs _=>none)
 (fun vs _=>k vs)
 (fun t v _=>none)
 (none)
 (fun o f n s=>none)
 (fun xs _=>none)
 (none)
 () (fun _ _ _ _=>()) () (fun _ _ _ _=>()) x
theorem e8f (x:AV) (k:List AV→(Option ρ)):onT x k=match x with|.tuple vs=>k vs|_=>none:=by cases x<;>rfl
noncomputable def f23 (x:AV) (e:(Option ρ)) (k:Bool→List (List AV)→(Option ρ)):(Option ρ):=AV.rec (motive_1:=fun _=>(Option ρ)) (motive_2:=fun _=>Unit) (motive_3:=fun _=>Unit)
 (e)
 (fun b=>e)
 (fun t n=>e)
 (fun s=>e)
 (fun o xs _=>k o xs)
 (fun o f=>e)
 (e)
 (fun cs _=>e)
 (fun i f=>e)
 (fun cs _=>e)
 (fun o=>e)
 (e)
 (fun f a c _ _=>e)
 (e)
 (fun cs _=>e)
 (fun vs _=>e)
 (fun t v _=>e)
 (e)
 (fun o f n s=>e)
 (fun xs _=>e)
 (e)
 () (fun _ _ _ _=>()) () (fun _ _ _ _=>()) x
theorem c6z (x:AV) (e:(Option ρ)) (k:Bool→List (List AV)→(Option ρ)):f23 x e k=match x with|.list o xs=>k o xs|_=>e:=by cases x<;>rfl
noncomputable def onU (x:AV) (k:(Option ρ)):(Option ρ):=AV.rec (motive_1:=fun _=>(Option ρ)) (motive_2:=fun _=>Unit) (motive_3:=fun _=>Unit)
 (k)
 (fun b=>none)
 (fun t n=>none)
 (fun s=>none)
 (fun o xs _=>none)
 (fun o f=>none)
 (none)
 (fun cs _=>none)
 (fun i f=>none)
 (fun cs _=>none)
 (fun o=>none)
 (none)
 (fun f a c _ _=>none)
 (none)
 (fun cs _=>none)
 (fun vs _=>none)
 (fun t v _=>none)
 (none)
 (fun o f n s=>none)
 (fun xs _=>none)
 (none)
 () (fun _ _ _ _=>()) () (fun _ _ _ _=>()) x
theorem f3n (x:AV) (k:(Option ρ)):onU x k=match x with|.undef=>k|_=>none:=by cases x<;>rfl
noncomputable def onC (x:AV) (k:List AV→(Option ρ)):(Option ρ):=AV.rec (motive_1:=fun _=>(Option ρ)) (motive_2:=fun _=>Unit) (motive_3:=fun _=>Unit)
 (k [.undef])
 (fun b=>k [(.bool b)])
 (fun t n=>k [(.int t n)])
 (fun s=>k [(.str s)])
 (fun o xs _=>k [(.list o xs)])
 (fun o f=>k [(.ptr o f)])
 (k [.nilp])
 (fun cs _=>k [(.ro cs)])
 (fun i f=>k [(.loc i f)])
 (fun cs _=>k [(.box cs)])
 (fun o=>k [(.map o)])
 (k [.nilm])
 (fun f a c _ _=>k [(.func f a c)])
 (k [.nilf])
 (fun cs _=>k cs)
 (fun vs _=>k [(.tuple vs)])
 (fun t v _=>k [(.iface t v)])
 (k [.nili])
 (fun o f n s=>k [(.sl o f n s)])
 (fun xs _=>k [(.fresh xs)])
 (k [.nils])
 () (fun _ _ _ _=>()) () (fun _ _ _ _=>()) x
theorem b5T (x:AV) (k:List AV→(Option ρ)):onC x k=k x.cells:=by cases x<;>rfl
noncomputable def plB (x:AV) (k:(Option ρ)):(Option ρ):=AV.rec (motive_1:=fun _=>(Option ρ)) (motive_2:=fun _=>Unit) (motive_3:=fun _=>Unit)
 (none)
 (fun b=>k)
 (fun t n=>k)
 (fun s=>k)
 (fun o xs _=>k)
 (fun o f=>k)
 (k)
 (fun cs _=>k)
 (fun i f=>none)
 (fun cs _=>none)
 (fun o=>k)
 (k)
 (fun f a c _ _=>k)
 (k)
 (fun cs _=>k)
 (fun vs _=>none)
 (fun t v _=>k)
 (k)
 (fun o f n s=>k)
 (fun xs _=>none)
 (k)
 () (fun _ _ _ _=>()) () (fun _ _ _ _=>()) x
theorem a5X (x:AV) (k:(Option ρ)):plB x k=if x.plain then k else none:=by cases x<;>rfl
noncomputable def b7y (f:AV→(Option ρ)) (d:Nat) (x:AV):(Option ρ):=onT x fun vs=>a3B vs none (fun v=>qWk v f) d
theorem c8u (c:d8) (b:AV) (s:St) (f:AV→(Option ρ)) (d:Nat) (x:AV):b7y f d x=obind (p1 (sem (.ext d) c [x] b s)) f:=by
 simp only[b7y,e8f,a2r,a1B];cases x<;>try rfl
 rename_i vs;simp only[sem,M7];cases vs[d]?<;>rfl
noncomputable def a6d (xs:List AV) (k:List AV→(Option ρ)):(Option ρ):=List.rec (motive:=fun _=>(List AV→(Option ρ))→(Option ρ)) (fun k=>k []) (fun a _ i k=>plB a (qWk a fun w=>i fun j=>k (w::j))) xs k
theorem a3H:∀ (xs:List AV) (k:List AV→(Option ρ)),a6d xs k=if m8 xs then k (xs.map AV.weak)else none
 | [],k=>rfl
 | a::xs,k=>by show plB a (qWk a fun w=>a6d xs fun l=>k (w::l))=_;rw[a5X,a1B,a3H xs];simp only[m8,AA,AG];by_cases i:a.plain=true<;>by_cases j:m8 xs=true<;>simp[i,j]
noncomputable def b8x (x:Option (AV×St)) (k:AV→St→(Option ρ)):(Option ρ):=Option.rec (motive:=fun _=>(Option ρ)) none (fun p=>Prod.rec (motive:=fun _=>(Option ρ)) (fun v s=>k v s) p) x
theorem b1W (x:Option (AV×St)) (k:AV→St→(Option ρ)):b8x x k=match x with|some (v,s)=>k v s|none=>none:=by cases x<;>rfl
noncomputable def b9F (c:d8) (b:AV) (s:St) (f:AV→(Option ρ)) (x y z:AV):(Option ρ):=onS x none fun l=>onI z none fun _ m=>onI y (obind (p1 (sem (.slS true true) c [x,y,z] b s)) f) fun _ i=>nn i m (obind (p1 (sem (.slS true true) c [x,y,z] b s)) f) fun i m =>cB (Nat.ble m (J2 l)) (cB (Nat.ble i m) (a8y (Nat.sub m i) (a8A i l) fun r=>f (.str r)) none) none
theorem c2H (c:d8) (b:AV) (s:St) (f:AV→(Option ρ)) (x y z:AV):b9F c b s f x y z=obind (p1 (sem (.slS true true) c [x,y,z] b s)) f:=by
 simp only[b9F,a3n,a0t,a4C,R5,a3h,a5K,G0];cases x<;>try rfl
 cases z<;>try rfl
 cases y<;>try rfl
 rename_i l _ m _ i;cases i<;>cases m<;>try rfl
 rename_i i m;simp only[sem,N3,C7,M4,Int.ofNat_eq_natCast,Int.natCast_nonneg,true_and,Int.toNat_natCast,Int.ofNat_le,Nat.ble_eq];by_cases j:m≤l.length
 · simp only[j,if_true];by_cases t:i≤m
   · simp only[t,if_true,AN,p1,obind];rw[List.drop_take];rfl
   · simp only[t,if_false];rfl
 · simp only[j,if_false];rfl
noncomputable def b33 (i:Nat) (l:List (List AV)):Bool:=List.rec (motive:=fun _=>Bool) true (fun r _ _=>Nat.beq (J2 r) i) l
theorem b9Z (i:Nat) (l:List (List AV)):b33 i l=m4 i l:=by
 cases l with
 | nil=>rfl
 | cons r l =>show Nat.beq (J2 r) i=(r.length == i);rw[G0,Bool.eq_iff_iff];simp
noncomputable def b70 (b:AV) (s:St) (f:AV×AV×St→(Option ρ)) (d e:Nat) (x y:AV):(Option ρ):=f23 x none fun o xs=>onL y none fun ys=>cB o (cB (b33 d xs) (cB (b33 d ys) (cB (Nat.ble (Nat.mul (Nat.add (J2 xs) (J2 ys)) e) 140737488355328) (a5A xs ys fun r=>f (.list true r,b,s)) none) none) none) none
theorem c3W (c:d8) (b:AV) (s:St) (f:AV×AV×St→(Option ρ)) (d e:Nat) (x y:AV):b70 b s f d e x y=obind (sem (.app d e) c [x,y] b s) f:=by
 simp only[b70,c6z,a9Z,R5,b9Z,G0,a4O];cases x<;>try rfl
 rename_i o xs;cases y<;>try (cases o<;>rfl)
 rename_i o2 ys;cases o<;>try rfl
 simp only[sem,Q3,if_true];have i:(Nat.ble (Nat.mul (Nat.add xs.length ys.length) e) 140737488355328)=decide ((xs.length+ys.length)*e≤2 ^ 47):=by rw[Bool.eq_iff_iff];simp
 rw[i];cases m4 d xs<;>cases m4 d ys<;>try rfl
 simp only[Bool.true_and,if_true];split<;>rfl
noncomputable def b0E (b:AV) (s:St) (f:AV×AV×St→(Option ρ)) (d:List AV):(Option ρ):=onU b (f (.undef,.box d,s))
theorem b6H (c:d8) (b:AV) (s:St) (f:AV×AV×St→(Option ρ)) (d:List AV):b0E b s f d=obind (sem (.alloc d) c [] b s) f:=by simp only[b0E,f3n];cases b<;>rfl
noncomputable def b45 (cs:List AV) (off:Nat) (new:List AV) (k:List AV→(Option ρ)):(Option ρ):=a8y off cs fun a=>a5A new (a6k (Nat.add off (J2 new)) cs) fun t=>a5A a t k
theorem b16 (cs:List AV) (off:Nat) (new:List AV) (k:List AV→(Option ρ)):b45 cs off new k=k (n8 cs off new):=by simp only[b45,a3h,a4O,Z4,G0,n8,AU];rfl
noncomputable def b4M (b:AV) (s:St) (f:AV×AV×St→(Option ρ)) (i d:Nat) (x y:AV):(Option ρ):=b8m x none fun j off=>b2U b none fun cs=>cB (Nat.beq i j) (plB y (onC y fun new=>cB (Nat.beq (J2 new) d) (cB (Nat.ble (Nat.add off d) (J2 cs)) (b45 cs off new fun r=>f (.tuple [],.box r,s)) none) none)) none
theorem c0y (a b:Nat):(Nat.beq a b=true)=(a=b):=by simp
theorem c0x (a b:Nat):(Nat.ble a b=true)=(a≤b):=by simp
theorem c0j (c:d8) (b:AV) (s:St) (f:AV×AV×St→(Option ρ)) (i d:Nat) (x y:AV):b4M b s f i d x y=obind (sem (.stLc i d) c [x,y] b s) f:=by
 simp only[b4M,b1H,a7H,R5,a5X,b5T,G0,b16,c0y,c0x];cases x<;>try rfl
 rename_i j off;cases b<;>try rfl
 rename_i cs;simp only[sem,J5];by_cases l:i=j<;>by_cases t:y.plain=true<;>by_cases u:y.cells.length=d<;>by_cases v:off+d≤cs.length<;>simp[l,t,u,v,obind]
noncomputable def b0D {β:Type} (l:List β) (i:Nat) (x:β) (k:List β→(Option ρ)):(Option ρ):=List.rec (motive:=fun _=>Nat→(List β→(Option ρ))→(Option ρ)) (fun _ k=>k []) (fun a t u i k=>Nat.rec (motive:=fun _=>(Option ρ)) (k (x::t)) (fun j _=>u j fun r=>k (a::r)) i) l i k
theorem b1O {β:Type} (x:β):∀ (l:List β) (i:Nat) (k:List β→(Option ρ)),b0D l i x k=k (l.set i x)
 | [],_,_=>rfl
 | a::l,0,k=>rfl
 | a::l,i+1,k=>b1O x l i fun r=>k (a::r)
noncomputable def b9t {β:Type} (l:List β) (i:Nat) (x:β) (k:List β→(Option ρ)):(Option ρ):=Nat.rec (motive:=fun _=>List β→(List β→(Option ρ))→(Option ρ)) (fun l k=>b0D l (Nat.mod i 8) x k) (fun _ j l k=>a2E l (k l) j k) (Nat.div i 8) l k
theorem b2l {β:Type} (x:β) (r:Nat):∀ (q:Nat) (l:List β) (k:List β→(Option ρ)),Nat.rec (motive:=fun _=>List β→(List β→(Option ρ))→(Option ρ)) (fun l k=>b0D l r x k) (fun _ i l k=>a2E l (k l) i k) q l k=k (l.set (8*q+r) x)
 | 0,l,k=>by show b0D l r x k=_; rw[b1O,Nat.mul_zero,Nat.zero_add]
 | q+1,l,k=>by
  show a2E l (k l) (fun l k=>Nat.rec (motive:=fun _=>List β→(List β→(Option ρ))→(Option ρ)) (fun l k=>b0D l r x k) (fun _ i l k=>a2E l (k l) i k) q l k) k=_;rw[b2d];split
  · rename_i h;rw[b2l x r q (l.drop 8)];congr 1;rw[show 8*(q+1)+r=8+(8*q+r)by omega];conv=>rhs; rw[← List.take_append_drop 8 l]
    rw[List.set_append_right _ _ (by rw[AO]; omega),AO,Nat.min_eq_left h,Nat.add_sub_cancel_left]
  · rename_i h;rw[List.set_eq_of_length_le (by omega)]
theorem d36 {β:Type} (x:β) (l:List β) (i:Nat) (k:List β→(Option ρ)):b9t l i x k=k (l.set i x):=by unfold b9t;rw[b2l x (Nat.mod i 8) (Nat.div i 8) l k,show 8*Nat.div i 8+Nat.mod i 8=i from Nat.div_add_mod i 8]
noncomputable def b3p (s:St) (f:AV×St→(Option ρ)) (d:Nat) (x y:AV):(Option ρ):=onP x none fun o off=>b4E s none (fun i=>b0F i fun cs=>plB y (onC y fun new=>cB (Nat.beq (J2 new) d) (cB (Nat.ble (Nat.add off d) (J2 cs)) (b45 cs off new fun r=>b9t s o (.cells r) fun s=>f (.tuple [],s)) none) none)) o
theorem b91 (c:d8) (b:AV) (s:St) (f:AV×St→(Option ρ)) (d:Nat) (x y:AV):b3p s f d x y=obind (p2 (sem (.stSt d) c [x,y] b s)) f:=by
 simp only[b3p,b0i,a7b,a3T,R5,a5X,b5T,G0,b16,d36,c0y,c0x];cases x<;>try rfl
 rename_i o off;simp only[sem,D2,fL_eq];cases s[o]? with
 | none=>rfl
 | some t =>
  cases t<;>try rfl
  rename_i cs;by_cases i:y.plain=true<;>by_cases j:y.cells.length=d<;>by_cases l:off+d≤cs.length<;>simp[i,j,l,obind,p2]
noncomputable def bW (v w:Bool) (x y:(Option ρ)):(Option ρ):=Bool.rec (motive:=fun _=>(Option ρ)) (Bool.rec (motive:=fun _=>(Option ρ)) x y w) (Bool.rec (motive:=fun _=>(Option ρ)) y x w) v
theorem g2x (v w:Bool) (x y:(Option ρ)):bW v w x y=if v == w then x else y:=by cases v<;>cases w<;>rfl
theorem nb (i j:Nat):(!Nat.blt j i)=Nat.ble i j:=by
 have l:(Nat.blt j i=true)↔j < i:=by simp
 have t:(Nat.ble i j=true)↔i≤j:=by simp
 cases u:Nat.blt j i<;>cases v:Nat.ble i j<;>simp only[u,v,true_iff,false_iff,Bool.false_eq_true]at l t<;>first|rfl|omega
theorem e9H (c:d8) (b:AV) (s:St) (f:AV→(Option ρ)) (x y:AV):a2a c b s f .lss Nat.blt x y=obind (p1 (sem (.bin .lss) c [x,y] b s)) f:=a4B c b s f .lss _ (by simp) (fun t i j=>by simp[l8,ltI]) x y
theorem d6N (c:d8) (b:AV) (s:St) (f:AV→(Option ρ)) (x y:AV):a2a c b s f .leq Nat.ble x y=obind (p1 (sem (.bin .leq) c [x,y] b s)) f:=a4B c b s f .leq _ (by simp) (fun t i j=>by simp only[l8,if_true,Int.ofNat_eq_natCast]; rw[show ∀ a b:Nat,ltI (a:Int) (b:Int)=Nat.blt a b from fun _ _=>rfl,nb]) x y
theorem e87 (c:d8) (b:AV) (s:St) (f:AV→(Option ρ)) (x y:AV):a2a c b s f .gtr (fun i j=>Nat.blt j i) x y=obind (p1 (sem (.bin .gtr) c [x,y] b s)) f:=a4B c b s f .gtr _ (by simp) (fun t i j=>by simp[l8,ltI]) x y
theorem d7F (c:d8) (b:AV) (s:St) (f:AV→(Option ρ)) (x y:AV):a2a c b s f .geq (fun i j=>Nat.ble j i) x y=obind (p1 (sem (.bin .geq) c [x,y] b s)) f:=a4B c b s f .geq _ (by simp) (fun t i j=>by simp only[l8,if_true,Int.ofNat_eq_natCast]; rw[show ∀ a b:Nat,ltI (a:Int) (b:Int)=Nat.blt a b from fun _ _=>rfl,nb]) x y
end Go.Cb.G
namespace Go.Cb.G
open Go Go.Cb
inductive W8 (α:Type) where
 | mk (x0 x1 x2 x3 x4 x5 x6 x7:α)
abbrev Fr:=W8 (W8 AV)
def pk8 {α:Type} (i:Nat) (w:W8 α):α:=match w with
 | .mk j l t u v x y z=>match i with
  | 0=>j
  | 1=>l
  | 2=>t
  | 3=>u
  | 4=>v
  | 5=>x
  | 6=>y
  | _=>z
def st8 {α:Type} (i:Nat) (x:α) (w:W8 α):W8 α:=match w with
 | .mk j l t u v y z B=>match i with
  | 0=>.mk x l t u v y z B
  | 1=>.mk j x t u v y z B
  | 2=>.mk j l x u v y z B
  | 3=>.mk j l t x v y z B
  | 4=>.mk j l t u x y z B
  | 5=>.mk j l t u v x z B
  | 6=>.mk j l t u v y x B
  | _=>.mk j l t u v y z x
theorem lt8 {i:Nat} (h:i < 8):i=0∨i=1∨i=2∨i=3∨i=4∨i=5∨i=6∨i=7:=by omega
theorem b62 {α:Type} {i j:Nat} (hi:i < 8) (l:j < 8) (x:α) (w:W8 α):pk8 j (st8 i x w)=if j=i then x else pk8 j w:=by cases w;rcases lt8 hi with rfl|rfl|rfl|rfl|rfl|rfl|rfl|rfl<;>rcases lt8 l with rfl|rfl|rfl|rfl|rfl|rfl|rfl|rfl<;>rfl
def W5 (i:Nat) (fr:Fr):AV:=pk8 (i % 8) (pk8 (i / 8) fr)
def a1H (i:Nat) (x:AV) (fr:Fr):Fr:=st8 (i / 8) (st8 (i % 8) x (pk8 (i / 8) fr)) fr
theorem c8E {i j:Nat} (hi:i < 64) (t:j < 64) (x:AV) (fr:Fr):W5 j (a1H i x fr)=if j=i then x else W5 j fr:=by
 unfold W5 a1H;rw[b62 (by omega) (by omega)];by_cases h:j / 8=i / 8
 · rw[if_pos h,b62 (by omega) (by omega),← h];by_cases l:j % 8=i % 8
   · rw[if_pos l,if_pos (by omega)]
   · rw[if_neg l,if_neg (by omega)]
 · rw[if_neg h,if_neg (by intro e; exact h (by rw[e]))]
def toL (nv:Nat) (fr:Fr):List AV:=(List.range nv).map fun i=>W5 i fr
theorem d1r (nv:Nat) (fr:Fr):(toL nv fr).length=nv:=by simp[toL]
theorem O0 {i nv:Nat} (h:i < nv) (fr:Fr):(toL nv fr).getD i .undef=W5 i fr:=by simp[toL,List.getD,h]
theorem a2u {i nv:Nat} (h:i < nv) (v:nv≤64) (x:AV) (fr:Fr):(toL nv fr).set i x=toL nv (a1H i x fr):=by
 apply List.ext_getElem
 · simp[toL]
 · intro j l t;have u:j < nv:=by simpa[toL]using l
   rw[List.getElem_set];simp only[toL,List.getElem_map,List.getElem_range];rw[c8E (by omega) (by omega)];by_cases e:i=j
   · rw[if_pos e,if_pos e.symm]
   · rw[if_neg e,if_neg (fun q=>e q.symm)]
theorem a5i {i nv:Nat} (h:¬ i < nv) (x:AV) (fr:Fr):(toL nv fr).set i x=toL nv fr:=List.set_eq_of_length_le (by rw[d1r]; omega)
noncomputable def b0a {α β:Type} (i:Nat) (e:β) (Q:α→β) (j l t u v x y z:α):β :=
 Nat.rec (motive:=fun _=>β) (Q j) (fun i _=>Nat.rec (motive:=fun _=>β) (Q l) (fun i _=>Nat.rec (motive:=fun _=>β) (Q t) (fun i _=>Nat.rec (motive:=fun _=>β) (Q u) (fun i _=>Nat.rec (motive:=fun _=>β) (Q v) (fun i _=>Nat.rec (motive:=fun _=>β) (Q x) (fun i _=>Nat.rec (motive:=fun _=>β) (Q y) (fun i _=>Nat.rec (motive:=fun _=>β) (Q z) (fun i _=>e) i) i) i) i) i) i) i) i
theorem a1L {α β:Type} {G:β→Prop} {i:Nat} {e:β} {Q:α→β} {j l t u v x y z:α} (O:G e) (B:i=0→G (Q j)) (D:i=1→G (Q l)) (E:i=2→G (Q t)) (F:i=3→G (Q u)) (I:i=4→G (Q v)) (J:i=5→G (Q x)) (M:i=6→G (Q y)) (N:i=7→G (Q z)):G (b0a i e Q j l t u v x y z):=by
 match i,B,D,E,F,I,J,M,N with
 | 0,h,_,_,_,_,_,_,_=>exact h rfl
 | 1,_,h,_,_,_,_,_,_=>exact h rfl
 | 2,_,_,h,_,_,_,_,_=>exact h rfl
 | 3,_,_,_,h,_,_,_,_=>exact h rfl
 | 4,_,_,_,_,h,_,_,_=>exact h rfl
 | 5,_,_,_,_,_,h,_,_=>exact h rfl
 | 6,_,_,_,_,_,_,h,_=>exact h rfl
 | 7,_,_,_,_,_,_,_,h=>exact h rfl
 | _+8,_,_,_,_,_,_,_,_=>exact O
abbrev Gt (ρ:Type):=Fr→(AV→Option ρ)→Option ρ
abbrev Wr (ρ:Type):=AV→Fr→(Fr→Option ρ)→Option ρ
section
variable {ρ β:Type}
noncomputable def a1T (i:Nat) (e:β) (Q:Gt ρ→β):β:=b0a (i / 8) e (fun o:Fr→(W8 AV→Option ρ)→Option ρ=>b0a (i % 8) e (fun n:W8 AV→(AV→Option ρ)→Option ρ=>Q fun fr k=>o fr fun w=>n w k)
 (fun w k=>W8.rec (motive:=fun _=>Option ρ) (fun j l t u v x y z=>k j) w)
 (fun w k=>W8.rec (motive:=fun _=>Option ρ) (fun j l t u v x y z=>k l) w)
 (fun w k=>W8.rec (motive:=fun _=>Option ρ) (fun j l t u v x y z=>k t) w)
 (fun w k=>W8.rec (motive:=fun _=>Option ρ) (fun j l t u v x y z=>k u) w)
 (fun w k=>W8.rec (motive:=fun _=>Option ρ) (fun j l t u v x y z=>k v) w)
 (fun w k=>W8.rec (motive:=fun _=>Option ρ) (fun j l t u v x y z=>k x) w)
 (fun w k=>W8.rec (motive:=fun _=>Option ρ) (fun j l t u v x y z=>k y) w)
 (fun w k=>W8.rec (motive:=fun _=>Option ρ) (fun j l t u v x y z=>k z) w))
 (fun w k=>W8.rec (motive:=fun _=>Option ρ) (fun j l t u v x y z=>k j) w)
 (fun w k=>W8.rec (motive:=fun _=>Option ρ) (fun j l t u v x y z=>k l) w)
 (fun w k=>W8.rec (motive:=fun _=>Option ρ) (fun j l t u v x y z=>k t) w)
 (fun w k=>W8.rec (motive:=fun _=>Option ρ) (fun j l t u v x y z=>k u) w)
 (fun w k=>W8.rec (motive:=fun _=>Option ρ) (fun j l t u v x y z=>k v) w)
 (fun w k=>W8.rec (motive:=fun _=>Option ρ) (fun j l t u v x y z=>k x) w)
 (fun w k=>W8.rec (motive:=fun _=>Option ρ) (fun j l t u v x y z=>k y) w)
 (fun w k=>W8.rec (motive:=fun _=>Option ρ) (fun j l t u v x y z=>k z) w)
theorem L3 {G:β→Prop} {i:Nat} {e:β} {Q:Gt ρ→β} (hi:i < 64) (j:G e) (h:∀ g:Gt ρ,(∀ fr k,g fr k=k (W5 i fr))→G (Q g)):G (a1T i e Q):=by
 refine a1L j ?_ ?_ ?_ ?_ ?_ ?_ ?_ ?_<;>intro l<;>refine a1L j ?_ ?_ ?_ ?_ ?_ ?_ ?_ ?_<;>intro t<;>refine h _ (fun fr k=>?_)<;>unfold W5<;>rw[l,t]<;>cases fr with
  | mk w0 w1 u v x y z B=>first|(cases w0; rfl)|(cases w1; rfl)|(cases u; rfl)|(cases v; rfl)|(cases x; rfl)|(cases y; rfl)|(cases z; rfl)|(cases B; rfl)
noncomputable def a7d (i:Nat) (e:β) (Q:Wr ρ→β):β:=b0a (i / 8) e (fun o:Fr→(W8 AV→(W8 AV→Option ρ)→Option ρ)→(Fr→Option ρ)→Option ρ=>b0a (i % 8) e (fun n:AV→W8 AV→(W8 AV→Option ρ)→Option ρ=>Q fun x fr k=>o fr (n x) k)
 (fun y w k=>W8.rec (motive:=fun _=>Option ρ) (fun j l t v z B D E=>k (.mk y l t v z B D E)) w)
 (fun y w k=>W8.rec (motive:=fun _=>Option ρ) (fun j l t v z B D E=>k (.mk j y t v z B D E)) w)
 (fun y w k=>W8.rec (motive:=fun _=>Option ρ) (fun j l t v z B D E=>k (.mk j l y v z B D E)) w)
 (fun y w k=>W8.rec (motive:=fun _=>Option ρ) (fun j l t v z B D E=>k (.mk j l t y z B D E)) w)
 (fun y w k=>W8.rec (motive:=fun _=>Option ρ) (fun j l t v z B D E=>k (.mk j l t v y B D E)) w)
 (fun y w k=>W8.rec (motive:=fun _=>Option ρ) (fun j l t v z B D E=>k (.mk j l t v z y D E)) w)
 (fun y w k=>W8.rec (motive:=fun _=>Option ρ) (fun j l t v z B D E=>k (.mk j l t v z B y E)) w)
 (fun y w k=>W8.rec (motive:=fun _=>Option ρ) (fun j l t v z B D E=>k (.mk j l t v z B D y)) w))
 (fun w u k=>W8.rec (motive:=fun _=>Option ρ) (fun j l t v z B D E=>u j fun y=>k (.mk y l t v z B D E)) w)
 (fun w u k=>W8.rec (motive:=fun _=>Option ρ) (fun j l t v z B D E=>u l fun y=>k (.mk j y t v z B D E)) w)
 (fun w u k=>W8.rec (motive:=fun _=>Option ρ) (fun j l t v z B D E=>u t fun y=>k (.mk j l y v z B D E)) w)
 (fun w u k=>W8.rec (motive:=fun _=>Option ρ) (fun j l t v z B D E=>u v fun y=>k (.mk j l t y z B D E)) w)
 (fun w u k=>W8.rec (motive:=fun _=>Option ρ) (fun j l t v z B D E=>u z fun y=>k (.mk j l t v y B D E)) w)
 (fun w u k=>W8.rec (motive:=fun _=>Option ρ) (fun j l t v z B D E=>u B fun y=>k (.mk j l t v z y D E)) w)
 (fun w u k=>W8.rec (motive:=fun _=>Option ρ) (fun j l t v z B D E=>u D fun y=>k (.mk j l t v z B y E)) w)
 (fun w u k=>W8.rec (motive:=fun _=>Option ρ) (fun j l t v z B D E=>u E fun y=>k (.mk j l t v z B D y)) w)
theorem a1D {G:β→Prop} {i:Nat} {e:β} {Q:Wr ρ→β} (hi:i < 64) (j:G e) (h:∀ g:Wr ρ,(∀ x fr k,g x fr k=k (a1H i x fr))→G (Q g)):G (a7d i e Q):=by
 refine a1L j ?_ ?_ ?_ ?_ ?_ ?_ ?_ ?_<;>intro l<;>refine a1L j ?_ ?_ ?_ ?_ ?_ ?_ ?_ ?_<;>intro t<;>refine h _ (fun x fr k=>?_)<;>unfold a1H<;>rw[l,t]<;>cases fr with
  | mk w0 w1 u v y z B D=>first|(cases w0; rfl)|(cases w1; rfl)|(cases u; rfl)|(cases v; rfl)|(cases y; rfl)|(cases z; rfl)|(cases B; rfl)|(cases D; rfl)
noncomputable def b40 (i:Nat) (Q:(List AV→(AV→Option ρ)→Option ρ)→β):β:=Nat.rec (motive:=fun _=>((List AV→(AV→Option ρ)→Option ρ)→β)→β)
 (fun Q=>Q fun l k=>List.rec (motive:=fun _=>Option ρ) none (fun a _ _=>k a) l)
 (fun _ j Q=>j fun r=>Q fun l k=>List.rec (motive:=fun _=>Option ρ) none (fun _ t _=>r t k) l) i Q
theorem a0o {G:β→Prop}:∀ (i:Nat) {Q:(List AV→(AV→Option ρ)→Option ρ)→β},(∀ r:List AV→(AV→Option ρ)→Option ρ,(∀ l k,r l k=match l[i]? with|some a=>k a|none=>none)→G (Q r))→G (b40 i Q)
 | 0,Q,h=>h _ fun l k=>by cases l<;>rfl
 | i+1,Q,h=>a0o i fun r j=>h _ fun l k=>by
  cases l with
  | nil=>rfl
  | cons a t=>show r t k=_; rw[j]; simp
end
abbrev U:AV:=.undef
def u8:W8 AV:=.mk U U U U U U U U
noncomputable def b8V {ρ:Type} (l:List AV) (k:W8 AV→Option ρ):Option ρ:=List.rec (motive:=fun _=>Option ρ) (k (.mk U U U U U U U U)) (fun i l _=>List.rec (motive:=fun _=>Option ρ) (k (.mk i U U U U U U U)) (fun j l _=>List.rec (motive:=fun _=>Option ρ) (k (.mk i j U U U U U U)) (fun t l _=>List.rec (motive:=fun _=>Option ρ) (k (.mk i j t U U U U U)) (fun u l _=>List.rec (motive:=fun _=>Option ρ) (k (.mk i j t u U U U U)) (fun v l _=>List.rec (motive:=fun _=>Option ρ) (k (.mk i j t u v U U U)) (fun x l _=>List.rec (motive:=fun _=>Option ρ) (k (.mk i j t u v x U U)) (fun y l _=>List.rec (motive:=fun _=>Option ρ) (k (.mk i j t u v x y U)) (fun z l _=>List.rec (motive:=fun _=>Option ρ) (k (.mk i j t u v x y z)) (fun _ _ _=>none) l) l) l) l) l) l) l) l) l
theorem g1t (i:Nat):pk8 i u8=U:=by show(match i with|0=>U|1=>U|2=>U|3=>U|4=>U|5=>U|6=>U|_=>U)=U;split<;>rfl
theorem d3s {ρ:Type} {l:List AV} {k:W8 AV→Option ρ} {r:ρ} (h:b8V l k=some r):∃ w:W8 AV,k w=some r∧l.length≤8∧∀ i,i < 8→pk8 i w=l.getD i .undef:=by
 match l,h with
 | [],h=>exact⟨_,h,by simp,fun i hi=>by rcases lt8 hi with rfl|rfl|rfl|rfl|rfl|rfl|rfl|rfl<;>rfl⟩
 | [y0],h=>exact⟨_,h,by simp,fun i hi=>by rcases lt8 hi with rfl|rfl|rfl|rfl|rfl|rfl|rfl|rfl<;>rfl⟩
 | [y0,y1],h=>exact⟨_,h,by simp,fun i hi=>by rcases lt8 hi with rfl|rfl|rfl|rfl|rfl|rfl|rfl|rfl<;>rfl⟩
 | [y0,y1,y2],h=>exact⟨_,h,by simp,fun i hi=>by rcases lt8 hi with rfl|rfl|rfl|rfl|rfl|rfl|rfl|rfl<;>rfl⟩
 | [y0,y1,y2,y3],h=>exact⟨_,h,by simp,fun i hi=>by rcases lt8 hi with rfl|rfl|rfl|rfl|rfl|rfl|rfl|rfl<;>rfl⟩
 | [y0,y1,y2,y3,y4],h=>exact⟨_,h,by simp,fun i hi=>by rcases lt8 hi with rfl|rfl|rfl|rfl|rfl|rfl|rfl|rfl<;>rfl⟩
 | [y0,y1,y2,y3,y4,y5],h=>exact⟨_,h,by simp,fun i hi=>by rcases lt8 hi with rfl|rfl|rfl|rfl|rfl|rfl|rfl|rfl<;>rfl⟩
 | [y0,y1,y2,y3,y4,y5,y6],h=>exact⟨_,h,by simp,fun i hi=>by rcases lt8 hi with rfl|rfl|rfl|rfl|rfl|rfl|rfl|rfl<;>rfl⟩
 | [y0,y1,y2,y3,y4,y5,y6,y7],h=>exact⟨_,h,by simp,fun i hi=>by rcases lt8 hi with rfl|rfl|rfl|rfl|rfl|rfl|rfl|rfl<;>rfl⟩
 | _::_::_::_::_::_::_::_::_::_,h=>cases h
def fr0 (w:W8 AV):Fr:=.mk w u8 u8 u8 u8 u8 u8 u8
theorem e4K {w:W8 AV} {l:List AV} {np nv:Nat} (v:∀ i,i < 8→pk8 i w=l.getD i .undef) (hl:l.length=np) (y:l.length≤8) (u:np≤nv) (B:nv≤64):toL nv (fr0 w)=l++List.replicate (nv - np) .undef:=by
 apply List.ext_getElem
 · simp[toL,hl]; omega
 · intro j t x;have z:j < nv:=by simpa[toL]using t
   have hg:W5 j (fr0 w)=l.getD j .undef:=by
    unfold W5;rcases Nat.lt_or_ge j 8 with h|h
    · rw[show j / 8=0 by omega,show j % 8=j by omega];exact v j h
    · have:pk8 (j / 8) (fr0 w)=u8:=by rcases lt8 (show j / 8 < 8 by omega)with e|e|e|e|e|e|e|e<;>rw[e]<;>first|(exfalso; omega)|rfl
      rw[this,g1t,List.getD_eq_getElem?_getD,List.getElem?_eq_none (by omega)];rfl
   simp only[toL,List.getElem_map,List.getElem_range,hg];rw[List.getElem_append];split
   · rename_i h; simp[List.getD,h]
   · rename_i h; rw[List.getD_eq_getElem?_getD,List.getElem?_eq_none (by omega)]; simp
end Go.Cb.G
namespace Go.Cb.G
open Go Go.Cb
abbrev RO:=Option (AV×Fr×St)
abbrev Rd:=List AV→Fr→(AV→RO)→RO
inductive Src where
 | w (l:Nat)|s (l:Nat)|d (l:Nat)|k (a:AV)|q (a:AV)
abbrev Scope:=List (Nat×Src)
noncomputable def G3 (s:Nat) (j:Scope):Option Src:=List.rec (motive:=fun _=>Option Src) none (fun p _ i=>Prod.rec (motive:=fun _=>Option Src) (fun t x=>Bool.rec (motive:=fun _=>Option Src) i (some x) (Nat.beq t s)) p) j
theorem a2t (s t:Nat) (x:Src) (i:Scope):G3 s ((t,x)::i)=if t=s then some x else G3 s i:=by
 show Bool.rec (motive:=fun _=>Option Src) (G3 s i) (some x) (Nat.beq t s)=_;by_cases h:t=s
 · rw[if_pos h,show Nat.beq t s=true by simpa using h]
 · rw[if_neg h,show Nat.beq t s=false from Bool.eq_false_iff.2 fun q=>h (Nat.eq_of_beq_eq_true q)]
def lv (env:List AV) (l:Nat):Option AV:=env.reverse[l]?
theorem g8Q {env:List AV} {l:Nat} {a:AV} (x:AV) (h:lv env l=some a):lv (x::env) l=some a:=by
 unfold lv at *
 rw[List.reverse_cons,List.getElem?_append_left (by
  rcases Nat.lt_or_ge l env.reverse.length with q|q
  · exact q
  · rw[List.getElem?_eq_none q]at h; cases h)]
 exact h
theorem b6Q (x:AV) (env:List AV):lv (x::env) env.length=some x:=by unfold lv;rw[List.reverse_cons,List.getElem?_append_right (by simp)];simp
theorem a8C {env:List AV} {l d:Nat} {a:AV} (i:env.length=d) (h:lv env l=some a):env[d - 1 - l]?=some a:=by
 unfold lv at h;have hl:l < env.length:=by
  rcases Nat.lt_or_ge l env.reverse.length with q|q
  · simpa using q
  · rw[List.getElem?_eq_none q]at h; cases h
 rw[List.getElem?_reverse hl,i]at h;exact h
def SrcOK (env:List AV) (v:AV):Src→Prop
 | .w l=>∃ a,lv env l=some a∧v.weak=a
 | .s l=>∃ a,lv env l=some a∧v=a
 | .d l=>∃ a,lv env l=some a∧v.weak=a.weak
 | .k a=>v=a
 | .q a=>v.weak=a
theorem SrcOK.push {env:List AV} {v:AV} {x:Src} (y:AV) (h:SrcOK env v x):SrcOK (y::env) v x:=by cases x<;>simp only[SrcOK]at*<;> first|exact h|(obtain⟨a,i,j⟩:=h; exact⟨a,g8Q y i,j⟩)
structure Ag (nv dep:Nat) (sc:Scope) (env:List AV) (fr:Fr) (σ:Sig):Prop where
 f:σ.fr=toL nv fr
 d:env.length=dep
 nb:∀ s,(σ.τ s).stripB=σ.τ s
 t:∀ s x,G3 s sc=some x→SrcOK env (σ.τ s) x
noncomputable def f71 (x:AV) (y z:RO):RO:=AV.rec (motive_1:=fun _=>RO) (motive_2:=fun _=>Unit) (motive_3:=fun _=>Unit)
 z (fun _=>z) (fun _ _=>z) (fun _=>z) (fun _ _ _=>z) (fun _ _=>z) z (fun _ _=>z) (fun _ _=>z) (fun _ _=>y) (fun _=>z) z (fun _ _ _ _ _=>z) z (fun _ _=>z) (fun _ _=>z) (fun _ _ _=>z) z (fun _ _ _ _=>z) (fun _ _=>z) z
 () (fun _ _ _ _=>()) () (fun _ _ _ _=>()) x
noncomputable def b9x (i:Nat) (x:AV) (k:AV→RO):RO:=f71 x (k (.loc i 0)) (k .undef)
theorem c4D (i:Nat) (x:AV) (k:AV→RO):b9x i x k=k (match x with|.box _=>.loc i 0|_=>.undef):=by cases x<;>rfl
section
variable {β:Type}
noncomputable def rdK (nv j:Nat) (u:Scope) (x:Opd) (e:β) (Q:Rd→β):β :=
 match x with
 | .t s=>match G3 s u with
  | some (.w l)=>b40 (j - 1 - l) fun r=>Q fun env _ k=>r env k
  | some (.s l)|some (.d l)=>b40 (j - 1 - l) fun r=>Q fun env _ k=>r env fun x=>qWk x k
  | some (.k a)=>Q fun _ _ k=>k a.weak
  | some (.q a)=>Q fun _ _ k=>k a
  | none=>e
 | .ts s=>match G3 s u with
  | some (.s l)=>b40 (j - 1 - l) fun r=>Q fun env _ k=>r env k
  | some (.k a)=>Q fun _ _ k=>k a
  | _=>e
 | .v i=>match Nat.blt i nv with
  | true=>a1T i e fun g=>Q fun _ fr k=>g fr fun x=>qWk x k
  | false=>e
 | .vs i=>match Nat.blt i nv with
  | true=>a1T i e fun g=>Q fun _ fr k=>g fr k
  | false=>e
 | .l i=>match Nat.blt i nv with
  | true=>a1T i e fun g=>Q fun _ fr k=>g fr fun x=>b9x i x k
  | false=>e
 | .c a=>Q fun _ _ k=>k a
def e7D (nv i:Nat) (j:Scope) (x:Opd) (r:Rd):Prop:=∀ env fr σ,Ag nv i j env fr σ→∀ k,r env fr k=k (x.read σ)
theorem T0 {i n:Nat} (h:Nat.blt i n=true):i < n:=by simpa using h
theorem a5z {G:β→Prop} {nv E:Nat} {I:Scope} {x:Opd} {e:β} {Q:Rd→β} (J:nv≤64) (u:G e) (h:∀ r,e7D nv E I x r→G (Q r)):G (rdK nv E I x e Q):=by
 unfold rdK;cases x with
 | t s =>
  dsimp only;cases hs:G3 s I with
  | none=>exact u
  | some y =>
   cases y with
   | w l =>
    refine a0o _ fun r D=>h _ fun env fr σ j k=>?_
    obtain⟨a,z,B⟩:=j.t _ _ hs;show r env k=_;rw[D,a8C j.d z,← B]; rfl
   | s l =>
    refine a0o _ fun r D=>h _ fun env fr σ j k=>?_
    obtain⟨a,z,B⟩:=j.t _ _ hs;show r env _=_;rw[D,a8C j.d z];show qWk a k=_;rw[a1B,← B]; rfl
   | d l =>
    refine a0o _ fun r D=>h _ fun env fr σ j k=>?_
    obtain⟨a,z,B⟩:=j.t _ _ hs;show r env _=_;rw[D,a8C j.d z];show qWk a k=_;rw[a1B,← B]; rfl
   | k a =>
    refine h _ fun env fr σ j k=>?_
    have:=j.t _ _ hs;show k a.weak=k (σ.τ s).weak;rw[show σ.τ s=a from this]
   | q a =>
    refine h _ fun env fr σ j k=>?_
    have:=j.t _ _ hs;show k a=k (σ.τ s).weak;rw[show(σ.τ s).weak=a from this]
 | ts s =>
  dsimp only;cases hs:G3 s I with
  | none=>exact u
  | some y =>
   cases y with
   | s l =>
    refine a0o _ fun r D=>h _ fun env fr σ j k=>?_
    obtain⟨a,z,B⟩:=j.t _ _ hs;show r env k=_;rw[D,a8C j.d z,← B]; rfl
   | k a =>
    refine h _ fun env fr σ j k=>?_
    have:=j.t _ _ hs;show k a=k (σ.τ s);rw[show σ.τ s=a from this]
   | _=>exact u
 | v i =>
  dsimp only;cases F:Nat.blt i nv with
  | false=>exact u
  | true =>
   have hi:=T0 F;refine L3 (by omega) u fun g hg=>h _ fun env fr σ j k=>?_
   show g fr (fun x=>qWk x k)=k (σ.fr.getD i .undef).weak;rw[hg,a1B,j.f,O0 hi]
 | vs i =>
  dsimp only;cases F:Nat.blt i nv with
  | false=>exact u
  | true =>
   have hi:=T0 F;refine L3 (by omega) u fun g hg=>h _ fun env fr σ j k=>?_
   show g fr k=k (σ.fr.getD i .undef);rw[hg,j.f,O0 hi]
 | l i =>
  dsimp only;cases F:Nat.blt i nv with
  | false=>exact u
  | true =>
   have hi:=T0 F;refine L3 (by omega) u fun g hg=>h _ fun env fr σ j k=>?_
   show g fr (fun x=>b9x i x k)=_;rw[hg,c4D];show _=k (match σ.fr.getD i .undef with|.box _=>.loc i 0|_=>.undef);rw[j.f,O0 hi]
 | c a=>exact h _ fun _ _ _ _ _=>rfl
def rdL (nv i:Nat) (j:Scope) (rd:Opd→β→(Rd→β)→β):List Opd→β→(List Rd→β)→β
 | [],_,Q=>Q []
 | x::xs,e,Q=>rd x e fun r=>rdL nv i j rd xs e fun rs=>Q (r::rs)
def a8v (nv i:Nat) (j:Scope):List Opd→List Rd→Prop
 | [],[]=>True
 | x::xs,r::rs=>e7D nv i j x r∧a8v nv i j xs rs
 | _,_=>False
theorem b0N {G:β→Prop} {nv i:Nat} {l:Scope} (t:nv≤64):∀ {xs:List Opd} {e:β} {Q:List Rd→β},G e→(∀ rs,a8v nv i l xs rs→G (Q rs))→G (rdL nv i l (fun x e Q=>rdK nv i l x e Q) xs e Q)
 | [],e,Q,he,h=>h [] trivial
 | x::xs,e,Q,he,h=>by unfold rdL;exact a5z t he fun r u=>b0N t he fun rs j=>h _ ⟨u,j⟩
end
def a1P:List Rd→List AV→Fr→(List AV→RO)→RO
 | [],_,_,k=>k []
 | r::rs,env,fr,k=>r env fr fun x=>a1P rs env fr fun xs=>k (x::xs)
theorem a1k {nv i:Nat} {l:Scope} {env:List AV} {fr:Fr} {σ:Sig} (j:Ag nv i l env fr σ):∀ {xs:List Opd} {rs:List Rd} {k:List AV→RO},a8v nv i l xs rs→a1P rs env fr k=k (xs.map (·.read σ))
 | [],[],k,_=>rfl
 | x::xs,r::rs,k,h=>by show r env fr _=_;rw[h.1 env fr σ j,a1k j h.2];rfl
 | [],_::_,_,h=>h.elim
 | _::_,[],_,h=>h.elim
section
variable {β:Type}
abbrev RdA:=List AV→Fr→(List AV→RO)→RO
noncomputable def b3h (rs:List Rd) (Q:RdA→β):β:=List.rec (motive:=fun _=>(RdA→β)→β) (fun Q=>Q fun _ _ k=>k []) (fun r _ i Q=>i fun j=>Q fun env fr k=>r env fr fun x=>j env fr fun xs=>k (x::xs)) rs Q
theorem a1M {G:β→Prop}:∀ {rs:List Rd} {Q:RdA→β},(∀ j:RdA,(∀ env fr k,j env fr k=a1P rs env fr k)→G (Q j))→G (b3h rs Q)
 | [],Q,h=>h _ fun _ _ _=>rfl
 | r::rs,Q,h=>a1M (rs:=rs) fun j i=>h _ fun env fr k=>by show r env fr _=r env fr _;congr;funext x;exact i _ _ _
abbrev KF:=d8→List AV→Fr→AV→St→(AV→AV→St→RO)→RO
def c0k (i:Kind) (rs:List Rd) (j:KF):Prop:=∀ c env fr b s K,j c env fr b s K=a1P rs env fr fun as=>obind (sem i c as b s) fun p=>K p.1 p.2.1 p.2.2
theorem r8 {i:Kind} (t:i.setSt=false) (u:i.alters=false) (c:d8) (as:List AV) (b:AV) (s:St) (K:AV→AV→St→RO):obind (p1 (sem i c as b s)) (fun r=>K r b s)=obind (sem i c as b s) fun p=>K p.1 p.2.1 p.2.2:=by
 cases hs:sem i c as b s with
 | none=>rfl
 | some p =>obtain⟨r,b',v⟩:=p;have j:=a1w t hs;have l:=a2o u hs;subst j l;rfl
theorem a2P {i:Kind} (l:i.alters=false) (c:d8) (as:List AV) (b:AV) (s:St) (K:AV→AV→St→RO):obind (p2 (sem i c as b s)) (fun r=>K r.1 b r.2)=obind (sem i c as b s) fun p=>K p.1 p.2.1 p.2.2:=by
 cases hs:sem i c as b s with
 | none=>rfl
 | some p =>obtain⟨r,b',t⟩:=p;have j:=a2o l hs;subst j;rfl
noncomputable def a8X (c:d8) (s:St) (K:AV→St→RO) (i:Nat) (xs:List AV):RO:=a6d xs fun j=>b8x (c i j s) fun v s=>K v s
noncomputable def b4W (c:d8) (b:AV) (s:St) (f:AV→RO) (g:Bool) (d:Nat) (x:AV):RO:=a8x x (obind (p1 (sem (.ldAn g d) c [x] b s)) f) (fun o i=>a2Q s f g d (.ptr o i)) (fun cs=>a6p f g d (.ro cs)) (fun _ _=>obind (p1 (sem (.ldAn g d) c [x] b s)) f)
theorem b9v (c:d8) (b:AV) (s:St) (f:AV→RO) (g:Bool) (d:Nat) (x:AV):b4W c b s f g d x=obind (p1 (sem (.ldAn g d) c [x] b s)) f:=by
 unfold b4W;rw[a5u];cases x<;>try rfl
 · rename_i o i;show a2Q s f g d (.ptr o i)=_;rw[b0H c b s]; rfl
 · rename_i cs;show a6p f g d (.ro cs)=_;rw[a9r c b s]; rfl
noncomputable def b8e {β:Type} (l:List β) (x:β) (k:List β→RO):RO:=Nat.rec (motive:=fun _=>List β→(List β→RO)→RO) (fun l k=>a5A l [x] k) (fun _ i l k=>a2E l (k (l++[x])) i k) (Nat.div (J2 l) 8) l k
theorem b2c {β:Type} (x:β):∀ (q:Nat) (l:List β) (k:List β→RO),Nat.rec (motive:=fun _=>List β→(List β→RO)→RO) (fun l k=>a5A l [x] k) (fun _ i l k=>a2E l (k (l++[x])) i k) q l k=k (l++[x])
 | 0,l,k=>a4O [x] l k
 | q+1,l,k=>by
  show a2E l (k (l++[x])) (fun l k=>Nat.rec (motive:=fun _=>List β→(List β→RO)→RO) (fun l k=>a5A l [x] k) (fun _ i l k=>a2E l (k (l++[x])) i k) q l k) k=_;rw[b2d];split
  · rw[b2c x q (l.drop 8),← AU,List.take_append_drop]
  · rfl
theorem b1T {β:Type} (l:List β) (x:β) (k:List β→RO):b8e l x k=k (l++[x]):=b2c x _ l k
noncomputable def b2m (s:St) (f:AV×St→RO) (x:AV):RO:=plB x (fL x.cellsW fun cs=>a2S (J2 s) fun n=>b8e s (.cells cs) fun i=>f (.ptr n 0,i))
theorem b98 (c:d8) (b:AV) (s:St) (f:AV×St→RO) (x:AV):b2m s f x=obind (p2 (sem .boxO c [x] b s)) f:=by simp only[b2m,a5X,fL_eq,Y8,G0,b1T,sem,J9];by_cases h:x.plain=true<;>simp[h,obind,p2]
noncomputable def a4s (s:St) (f:AV×St→RO) (z:List AV):RO:=a2S (J2 s) fun n=>b8e s (.cells z) fun i=>f (.ptr n 0,i)
theorem b28 (c:d8) (b:AV) (s:St) (f:AV×St→RO) (z:List AV):a4s s f z=obind (p2 (sem (.allocO z) c [] b s)) f:=by simp only[a4s,Y8,G0,b1T,sem,E4];rfl
noncomputable def b0K (c:d8) (s:St) (K:AV→St→RO) (as:List AV):RO:=match as with
 | .func f a cs::xs=>a6d xs fun _=>b8x (c f ((a++xs++cs).map AV.weak) s) fun v s=>K v s
 | _=>none
noncomputable def b69 (i:Kind) (j:RdA) (Q:KF→β):β:=match i.alters with
 | true=>Q fun c env fr b s K=>j env fr fun as=>obind (sem i c as b s) fun p=>a2g p.1 fun r=>a2g p.2.1 fun b=>fL p.2.2 fun s=>K r b s
 | false=>match i.setSt with
  | true=>Q fun c env fr b s K=>j env fr fun as=>obind (p2 (sem i c as b s)) fun p=>a2g p.1 fun r=>fL p.2 fun s=>K r b s
  | false=>Q fun c env fr b s K=>j env fr fun as=>obind (p1 (sem i c as b s)) fun x=>a2g x fun r=>K r b s
noncomputable def b31 (t:Kind) (rs:List Rd) (Q:KF→β):β :=
 match t,rs with
 | .mv,[x]=>Q fun c env fr b s K=>x env fr fun x=>K x b s
 | .bin .eql,[x,y]=>Q fun c env fr b s K=>x env fr fun x=>y env fr fun y=>b9C (fun r=>K r b s) x y
 | .bin .neq,[x,y]=>Q fun c env fr b s K=>x env fr fun x=>y env fr fun y=>b7x (fun r=>K r b s) x y
 | .bin .lss,[x,y]=>Q fun c env fr b s K=>x env fr fun x=>y env fr fun y=>a2a c b s (fun r=>K r b s) .lss Nat.blt x y
 | .bin .leq,[x,y]=>Q fun c env fr b s K=>x env fr fun x=>y env fr fun y=>a2a c b s (fun r=>K r b s) .leq Nat.ble x y
 | .bin .gtr,[x,y]=>Q fun c env fr b s K=>x env fr fun x=>y env fr fun y=>a2a c b s (fun r=>K r b s) .gtr (fun i j=>Nat.blt j i) x y
 | .bin .geq,[x,y]=>Q fun c env fr b s K=>x env fr fun x=>y env fr fun y=>a2a c b s (fun r=>K r b s) .geq (fun i j=>Nat.ble j i) x y
 | .bin .add,[x,y]=>Q fun c env fr b s K=>x env fr fun x=>y env fr fun y=>b8Q c b s (fun r=>K r b s) x y
 | .bin .sub,[x,y]=>Q fun c env fr b s K=>x env fr fun x=>y env fr fun y=>b96 c b s (fun r=>K r b s) x y
 | .un .not,[x]=>Q fun c env fr b s K=>x env fr fun x=>b8L (fun r=>K r b s) x
 | .nilchk,[x]=>Q fun c env fr b s K=>x env fr fun x=>b7t c b s (fun r=>K r b s) x
 | .lenS,[x]=>Q fun c env fr b s K=>x env fr fun x=>b4G (fun r=>K r b s) x
 | .lenL,[x]=>Q fun c env fr b s K=>x env fr fun x=>b3N c b s (fun r=>K r b s) x
 | .idxS,[x,y]=>Q fun c env fr b s K=>x env fr fun x=>y env fr fun y=>b7w (fun r=>K r b s) x y
 | .pick,[x,y,z]=>Q fun c env fr b s K=>x env fr fun x=>y env fr fun y=>z env fr fun z=>b3j (fun r=>K r b s) x y z
 | .fad d,[x]=>Q fun c env fr b s K=>x env fr fun x=>c0b (fun r=>K r b s) d x
 | .iad d,[x,y]=>Q fun c env fr b s K=>x env fr fun x=>y env fr fun y=>b83 c b s (fun r=>K r b s) d x y
 | .ldSt g d,[x]=>Q fun c env fr b s K=>x env fr fun x=>a2Q s (fun r=>K r b s) g d x
 | .ldRo g d,[x]=>Q fun c env fr b s K=>x env fr fun x=>a6p (fun r=>K r b s) g d x
 | .ldAn g d,[x]=>Q fun c env fr b s K=>x env fr fun x=>b4W c b s (fun r=>K r b s) g d x
 | .ldLc i g d,[x]=>Q fun c env fr b s K=>x env fr fun x=>b4f b (fun r=>K r b s) i g d x
 | .ext d,[x]=>Q fun c env fr b s K=>x env fr fun x=>b7y (fun r=>K r b s) d x
 | .slS true true,[x,y,z]=>Q fun c env fr b s K=>x env fr fun x=>y env fr fun y=>z env fr fun z=>b9F c b s (fun r=>K r b s) x y z
 | .app d e,[x,y]=>Q fun c env fr b s K=>x env fr fun x=>y env fr fun y=>b70 b s (fun p=>K p.1 p.2.1 p.2.2) d e x y
 | .alloc d,[]=>Q fun c env fr b s K=>b0E b s (fun p=>K p.1 p.2.1 p.2.2) d
 | .stLc i d,[x,y]=>Q fun c env fr b s K=>x env fr fun x=>y env fr fun y=>b4M b s (fun p=>K p.1 p.2.1 p.2.2) i d x y
 | .stSt d,[x,y]=>Q fun c env fr b s K=>x env fr fun x=>y env fr fun y=>b3p s (fun p=>K p.1 b p.2) d x y
 | .boxO,[x]=>Q fun c env fr b s K=>x env fr fun x=>b2m s (fun p=>K p.1 b p.2) x
 | .allocO z,[]=>Q fun c env fr b s K=>a4s s (fun p=>K p.1 b p.2) z
 | .callV,rs=>b3h rs fun l=>Q fun c env fr b s K=>l env fr fun as=>b0K c s (fun v s=>K v b s) as
 | .call f,rs=>b3h rs fun l=>Q fun c env fr b s K=>l env fr fun as=>a8X c s (fun v s=>K v b s) f as
 | t,rs=>b3h rs fun l=>b69 t l Q
theorem b5B {G:β→Prop} {j:Kind} {rs:List Rd} {u:RdA} {Q:KF→β} (i:∀ env fr k,u env fr k=a1P rs env fr k) (h:∀ t,c0k j rs t→G (Q t)):G (b69 j u Q):=by
 unfold b69;cases l:j.alters with
 | true=>exact h _ fun c env fr b s K=>by rw[i]; simp only[fNew_eq,fL_eq]
 | false =>
  cases v:j.setSt with
  | true =>
   refine h _ fun c env fr b s K=>?_
   rw[i]; simp only[fNew_eq,fL_eq];congr; funext as;exact a2P l c as b s K
  | false =>
   refine h _ fun c env fr b s K=>?_
   rw[i]; simp only[fNew_eq];congr; funext as;exact r8 v l c as b s K
theorem S6 (x:Rd) (env:List AV) (fr:Fr) (k:List AV→RO):a1P [x] env fr k=x env fr fun x=>k [x]:=rfl
theorem M8 (x y:Rd) (env:List AV) (fr:Fr) (k:List AV→RO):a1P [x,y] env fr k=x env fr fun x=>y env fr fun y=>k [x,y]:=rfl
theorem b60 (x y z:Rd) (env:List AV) (fr:Fr) (k:List AV→RO):a1P [x,y,z] env fr k=x env fr fun x=>y env fr fun y=>z env fr fun z=>k [x,y,z]:=rfl
theorem b3i {G:β→Prop} {l:Kind} {rs:List Rd} {Q:KF→β} (h:∀ t,c0k l rs t→G (Q t)):G (b31 l rs Q):=by
 unfold b31;split
 · exact h _ fun c env fr b s K=>rfl
 · exact h _ fun c env fr b s K=>by rw[M8]; congr; funext x; congr; funext y; rw[c1q c b s]; exact r8 rfl rfl ..
 · exact h _ fun c env fr b s K=>by rw[M8]; congr; funext x; congr; funext y; rw[c3X c b s]; exact r8 rfl rfl ..
 · exact h _ fun c env fr b s K=>by rw[M8]; congr; funext x; congr; funext y; rw[e9H c b s]; exact r8 rfl rfl ..
 · exact h _ fun c env fr b s K=>by rw[M8]; congr; funext x; congr; funext y; rw[d6N c b s]; exact r8 rfl rfl ..
 · exact h _ fun c env fr b s K=>by rw[M8]; congr; funext x; congr; funext y; rw[e87 c b s]; exact r8 rfl rfl ..
 · exact h _ fun c env fr b s K=>by rw[M8]; congr; funext x; congr; funext y; rw[d7F c b s]; exact r8 rfl rfl ..
 · exact h _ fun c env fr b s K=>by rw[M8]; congr; funext x; congr; funext y; rw[d0o c b s]; exact r8 rfl rfl ..
 · exact h _ fun c env fr b s K=>by rw[M8]; congr; funext x; congr; funext y; rw[c4q c b s]; exact r8 rfl rfl ..
 · exact h _ fun c env fr b s K=>by rw[S6]; congr; funext x; rw[c2l c b s]; exact r8 rfl rfl ..
 · exact h _ fun c env fr b s K=>by rw[S6]; congr; funext x; rw[c2v c b s]; exact r8 rfl rfl ..
 · exact h _ fun c env fr b s K=>by rw[S6]; congr; funext x; rw[b94 c b s]; exact r8 rfl rfl ..
 · exact h _ fun c env fr b s K=>by rw[S6]; congr; funext x; rw[b7C c b s]; exact r8 rfl rfl ..
 · exact h _ fun c env fr b s K=>by rw[M8]; congr; funext x; congr; funext y; rw[d0x c b s]; exact r8 rfl rfl ..
 · exact h _ fun c env fr b s K=>by rw[b60]; congr; funext x; congr; funext y; congr; funext z; rw[b7L c b s]; exact r8 rfl rfl ..
 · exact h _ fun c env fr b s K=>by rw[S6]; congr; funext x; rw[c5q c b s]; exact r8 rfl rfl ..
 · exact h _ fun c env fr b s K=>by rw[M8]; congr; funext x; congr; funext y; rw[c2E c b s]; exact r8 rfl rfl ..
 · exact h _ fun c env fr b s K=>by rw[S6]; congr; funext x; rw[b0H c b s]; exact r8 rfl rfl ..
 · exact h _ fun c env fr b s K=>by rw[S6]; congr; funext x; rw[a9r c b s]; exact r8 rfl rfl ..
 · exact h _ fun c env fr b s K=>by rw[S6]; congr; funext x; rw[b9v c b s]; exact r8 rfl rfl ..
 · exact h _ fun c env fr b s K=>by rw[S6]; congr; funext x; rw[b8n c b s]; exact r8 rfl rfl ..
 · exact h _ fun c env fr b s K=>by rw[S6]; congr; funext x; rw[c8u c b s]; exact r8 rfl rfl ..
 · exact h _ fun c env fr b s K=>by rw[b60]; congr; funext x; congr; funext y; congr; funext z; rw[c2H c b s]; exact r8 rfl rfl ..
 · exact h _ fun c env fr b s K=>by rw[M8]; congr; funext x; congr; funext y; exact c3W c b s ..
 · exact h _ fun c env fr b s K=>b6H c b s ..
 · exact h _ fun c env fr b s K=>by rw[M8]; congr; funext x; congr; funext y; exact c0j c b s ..
 · exact h _ fun c env fr b s K=>by rw[M8]; congr; funext x; congr; funext y; rw[b91 c b s]; exact a2P rfl ..
 · exact h _ fun c env fr b s K=>by rw[S6]; congr; funext x; rw[b98 c b s]; exact a2P rfl ..
 · exact h _ fun c env fr b s K=>by show a4s s (fun p=>K p.1 b p.2) _=_; rw[b28 c b s]; exact a2P rfl ..
 · refine a1M fun u i=>h _ fun c env fr b s K=>?_
   rw[i];congr; funext as;show b0K c s (fun v s=>K v b s) as=_;unfold b0K;simp only[sem,D5];split
   · rename_i f a cs xs;rw[a3H];dsimp only;split
     · rw[b1W];cases c f ((a++xs++cs).map AV.weak) s<;>rfl
     · rfl
   · rename_i j;split
     · rename_i f a cs xs;exact absurd rfl (j f a cs xs)
     · rfl
 · refine a1M fun u i=>h _ fun c env fr b s K=>?_
   rw[i];congr; funext as;show a8X c s (fun v s=>K v b s) _ as=_;unfold a8X;rw[a3H];simp only[sem,n6];split
   · rw[b1W];cases c _ (as.map AV.weak) s<;>rfl
   · rfl
 · exact a1M fun u i=>b5B i h
end
end Go.Cb.G
namespace Go.Cb.G
open Go Go.Cb
inductive Clo where
 | mk (f:d8→List AV→Fr→St→RO)
noncomputable def Clo.run (x:Clo):d8→List AV→Fr→St→RO:=Clo.rec (motive:=fun _=>d8→List AV→Fr→St→RO) (fun f=>f) x
noncomputable def a0m:Clo:=.mk fun _ _ _ _=>none
abbrev OpF:=d8→List AV→Fr→St→(List AV→Fr→St→RO)→RO
abbrev CF:=d8→List AV→Fr→St→(AV→Fr→St→RO)→RO
section
variable {β:Type}
noncomputable def a4e:List Opd→Scope→Scope
 | [],sc=>sc
 | .ts s::xs,sc=>a4e xs (match G3 s sc with
  | some (.s l)=>(s,.d l)::sc
  | some (.k a)=>(s,.q a.weak)::sc
  | _=>sc)
 | _::xs,sc=>a4e xs sc
noncomputable def a2j (nv:Nat):List Opd→β→((Fr→(Fr→RO)→RO)→β)→β
 | [],_,Q=>Q fun fr k=>k fr
 | .vs i::xs,e,Q=>match Nat.blt i nv with
  | true=>a1T i e fun g=>a7d i e fun p=>a2j nv xs e fun r=>Q fun fr k=>g fr fun x=>qWk x fun x=>p x fr fun fr=>r fr k
  | false=>e
 | _::xs,e,Q=>a2j nv xs e Q
def b41:List Opd→Bool
 | []=>false
 | .vs _::_=>true
 | _::xs=>b41 xs
noncomputable def b3M (nv:Nat) (l:Kind) (args:List Opd) (box:Option Nat) (j:KF) (e:β) (Q:CF→β):β :=
 match b41 args,box with
 | false,none=>Q fun c env fr st K=>j c env fr .undef st fun r _ s=>K r fr s
 | true,none=>a2j nv args e fun sp=>Q fun c env fr st K=>j c env fr .undef st fun r _ s=>sp fr fun fr=>K r fr s
 | vs,some i=>match Nat.blt i nv with
  | false=>e
  | true=>a1T i e fun g=>match l.alters || vs with
   | false=>Q fun c env fr st K=>g fr fun b=>j c env fr b st fun r _ s=>K r fr s
   | true=>a2j nv args e fun sp=>a7d i e fun p=>Q fun c env fr st K=>g fr fun b=>j c env fr b st fun r b s=>sp fr fun fr=>p b fr fun fr=>K r fr s
abbrev PF:=AV→List AV→Fr→St→(List AV→Fr→St→RO)→RO
def b8B (x:Nat):List Nat→Bool
 | []=>false
 | y::ys=>Nat.beq x y || b8B x ys
noncomputable def b9N (nv j:Nat) (u:List Nat) (d:Dst) (l:Scope) (e:β) (Q:PF→Nat→Scope→β):β :=
 match d with
 | .t s=>match b8B s u with
  | true=>Q (fun r env fr s k=>qSb r fun v _=>k (v::env) fr s) (j+1) ((s,.s j)::l)
  | false=>Q (fun r env fr s k=>qSb r fun _ w=>k (w::env) fr s) (j+1) ((s,.w j)::l)
 | .v i=>match Nat.blt i nv with
  | true=>a7d i e fun p=>Q (fun r env fr s k=>qSv r fun v _=>p v fr fun fr=>k env fr s) j l
  | false=>e
 | _=>Q (fun r env fr s k=>k env fr s) j l
noncomputable def qGd (q:AV) (w:Bool) (x y:RO):RO:=f22 q none (fun v=>bW v w x y) (fun vs=>List.rec (motive:=fun _=>RO) y (fun _ _ _=>none) vs)
theorem f4v (q:AV) (w:Bool) (x y:RO):qGd q w x y=match q with|.bool b=>if b == w then x else y|.tuple []=>y|_=>none:=by
 simp only[qGd,d0X,g2x];cases q<;>try rfl
 rename_i vs; cases vs<;>rfl
def a6R (o:AOper):Option (Nat×Opd):=match o with
 | ⟨.t s,.mv,[.t s'],none,none⟩=>some (s,.t s')
 | ⟨.t s,.mv,[.c a],none,none⟩=>some (s,.c a)
 | _=>none
noncomputable def opK (nv j:Nat) (i:Scope) (z:List Nat) (o:AOper) (e:β) (Q0:Scope→β) (Q:OpF→Nat→Scope→β):β :=
 match a6R o with
 | some (s,.t E)=>match G3 E i with
  | some (.w l)=>Q0 ((s,.w l)::i)
  | some (.s l)|some (.d l)=>Q0 ((s,.d l)::i)
  | some (.k a)=>Q0 ((s,.q a.weak)::i)
  | some (.q a)=>Q0 ((s,.q a)::i)
  | none=>e
 | some (s,.c a)=>Q0 ((s,.k a.stripB)::i)
 | _=>rdL nv j i (fun x e Q=>rdK nv j i x e Q) o.args e fun rs=>b31 o.kind rs fun D=>b3M nv o.kind o.args o.box D e fun B =>
  b9N nv j z o.dst (a4e o.args i) e fun y u v=>match o.guard with
   | none=>Q (fun c env fr st k=>B c env fr st fun r fr s=>y r env fr s k) u v
   | some (x,w)=>rdK nv j i x e fun g=>Q (fun c env fr st k=>g env fr fun q=>qGd q w (B c env fr st fun r fr s=>y r env fr s k) (y (.tuple []) env fr st k)) u v
theorem b1L {v:AV} (h:v.stripB=v):v.weak.stripB=v.weak:=by cases v<;>first|rfl|cases h
theorem a4R (v:AV):v.stripB.stripB=v.stripB:=by cases v<;>rfl
theorem a02 (τ:Nat→AV) (s:Nat) (a:AV) (j:Nat):q9 τ s a j=if j=s then a else τ j:=by
 unfold q9;by_cases h:j=s
 · subst h; simp
 · rw[if_neg h]; simp[h]
theorem I4 {nv:Nat} (z:nv≤64):∀ (xs:List Opd) {G:β→Prop} {e:β} {Q:(Fr→(Fr→RO)→RO)→β},G e →
 (∀ sp:Fr→(Fr→RO)→RO,(∀ fr σ,σ.fr=toL nv fr→∃ y,(∀ k,sp fr k=k y)∧(d9 xs σ).fr=toL nv y)→G (Q sp))→G (a2j nv xs e Q)
 | [],G,e,Q,he,h=>h _ fun fr σ u=>⟨fr,fun _=>rfl,u⟩
 | x::xs,G,e,Q,he,h=>by
  cases x with
  | vs i =>
   unfold a2j;cases E:Nat.blt i nv with
   | false=>exact he
   | true =>
    have hi:=T0 E;refine L3 (by omega) he fun g hg=>a1D (by omega) he fun p F=>I4 z xs he fun sp j=>h _ fun fr σ u=>?_
    obtain⟨y,B,D⟩:=j (a1H i (W5 i fr).weak fr) (Opd.spend (.vs i) σ) (by show σ.fr.set i (σ.fr.getD i .undef).weak=_;rw[u,O0 hi,a2u hi z]);refine⟨y,fun k=>?_,D⟩;show g fr (fun x=>qWk x fun x=>p x fr fun fr=>sp fr k)=_;rw[hg,a1B,F,B]
  | ts s=>exact I4 z xs he fun sp j=>h sp fun fr σ u=>j fr (Opd.spend (.ts s) σ) u
  | t s=>exact I4 z xs he fun sp j=>h sp fun fr σ u=>j fr σ u
  | v s=>exact I4 z xs he fun sp j=>h sp fun fr σ u=>j fr σ u
  | l s=>exact I4 z xs he fun sp j=>h sp fun fr σ u=>j fr σ u
  | c s=>exact I4 z xs he fun sp j=>h sp fun fr σ u=>j fr σ u
def a3x (i:Scope) (env:List AV) (τ:Nat→AV):Prop:=∀ s x,G3 s i=some x→SrcOK env (τ s) x
theorem H7 {env:List AV}:∀ {xs:List Opd} {u:Scope} {σ:Sig},a3x u env σ.τ→(∀ s,(σ.τ s).stripB=σ.τ s) →
 a3x (a4e xs u) env σ.τ∧a3x (a4e xs u) env (d9 xs σ).τ∧(∀ s,((d9 xs σ).τ s).stripB=(d9 xs σ).τ s)∧(d9 xs σ).st=σ.st
 | [],u,σ,h,hb=>⟨h,h,hb,rfl⟩
 | x::xs,u,σ,h,hb=>by
  cases x with
  | ts s =>
   have J:∀ (v:AV),v=σ.τ s∨v=(σ.τ s).weak→∀ y,G3 s (match G3 s u with|some (.s l)=>(s,.d l)::u|some (.k a)=>(s,.q a.weak)::u|_=>u)=some y→SrcOK env v y:=by
    intro v N y j;have B:v.weak=(σ.τ s).weak:=by rcases N with rfl|rfl; rfl; exact E3 _
    cases hs:G3 s u with
    | none=>rw[hs]at j; dsimp only at j; rw[hs]at j; cases j
    | some z =>
     have F:=h _ _ hs;rw[hs]at j;cases z with
     | s l =>dsimp only at j;rw[a2t,if_pos rfl]at j;cases j;obtain⟨a,D,E⟩:=F;exact⟨a,D,by rw[B,E]⟩
     | k a =>dsimp only at j;rw[a2t,if_pos rfl]at j;cases j;show v.weak=a.weak;rw[B,show σ.τ s=a from F]
     | w l =>dsimp only at j;rw[hs]at j;cases j;obtain⟨a,D,E⟩:=F;exact⟨a,D,by rw[B,E]⟩
     | d l =>dsimp only at j;rw[hs]at j;cases j;obtain⟨a,D,E⟩:=F;exact⟨a,D,by rw[B,E]⟩
     | q a =>dsimp only at j;rw[hs]at j;cases j;show v.weak=a;rw[B];exact F
   have I:∀ t,t≠s→∀ y,G3 t (match G3 s u with|some (.s l)=>(s,.d l)::u|some (.k a)=>(s,.q a.weak)::u|_=>u)=some y→G3 t u=some y:=by
    intro t M y j;cases hs:G3 s u with
    | none=>rw[hs]at j; exact j
    | some z =>rw[hs]at j;cases z<;>dsimp only at j<;>first|exact j|(rw[a2t,if_neg (fun q=>M q.symm)]at j; exact j)
   have D:a3x (match G3 s u with|some (.s l)=>(s,.d l)::u|some (.k a)=>(s,.q a.weak)::u|_=>u) env σ.τ:=fun t y j=>by
    by_cases e:t=s
    · subst e; exact J _ (.inl rfl) y j
    · exact h _ _ (I t e y j)
   have E:a3x (match G3 s u with|some (.s l)=>(s,.d l)::u|some (.k a)=>(s,.q a.weak)::u|_=>u) env (Opd.spend (.ts s) σ).τ:=fun t y j=>by
    show SrcOK env (q9 σ.τ s (σ.τ s).weak t) y;rw[a02];by_cases e:t=s
    · subst e; rw[if_pos rfl]; exact J _ (.inr rfl) y j
    · rw[if_neg e]; exact h _ _ (I t e y j)
   have G:∀ t,((Opd.spend (.ts s) σ).τ t).stripB=(Opd.spend (.ts s) σ).τ t:=fun t=>by
    show(q9 σ.τ s (σ.τ s).weak t).stripB=q9 σ.τ s (σ.τ s).weak t;rw[a02];split
    · exact b1L (hb s)
    · exact hb t
   have a:=H7 (xs:=xs) D hb;have b:=H7 (xs:=xs) E G;exact⟨a.1,b.2.1,b.2.2.1,b.2.2.2⟩
  | vs i =>have a:=H7 (xs:=xs) h hb;have b:=H7 (xs:=xs) (σ:=Opd.spend (.vs i) σ) h hb;exact⟨a.1,b.2.1,b.2.2.1,b.2.2.2⟩
  | t s=>exact H7 (xs:=xs) h hb
  | v s=>exact H7 (xs:=xs) h hb
  | l s=>exact H7 (xs:=xs) h hb
  | c s=>exact H7 (xs:=xs) h hb
theorem a9I {xs:List Opd} (h:b41 xs=false):∀ σ:Sig,(d9 xs σ).fr=σ.fr:=by
 induction xs with
 | nil=>intro σ; rfl
 | cons x xs i=>intro σ; cases x<;>first|exact i h _|cases h
def g4M (nv l:Nat) (u:Scope) (o:AOper) (t:CF):Prop:=∀ c env fr st σ,Ag nv l u env fr σ→σ.st=st→∀ (K:AV→Fr→St→RO) out,t c env fr st K=some out →
 ∃ r b st' j,sem o.kind c (o.args.map (·.read σ)) (match o.box with|some i=>σ.fr.getD i .undef|none=>.undef) st=some (r,b,st')∧K r j st'=some out ∧
  (match o.box with|some i=>(d9 o.args σ).fr.set i b|none=>(d9 o.args σ).fr)=toL nv j
theorem a4H {α i:Type} {x:Option α} {f:α→Option i} {r:i} (h:obind x f=some r):∃ a,x=some a∧f a=some r:=by
 cases x with
 | none=>cases h
 | some a=>exact⟨a,rfl,h⟩
theorem b3s {G:β→Prop} {nv E:Nat} {V:Scope} {o:AOper} {rs:List Rd} {U:KF} {e:β} {Q:CF→β} (O:nv≤64) (x:a8v nv E V o.args rs) (v:c0k o.kind rs U) (I:G e) (h:∀ S,g4M nv E V o S→G (Q S)) :
 G (b3M nv o.kind o.args o.box U e Q):=by
 unfold b3M;split
 · rename_i T u;refine h _ fun c env fr st σ l D K out j=>?_
   rw[v,a1k l x]at j;obtain⟨⟨r,b,st'⟩,y,t⟩:=a4H j;exact⟨r,b,st',fr,by rw[u]; exact y,t,by rw[u]; dsimp only; rw[a9I T,l.f]⟩
 · rename_i T u;refine I4 O o.args I fun sp B=>h _ fun c env fr st σ l D K out j=>?_
   rw[v,a1k l x]at j;obtain⟨⟨r,b,st'⟩,y,t⟩:=a4H j;obtain⟨F,J,M⟩:=B fr σ l.f;dsimp only at t;rw[J]at t;exact⟨r,b,st',F,by rw[u]; exact y,t,by rw[u]; exact M⟩
 · rename_i i u;cases N:Nat.blt i nv with
   | false=>exact I
   | true =>
    have hi:=T0 N;refine L3 (by omega) I fun g hg=>?_
    split
    · rename_i z;simp only[Bool.or_eq_false_iff]at z;refine h _ fun c env fr st σ l D K out j=>?_
      rw[hg,v,a1k l x]at j;obtain⟨⟨r,b,st'⟩,y,t⟩:=a4H j;refine⟨r,b,st',fr,by rw[u]; dsimp only; rw[l.f,O0 hi]; exact y,t,?_⟩;rw[u];have:=a2o z.1 y;subst this;dsimp only;rw[a9I z.2,l.f,← O0 hi fr];exact a3v _ _
    · refine I4 O o.args I fun sp B=>a1D (by omega) I fun p W=>h _ fun c env fr st σ l D K out j=>?_
      rw[hg,v,a1k l x]at j;obtain⟨⟨r,b,st'⟩,y,t⟩:=a4H j;obtain⟨F,J,M⟩:=B fr σ l.f;dsimp only at t;rw[J,W]at t;refine⟨r,b,st',_,by rw[u]; dsimp only; rw[l.f,O0 hi]; exact y,t,?_⟩;rw[u];dsimp only;rw[M,a2u hi O]
def g4E (nv u:Nat) (o:AOper) (y:Scope) (x:PF) (j:Nat) (v:Scope):Prop:=∀ r env fr s (k:List AV→Fr→St→RO) out,x r env fr s k=some out→∀ σ:Sig,σ.fr=toL nv fr→env.length=u→(∀ t,(σ.τ t).stripB=σ.τ t)→a3x y env σ.τ→σ.st=s →
 ∃ i l,k i l s=some out∧Ag nv j v i l (o.dst.put r σ)∧(o.dst.put r σ).st=s
theorem b6T {G:β→Prop} {nv F:Nat} {N:List Nat} {o:AOper} {T:Scope} {e:β} {Q:PF→Nat→Scope→β} (Y:nv≤64) (V:G e) (h:∀ W E J,g4E nv F o T W E J→G (Q W E J)):G (b9N nv F N o.dst T e Q):=by
 unfold b9N;cases B:o.dst with
 | t s =>
  dsimp only;have I:∀ (σ:Sig) (r:AV),(∀ t,(σ.τ t).stripB=σ.τ t)→∀ t,(q9 σ.τ s r.stripB t).stripB=q9 σ.τ s r.stripB t:=fun σ r z t=>by
   rw[a02]; split
   · exact a4R r
   · exact z t
  have M:∀ (σ:Sig) (r:AV) (env:List AV) (y:Src) (v:AV),env.length=F→a3x T env σ.τ→SrcOK (v::env) r.stripB y→a3x ((s,y)::T) (v::env) (q9 σ.τ s r.stripB):=fun σ r env y v hl l hy t x O=>by
   rw[a2t]at O;rw[a02];split at O
   · rename_i e; cases O; rw[if_pos e.symm]; exact hy
   · rename_i e; rw[if_neg (fun q=>e q.symm)]; exact(l _ _ O).push v
  cases b8B s N with
  | true =>
   refine h _ _ _ fun r env fr S k out j σ D hl z l u=>?_
   rw[b59]at j;refine⟨_,_,j,?_,by rw[B]; exact u⟩;rw[B];exact⟨D,by simp[hl],I σ r z,M σ r env _ _ hl l ⟨_,by rw[← hl]; exact b6Q _ _,rfl⟩⟩
  | false =>
   refine h _ _ _ fun r env fr S k out j σ D hl z l u=>?_
   rw[b59]at j;refine⟨_,_,j,?_,by rw[B]; exact u⟩;rw[B];exact⟨D,by simp[hl],I σ r z,M σ r env _ _ hl l ⟨_,by rw[← hl]; exact b6Q _ _,rfl⟩⟩
 | v i =>
  dsimp only;cases U:Nat.blt i nv with
  | false=>exact V
  | true =>
   have hi:=T0 U;refine a1D (by omega) V fun p Z=>h _ _ _ fun r env fr S k out j σ D hl z l u=>?_
   rw[e4X,Z]at j;refine⟨_,_,j,?_,by rw[B]; exact u⟩;rw[B];exact⟨by show σ.fr.set i r.strip=_; rw[D,a2u hi Y],hl,z,l⟩
 | none =>
  refine h _ _ _ fun r env fr S k out j σ D hl z l u=>?_
  refine⟨_,_,j,?_,by rw[B]; exact u⟩;rw[B];exact⟨D,hl,z,l⟩
 | bx =>
  refine h _ _ _ fun r env fr S k out j σ D hl z l u=>?_
  refine⟨_,_,j,?_,by rw[B]; exact u⟩;rw[B];exact⟨D,hl,z,l⟩
def g8c (nv t:Nat) (x:Scope) (o:AOper) (u:OpF) (j:Nat) (v:Scope):Prop:=∀ c env fr st σ,Ag nv t x env fr σ→σ.st=st→∀ (k:List AV→Fr→St→RO) out,u c env fr st k=some out →
 ∃ σ' i l,i7 c o σ=some σ'∧Ag nv j v i l σ'∧k i l σ'.st=some out
def e5d (nv i:Nat) (l:Scope) (o:AOper) (j:Scope):Prop:=∀ c env fr σ,Ag nv i l env fr σ→∃ σ',i7 c o σ=some σ'∧Ag nv i j env fr σ'∧σ'.st=σ.st
theorem a8b {nv i:Nat} {u:Scope} {env:List AV} {fr:Fr} {σ:Sig} (j:Ag nv i u env fr σ) (s:Nat) (v:AV) (y:Src) (z:SrcOK env v.stripB y):Ag nv i ((s,y)::u) env fr ({ σ with τ:=q9 σ.τ s v.stripB }) :=
 ⟨j.f,j.d,fun t=>by
  show(q9 σ.τ s v.stripB t).stripB=q9 σ.τ s v.stripB t;rw[a02]; split
  · exact a4R v
  · exact j.nb t,fun t x l=>by
  show SrcOK env (q9 σ.τ s v.stripB t) x;rw[a2t]at l;rw[a02];split at l
  · rename_i e; cases l; rw[if_pos e.symm]; exact z
  · rename_i e; rw[if_neg (fun q=>e q.symm)]; exact j.t _ _ l⟩
theorem a6C (c:d8) (s:Nat) (x:Opd) (i:x.steals=false) (σ:Sig):i7 c ⟨.t s,.mv,[x],none,none⟩ σ=some { σ with τ:=q9 σ.τ s (x.read σ).stripB }:=by have e:d9 [x] σ=σ:=W4 (by simp[g8,i]);show y9 c _ σ=_;rw[J4];show some (Dst.put (.t s) (x.read σ) { d9 [x] σ with st:=σ.st })=_;rw[e];rfl
theorem b8J {G:β→Prop} {nv I:Nat} {U:Scope} {b3:List Nat} {o:AOper} {e:β} {Q0:Scope→β} {Q:OpF→Nat→Scope→β} (hn:nv≤64) (W:G e) (V:∀ E,e5d nv I U o E→G (Q0 E))
 (h:∀ a0 z E,g8c nv I U o a0 z E→G (Q a0 z E)):G (opK nv I U b3 o e Q0 Q):=by
 unfold opK;split
 · rename_i s N v;have ho:o=⟨.t s,.mv,[.t N],none,none⟩:=by unfold a6R at v;split at v<;>first|(cases v; rfl)|cases v
   subst ho;have go:∀ y,(∀ env fr σ,Ag nv I U env fr σ→SrcOK env (σ.τ N).weak y)→e5d nv I U ⟨.t s,.mv,[.t N],none,none⟩ ((s,y)::U):=fun y hy c env fr σ u=>by refine⟨_,a6C c s (.t N) rfl σ,a8b u s _ y ?_,rfl⟩;show SrcOK env ((σ.τ N).weak).stripB y;rw[b1L (u.nb N)];exact hy env fr σ u
   split
   · rename_i l hs;exact V _ (go _ fun env fr σ u=>by obtain⟨a,M,S⟩:=u.t _ _ hs; exact⟨a,M,by rw[E3,S]⟩)
   · rename_i l hs;exact V _ (go _ fun env fr σ u=>by obtain⟨a,M,S⟩:=u.t _ _ hs; exact⟨a,M,by rw[E3,S]⟩)
   · rename_i l hs;exact V _ (go _ fun env fr σ u=>by obtain⟨a,M,S⟩:=u.t _ _ hs; exact⟨a,M,by rw[E3,S]⟩)
   · rename_i a hs;exact V _ (go _ fun env fr σ u=>by have:=u.t _ _ hs;show(σ.τ N).weak.weak=a.weak;rw[E3,show σ.τ N=a from this])
   · rename_i a hs;exact V _ (go _ fun env fr σ u=>by have:=u.t _ _ hs;show(σ.τ N).weak.weak=a;rw[E3];exact this)
   · exact W
 · rename_i s a v;have ho:o=⟨.t s,.mv,[.c a],none,none⟩:=by unfold a6R at v;split at v<;>first|(cases v; rfl)|cases v
   subst ho;exact V _ fun c env fr σ u=>⟨_,a6C c s (.c a) rfl σ,a8b u s _ _ rfl,rfl⟩
 · refine b0N hn W fun rs b1=>b3i fun kf b0=>b3s hn b1 b0 W fun cf a1=>b6T hn W fun pf z E Y=>?_
   have body:∀ c env fr st σ,Ag nv I U env fr σ→σ.st=st→∀ (k:List AV→Fr→St→RO) out,(cf c env fr st fun r fr s=>pf r env fr s k)=some out →
    ∃ σ' B D,y9 c o σ=some σ'∧Ag nv z E B D σ'∧k B D σ'.st=some out:=fun c env fr st σ u F k out j=>by
    obtain⟨r,b,st',D,M,S,h3⟩:=a1 c env fr st σ u F _ out j;obtain⟨e1,e2,e3,e4⟩:=H7 (xs:=o.args) (σ:=σ) u.t u.nb;let σ1:Sig:=match o.box with
     | some i=>{ d9 o.args σ with fr:=(d9 o.args σ).fr.set i b,st:=st' }
     | none=>{ d9 o.args σ with st:=st' }
    have a2:σ1.fr=toL nv D:=by rw[← h3]; simp only[σ1]; cases o.box<;>rfl
    have Z:σ1.τ=(d9 o.args σ).τ:=by simp only[σ1]; cases o.box<;>rfl
    have b2:σ1.st=st':=by simp only[σ1]; cases o.box<;>rfl
    obtain⟨J,O,g1,g2,g3⟩:=Y r env D st' k out S σ1 a2 u.d (by rw[Z]; exact e3) (by rw[Z]; exact e2) b2;refine⟨_,J,O,?_,g2,by rw[g3]; exact g1⟩;rw[J4,F];simp only[σ1];cases hb:o.box<;>rw[hb]at M<;>dsimp only at M ⊢<;>rw[M]
   split
   · rename_i hg;refine h _ _ _ fun c env fr st σ u F k out j=>?_
     unfold i7;rw[hg];exact body c env fr st σ u F k out j
   · rename_i x w hg;refine a5z hn W fun g a3=>h _ _ _ fun c env fr st σ u F k out j=>?_
     rw[a3 env fr σ u,f4v]at j;unfold i7;rw[hg];dsimp only;have skip:pf (.tuple []) env fr st k=some out→∃ σ' B D,some (o.dst.put (.tuple []) σ)=some σ'∧Ag nv z E B D σ'∧k B D σ'.st=some out:=fun j=>by obtain⟨J,O,g1,g2,g3⟩:=Y _ env fr st k out j σ u.f u.d u.nb (H7 (xs:=o.args) (σ:=σ) u.t u.nb).1 F;exact⟨_,J,O,rfl,g2,by rw[g3]; exact g1⟩
     cases hx:x.read σ<;>rw[hx]at j<;>(try dsimp only at j ⊢)<;>try cases j
     · rename_i b;split at j
       · rename_i T; rw[if_pos T]; exact body c env fr st σ u F k out j
       · rename_i T; rw[if_neg T]; exact skip j
     · rename_i vs;cases vs with
       | nil=>exact skip j
       | cons=>cases j
end
noncomputable def a4I (nv:Nat) (v:List Nat) (cond:Opd) (ops:List AOper):Nat→Scope→Clo:=List.rec (motive:=fun _=>Nat→Scope→Clo)
 (fun i u=>rdK nv i u cond a0m fun r=>.mk fun c env fr st=>r env fr fun x=>some (x,fr,st))
 (fun o _ y i u=>opK nv i u v o a0m (fun j=>y i j) fun t l j=>.mk fun c env fr st=>t c env fr st fun env fr st=>(y l j).run c env fr st) ops
def a4v (nv j:Nat) (l:Scope) (cond:Opd) (ops:List AOper) (x:Clo):Prop:=∀ c env fr st σ v i st',Ag nv j l env fr σ→σ.st=st→x.run c env fr st=some (v,i,st') →
 ∃ σ',g9 c ops σ=some σ'∧σ'.fr=toL nv i∧σ'.st=st'∧cond.read σ'=v
theorem b0g {nv i:Nat} {t:Scope} {cond:Opd} {ops:List AOper}:a4v nv i t cond ops a0m:=fun c env fr st σ v j st' u l h=>by cases (show(none:RO)=some _ from h)
theorem a2U {nv:Nat} (F:nv≤64) {z:List Nat} {cond:Opd}:∀ (ops:List AOper) (i:Nat) (y:Scope),a4v nv i y cond ops (a4I nv z cond ops i y)
 | [],i,y=>by
  show a4v nv i y cond [] (rdK nv i y cond a0m fun r=>.mk fun c env fr st=>r env fr fun x=>some (x,fr,st));refine a5z (G:=a4v nv i y cond []) F b0g fun r T c env fr st σ v t st' B u h=>?_
  have h:r env fr (fun x=>some (x,fr,st))=some (v,t,st'):=h;rw[T env fr σ B]at h;cases h;exact⟨σ,rfl,B.f,u,rfl⟩
 | o::ops,i,y=>by
  show a4v nv i y cond (o::ops) (opK nv i y z o a0m (fun j=>a4I nv z cond ops i j) fun E l j=>.mk fun c env fr st=>E c env fr st fun env fr st=>(a4I nv z cond ops l j).run c env fr st);refine b8J (G:=a4v nv i y cond (o::ops)) F b0g (fun j O c env fr st σ v t st' B u h=>?_) fun E l j S c env fr st σ v t st' B u h=>?_
  · obtain⟨σ1,J,M,N⟩:=O c env fr σ B;obtain⟨σ2,g1,g2⟩:=a2U F ops i j c env fr st σ1 v t st' M (N.trans u) h;exact⟨σ2,by rw[g9,J]; exact g1,g2⟩
  · obtain⟨σ1,D,I,J,M,N⟩:=S c env fr st σ B u _ _ h;obtain⟨σ2,g1,g2⟩:=a2U F ops l j c D I σ1.st σ1 v t st' M rfl N;exact⟨σ2,by rw[g9,J]; exact g1,g2⟩
end Go.Cb.G
namespace Go.Cb.G
open Go Go.Cb
noncomputable def a8E (nv:Nat) (kill:List Nat) (Q:(Fr→(Fr→RO)→RO)→Clo):Clo:=List.rec (motive:=fun _=>((Fr→(Fr→RO)→RO)→Clo)→Clo) (fun Q=>Q fun fr k=>k fr)
 (fun i _ j Q=>Bool.rec (motive:=fun _=>Clo) (j Q) (a7d i a0m fun p=>j fun r=>Q fun fr k=>p .undef fr fun fr=>r fr k) (Nat.blt i nv)) kill Q
def tsL:List Opd→List Nat
 | []=>[]
 | .ts s::xs=>s::tsL xs
 | _::xs=>tsL xs
def b32:List AOper→List Nat
 | []=>[]
 | o::os=>match tsL o.args with
  | []=>b32 os
  | l=>l++b32 os
noncomputable def a5V (nv:Nat) (kill:List Nat) (ops:List AOper) (cond:Opd):Clo :=
 a8E nv kill fun i=>.mk fun c _ fr st=>i fr fun fr=>(a4I nv (tsL [cond]++b32 ops) cond ops 0 []).run c [] fr st
theorem a3d {G:Clo→Prop} {nv:Nat} (v:nv≤64) (hs:G a0m):∀ {kill:List Nat} {Q:(Fr→(Fr→RO)→RO)→Clo},(∀ r:Fr→(Fr→RO)→RO,(∀ fr,∃ j,(∀ k,r fr k=k j)∧i6 kill (toL nv fr)=toL nv j)→G (Q r))→G (a8E nv kill Q)
 | [],Q,h=>h _ fun fr=>⟨fr,fun _=>rfl,rfl⟩
 | i::is,Q,h=>by
  show G (Bool.rec (motive:=fun _=>Clo) (a8E nv is Q) (a7d i a0m fun p=>a8E nv is fun r=>Q fun fr k=>p .undef fr fun fr=>r fr k) (Nat.blt i nv));cases u:Nat.blt i nv with
  | false =>
   have hi:¬ i < nv:=fun q=>by rw[show Nat.blt i nv=true by simpa using q]at u; cases u
   exact a3d v hs (kill:=is) fun r x=>h r fun fr=>by obtain⟨j,l,t⟩:=x fr;exact⟨j,l,by rw[i6,a5i hi]; exact t⟩
  | true =>have hi:=T0 u;exact a1D (by omega) hs fun p y=>a3d v hs (kill:=is) fun r x=>h _ fun fr=>by obtain⟨j,l,t⟩:=x (a1H i .undef fr);exact⟨j,fun k=>by show p .undef fr _=_; rw[y,l],by rw[i6,a2u hi v]; exact t⟩
def b2j (nv:Nat) (kill:List Nat) (ops:List AOper) (cond:Opd) (x:Clo):Prop:=∀ c env fr st v i st',x.run c env fr st=some (v,i,st') →
 ∃ σ',g9 c ops ⟨i6 kill (toL nv fr),fun _=>.undef,st⟩=some σ'∧σ'.fr=toL nv i∧σ'.st=st'∧cond.read σ'=v
theorem a8M {nv:Nat} (l:nv≤64) {kill:List Nat} {ops:List AOper} {cond:Opd}:b2j nv kill ops cond (a5V nv kill ops cond):=by
 refine a3d (G:=b2j nv kill ops cond) l (fun c env fr st v i st' h=>by cases (show(none:RO)=some _ from h)) fun r y c env fr st v i st' h=>?_
 obtain⟨j,t,u⟩:=y fr;have h:r fr _=_:=h;rw[t]at h;exact a2U l ops 0 [] c [] j st ⟨i6 kill (toL nv fr),fun _=>.undef,st⟩ v i st' ⟨u,rfl,fun _=>rfl,fun s x z=>by cases (show(none:Option Src)=some x from z)⟩ rfl h
abbrev CO:=Option (Ex×Fr×St)
inductive CloC where
 | mk (f:d8→Nat→Fr→St→CO)
noncomputable def CloC.run (x:CloC):d8→Nat→Fr→St→CO:=CloC.rec (motive:=fun _=>d8→Nat→Fr→St→CO) (fun f=>f) x
section
variable {ρ:Type}
noncomputable def a9l (x:RO) (k:AV→Fr→St→Option ρ):Option ρ:=Option.rec (motive:=fun _=>Option ρ) none (fun p=>Prod.rec (motive:=fun _=>Option ρ) (fun v q=>Prod.rec (motive:=fun _=>Option ρ) (fun fr st=>k v fr st) q) p) x
noncomputable def a1A (x:CO) (k:Ex→Fr→St→Option ρ):Option ρ:=Option.rec (motive:=fun _=>Option ρ) none (fun p=>Prod.rec (motive:=fun _=>Option ρ) (fun v q=>Prod.rec (motive:=fun _=>Option ρ) (fun fr st=>k v fr st) q) p) x
noncomputable def a1G (e:Ex) (n:Option ρ) (x:Nat→Option ρ) (r:Option ρ):Option ρ:=Ex.rec (motive:=fun _=>Option ρ) n x r e
theorem a7V {x:RO} {k:AV→Fr→St→Option ρ} {r:ρ} (h:a9l x k=some r):∃ v fr st,x=some (v,fr,st)∧k v fr st=some r:=by
 cases x with
 | none=>cases h
 | some p=>obtain⟨v,fr,st⟩:=p; exact⟨v,fr,st,rfl,h⟩
theorem X5 {x:CO} {k:Ex→Fr→St→Option ρ} {r:ρ} (h:a1A x k=some r):∃ v fr st,x=some (v,fr,st)∧k v fr st=some r:=by
 cases x with
 | none=>cases h
 | some p=>obtain⟨v,fr,st⟩:=p; exact⟨v,fr,st,rfl,h⟩
end
noncomputable def b4d (b:d8→Nat→Fr→St→CO) (c:d8) (n m:Nat):Fr→St→CO:=Nat.rec (motive:=fun _=>Fr→St→CO) (fun _ _=>none) (fun _ j fr st=>a1A (b c n fr st) fun e fr st=>a1G e (j fr st) (fun i=>some (.exit i,fr,st)) (some (.ret,fr,st))) m
def a6j (nv:Nat):List Nat→Fr→Fr
 | [],fr=>fr
 | i::is,fr=>a6j nv is (if i < nv then a1H i .undef fr else fr)
theorem a4g {nv:Nat} (j:nv≤64):∀ {is:List Nat} {fr:Fr},i6 is (toL nv fr)=toL nv (a6j nv is fr)
 | [],fr=>rfl
 | i::is,fr=>by
  rw[i6,a6j];split
  · rename_i h; rw[a2u h j]; exact a4g j
  · rename_i h; rw[a5i h]; exact a4g j
noncomputable def b5A (nv:Nat) (kill:List Nat) (x y:CO):CO:=a1A x fun e fr st=>a1A y fun e' i st' =>if a8u (B7 kill (e,toL nv fr,st)) (B7 kill (e',toL nv i,st'))then some (e,a6j nv kill fr,st)else none
noncomputable def Y0 (nv:Nat) (x:ACode):CloC:=ACode.rec (motive:=fun _=>CloC)
 (.mk fun _ _ fr st=>some (.normal,fr,st))
 (fun kill ops=>.mk fun c _ fr st=>a9l ((a5V nv kill ops (.c .undef)).run c [] fr st) fun _ fr st=>some (.normal,fr,st))
 (fun kill ops x _ _ a b=>.mk fun c n fr st=>a9l ((a5V nv kill ops x).run c [] fr st) fun v fr st=>onB v none fun y=>Bool.rec (motive:=fun _=>CO) (b.run c n fr st) (a.run c n fr st) y)
 (fun _ _ a b=>.mk fun c n fr st=>a1A (a.run c n fr st) fun e fr st=>a1G e (b.run c n fr st) (fun i=>some (.exit i,fr,st)) (some (.ret,fr,st)))
 (fun id _ a=>.mk fun c n fr st=>a1A (a.run c n fr st) fun e fr st=>a1G e (some (.normal,fr,st)) (fun i=>Bool.rec (motive:=fun _=>CO) (some (.exit i,fr,st)) (some (.normal,fr,st)) (Nat.beq i id)) (some (.ret,fr,st)))
 (fun _ a=>.mk fun c n fr st=>b4d (fun c n fr st=>a.run c n fr st) c n n fr st)
 (fun kill _ _ a b=>.mk fun c n fr st=>b5A nv kill (a.run c n fr st) (b.run c n fr st))
 (fun id=>.mk fun _ _ fr st=>some (.exit id,fr,st))
 (.mk fun _ _ fr st=>some (.ret,fr,st)) x
def c9n (nv:Nat) (x:ACode) (y:CloC):Prop:=∀ c n fr st e i st',y.run c n fr st=some (e,i,st')→exec c n x (toL nv fr) st=some (e,toL nv i,st')
theorem b0f {nv:Nat} {a:ACode} {b:d8→Nat→Fr→St→CO} {c:d8} {n:Nat} (h:∀ fr st e j st',b c n fr st=some (e,j,st')→exec c n a (toL nv fr) st=some (e,toL nv j,st')):∀ (m:Nat) (fr:Fr) (st:St) (e:Ex) (j:Fr) (st':St),b4d b c n m fr st=some (e,j,st')→E6 (exec c n a) m (toL nv fr) st=some (e,toL nv j,st')
 | 0,fr,st,e,j,st',hs=>by cases (show(none:CO)=some _ from hs)
 | m+1,fr,st,e,j,st',hs=>by
  obtain⟨v,l,t,x,u⟩:=X5 (show a1A (b c n fr st) (fun e fr st=>a1G e (b4d b c n m fr st) (fun i=>some (.exit i,fr,st)) (some (.ret,fr,st)))=some (e,j,st')from hs);rw[E6,h _ _ _ _ _ x];cases v with
  | normal=>exact b0f h m l t e j st' u
  | exit i=>cases (show some (Ex.exit i,l,t)=some (e,j,st')from u); rfl
  | ret=>cases (show some (Ex.ret,l,t)=some (e,j,st')from u); rfl
theorem O9 {nv:Nat} (z:nv≤64):∀ x:ACode,c9n nv x (Y0 nv x)
 | .skip,c,n,fr,st,e,j,st',h=>by cases (show some (Ex.normal,fr,st)=some (e,j,st')from h); rfl
 | .ret,c,n,fr,st,e,j,st',h=>by cases (show some (Ex.ret,fr,st)=some (e,j,st')from h); rfl
 | .exit id,c,n,fr,st,e,j,st',h=>by cases (show some (Ex.exit id,fr,st)=some (e,j,st')from h); rfl
 | .reg kill ops,c,n,fr,st,e,j,st',h=>by obtain⟨v,l,u,B,t⟩:=a7V (show a9l ((a5V nv kill ops (.c .undef)).run c [] fr st) (fun _ fr st=>some (Ex.normal,fr,st))=some (e,j,st')from h);cases t;obtain⟨σ,g1,g2,g3,g4⟩:=a8M z _ _ _ _ _ _ _ B;rw[exec,g1];simp only[fL_eq,g2,g3]
 | .test kill ops x a b,c,n,fr,st,e,j,st',h=>by
  obtain⟨v,l,u,B,t⟩:=a7V (show a9l ((a5V nv kill ops x).run c [] fr st) (fun v fr st=>onB v none fun y=>Bool.rec (motive:=fun _=>CO) ((Y0 nv b).run c n fr st) ((Y0 nv a).run c n fr st) y)=some (e,j,st')from h);obtain⟨σ,g1,g2,g3,g4⟩:=a8M z _ _ _ _ _ _ _ B;rw[a8O]at t;rw[exec,g1];dsimp only;rw[g4];cases v<;>try (cases t; done)
  rename_i y;cases y
  · simp only[fL_eq,g2,g3]; exact O9 z b _ _ _ _ _ _ _ t
  · simp only[fL_eq,g2,g3]; exact O9 z a _ _ _ _ _ _ _ t
 | .seq a b,c,n,fr,st,e,j,st',h=>by
  obtain⟨D,l,u,B,t⟩:=X5 (show a1A ((Y0 nv a).run c n fr st) (fun e fr st=>a1G e ((Y0 nv b).run c n fr st) (fun i=>some (.exit i,fr,st)) (some (.ret,fr,st)))=some (e,j,st')from h);rw[exec,O9 z a _ _ _ _ _ _ _ B];cases D with
  | normal=>exact O9 z b _ _ _ _ _ _ _ t
  | exit i=>cases (show some (Ex.exit i,l,u)=some (e,j,st')from t); rfl
  | ret=>cases (show some (Ex.ret,l,u)=some (e,j,st')from t); rfl
 | .blk id a,c,n,fr,st,e,j,st',h=>by
  obtain⟨D,l,u,B,t⟩:=X5 (show a1A ((Y0 nv a).run c n fr st) (fun e fr st=>a1G e (some (.normal,fr,st)) (fun i=>Bool.rec (motive:=fun _=>CO) (some (.exit i,fr,st)) (some (.normal,fr,st)) (Nat.beq i id)) (some (.ret,fr,st)))=some (e,j,st')from h);rw[exec,O9 z a _ _ _ _ _ _ _ B];cases D with
  | normal=>cases (show some (Ex.normal,l,u)=some (e,j,st')from t); rfl
  | exit i =>
   have t:Bool.rec (motive:=fun _=>CO) (some (.exit i,l,u)) (some (.normal,l,u)) (Nat.beq i id)=some (e,j,st'):=t;dsimp only;cases E:Nat.beq i id with
   | true=>rw[E]at t; cases t; rw[if_pos (Nat.eq_of_beq_eq_true E)]
   | false=>rw[E]at t; cases t; rw[if_neg (Nat.ne_of_beq_eq_false E)]
  | ret=>cases (show some (Ex.ret,l,u)=some (e,j,st')from t); rfl
 | .loop a,c,n,fr,st,e,j,st',h=>by rw[exec];exact b0f (b:=fun c n fr st=>(Y0 nv a).run c n fr st) (fun fr st e j st' h=>O9 z a _ _ _ _ _ _ _ h) n fr st e j st' h
 | .either kill a b,c,n,fr,st,e,j,st',h=>by
  have h:b5A nv kill ((Y0 nv a).run c n fr st) ((Y0 nv b).run c n fr st)=some (e,j,st'):=h;obtain⟨D,l,u,B,t⟩:=X5 h;obtain⟨M,G,st2,I,F⟩:=X5 t;rw[exec,O9 z a _ _ _ _ _ _ _ B,O9 z b _ _ _ _ _ _ _ I];unfold a4E;split at F
  · rename_i J;cases F;dsimp only;rw[if_pos J];show some (_,i6 kill (toL nv l),_)=_;rw[a4g z]
  · cases F
inductive FnC where
 | mk (f:d8→Nat→List AV→St→Option (AV×St))
noncomputable def FnC.run (x:FnC):d8→Nat→List AV→St→Option (AV×St):=FnC.rec (motive:=fun _=>d8→Nat→List AV→St→Option (AV×St)) (fun f=>f) x
noncomputable def N1:FnC:=.mk fun _ _ _ _=>none
noncomputable def b8f (nv:Nat) (r:ResK) (Q:(Fr→St→(AV→Option (AV×St))→Option (AV×St))→FnC):FnC :=
 match r with
 | .v i=>match Nat.blt i nv with
  | true=>a1T i N1 fun g=>Q fun fr _ k=>g fr fun x=>qWk x k
  | false=>N1
 | .vs i=>match Nat.blt i nv with
  | true=>a1T i N1 fun g=>Q fun fr _ k=>g fr k
  | false=>N1
 | .bx i agg n=>match Nat.blt i nv with
  | true=>a1T i N1 fun g=>Q fun fr st k=>g fr fun x=>b2U x none fun cs=>a4F k agg n cs
  | false=>N1
 | .po i agg n=>match Nat.blt i nv with
  | true=>a1T i N1 fun g=>Q fun fr st k=>g fr fun x=>a2Q st k agg n x
  | false=>N1
theorem b6k {G:FnC→Prop} {nv:Nat} (z:nv≤64) (hs:G N1) {r:ResK} {Q:(Fr→St→(AV→Option (AV×St))→Option (AV×St))→FnC} (h:∀ g:Fr→St→(AV→Option (AV×St))→Option (AV×St),(∀ fr st k out,g fr st k=some out→∃ v,r.get (toL nv fr) st=some v∧k v=some out)→G (Q g)):G (b8f nv r Q):=by
 unfold b8f;cases r with
 | v i =>
  dsimp only;cases l:Nat.blt i nv with
  | false=>exact hs
  | true =>
   have hi:=T0 l;refine L3 (by omega) hs fun g hg=>h _ fun fr st k out j=>?_
   rw[hg,a1B]at j;exact⟨_,by rw[ResK.get,O0 hi],j⟩
 | vs i =>
  dsimp only;cases l:Nat.blt i nv with
  | false=>exact hs
  | true =>
   have hi:=T0 l;refine L3 (by omega) hs fun g hg=>h _ fun fr st k out j=>?_
   rw[hg]at j;exact⟨_,by rw[ResK.get,O0 hi],j⟩
 | bx i agg n =>
  dsimp only;cases l:Nat.blt i nv with
  | false=>exact hs
  | true =>
   have hi:=T0 l;refine L3 (by omega) hs fun g hg=>h _ fun fr st k out j=>?_
   rw[hg,a7H]at j;rw[ResK.get,O0 hi];cases u:W5 i fr<;>rw[u]at j<;>try (cases j; done)
   rename_i cs;dsimp only at j ⊢;rw[a1u]at j;cases t:j0 agg n cs with
   | none=>rw[t]at j; cases j
   | some v=>rw[t]at j; exact⟨v,rfl,j⟩
 | po i agg n =>
  dsimp only;cases l:Nat.blt i nv with
  | false=>exact hs
  | true =>
   have hi:=T0 l;refine L3 (by omega) hs fun g hg=>h _ fun fr st k out j=>?_
   rw[hg]at j;rw[ResK.get,O0 hi];simp only[a2Q,b0i,a7b,a3T,a1u,Z4]at j;cases u:W5 i fr<;>rw[u]at j<;>try (cases j; done)
   rename_i o off;dsimp only at j ⊢;cases x:st[o]? with
   | none=>rw[x]at j; cases j
   | some y =>
    rw[x]at j;cases y with
    | cells cs =>
     dsimp only at j ⊢;cases t:j0 agg n (cs.drop off)with
     | none=>rw[t]at j; cases j
     | some v=>rw[t]at j; exact⟨v,rfl,j⟩
    | map _=>cases j
    | dead=>cases j
noncomputable def b3z (nv:Nat):List ResK→((Fr→St→(List AV→Option (AV×St))→Option (AV×St))→FnC)→FnC
 | [],Q=>Q fun _ _ k=>k []
 | r::rs,Q=>b8f nv r fun g=>b3z nv rs fun gs=>Q fun fr st k=>g fr st fun v=>gs fr st fun vs=>k (v::vs)
theorem a7R {G:FnC→Prop} {nv:Nat} (l:nv≤64) (hs:G N1):∀ {rs:List ResK} {Q:(Fr→St→(List AV→Option (AV×St))→Option (AV×St))→FnC},(∀ g:Fr→St→(List AV→Option (AV×St))→Option (AV×St),(∀ fr st k out,g fr st k=some out→∃ vs,B1 rs (toL nv fr) st=some vs∧k vs=some out)→G (Q g))→G (b3z nv rs Q)
 | [],Q,h=>h _ fun fr st k out j=>⟨[],rfl,j⟩
 | r::rs,Q,h=>by unfold b3z;exact b6k l hs fun g hg=>a7R l hs fun gs i=>h _ fun fr st k out j=>by obtain⟨v,t,u⟩:=hg fr st _ _ j;obtain⟨vs,x,y⟩:=i fr st _ _ u;exact⟨v::vs,by rw[B1,t,x],y⟩
noncomputable def a7k (vs:List AV) (st:St):Option (AV×St):=List.rec (motive:=fun _=>Option (AV×St)) (some (.tuple [],st)) (fun v i _=>List.rec (motive:=fun _=>Option (AV×St)) (some (v,st)) (fun _ _ _=>some (.tuple vs,st)) i) vs
noncomputable def b2t (fn:AFn):FnC:=match Nat.ble fn.nv 64 && Nat.ble fn.np fn.nv with
 | true=>b3z fn.nv fn.results fun g=>.mk fun c n as st=>Bool.rec (motive:=fun _=>Option (AV×St)) none (b8V as fun w=>a1A ((Y0 fn.nv fn.code).run c n (fr0 w) st) fun e fr st=>a1G e (g fr st fun vs=>a7k vs st) (fun _=>none) (g fr st fun vs=>a7k vs st)) (Nat.beq (J2 as) fn.np)
 | false=>N1
noncomputable def fnC (x:Option AFn):FnC:=match x with
 | none=>N1
 | some fn=>match fn.ext with
  | some e=>.mk fun _ _ as st=>e as st
  | none=>b2t fn
theorem c9Q {vs:List AV} {st:St}:a7k vs st=(match (some vs:Option (List AV))with|some [v]=>some (v,st)|some vs=>some (.tuple vs,st)|none=>none):=by
 match vs with
 | []=>rfl
 | [_]=>rfl
 | _::_::_=>rfl
def b6m (fn:AFn) (x:FnC):Prop:=∀ c n as st out,x.run c n as st=some out→fn.run c n as st=some out
theorem b9I (fn:AFn):b6m fn (b2t fn):=by
 have hs:b6m fn N1:=fun c n as st out h=>by cases (show(none:Option (AV×St))=some _ from h)
 unfold b2t;cases l:Nat.ble fn.nv 64 && Nat.ble fn.np fn.nv with
 | false=>exact hs
 | true =>
  simp only[AA,Nat.ble_eq]at l;refine a7R l.1 hs fun g hg c n as st out h=>?_
  have h:Bool.rec (motive:=fun _=>Option (AV×St)) none (b8V as fun w=>a1A ((Y0 fn.nv fn.code).run c n (fr0 w) st) fun e fr st=>a1G e (g fr st fun vs=>a7k vs st) (fun _=>none) (g fr st fun vs=>a7k vs st)) (Nat.beq (J2 as) fn.np)=some out:=h;cases hl:Nat.beq (J2 as) fn.np with
  | false=>rw[hl]at h; cases h
  | true =>
   rw[hl]at h;have hl:=Nat.eq_of_beq_eq_true hl;rw[G0]at hl;obtain⟨w,x,y,z⟩:=d3s h;obtain⟨e,j,st',B,t⟩:=X5 x;have u:=O9 l.1 fn.code _ _ _ _ _ _ _ B;rw[e4K z hl y l.2 l.1]at u;unfold AFn.run;rw[if_pos hl,u];have fin:(g j st' fun vs=>a7k vs st')=some out→(match B1 fn.results (toL fn.nv j) st' with|some [v]=>some (v,st')|some vs=>some (.tuple vs,st')|none=>none)=some out:=fun h=>by obtain⟨vs,D,E⟩:=hg j st' _ _ h;rw[D,← E,c9Q]
   cases e with
   | normal=>exact fin t
   | exit i=>cases (show(none:Option (AV×St))=some _ from t)
   | ret=>exact fin t
noncomputable def callG (tbl:Nat→Option AFn) (n:Nat):d8:=Nat.rec (motive:=fun _=>d8) (fun _ _ _=>none) (fun n i f as st=>(fnC (tbl f)).run i n as st) n
theorem W6 {tbl:Nat→Option AFn}:∀ n,Q4 (callG tbl n) (j9 tbl n)
 | 0,f,as,st,r,h=>by cases (show(none:Option (AV×St))=some _ from h)
 | n+1,f,as,st,r,h=>by
  have h:(fnC (tbl f)).run (callG tbl n) n as st=some r:=h;unfold j9;cases j:tbl f with
  | none=>rw[j]at h; cases (show(none:Option (AV×St))=some _ from h)
  | some fn =>
   rw[j]at h;unfold fnC at h;dsimp only at h ⊢;cases i:fn.ext with
   | some e=>rw[i]at h; exact h
   | none =>rw[i]at h;exact b0u (W6 n) (AJ _) (b9I fn _ _ _ _ _ h)
theorem ev_ofG {tbl:Nat→Option AFn} {k f:Nat} {as:List AV} {st:St} {r:AV} {st':St} (h:callG tbl k f as st=some (r,st')):Ev tbl f as st r st':=⟨k,W6 k _ _ _ _ h⟩
end Go.Cb.G
namespace Go.Cb.G
open Go Go.Cb
def N:d8:=fun _ _ _=>none
theorem a6x (c:d8):∀ (a b:List AOper) (σ:Sig),g9 c (a++b) σ=match g9 c a σ with|some σ=>g9 c b σ|none=>none
 | [],b,σ=>rfl
 | o::a,b,σ=>by
  show g9 c (o::(a++b)) σ=_;rw[g9,g9];cases i7 c o σ with
  | none=>rfl
  | some σ=>exact a6x c a b σ
def sp (kill:List Nat) (ops:List AOper) (i:Nat) (fr:List AV) (st:St):Option (Sig×AOper×List AOper):=match g9 N (ops.take i) ⟨i6 kill fr,fun _=>.undef,st⟩,ops.drop i with
 | some σ,o::os=>some (σ,o,os)
 | _,_=>none
def after (kill:List Nat) (ops:List AOper) (i:Nat) (x:Opd) (fr:List AV) (st:St) (r:AV) (j:St):Option (AV×List AV×St):=match sp kill ops i fr st with
 | some (σ,o,os)=>match g9 N os (o.dst.put r { d9 o.args σ with st:=j })with
  | some σ=>some (x.read σ,σ.fr,σ.st)
  | none=>none
 | none=>none
section
variable {tbl:Nat→Option AFn}
theorem b0J {code:ACode} {k:Nat} {fr:List AV} {st:St} {out:Out} (h:exec (callG tbl k) k code fr st=some out):XC tbl code fr st out:=⟨k,s5 (W6 k) (AJ _) h⟩
def fin (rs:List ResK) (o:Option Out):Option (AV×St):=match o with
 | some (.exit _,_,_)=>none
 | some (_,fr,st)=>match B1 rs fr st with
  | some [v]=>some (v,st)
  | some vs=>some (.tuple vs,st)
  | none=>none
 | none=>none
def g7y (x:Option (AV×St)):Option AV:=match x with
 | some (v,_)=>some v
 | none=>none
def FX (tbl:Nat→Option AFn) (rs:List ResK) (code:ACode) (fr:List AV) (st:St) (v:AV):Prop:=∃ out st',XC tbl code fr st out∧fin rs (some out)=some (v,st')
theorem FX.seq {rs:List ResK} {a b:ACode} {fr i:List AV} {st j:St} {v:AV} (h:XC tbl a fr st (.normal,i,j)) (t:FX tbl rs b i j v):FX tbl rs (.seq a b) fr st v:=by obtain⟨⟨e,l,st'⟩,s,u,x⟩:=t;exact⟨_,s,XC.seq h u,x⟩
theorem FX.G {rs:List ResK} {code:ACode} {k:Nat} {fr:List AV} {st:St} {v:AV} (h:g7y (fin rs (exec (callG tbl k) k code fr st))=some v):FX tbl rs code fr st v:=by
 cases j:exec (callG tbl k) k code fr st with
 | none=>rw[j]at h; cases h
 | some o =>
  rw[j]at h;cases i:fin rs (some o)with
  | none=>rw[i]at h; cases h
  | some p =>obtain⟨w,s⟩:=p;rw[i]at h;cases (show some w=some v from h);exact⟨o,s,b0J j,i⟩
theorem FX.run {rs:List ResK} {code:ACode} {fr:List AV} {st:St} {v:AV} {f:Nat} {fn:AFn} {as:List AV} (t:tbl f=some fn) (z:fn.ext=none) (hl:as.length=fn.np) (B:fn.results=rs) (y:fn.code=code)
 (l:as++List.replicate (fn.nv - fn.np) .undef=fr) (h:FX tbl rs code fr st v):∃ n st',j9 tbl n f as st=some (v,st'):=by
 obtain⟨⟨e,u,D⟩,s,⟨n,x⟩,j⟩:=h;refine⟨n+1,s,?_⟩;unfold j9;rw[t];dsimp only;rw[z];dsimp only;unfold AFn.run;rw[if_pos hl,y,l,x,B];cases e with
 | exit i=>cases j
 | normal=>exact j
 | ret=>exact j
end
end Go.Cb.G
namespace Go.Cb
open Classical
def shN (L d a:Nat):Nat:=if a < L then a else a+d
mutual
def AV.sh (L d:Nat):AV→AV
 | .undef=>.undef
 | .bool b=>.bool b
 | .int k n=>.int k n
 | .str s=>.str s
 | .list o xs=>.list o (N9 L d xs)
 | .ptr o f=>.ptr (shN L d o) f
 | .nilp=>.nilp
 | .ro cs=>.ro (I8 L d cs)
 | .loc i f=>.loc i f
 | .box cs=>.box (I8 L d cs)
 | .map o=>.map (shN L d o)
 | .nilm=>.nilm
 | .func f a c=>.func f (I8 L d a) (I8 L d c)
 | .nilf=>.nilf
 | .agg cs=>.agg (I8 L d cs)
 | .tuple vs=>.tuple (I8 L d vs)
 | .iface t v=>.iface t (v.sh L d)
 | .nili=>.nili
 | .sl o f n s=>.sl (shN L d o) f n s
 | .fresh xs=>.fresh (N9 L d xs)
 | .nils=>.nils
def I8 (L d:Nat):List AV→List AV
 | []=>[]
 | a::as=>a.sh L d::I8 L d as
def N9 (L d:Nat):List (List AV)→List (List AV)
 | []=>[]
 | r::rs=>I8 L d r::N9 L d rs
end
def Obj.sh (L d:Nat):Obj→Obj
 | .cells cs=>.cells (cs.map (AV.sh L d))
 | .map es=>.map (es.map fun e=>(e.1.sh L d,e.2.sh L d))
 | .dead=>.dead
def shS (L:Nat) (ext st:St):St:=(st.take L).map (Obj.sh L ext.length)++ext++(st.drop L).map (Obj.sh L ext.length)
section
variable {L d:Nat}
theorem m2:∀ as:List AV,I8 L d as=as.map (AV.sh L d)
 | []=>rfl
 | a::as=>by rw[I8,m2 as]; rfl
theorem x8:∀ rs:List (List AV),N9 L d rs=rs.map (·.map (AV.sh L d))
 | []=>rfl
 | r::rs=>by rw[N9,x8 rs,m2]; rfl
theorem b49 {a b:Nat}:Nat.beq a b=false↔a≠b:=by rw[← Bool.not_eq_true,Nat.beq_eq]
theorem shN_inj {a b:Nat}:shN L d a=shN L d b↔a=b:=by unfold shN;split<;>split<;>omega
theorem a3k (a:AV):(a.weak1).sh L d=(a.sh L d).weak1:=by cases a<;>simp only[AV.weak1,AV.sh]
theorem X6 (cs:List AV):(cs.map AV.weak1).map (AV.sh L d)=(cs.map (AV.sh L d)).map AV.weak1:=by rw[List.map_map,List.map_map];exact List.map_congr_left fun a _=>a3k a
theorem U3 (a:AV):(a.weak).sh L d=(a.sh L d).weak:=by cases a<;>simp only[AV.weak,AV.sh,m2,X6]
theorem a5I (cs:List AV):(cs.map AV.weak).map (AV.sh L d)=(cs.map (AV.sh L d)).map AV.weak:=by rw[List.map_map,List.map_map];exact List.map_congr_left fun a _=>U3 a
theorem a1z (a:AV):(a.sh L d).cells=a.cells.map (AV.sh L d):=by cases a<;>simp only[AV.cells,AV.sh,m2,AG,AL]
theorem a7Z (a:AV):(a.sh L d).cellsW=a.cellsW.map (AV.sh L d):=by cases a<;>simp only[AV.cellsW,AV.sh,m2,x8,AG,AL,List.isEmpty_map]
theorem b50 (a:AV):(a.sh L d).cellW1=a.cellW1.sh L d:=by cases a<;>simp only[AV.cellW1,AV.sh,m2,x8,List.isEmpty_map]
theorem b27 (cs:List AV):(cs.map (AV.sh L d)).map AV.cellW1=(cs.map AV.cellW1).map (AV.sh L d):=by rw[List.map_map,List.map_map];exact List.map_congr_left fun a _=>b50 a
theorem M2 (a:AV):(a.sh L d).plain=a.plain:=by cases a<;>rfl
theorem a0l:∀ as:List AV,m8 (as.map (AV.sh L d))=m8 as
 | []=>rfl
 | a::as=>by rw[AG,m8,m8,M2,a0l as]
theorem b77 (a:AV):(a.strip).sh L d=(a.sh L d).strip:=by cases a<;>rfl
theorem b6Y (a:AV):(a.stripB).sh L d=(a.sh L d).stripB:=by cases a<;>rfl
theorem H3 (i:Bool) (n:Nat) (cs:List AV):j0 i n (cs.map (AV.sh L d))=(j0 i n cs).map (AV.sh L d):=by
 unfold j0;rw[AF];split
 · split
   · rw[AN,← List.map_take,AV.sh,m2,X6]
   · rfl
 · cases cs with
   | nil=>rfl
   | cons c cs=>rw[AG]; dsimp only; rw[AN,a3k]
theorem W7 (n:Nat) (cs:List AV):(cs.map (AV.sh L d)).drop n=(cs.drop n).map (AV.sh L d):=(List.map_drop).symm
theorem a3p (cs new:List AV) (off:Nat):n8 (cs.map (AV.sh L d)) off (new.map (AV.sh L d))=(n8 cs off new).map (AV.sh L d):=by unfold n8;rw[AR,AR,AF,List.map_take,List.map_drop]
theorem O4 (i:Nat) (xs:List (List AV)):m4 i (xs.map (·.map (AV.sh L d)))=m4 i xs:=by
 cases xs with
 | nil=>rfl
 | cons r rs=>simp only[AG,m4,AF]
theorem a5f:∀ (i:List (Nat×Nat)) (j cs out:List AV),x9 i j cs=some out→x9 i (j.map (AV.sh L d)) (cs.map (AV.sh L d))=some (out.map (AV.sh L d))
 | [],[],cs,out,h=>by simp only[x9]at h ⊢; cases h; rfl
 | (off,n)::i,p::j,cs,out,h=>by
  rw[x9]at h;split at h
  · rename_i l;rw[AG,x9,M2,a1z,AF,AF,if_pos l,a3p];exact a5f i j _ out h
  · cases h
 | [],_::_,_,_,h=>by simp[x9]at h
 | _::_,[],_,_,h=>by simp[x9]at h
theorem a4W (l:Nat):∀ (is:List Nat) (j:List AV) (rs out:List (List AV)),s8 l is j rs=some out→s8 l is (j.map (AV.sh L d)) (rs.map (·.map (AV.sh L d)))=some (out.map (·.map (AV.sh L d)))
 | [],[],rs,out,h=>by simp only[s8]at h ⊢; cases h; rfl
 | i::is,p::j,rs,out,h=>by
  rw[s8]at h;split at h
  · rename_i t;rw[AG,s8,M2,a1z,AF,AF,if_pos t,← X6,← List.map_set];exact a4W l is j _ out h
  · cases h
 | [],_::_,_,_,h=>by simp[s8]at h
 | _::_,[],_,_,h=>by simp[s8]at h
theorem a1d (l:Nat):∀ (is:List Nat) (j:List AV) (rs out:List (List AV)),m9 l is j rs=some out→m9 l is (j.map (AV.sh L d)) (rs.map (·.map (AV.sh L d)))=some (out.map (·.map (AV.sh L d)))
 | [],[],rs,out,h=>by simp only[m9]at h ⊢; cases h; rfl
 | i::is,p::j,rs,out,h=>by
  rw[m9]at h;split at h
  · rename_i t;rw[AG,m9,M2,a1z,AF,AF,if_pos t,b27,← List.map_set];exact a1d l is j _ out h
  · cases h
 | [],_::_,_,_,h=>by simp[m9]at h
 | _::_,[],_,_,h=>by simp[m9]at h
theorem b8d (x:AV) (n:Nat):M4 (x.sh L d) n=M4 x n:=by cases x<;>rfl
theorem a1R (i hi:Bool) (as:List AV) (n:Nat):C7 i hi (as.map (AV.sh L d)) n=C7 i hi as n:=by cases i<;>cases hi<;>rcases as with _|⟨a,_|⟨b,_|⟨c,as⟩⟩⟩<;>simp only[AG,AL,C7,b8d]
theorem b0x (i:Nat) (a b:AV):K9 i (a.sh L d) (b.sh L d)=K9 i a b:=by cases a<;>cases b<;>rfl
theorem a5R (j:Nat) (k:AV):∀ (es:List (AV×AV)) (i:Nat),D6 j (k.sh L d) (es.map fun e=>(e.1.sh L d,e.2.sh L d)) i=(D6 j k es i).map (Option.map fun r=>(r.1,r.2.sh L d))
 | [],_=>rfl
 | (k',v)::es,i=>by
  rw[AG,D6,D6,b0x];cases K9 j k k' with
  | none=>rfl
  | some b=>cases b with
   | true=>rfl
   | false=>exact a5R j k es (i+1)
theorem a6u:∀ xs:List (List AV),D9 (xs.map (·.map (AV.sh L d)))=D9 xs
 | []=>rfl
 | []::_=>rfl
 | [a]::rs=>by have i:=a6u rs;cases a<;>simp only[AG,AL,AV.sh,D9];rename_i k n;cases k<;>simp only[D9];rw[i]
 | (a::b::c)::r=>by
  have h:∀ (x y:AV) (u:List AV) (w:List (List AV)),D9 ((x::y::u)::w)=none:=fun x y u w=>by cases x<;>simp only[D9]
  rw[AG,AG,AG,h,h]
theorem a7U (i:Nat):∀ (n:Nat) (cs:List AV),P7 i n (cs.map (AV.sh L d))=(P7 i n cs).map (·.map (AV.sh L d))
 | 0,_=>rfl
 | n+1,cs=>by rw[P7,P7,AG,W7,a7U i n,List.map_take]
theorem a0V (xs:List (List AV)):(xs.map (·.map (AV.sh L d))).flatten=xs.flatten.map (AV.sh L d):=by rw[List.map_flatten]
theorem c3H (op:BinOp) (a b r:AV) (h:l8 op a b=some r):l8 op (a.sh L d) (b.sh L d)=some (r.sh L d):=by
 have i:r.sh L d=r:=by
  unfold l8 at h;split at h
  · cases op<;>dsimp only at h<;>(repeat' split at h)<;>first|(cases h; rfl)|cases h
  · cases op<;>dsimp only at h<;>(repeat' split at h)<;>first|(cases h; rfl)|cases h
  · cases h
 rw[i,← h];unfold l8 at h;split at h
 · rfl
 · rfl
 · cases h
theorem a1O (a:AV):L5 (a.sh L d)=(L5 a).map (shN L d):=by cases a<;>rfl
end
section
variable {L:Nat} {ext:St}
theorem a7t {st:St} (h:L≤st.length):(shS L ext st).length=st.length+ext.length:=by unfold shS;simp only[AE,AF,AO,List.length_drop];omega
theorem J8 {st:St} (h:L≤st.length):shN L ext.length st.length=(shS L ext st).length:=by rw[a7t h,shN,if_neg (by omega)]
theorem T5 {st:St} (h:L≤st.length) (o:Nat):(shS L ext st)[shN L ext.length o]?=(st[o]?).map (Obj.sh L ext.length):=by
 unfold shS shN;split
 · rename_i j;rw[AU,List.getElem?_append_left (by simp; omega),AQ,List.getElem?_take,if_pos j]
 · rename_i j;have i:((st.take L).map (Obj.sh L ext.length)++ext).length=L+ext.length:=by simp; omega
   rw[List.getElem?_append_right (by rw[i]; omega),i,AQ,List.getElem?_drop];congr 2;omega
theorem N5 {st:St} (h:L≤st.length) (x:Obj):shS L ext (st++[x])=shS L ext st++[x.sh L ext.length]:=by unfold shS;rw[List.take_append_of_le_length h,List.drop_append_of_le_length h,AR,← AU];rfl
theorem Z6 {st:St} (h:L≤st.length) (o:Nat) (x:Obj):shS L ext (st.set o x)=(shS L ext st).set (shN L ext.length o) (x.sh L ext.length):=by
 apply List.ext_getElem?;intro j;by_cases t:∃ i,j=shN L ext.length i
 · obtain⟨i,rfl⟩:=t;rw[T5 (by simpa using h),List.getElem?_set,List.getElem?_set];by_cases e:o=i
   · subst e;rw[if_pos rfl,if_pos rfl,a7t h];by_cases hl:o < st.length
     · rw[if_pos hl,if_pos (by unfold shN; split<;>omega)]; rfl
     · rw[if_neg hl,if_neg (by unfold shN; split<;>omega)]; rfl
   · rw[if_neg e,if_neg (fun h=>e (shN_inj.1 h)),T5 h]
 · have z:L≤j∧j < L+ext.length:=by
    refine Decidable.byContradiction fun B=>t ?_
    by_cases y:j < L
    · exact⟨j,by rw[shN,if_pos y]⟩
    · exact⟨j - ext.length,by rw[shN,if_neg (by omega)]; omega⟩
   have u:shN L ext.length o≠j:=fun e=>t ⟨o,e.symm⟩
   rw[List.getElem?_set,if_neg u];have l:∀ s:St,L≤s.length→(shS L ext s)[j]?=ext[j - L]?:=by
    intro s hs;unfold shS;have v:((s.take L).map (Obj.sh L ext.length)).length=L:=by simp; omega
    rw[AU,List.getElem?_append_right (by rw[v]; omega),v,List.getElem?_append_left (by omega)]
   rw[l _ (by simpa using h),l _ h]
def shR (L:Nat) (ext:St) (r:AV×AV×St):AV×AV×St:=(r.1.sh L ext.length,r.2.1.sh L ext.length,shS L ext r.2.2)
def U7 (L:Nat) (ext:St) (call:d8):Prop:=∀ f as st r st',L≤st.length→call f as st=some (r,st')→call f (as.map (AV.sh L ext.length)) (shS L ext st)=some (r.sh L ext.length,shS L ext st')∧L≤st'.length
def SemSh (L:Nat) (ext:St) (f:List AV→AV→St→Option (AV×AV×St)) (as:List AV) (bx:AV) (st:St):Prop :=
 ∀ r,f as bx st=some r→f (as.map (AV.sh L ext.length)) (bx.sh L ext.length) (shS L ext st)=some (shR L ext r)∧L≤r.2.2.length
mutual
def AV.shut:AV→Bool
 | .list _ xs=>Y1 xs
 | .ptr ..=>false
 | .ro cs=>I7 cs
 | .box cs=>I7 cs
 | .map _=>false
 | .func _ a c=>I7 a && I7 c
 | .agg cs=>I7 cs
 | .tuple vs=>I7 vs
 | .iface _ v=>v.shut
 | .sl ..=>false
 | .fresh xs=>Y1 xs
 | _=>true
def I7:List AV→Bool
 | []=>true
 | a::as=>a.shut && I7 as
def Y1:List (List AV)→Bool
 | []=>true
 | r::rs=>I7 r && Y1 rs
end
end
mutual
theorem a7F (L d:Nat):∀ a:AV,a.shut=true→a.sh L d=a
 | .undef,_=>rfl
 | .bool b,_=>rfl
 | .int k n,_=>rfl
 | .str s,_=>rfl
 | .list o xs,h=>by rw[AV.sh,W9 L d xs (by simpa[AV.shut]using h)]
 | .ptr o f,h=>by simp[AV.shut]at h
 | .nilp,_=>rfl
 | .ro cs,h=>by rw[AV.sh,E2 L d cs (by simpa[AV.shut]using h)]
 | .loc i f,_=>rfl
 | .box cs,h=>by rw[AV.sh,E2 L d cs (by simpa[AV.shut]using h)]
 | .map o,h=>by simp[AV.shut]at h
 | .nilm,_=>rfl
 | .func f a c,h=>by simp only[AV.shut,AA]at h;rw[AV.sh,E2 L d a h.1,E2 L d c h.2]
 | .nilf,_=>rfl
 | .agg cs,h=>by rw[AV.sh,E2 L d cs (by simpa[AV.shut]using h)]
 | .tuple vs,h=>by rw[AV.sh,E2 L d vs (by simpa[AV.shut]using h)]
 | .iface t v,h=>by rw[AV.sh,a7F L d v (by simpa[AV.shut]using h)]
 | .nili,_=>rfl
 | .sl o f n s,h=>by simp[AV.shut]at h
 | .fresh xs,h=>by rw[AV.sh,W9 L d xs (by simpa[AV.shut]using h)]
 | .nils,_=>rfl
theorem E2 (L d:Nat):∀ as:List AV,I7 as=true→I8 L d as=as
 | [],_=>rfl
 | a::as,h=>by simp only[I7,AA]at h;rw[I8,a7F L d a h.1,E2 L d as h.2]
theorem W9 (L d:Nat):∀ rs:List (List AV),Y1 rs=true→N9 L d rs=rs
 | [],_=>rfl
 | r::rs,h=>by simp only[Y1,AA]at h;rw[N9,E2 L d r h.1,W9 L d rs h.2]
end
def Kind.shut:Kind→Bool
 | .alloc z|.allocO z|.build z _|.mget _ z _ _=>I7 z
 | .bslice _ z _|.bsliceM _ z _|.bsliceO _ z _=>Y1 z
 | _=>true
section
variable {L:Nat} {ext:St}
theorem b1J {st st':St} (h:L≤st.length) (j:L≤st'.length):∀ gs:List AV,kept st st' gs=true→kept (shS L ext st) (shS L ext st') (gs.map (AV.sh L ext.length))=true
 | [],_=>rfl
 | g::gs,hk=>by
  rw[AG];simp only[kept,AA]at hk ⊢;refine⟨?_,b1J h j gs hk.2⟩;have hk:=hk.1;rw[a1O];cases t:L5 g with
  | none=>rw[t]at hk; cases hk
  | some p =>
   rw[t]at hk;simp only[AN,T5 h,T5 j]at hk ⊢;cases i:st[p]? with
   | none=>rw[i]at hk; cases hk
   | some a =>
    cases l:st'[p]? with
    | none=>rw[i,l]at hk; cases hk
    | some b =>rw[i,l]at hk;simp only[AN]at hk ⊢;rw[(a0s _ _).1 hk];exact(a0s _ _).2 rfl
theorem a0a {st:St} (h:L≤st.length) (o:Option Nat):∀ gs:List AV,J1 o st.length gs=true→J1 (o.map (shN L ext.length)) (shS L ext st).length (gs.map (AV.sh L ext.length))=true
 | [],_=>rfl
 | g::gs,hk=>by
  rw[AG];simp only[J1,AA]at hk ⊢;refine⟨?_,a0a h o gs hk.2⟩;have hk:=hk.1;rw[a1O];cases j:L5 g with
  | none=>rw[j]at hk; cases hk
  | some p =>
   rw[j]at hk;simp only[AN,AA]at hk ⊢;obtain⟨l,i⟩:=hk;refine⟨?_,?_⟩
   · rw[Nat.blt_eq]at l ⊢;rw[← J8 h];unfold shN;split<;>split<;>omega
   · cases o with
     | none=>rfl
     | some q =>simp only[AN,Bool.not_eq_true',b49]at i ⊢;exact fun e=>i (shN_inj.1 e)
end
end Go.Cb
namespace Go.Cb
open Classical
section
variable {L:Nat} {ext:St} {call:d8} {as:List AV} {bx:AV} {st:St}
theorem q7 {α β:Type} {x:Option α} {f:α→β} {r:β} (h:x.map f=some r):∃ a,x=some a∧f a=r:=AK.1 h
theorem SemSh.of (j:L≤st.length) {f:List AV→AV→St→Option (AV×AV×St)} (h:∀ r b s,f as bx st=some (r,b,s)→s=st∧f (as.map (AV.sh L ext.length)) (bx.sh L ext.length) (shS L ext st)=some (r.sh L ext.length,b.sh L ext.length,shS L ext st)):SemSh L ext f as bx st:=by rintro⟨r,b,s⟩ l;obtain⟨rfl,i⟩:=h r b s l;exact⟨i,j⟩
theorem g0L (i:L≤st.length):SemSh L ext (a0k call) as bx st:=SemSh.of i fun r b s h=>by
 unfold a0k at h;split at h
 · cases h; exact⟨rfl,rfl⟩
 · cases h
theorem d1W (l:L≤st.length):SemSh L ext (A9 call) as bx st:=SemSh.of l fun r b s h=>by
 unfold A9 at h;split at h
 · rename_i c x y;have:AV.sh L ext.length (.bool c)=.bool c:=rfl;simp only[A9,AG,AL,AV.sh,M2];split at h
   · rename_i i;rw[if_pos i];split at h
     · rename_i j; rw[if_pos j]; cases h; exact⟨rfl,rfl⟩
     · cases h
   · rename_i i;rw[if_neg i];split at h
     · rename_i j; rw[if_pos j]; cases h; exact⟨rfl,rfl⟩
     · cases h
 · cases h
theorem b5a (i:L≤st.length):SemSh L ext (B6 call) as bx st:=SemSh.of i fun r b s h=>by unfold B6 at h;split at h<;>first|(cases h; exact⟨rfl,rfl⟩)|cases h
theorem b7G {z:List AV} (j:I7 z=true) (i:L≤st.length):SemSh L ext (O8 z call) as bx st:=SemSh.of i fun r b s h=>by
 unfold O8 at h;split at h
 · cases h;refine⟨rfl,?_⟩;show some (AV.undef,AV.box z,_)=some (AV.undef,AV.box (I8 L ext.length z),_);rw[E2 _ _ _ j]
 · cases h
theorem c6X (i:L≤st.length):SemSh L ext (Q5 call) as bx st:=SemSh.of i fun r b s h=>by
 unfold Q5 at h;split at h
 · rename_i a;split at h
   · rename_i j;cases h;refine⟨rfl,?_⟩;simp only[Q5,AG,AL,AV.sh,M2,j,if_true,a7Z,m2]
   · cases h
 · cases h
theorem b8T {z:List AV} {i:List (Nat×Nat)} (u:I7 z=true) (t:L≤st.length):SemSh L ext (I9 z i call) as bx st:=SemSh.of t fun r b s h=>by unfold I9 at h ⊢;obtain⟨cs,j,l⟩:=q7 h;cases l;refine⟨rfl,?_⟩;have:=a5f (L:=L) (d:=ext.length) i as z cs j;rw[← m2 z,E2 _ _ _ u]at this;rw[this,AN,AV.sh,m2]
theorem b66 {n:Nat} {z:List (List AV)} {at_:List Nat} (t:Y1 z=true) (l:L≤st.length):SemSh L ext (H5 n z at_ call) as bx st:=SemSh.of l fun r b s h=>by unfold H5 at h ⊢;obtain⟨cs,i,j⟩:=q7 h;cases j;refine⟨rfl,?_⟩;have:=a4W (L:=L) (d:=ext.length) n at_ as z cs i;rw[← x8 z,W9 _ _ _ t]at this;rw[this,AN,AV.sh,x8]
theorem b4B {n:Nat} {z:List (List AV)} {at_:List Nat} (t:Y1 z=true) (l:L≤st.length):SemSh L ext (F3 n z at_ call) as bx st:=SemSh.of l fun r b s h=>by unfold F3 at h ⊢;obtain⟨cs,i,j⟩:=q7 h;cases j;refine⟨rfl,?_⟩;have:=a1d (L:=L) (d:=ext.length) n at_ as z cs i;rw[← x8 z,W9 _ _ _ t]at this;rw[this,AN,AV.sh,x8]
theorem b4R {n:Nat} {z:List (List AV)} {at_:List Nat} (l:Y1 z=true) (i:L≤st.length):SemSh L ext (F2 n z at_ call) as bx st:=by rintro r h;unfold F2 at h ⊢;obtain⟨cs,j,rfl⟩:=q7 h;have:=a1d (L:=L) (d:=ext.length) n at_ as z cs j;rw[← x8 z,W9 _ _ _ l]at this;refine⟨?_,by simp; omega⟩;rw[this,AN,shR,N5 i,AV.sh,J8 i];simp only[Obj.sh,a0V]
theorem d0t (i:L≤st.length):SemSh L ext (R3 call) as bx st:=SemSh.of i fun r b s h=>by
 unfold R3 at h;split at h
 · rename_i k a j c;split at h
   · rename_i hk; cases h; subst hk; exact⟨rfl,by simp only[R3,AG,AL,AV.sh,if_true]⟩
   · cases h
 · cases h
theorem c5Q {neg:Bool} (i:L≤st.length):SemSh L ext (Q6 neg call) as bx st:=SemSh.of i fun r b s h=>by
 unfold Q6 at h;split at h
 · split at h
   · rename_i hk; cases h; subst hk; exact⟨rfl,by simp only[Q6,AG,AL,AV.sh,I8,if_true]⟩
   · cases h
 · cases h
theorem c0F {i n:Nat} {l:Bool} (v:L≤st.length):SemSh L ext (G4 i l n call) as bx st:=SemSh.of v fun r b s h=>by
 unfold G4 at h;split at h
 · rename_i j off cs;split at h
   · rename_i x;obtain⟨a,t,u⟩:=q7 h;cases u;refine⟨rfl,?_⟩;simp only[G4,AG,AL,AV.sh,x,if_true,m2,W7,H3,t,AN]
   · cases h
 · cases h
theorem U0 {o:Nat} {cs:List AV} (i:L≤st.length) (h:st[o]?=some (.cells cs)):(shS L ext st)[shN L ext.length o]?=some (.cells (cs.map (AV.sh L ext.length))):=by rw[T5 i,h]; rfl
theorem c0v {o:Nat} {es:List (AV×AV)} (i:L≤st.length) (h:st[o]?=some (.map es)):(shS L ext st)[shN L ext.length o]?=some (.map (es.map fun e=>(e.1.sh L ext.length,e.2.sh L ext.length))):=by rw[T5 i,h]; rfl
theorem b19 {n:Nat} {j:Bool} (i:L≤st.length):SemSh L ext (B0 j n call) as bx st:=SemSh.of i fun r b s h=>by
 unfold B0 at h;split at h
 · rename_i o off;split at h
   · rename_i cs u;obtain⟨a,l,t⟩:=q7 h;cases t;refine⟨rfl,?_⟩;simp only[B0,AG,AL,AV.sh,U0 i u,W7,H3,l,AN]
   · cases h
 · cases h
theorem c6A {n:Nat} {i:Bool} (t:L≤st.length):SemSh L ext (J7 i n call) as bx st:=SemSh.of t fun r b s h=>by
 unfold J7 at h;split at h
 · obtain⟨a,j,l⟩:=q7 h;cases l;refine⟨rfl,?_⟩;simp only[J7,AG,AL,AV.sh,m2,H3,j,AN]
 · cases h
theorem c7A {n:Nat} {t:Bool} (l:L≤st.length):SemSh L ext (D3 t n call) as bx st:=SemSh.of l fun r b s h=>by
 unfold D3 at h;split at h
 · obtain⟨a,i,j⟩:=q7 h;cases j;refine⟨rfl,?_⟩;simp only[D3,AG,AL,AV.sh,m2,H3,i,AN]
 · rename_i o off;split at h
   · rename_i cs u;obtain⟨a,i,j⟩:=q7 h;cases j;refine⟨rfl,?_⟩;simp only[D3,AG,AL,AV.sh,U0 l u,W7,H3,i,AN]
   · cases h
 · cases h
theorem b8s {i:Nat} (l:L≤st.length):SemSh L ext (I6 i call) as bx st:=SemSh.of l fun r b s h=>by
 unfold I6 at h;split at h
 · rename_i j off cs;split at h
   · rename_i u;split at h
     · rename_i c t;cases h;refine⟨rfl,?_⟩;simp only[I6,AG,AL,AV.sh,u,if_true,m2,AQ,t,AN,List.map_set,a3k]
     · cases h
   · cases h
 · cases h
theorem a8G (i:L≤st.length):SemSh L ext (B2 call) as bx st:=by
 rintro⟨r,b,s⟩ h;unfold B2 at h;split at h
 · rename_i o off;split at h
   · rename_i cs l;split at h
     · rename_i c j;cases h;refine⟨?_,by simpa using i⟩;simp only[B2,AG,AL,AV.sh,U0 i l,AQ,j,AN,shR,Z6 i,Obj.sh,List.map_set,a3k]
     · cases h
   · cases h
 · cases h
theorem d1j {i n:Nat} (l:L≤st.length):SemSh L ext (J5 i n call) as bx st:=SemSh.of l fun r b s h=>by
 unfold J5 at h;split at h
 · rename_i j off x cs;split at h
   · rename_i t;cases h;refine⟨rfl,?_⟩;simp only[J5,AG,AL,AV.sh,M2,a1z,AF,m2];rw[if_pos t,a3p]
   · cases h
 · cases h
theorem b1N {n:Nat} (i:L≤st.length):SemSh L ext (D2 n call) as bx st:=by
 rintro⟨r,b,s⟩ h;unfold D2 at h;split at h
 · rename_i o off x;split at h
   · rename_i cs j;split at h
     · rename_i l;rw[fL_eq]at h;cases h;refine⟨?_,by simpa using i⟩;simp only[D2,AG,AL,AV.sh,U0 i j,M2,a1z,AF,fL_eq];rw[if_pos l,a3p,shR,Z6 i];rfl
     · cases h
   · cases h
 · cases h
theorem e7Z {n:Nat} (i:L≤st.length):SemSh L ext (K6 n call) as bx st:=SemSh.of i fun r b s h=>by
 unfold K6 at h;split at h
 · cases h; exact⟨rfl,rfl⟩
 · cases h; exact⟨rfl,rfl⟩
 · cases h; exact⟨rfl,by simp only[K6,AG,AL,AV.sh,m2,W7]⟩
 · cases h
theorem e85 {o n:Nat} {i:Bool} (t:L≤st.length):SemSh L ext (P8 o n i call) as bx st:=SemSh.of t fun r b s h=>by
 unfold P8 at h;split at h
 · split at h
   · rename_i u;obtain⟨a,j,l⟩:=q7 h;cases l;refine⟨rfl,?_⟩;simp only[P8,AG,AL,AV.sh,m2,AF,u,if_true,W7,H3,j,AN]
   · cases h
 · cases h
theorem f21 {n:Nat} (l:L≤st.length):SemSh L ext (I1 n call) as bx st:=SemSh.of l fun r b s h=>by
 unfold I1 at h;split at h
 · rename_i xs k i;split at h
   · rename_i j;split at h
     · rename_i v u;split at h
       · rename_i hl;cases h;refine⟨rfl,?_⟩;simp only[I1,AG,AL,AV.sh,x8,j,if_true,AQ,u,AN,AF,hl,m2]
       · cases h
     · cases h
   · cases h
 · rename_i j;split at h
   · rename_i t;cases h;refine⟨rfl,?_⟩;simp only[I1,AG,AL,AV.sh];rw[if_pos t]
   · cases h
 · cases h
theorem c5B {l n:Nat} (j:L≤st.length):SemSh L ext (E0 l n call) as bx st:=SemSh.of j fun r b s h=>by
 unfold E0 at h;split at h
 · split at h
   · rename_i i; cases h; refine⟨rfl,?_⟩; simp only[E0,AG,AL,AV.sh,m2]; rw[if_pos i,W7]
   · cases h
 · split at h
   · rename_i i; cases h; refine⟨rfl,?_⟩; simp only[E0,AG,AL,AV.sh]; rw[if_pos i]
   · cases h
 · split at h
   · rename_i i; cases h; refine⟨rfl,?_⟩; simp only[E0,AG,AL,AV.sh]; rw[if_pos i]
   · cases h
 · cases h
theorem c62 (j:L≤st.length):SemSh L ext (H8 call) as bx st:=SemSh.of j fun r b s h=>by
 unfold H8 at h;split at h
 · split at h
   · rename_i i;split at h
     · rename_i l; cases h; refine⟨rfl,?_⟩; simp only[H8,AG,AL,AV.sh,i,if_true,l]
     · cases h
   · cases h
 · cases h
theorem f0C {t hi:Bool} (l:L≤st.length):SemSh L ext (N3 t hi call) as bx st:=SemSh.of l fun r b s h=>by
 unfold N3 at h;split at h
 · obtain⟨p,i,j⟩:=q7 h;cases j;refine⟨rfl,?_⟩;simp only[N3,AG,AV.sh,a1R,i,AN]
 · cases h
theorem e8x {n:Nat} {u hi:Bool} (t:L≤st.length):SemSh L ext (L4 n u hi call) as bx st:=SemSh.of t fun r b s h=>by
 unfold L4 at h;split at h
 · split at h
   · rename_i l;obtain⟨p,i,j⟩:=q7 h;cases j;refine⟨rfl,?_⟩;simp only[L4,AG,AV.sh,x8,O4,l,if_true,AF,a1R,i,AN,List.map_take,List.map_drop]
   · cases h
 · split at h
   · rename_i l;obtain⟨p,i,j⟩:=q7 h;cases j;refine⟨rfl,?_⟩;simp only[L4,AG,AV.sh,l,if_true];unfold slB at i ⊢;rw[a1R,i];rfl
   · cases h
 · cases h
theorem f2W (i:L≤st.length):SemSh L ext (T1 call) as bx st:=SemSh.of i fun r b s h=>by
 unfold T1 at h;split at h
 · cases h; exact⟨rfl,rfl⟩
 · cases h
theorem f1w {l n:Nat} {v hi:Bool} (t:L≤st.length):SemSh L ext (P9 l n v hi call) as bx st:=SemSh.of t fun r b s h=>by
 unfold P9 at h;split at h
 · split at h
   · rename_i u;obtain⟨p,i,j⟩:=q7 h;cases j;refine⟨rfl,?_⟩;simp only[P9,AG,AV.sh,m2,AF,u,if_true,a1R,i,AN,a7U,x8,List.map_take,List.map_drop]
   · cases h
 · cases h
theorem e0f {op:BinOp} (l:L≤st.length):SemSh L ext (z6 op call) as bx st:=SemSh.of l fun r b s h=>by
 unfold z6 at h;split at h
 · obtain⟨p,i,j⟩:=q7 h;cases j;refine⟨rfl,?_⟩;simp only[z6,AG,AL,c3H op _ _ _ i,AN]
 · cases h
theorem d3Y {op:BinOp} (l:L≤st.length):SemSh L ext (N8 op call) as bx st:=SemSh.of l fun r b s h=>by
 unfold N8 at h;split at h
 · rename_i x y;obtain⟨p,i,j⟩:=q7 h;cases j;refine⟨rfl,?_⟩;unfold a4y at i;split at i
   · split at i<;>first|(cases i; rfl)|cases i
   · cases i
 · cases h
theorem c0T {op:BinOp} (l:L≤st.length):SemSh L ext (I0 op call) as bx st:=SemSh.of l fun r b s h=>by
 unfold I0 at h;split at h
 · rename_i x y;obtain⟨p,i,j⟩:=q7 h;cases j;refine⟨rfl,?_⟩;unfold X9 at i;split at i;all_goals first|cases i|skip
   all_goals (split at i<;>first|(cases i; rfl)|cases i)
 · cases h
theorem g11 {op:UnOp} (i:L≤st.length):SemSh L ext (W2 op call) as bx st:=SemSh.of i fun r b s h=>by unfold W2 at h;split at h<;>first|(cases h; exact⟨rfl,rfl⟩)|cases h
theorem d25 {k:IntKind} (i:L≤st.length):SemSh L ext (O1 k call) as bx st:=SemSh.of i fun r b s h=>by unfold O1 at h;split at h<;>first|(cases h; exact⟨rfl,rfl⟩)|cases h
theorem e2H {f n:Nat} (i:L≤st.length):SemSh L ext (S2 f n call) as bx st:=SemSh.of i fun r b s h=>by
 unfold S2 at h ⊢;split at h
 · rename_i j;cases h;refine⟨rfl,?_⟩;rw[a0l,if_pos j,AV.sh,m2,m2,← a5I,List.map_take,List.map_drop]
 · cases h
theorem f27 (i:L≤st.length):SemSh L ext (S8 call) as bx st:=by
 rintro⟨r,b,s⟩ h;unfold S8 at h;split at h
 · cases h;refine⟨?_,by simp; omega⟩;simp only[S8,AL,shR,N5 i,AV.sh,J8 i];rfl
 · cases h
theorem b55 {z:List AV} (j:I7 z=true) (i:L≤st.length):SemSh L ext (E4 z call) as bx st:=by
 rintro⟨r,b,s⟩ h;unfold E4 at h;split at h
 · cases h;refine⟨?_,by simp; omega⟩;simp only[E4,AL,shR,N5 i,AV.sh,J8 i,Obj.sh,← m2,E2 _ _ _ j]
 · cases h
theorem c9R (i:L≤st.length):SemSh L ext (J9 call) as bx st:=by
 rintro⟨r,b,s⟩ h;unfold J9 at h;split at h
 · split at h
   · rename_i j;cases h;refine⟨?_,by simp; omega⟩;simp only[J9,AG,AL,M2,j,if_true,shR,N5 i,AV.sh,J8 i,Obj.sh,a7Z]
   · cases h
 · cases h
end
end Go.Cb
