import Derived.Test.YtgaibigpannjfaaGreatDoorXAms2
import Derived.Defers
set_option maxRecDepth 4000
set_option linter.all false
namespace Go.Cb
open Classical
def a3v:List Nat→Bool
 | []=>true
 | x::xs=>!xs.any (Nat.beq x) && a3v xs
def a0t (c:Cx):List ResultVar→List ResK→Bool
 | [],[]=>true
 | .tmp t::rs,.v i::ks=>c.slots[i]? == some t && !c.bxs.contains i && a0t c rs ks
 | .tmp t::rs,.vs i::ks=>c.slots[i]? == some t && !c.bxs.contains i && a0t c rs ks
 | .cell a t::rs,.bx i agg n::ks=>c.slots[i]? == some a && D6 c t == some agg && C8 c t == some n && a0t c rs ks
 | .cell a t::rs,.po i agg n::ks=>c.slots[i]? == some a && !c.bxs.contains i && D6 c t == some agg && C8 c t == some n && a0t c rs ks
 | _,_=>false
def a2s (P:Program) (gt:List (Nat×List AV)) (slots bxs:List Nat) (fn:Func) (f:AFn) (A:Nat→Prop):Bool :=
 f.ext.isNone && a3v slots && slots.all (fun s=>Nat.blt s fn.ntmps) && slots.take f.np == List.range f.np && Nat.ble f.np slots.length && Nat.beq f.nv slots.length &&
  (match fn.body with|some x=>B2 ⟨P,slots,bxs,fn.ntmps,gt,A⟩ x f.code|none=>false) && a0t ⟨P,slots,bxs,fn.ntmps,gt,A⟩ fn.results.toList f.results
def L9 (P:Program) (gt:List (Nat×List AV)) (f:Nat) (e:List AV→St→Option (AV×St)):Prop :=
 ∀ (args:List AV) (st:St) (res:AV) (st':St),e args st=some (res,st')→(∀ x∈args,x.weak=x) →
  ∀ (g:Gh) (w:World) (vs:List Value),SRel g w st→Globs gt g w→RelL g w args vs→Calls P f vs.toArray w (CallPost g w st' res)
structure ProgOK (P:Program) (gt:List (Nat×List AV)) (tbl:Nat→Option AFn):Prop where
 mixed:P.follows .mixedOrders=true
 fn:∀ f af,tbl f=some af→a0o P f=true∧((∃ slots bxs fn,P.funcs[f]?=some fn∧∀ A,a2s P gt slots bxs fn af A=true)∨(∃ e,af.ext=some e∧L9 P gt f e))
theorem a6v:∀ {xs:List Nat},a3v xs=true→xs.Nodup
 | [],_=>List.nodup_nil
 | x::xs,h=>by simp only[a3v,Bool.and_eq_true,Bool.not_eq_true',List.any_eq_false,Nat.beq_eq]at h;exact List.nodup_cons.2 ⟨fun hm=>h.1 x hm rfl,a6v h.2⟩
section
variable {c:Cx} {g:Gh} {w:World} {pr:Nat→Option Pl} {bx:Nat→Nat} {σ:Sig} {a:Act}
theorem b0H {t:TypeId} {n bb f:Nat} {ag:Bool} {cs:List AV} {us:List Value} {r:AV} (z:D6 c t=some ag) (hn:C8 c t=some n) (hl:RelL g w cs us) (E:w.rangeAt bb f us) (C:∀ u∈us,u.oneCell'=true) (j:m4 ag n cs=some r) :
 ∃ v,(loadVar t (ad bb f)).run c.P w=.ok v w∧ValOK g w No r v:=by
 obtain⟨v,i,F⟩:=a0N (c:=c) (g:=g) (bx:=fun _=>0) (fr:=[]) (a:={ tmps:=#[.pointer (some (ad bb f))],defers:=[] }) (o:={ (default:Oper)with op:=.load t (.tmp 0) }) (x:=.tmp 0) rfl z hn (by simp[Act.eval]) hl E C j;refine⟨v,?_,?_⟩
 · simp only[execOp,Instr.loadAt,Instr.sureAddr,Act.eval,Sem.run_bind,Sem.run_pure]at i;have e:(Array.getD #[Value.pointer (some (ad bb f))] 0 undef)=.pointer (some (ad bb f)):=rfl;rw[e]at i;simp only[Sem.run_pure,Result.andThen_ok]at i;cases B:(loadVar t (ad bb f)).run c.P w with
   | ok u w' =>rw[B]at i;simp only[Result.andThen_ok,Result.ok.injEq,Next.value.injEq]at i;obtain⟨rfl,rfl⟩:=i;rfl
   | halt x w'=>rw[B]at i; cases i
 · cases r<;>first|exact F|skip
   · exfalso;unfold m4 at j;split at j
     · split at j<;>simp at j
     · split at j
       · rename_i y ys;simp only[Option.some.injEq]at j;simp only[RelL]at hl;obtain⟨I,G,_,l,_⟩:=hl;cases y<;>simp only[AV.weak1,reduceCtorEq]at j;simp[Rel]at l
       · cases j
   · exfalso;unfold m4 at j;split at j
     · split at j<;>simp at j
     · split at j
       · rename_i y ys;simp only[Option.some.injEq]at j;simp only[RelL]at hl;obtain⟨I,G,_,l,_⟩:=hl;cases y<;>simp only[AV.weak1,reduceCtorEq]at j;simp[Rel]at l
       · cases j
theorem VarOK.val {i:Nat} {x:AV} {v:Value} (h:VarOK g w pr bx i x v) (j:∀ cs,x≠.box cs):ValOK g w (fun b=>pr b=some (.var i)) x v:=by cases x<;>first|exact h|exact absurd rfl (j _)|exact h.elim
theorem b0T (h:S c g w pr bx σ a):∀ {rs:List ResultVar} {ks:List ResK} {vs:List AV},a0t c rs ks=true→H4 ks σ.fr σ.st=some vs →
 ∃ us:List Value,(rs.mapM fun(r:ResultVar)=>(match r with|.tmp t=>pure (a.tmps.getD t undef)|.cell x t=>do loadVar t (← asAddr (a.tmps.getD x undef)):Sem Value)).run c.P w=.ok us w ∧
  us.length=vs.length∧∀ (k:Nat) (x:AV) (u:Value),vs[k]?=some x→us[k]?=some u→ValOK g w (fun b=>∃ p,pr b=some p) x u
 | [],[],vs,_,hg=>by simp only[H4,Option.some.injEq]at hg;subst hg;exact⟨[],rfl,rfl,fun k x u B=>by simp at B⟩
 | r::rs,k::ks,vs,hok,hg=>by
  simp only[H4]at hg;split at hg
  case h_2=>cases hg
  rename_i x xs B a2;simp only[Option.some.injEq]at hg;subst hg;have one:∃ u,((match r with|.tmp t=>pure (a.tmps.getD t undef)|.cell x t=>do loadVar t (← asAddr (a.tmps.getD x undef)):Sem Value)).run c.P w=.ok u w∧ValOK g w (fun b=>∃ p,pr b=some p) x u∧a0t c rs ks=true:=by
   have E:∀ i,i ∉ c.bxs→∀ cs,σ.fr.getD i .undef≠.box cs:=fun i hi cs hc=>hi (h.fr.bxs i cs hc)
   unfold a0t at hok;split at hok<;>first|(rename_i C e2; cases C; cases e2; done)|skip
   · rename_i C e2; cases C
   · rename_i t M i L C e2;cases C; cases e2;simp only[Bool.and_eq_true,beq_iff_eq]at hok;simp only[ResK.get,Option.some.injEq]at B;subst B;have F:=h.fr.var i t hok.1.1;have V:=E i (by simpa using hok.1.2);refine⟨_,rfl,?_,hok.2⟩;cases hq:σ.fr.getD i .undef<;>rw[hq]at F<;>first
      | exact ValOK.of_weak (ValOK.rel F)
      | exact F.elim
      | exact absurd hq (V _)
   · rename_i t M i L C e2;cases C; cases e2;simp only[Bool.and_eq_true,beq_iff_eq]at hok;simp only[ResK.get,Option.some.injEq]at B;subst B;have F:=(h.fr.var i t hok.1.1).val (E i (by simpa using hok.1.2));exact⟨_,rfl,F.mono (Ext.refl _ _) fun b O=>⟨⟨_,O⟩,rfl,fun _ x=>x⟩,hok.2⟩
   · rename_i y t M i ag n L C e2;cases C; cases e2;simp only[Bool.and_eq_true,beq_iff_eq]at hok;obtain⟨⟨⟨X,Y⟩,Z⟩,h4⟩:=hok;simp only[ResK.get]at B;split at B
     · rename_i cs I;have z:=h.fr.var i y X;rw[I]at z;obtain⟨W,_,_,arr,T,hh,hl,G,_⟩:=z;obtain⟨u,hu,l⟩:=b0H (c:=c) Y Z hl (by simpa using a6H hh 0) G B;refine⟨u,?_,l.mono (Ext.refl _ _) fun b O=>O.elim,h4⟩;simp only[W,asAddr,Sem.run_bind,Sem.run_pure,Result.andThen_ok];exact hu
     · cases B
   · rename_i y t M i ag n L C e2;cases C; cases e2;simp only[Bool.and_eq_true,beq_iff_eq]at hok;obtain⟨⟨⟨⟨X,h0⟩,Y⟩,Z⟩,h4⟩:=hok;simp only[ResK.get]at B;split at B
     · rename_i o off I;split at B
       · rename_i cs a0;have z:=h.fr.var i y X;rw[I]at z;have e:Rel g w (.ptr o off) (a.tmps.getD y undef):=ValOK.rel z;simp only[Rel]at e;obtain⟨_,_,arr,T,hh,_,hl,G,_⟩:=h.st.obj _ _ a0;obtain⟨u,hu,l⟩:=b0H (c:=c) Y Z (hl.drop off) (a5v hh cs.length off) (fun u hu=>G u (List.mem_of_mem_drop hu)) B;refine⟨u,?_,l.mono (Ext.refl _ _) fun b O=>O.elim,h4⟩;simp only[e.2,asAddr,Sem.run_bind,Sem.run_pure,Result.andThen_ok];exact hu
       · cases B
     · cases B
   · cases hok
  obtain⟨u,hu,l,J⟩:=one;obtain⟨us,a1,U,N⟩:=b0T h J a2;refine⟨u::us,?_,by simp[U],fun j y v hy F=>?_⟩
  · rw[List.mapM_cons];simp only[Sem.run_bind,hu,a1,Result.andThen_ok,Sem.run_pure]
  · cases j with
    | zero=>simp at hy F; subst hy; subst F; exact l
    | succ j=>exact N j y v (by simpa using hy) (by simpa using F)
 | [],_::_,_,hok,_=>by simp[a0t]at hok
 | r::_,[],_,hok,_=>by cases r<;>simp[a0t]at hok
def c9U:List Value→Value
 | [v]=>v
 | us=>.tuple us.toArray
theorem a6y {P:Program} {fn:Func} {tmps:Array Value} {us:List Value} {w:World}
 (h:(fn.results.toList.mapM fun(r:ResultVar)=>(match r with|.tmp t=>pure (tmps.getD t undef)|.cell x t=>do loadVar t (← asAddr (tmps.getD x undef)):Sem Value)).run P w=.ok us w) :
 (results fn tmps).run P w=.ok (c9U us) w:=by
 unfold results;rw[Array.mapM_eq_mapM_toList];simp only[map_eq_pure_bind,bind_assoc,pure_bind,Sem.run_bind]
 erw [h]
 simp only[Result.andThen_ok,Sem.run_pure];match us with
 | []=>rfl
 | [v]=>rfl
 | u::v::us=>simp[c9U]
theorem b0y {P:Program} {gt:List (Nat×List AV)} {slots bxs:List Nat} {fn:Func} {j:AFn} {g:Gh} {w:World} {args:List AV} {vs:List Value} {st:St} (o2:a3v slots=true) (o3:slots.all (fun s=>Nat.blt s fn.ntmps)=true) (o4:slots.take j.np=List.range j.np)
 (o5:j.np≤slots.length) (o6:j.nv=slots.length) (y:args.length=j.np) (B:∀ x∈args,x.weak=x) (U:SRel g w st) (N:Globs gt g w) (t:RelL g w args vs) :
 Fx ⟨P,slots,bxs,fn.ntmps,gt,fun b=>w.heap.size≤b∨g.sr b≠none⟩∧S ⟨P,slots,bxs,fn.ntmps,gt,fun b=>w.heap.size≤b∨g.sr b≠none⟩ g w (fun _=>none) (fun _=>0) ⟨args++List.replicate (j.nv - j.np) .undef,fun _=>.undef,st⟩ { tmps:=vs.toArray++Array.replicate (fn.ntmps - vs.toArray.size) undef,defers:=[] }:=by
 let A:Nat→Prop:=fun b=>w.heap.size≤b∨g.sr b≠none
 let c:Cx:=⟨P,slots,bxs,fn.ntmps,gt,A⟩
 have E:∀ s∈slots,s < fn.ntmps:=fun s hs=>by have:=List.all_eq_true.1 o3 s hs;simpa using this
 have V:Fx c:=⟨a6v o2,E⟩;have Z:vs.length=j.np:=by rw[← t.length]; exact y
 have X:j.np≤fn.ntmps:=by
  rcases Nat.eq_zero_or_pos j.np with h0|h0
  · omega
  · have hm:j.np - 1∈slots:=by
     have:j.np - 1∈slots.take j.np:=by rw[o4]; simp; omega
     exact List.mem_of_mem_take this
    have:=E _ hm;omega
 have z:∀ i s,slots[i]?=some s→i < j.np→s=i:=fun i s hs hi=>by
  have M:(slots.take j.np)[i]?=some s:=by rw[List.getElem?_take,if_pos hi]; exact hs
  rw[o4]at M;simp[hi]at M;exact M.symm
 let J:Array Value:=vs.toArray++Array.replicate (fn.ntmps - vs.toArray.size) undef
 have W:S c g w (fun _=>none) (fun _=>0) ⟨args++List.replicate (j.nv - j.np) .undef,fun _=>.undef,st⟩ { tmps:=J,defers:=[] }:=by
  refine⟨⟨by simp[J,c]; omega,by simp[c,y,o6]; omega,fun i s hs=>?_,fun s _=>ValOK.undef,fun b p C=>(by cases C),fun i cs hi=>?_⟩,U,N,fun b C=>.inl C,fun b p C=>.inr (by rw[C]; simp)⟩
  · rcases Nat.lt_or_ge i j.np with hi|hi
    · have O:=z i s hs hi;subst O;have I:s < args.length:=by omega
      have Y:s < vs.length:=by omega
      obtain⟨v,G,u⟩:=t.get (List.getElem?_eq_getElem I);have L:(args++List.replicate (j.nv - j.np) AV.undef).getD s .undef=args[s]:=by rw[List.getD_eq_getElem?_getD,List.getElem?_append_left I,List.getElem?_eq_getElem I]; rfl
      have e2:J.getD s undef=v:=by simp only[J,Array.getD_eq_getD_getElem?];rw[Array.getElem?_append_left (by simpa using Y)];simp[G]
      rw[L,e2];have hw:=B args[s] (List.getElem_mem I);have l:ValOK g w (fun b=>(fun _=>none:Nat→Option Pl) b=some (.var s)) args[s].weak v:=ValOK.of_weak u;rw[hw]at l;revert l;cases args[s]<;>intro l<;>first|exact l|exact l.rel.elim
    · have L:(args++List.replicate (j.nv - j.np) AV.undef).getD i .undef=.undef:=by
       rw[List.getD_eq_getElem?_getD,List.getElem?_append_right (by omega)];cases F:(List.replicate (j.nv - j.np) AV.undef)[i - args.length]? with
       | none=>rfl
       | some x=>rw[List.eq_of_mem_replicate (List.mem_of_getElem? F)]; rfl
      rw[L];exact VarOK.undef
  · exfalso;rcases Nat.lt_or_ge i args.length with hi'|hi'
    · obtain⟨v,G,u⟩:=t.get (List.getElem?_eq_getElem hi');rw[List.getD_eq_getElem?_getD,List.getElem?_append_left hi',List.getElem?_eq_getElem hi']at hi;simp only[Option.getD_some]at hi;rw[hi]at u;exact u
    · rw[List.getD_eq_getElem?_getD,List.getElem?_append_right hi']at hi;cases F:(List.replicate (j.nv - j.np) AV.undef)[i - args.length]? with
      | none=>rw[F]at hi; cases hi
      | some x=>rw[F,List.eq_of_mem_replicate (List.mem_of_getElem? F)]at hi; cases hi
 exact⟨V,W⟩
theorem b8h {P:Program} {gt:List (Nat×List AV)} {slots bxs:List Nat} {fn:Func} {J:AFn} {g g':Gh} {w w':World} {O:Nat→Option Pl} {L:Nat→Nat} {U:Nat→AV} {z:List AV} {l st':St} {I:Act} {res:AV}
 (B:S ⟨P,slots,bxs,fn.ntmps,gt,fun b=>w.heap.size≤b∨g.sr b≠none⟩ g' w' O L ⟨z,U,l⟩ I) (G:Tr (fun b=>w.heap.size≤b∨g.sr b≠none) g w g' w') (X:a0t ⟨P,slots,bxs,fn.ntmps,gt,fun b=>w.heap.size≤b∨g.sr b≠none⟩ fn.results.toList J.results=true)
 (h:(match H4 J.results z l with|some [v]=>some (v,l)|some vs=>some (.tuple vs,l)|none=>none)=some (res,st')):∃ v,(results fn I.tmps).run P w'=.ok v w'∧CallPost g w st' res (.returned v) w':=by
 let c:Cx:=⟨P,slots,bxs,fn.ntmps,gt,fun b=>w.heap.size≤b∨g.sr b≠none⟩
 have F:∀ vs',H4 J.results z l=some vs'→some ((match vs' with|[v]=>v|vs'=>AV.tuple vs'),l)=some (res,st')→∃ v,(results fn I.tmps).run P w'=.ok v w'∧CallPost g w st' res (.returned v) w':=by
  intro vs' hg t;simp only[Option.some.injEq,Prod.mk.injEq]at t;obtain⟨rfl,rfl⟩:=t;obtain⟨us,N,E,j⟩:=b0T (c:=c) B X hg;refine⟨_,a6y N,_,g',rfl,B.st,⟨G.ext,G.size,G.env,fun b M hs _=>G.keep b M hs fun hA=>?_⟩,?_⟩
  · rcases hA with hA|hA
    · omega
    · exact hA hs
  · match vs',us,E,j with
    | [],[],_,_=>exact ValOK.mk' (by simp only[Rel]; exact⟨#[],rfl,by simp[RelL]⟩) (by simp) (by simp)
    | [x],[u],_,j =>
     refine(j 0 x u rfl rfl).mono (Ext.refl _ _) fun b M=>⟨?_,rfl,fun _ x=>x⟩
     obtain⟨p,V⟩:=M;obtain⟨Y,Z,q3⟩:=B.fr.prv b p V;exact⟨Y,Z,q3⟩
    | x::y::xs,u::v::us,E,j =>refine ValOK.mk' ?_ (by simp) (by simp);simp only[Rel];exact⟨_,rfl,RelL.of_get (by simpa using E.symm) fun i x u W hu=>(j i x u W hu).rel⟩
 split at h
 · rename_i v hg;exact F [v] hg h
 · rename_i vs' C hg;refine F vs' hg ?_;rw[← h];match vs',C with
   | [],_=>rfl
   | [v],C=>exact absurd rfl (C v)
   | _::_::_,_=>rfl
 · cases h
theorem b5L {P:Program} {gt:List (Nat×List AV)} {slots bxs:List Nat} {fn:Func} {G:AFn} {g:Gh} {w:World} {args:List AV} {vs:List Value} {st st':St} {res:AV} {call:e9} {n:Nat} (hm:P.follows .mixedOrders=true) (O:L6 P gt call)
 (i:∀ A,a2s P gt slots bxs fn G A=true) (h:G.run call n args st=some (res,st')) (t:∀ x∈args,x.weak=x) (F:SRel g w st) (E:Globs gt g w) (B:RelL g w args vs) :
 ∃ body,fn.body=some body∧body.wp P (bodyPost P fn (CallPost g w st' res)) { tmps:=vs.toArray++Array.replicate (fn.ntmps - vs.toArray.size) undef,defers:=[] } w:=by
 have i:=i fun b=>w.heap.size≤b∨g.sr b≠none
 simp only[a2s,Bool.and_eq_true,Option.isNone_iff_eq_none,beq_iff_eq,Nat.beq_eq]at i;obtain⟨⟨⟨⟨⟨⟨⟨o1,o2⟩,o3⟩,o4⟩,o5⟩,o6⟩,o7⟩,V⟩:=i;have o5:=Nat.le_of_ble_eq_true o5;split at o7
 case h_2=>cases o7
 rename_i body j;unfold AFn.run at h;split at h
 case isFalse=>cases h
 rename_i y;split at h
 · cases h
 · rename_i ex L X z l;obtain⟨M,N⟩:=b0y (bxs:=bxs) o2 o3 o4 o5 o6 y t F E B;refine⟨body,j,?_⟩;refine u9 _ _ o7 M hm O N l fun I w' g' W J Y S C U=>?_
   have u:bodyPost P fn (CallPost g w st' res) .ret I w':=⟨S,b8h C U V h⟩;cases ex with
   | normal=>exact u
   | ret=>exact u
   | exit id=>exact(z id rfl).elim
 · cases h
theorem c1Y {P:Program} {gt:List (Nat×List AV)} {tbl:Nat→Option AFn} (G:ProgOK P gt tbl):∀ n,L6 P gt (m6 tbl n):=by
 intro n;induction n with
 | zero=>intro f args st res st' h; simp[m6]at h
 | succ n L =>
  intro f args st res st' h j;simp only[m6]at h;cases i:tbl f with
  | none=>simp[i]at h
  | some F =>
   simp only[i]at h;obtain⟨B,C⟩:=G.fn f F i;refine⟨B,fun g w vs y u l=>?_⟩;rcases C with⟨slots,bxs,fn,J,x⟩|⟨e,z,t⟩
   case inr =>simp only[z]at h;exact t args st res st' h j g w vs y u l
   have z:F.ext=none:=by
    have:=x fun _=>True
    simp only[a2s,Bool.and_eq_true,Option.isNone_iff_eq_none]at this;exact this.1.1.1.1.1.1.1
   simp only[z]at h;obtain⟨body,I,E⟩:=b5L G.mixed L x h j y u l;exact calls_of_wp J I E
end
end Go.Cb
namespace Go.Cb
open Classical
section
variable {c:Cx} {g:Gh} {w:World} {pr:Nat→Option Pl} {bx:Nat→Nat} {σ:Sig} {a:Act} {o:Oper}
theorem d1U (u:Fx c) (h:S c g w pr bx σ a) {t e:TypeId} {i:TypeInfo} {d:Dst} (z:o.op=.buildSlice t 0 #[]) (hu:c.P.underlying t=some (.slice e)) (hi:c.P.info? e=some i) (y:B9 c o.dst d=true)
 {next:Act→World→Prop} {Q:Exit→Act→World→Prop} (j:Post c g w a (d.put (.list true []) σ) next):o.wp c.P a w next Q:=by
 have l:(execOp a.eval o).run c.P w=.ok (.value (.slice (some (ad w.heap.size 0)) 0 0)) (w.alloc (.cells #[] e)):=by
  have e0:(Array.map (fun _:Nat=>(default:Value)) (Array.range 0))=#[]:=by apply Array.ext'; simp
  simp[execOp,z,Instr.buildSlice,run_underlying hu,sizeOf,typeInfo,hi,Instr.fill,newRow,e0]
 unfold Oper.wp;rw[l];refine j _ _ g pr bx (C9 _ _ _) (Z2 u (h.alloc _ _) y (mine:=No) (r:=.list true []) ?_ fun _ x=>x.elim) (Tr.alloc _ h.st.cli _);refine(show ValOK g _ No (.list true []) _ from⟨?_,fun _ _=>.inl ⟨_,_,rfl⟩,fun _ e=>(by cases e)⟩);simp only[Rel];exact⟨_,0,0,rfl,rfl,Nat.le_refl _,fun _=>rfl,fun h=>absurd rfl h⟩
theorem d0S (y:Fx c) (h:S c g w pr bx σ a) {t F e:TypeId} {x:Operand} {d:Dst} {i:Option Addr} {n cap:Nat} (B:o.op=.binOp .eql t x (.const (.slice none 0 0)) F) (hu:c.P.underlying t=some (.slice e))
 (C:a.eval x=.slice i n cap) (z:B9 c o.dst d=true) {next:Act→World→Prop} {Q:Exit→Act→World→Prop} (j:Post c g w a (d.put (.bool i.isNone) σ) next):o.wp c.P a w next Q:=by
 have l:(execOp a.eval o).run c.P w=.ok (.value (.bool i.isNone)) w:=by
  have hg:∀ v:Value,(eqGuard .eql t x (.const (.slice none 0 0)) (.slice i n cap) (.slice none 0 0)).run c.P w=.ok () w:=fun _=>rfl
  have E:a.eval (.const (.slice none 0 0))=.slice none 0 0:=rfl;have u:(Op.equal t (.slice i n cap) (.slice none 0 0)).run c.P w=.ok i.isNone w:=by rw[U5,Op.equalIn,Sem.run_bind,run_underlying hu,Result.andThen_ok];cases i<;>rfl
  simp only[execOp,B,C,E,hg (.bool true),binOp,Sem.run_bind,u,Result.andThen_ok,Sem.run_pure]
 exact b2I y h z (r:=.bool i.isNone) l (show ValOK g w No (.bool i.isNone) (.bool i.isNone)from ValOK.mk' (by simp[Rel]) (by simp) (by simp)) j
def b0S (P:Program) (t j bytes:Nat):Bool:=match P.underlying t with
 | some (.slice e)=>match P.info? e with
  | some i=>i.size == j && i.bytes == bytes && decide (0 < bytes) && (match i.zero with|some z=>z.cells.size == j|none=>false)
  | none=>false
 | _=>false
structure CloneShape (P:Program) (fn:Func) (t sz bytes:Nat) where
 i0:Nat
 i1:Nat
 i2:Nat
 i3:Nat
 o0:Oper
 o1:Oper
 o2:Oper
 o3:Oper
 o4:Oper
 o5:Oper
 o6:Oper
 o7:Oper
 ty:TypeId
 body:fn.body=some (.seq (.region i0 #[o0] false) (.seq (.seq (.region i1 #[o1,o2] false) (.cond (.tmp 4) (.seq (.region i2 #[o3] false) .ret) .skip)) (.seq (.region i3 #[o4,o5,o6,o7] false) .ret)))
 nt:fn.ntmps=8
 res:fn.results=#[.tmp 2]
 d0:o0.dst=some 2∧o0.op=.assign (.const (.slice none 0 0))∧o0.guard=none
 d1:o1.dst=some 3∧o1.op=.move (.tmp 0)∧o1.guard=none
 d2:o2.dst=some 4∧o2.op=.binOp .eql t (.tmp 3) (.const (.slice none 0 0)) ty∧o2.guard=none
 d3:o3.dst=some 2∧o3.op=.assign (.const (.slice none 0 0))∧o3.guard=none
 d4:o4.dst=some 5∧o4.op=.buildSlice t 0 #[]∧o4.guard=none
 d5:o5.dst=some 6∧o5.op=.move (.tmp 0)∧o5.guard=none
 d6:o6.dst=some 7∧o6.op=.call { callee:=.builtin .append,args:=#[.tmp 5,.tmp 6],argTypes:=#[t,t] }∧o6.guard=none
 d7:o7.dst=some 2∧o7.op=.assign (.tmp 7)∧o7.guard=none
 tb:b0S P t sz bytes=true
theorem b2h {P:Program} {t l bytes:Nat} (h:b0S P t l bytes=true):∃ e i z,P.underlying t=some (.slice e)∧P.info? e=some i∧i.zero=some z∧i.size=l∧i.bytes=bytes∧z.cells.size=l∧0 < bytes:=by
 unfold b0S at h;split at h
 case h_2=>cases h
 rename_i e hu;split at h
 case h_2=>cases h
 rename_i i hi;simp only[Bool.and_eq_true,beq_iff_eq,decide_eq_true_eq]at h;obtain⟨⟨⟨u,x⟩,y⟩,j⟩:=h;split at j
 case h_2=>cases j
 rename_i z B;exact⟨e,i,z,hu,hi,B,u,x,by simpa using j,y⟩
theorem b06 {P:Program} {gt:List (Nat×List AV)} {f t sz bytes:Nat} {fn:Func} (hf:P.funcs[f]?=some fn) (C:CloneShape P fn t sz bytes):L9 P gt f (a0O sz bytes):=by
 intro args st res st' h Z g w vs e6 _ L;obtain⟨e,ie,z,tu,ti,tz,h1,h0,h2,g0⟩:=b2h C.tb;unfold a0O at h;split at h
 case h_2=>cases h
 rename_i own xs;split at h
 case isFalse=>cases h
 rename_i E;simp only[Bool.and_eq_true,decide_eq_true_eq]at E;obtain⟨X,F⟩:=E;simp only[Option.some.injEq,Prod.mk.injEq]at h;obtain⟨rfl,rfl⟩:=h;simp only[RelL]at L;obtain⟨v,_,rfl,hv,rfl⟩:=L;have b6:=hv;simp only[Rel]at b6;obtain⟨j,n,cap,rfl,rfl,h4,h6,i4⟩:=b6;let A:Nat→Prop:=fun b=>w.heap.size≤b∨g.sr b≠none
 let c:Cx:=⟨P,[0,2],[],8,[],A⟩
 have G:Fx c:=⟨show([0,2]:List Nat).Nodup by decide,show ∀ s∈([0,2]:List Nat),s < 8 by decide⟩;have b4:own=false:=by have:=Z (.list own xs) (by simp);simpa[AV.weak]using this.symm
 subst b4;refine calls_of_wp hf C.body ?_;have hS:S c g w (fun _=>none) (fun _=>0) ⟨[.list false xs,.undef],fun _=>.undef,st⟩ { tmps:=#[Value.slice j xs.length cap]++Array.replicate (fn.ntmps - 1) undef,defers:=[] }:=by
  refine⟨⟨by simp[c,C.nt],rfl,fun i s hs=>?_,fun s _=>ValOK.undef,fun b p B=>(by cases B),fun i cs hi=>?_⟩,e6,fun e he=>(by cases he),fun b B=>.inl B,fun b p B=>.inr (by rw[B]; simp)⟩
  · match i,hs with
    | 0,hs =>
     simp only[c,List.getElem?_cons_zero,Option.some.injEq]at hs;subst hs;have b5:ValOK g w (fun b=>(fun _=>none:Nat→Option Pl) b=some (.var 0)) (AV.list false xs).weak (.slice j xs.length cap):=ValOK.of_weak hv;have e0:(#[Value.slice j xs.length cap]++Array.replicate (fn.ntmps - 1) undef).getD 0 undef=.slice j xs.length cap:=by rw[C.nt]; rfl
     show VarOK g w (fun _=>none) (fun _=>0) 0 (.list false xs) ((#[Value.slice j xs.length cap]++Array.replicate (fn.ntmps - 1) undef).getD 0 undef);rw[e0];exact b5
    | 1,hs=>exact VarOK.undef
    | i+2,hs=>simp[c]at hs
  · match i,hi with
    | 0,hi=>simp at hi
    | 1,hi=>simp at hi
    | i+2,hi=>simp at hi
 -- the end
 have fin:∀ (x:AV) (a':Act) (w':World) (g':Gh) (b7:Nat→Option Pl) (b0:Nat→Nat) (c0:Nat→AV),a'.defers=[]→S c g' w' b7 b0 ⟨[x,.list true xs],c0,st⟩ a'→Tr c.A g w g' w' →
  bodyPost P fn (CallPost g w st (.list true xs)) .ret a' w':=by
  intro x a' w' g' b7 b0 c0 hd N ht;refine⟨hd,?_⟩;obtain⟨us,f7,f6,l⟩:=b0T (c:=c) N (rs:=fn.results.toList) (ks:=[.vs 1]) (vs:=[.list true xs]) (by rw[C.res]; rfl) rfl;refine⟨_,a6y f7,_,g',rfl,N.st,⟨ht.ext,ht.size,ht.env,fun b B hs _=>ht.keep b B hs fun hA=>?_⟩,?_⟩
  · rcases hA with hA|hA
    · omega
    · exact hA hs
  · match us,f6,l with
    | [u],_,l =>
     refine(l 0 (.list true xs) u rfl rfl).mono (Ext.refl _ _) fun b B=>⟨?_,rfl,fun _ x=>x⟩
     obtain⟨p,hp⟩:=B;obtain⟨q1,q2,q3⟩:=N.fr.prv b p hp;exact⟨q1,q2,q3⟩
 refine wp_seq (wp_region ?_);show wpOps P #[C.o0] _ [0] _ _;rw[wpOps_cons];refine X5 rfl C.d0.2.2 (a5V (c:=c) G hS (.inr C.d0.2.1) (p:=.c (.list true [])) (d:=.v 1) rfl (by rw[C.d0.1]; rfl) fun a1 w1 g1 i5 h8 d8 c3 f0=>?_);show(Code.seq _ _).wp P _ a1 w1;refine wp_seq (wp_seq (wp_region ?_));show wpOps P #[C.o1,C.o2] _ [0,1] _ _;rw[wpOps_cons];refine X5 rfl C.d1.2.2 (a5V (c:=c) G c3 (.inl C.d1.2.1) (p:=.v 0) (d:=.t 3) rfl (by rw[C.d1.1]; rfl) fun a2 w2 g2 pr2 h9 d9 b2 f1=>?_);rw[wpOps_cons];have c2:=R3 b2 (x:=.tmp 3) (p:=.t 3) rfl;have e5:Rel g2 w2 (.list false xs) (a2.eval (.tmp 3)):=ValOK.rel c2;have J:=e5;simp only[Rel]at J;obtain⟨a0,n2,h3,b3,i3,c8,W,h5⟩:=J;refine X5 rfl C.d2.2.2 (d0S (c:=c) G b2 C.d2.2.1 tu b3 (d:=.t 4) (by rw[C.d2.1]; rfl) fun a3 w3 g3 i9 i0 e1 O f2=>?_);show(Code.cond _ _ _).wp P _ a3 w3;have M:=(f0.trans f1).trans f2;have I:a3.defers=[]:=e1.trans (d9.trans d8);have B:=a3K O (x:=.tmp 4) (y:=.t 4) rfl (b:=a0.isNone) rfl;refine wp_cond B ?_;cases a0 with
 | none =>
  have f8:xs=[]:=by have:=W rfl;exact List.eq_nil_of_length_eq_zero (by omega)
  refine wp_seq (wp_region ?_);show wpOps P #[C.o3] _ [0] _ _;rw[wpOps_cons];refine X5 rfl C.d3.2.2 (a5V (c:=c) G O (.inr C.d3.2.1) (p:=.c (.list true [])) (d:=.v 1) rfl (by rw[C.d3.1]; rfl) fun a4 w4 g4 b8 b1 V U Y=>?_);show Code.ret.wp P _ a4 w4;refine wp_ret ?_;show bodyPost P fn _ .ret a4 w4;subst f8;exact fin _ a4 w4 g4 b8 b1 _ (V.trans I) U (M.trans Y)
 | some h7 =>refine wp_skip ?_;show(Code.seq _ _).wp P _ a3 w3;refine wp_seq (wp_region ?_);show wpOps P #[C.o4,C.o5,C.o6,C.o7] _ [0,1,2,3] _ _;rw[wpOps_cons];refine X5 rfl C.d4.2.2 (d1U (c:=c) G O C.d4.2.1 tu ti (d:=.t 5) (by rw[C.d4.1]; rfl) fun a4 w4 g4 b8 b1 V U Y=>?_);rw[wpOps_cons];refine X5 rfl C.d5.2.2 (a5V (c:=c) G U (.inl C.d5.2.1) (p:=.v 0) (d:=.t 6) rfl (by rw[C.d5.1]; rfl) fun a5 w5 g5 l0 i1 e2 c4 f3=>?_);rw[wpOps_cons];refine X5 rfl C.d6.2.2 (b70 (c:=c) G c4 C.d6.2.1 rfl tu ti tz h1 h0 h2 g0 (p0:=.ts 5) (p1:=.t 6) (d:=.t 7) rfl rfl (by rw[C.d6.1]; rfl) (by rw[C.d6.1]; rfl) (xs:=[]) (ys:=xs) (own:=false) rfl rfl rfl X (by simpa using F) fun a6 w6 g6 l1 i2 e3 c6 f4=>?_);rw[wpOps_cons];refine X5 rfl C.d7.2.2 (a5V (c:=c) G c6 (.inr C.d7.2.1) (p:=.ts 7) (d:=.v 1) rfl (by rw[C.d7.1]; rfl) fun a7 w7 g7 f9 c1 e4 c7 f5=>?_);show Code.ret.wp P _ a7 w7;refine wp_ret ?_;show bodyPost P fn _ .ret a7 w7;exact fin _ a7 w7 g7 f9 c1 _ (e4.trans (e3.trans (e2.trans (V.trans I)))) c7 ((((M.trans Y).trans f3).trans f4).trans f5)
end
end Go.Cb
namespace Go.Cb
open Classical
def Z9 (i bytes:Nat):List AV→St→Option (AV×St)
 | [.nils],st=>some (.nils,st)
 | [.sl o f n s],st=>match st[o]? with
  | some (.cells cs)=>if s=i∧f+n*i≤cs.length∧n*bytes≤70368744177664 then some (.sl st.length 0 n i,st++[.cells (((cs.drop f).take (n*i)).map AV.weak1)])else none
  | _=>none
 | _,_=>none
def M7 (j i:Nat) (cs row:List AV):List AV:=(cs.take (i*j)++row++cs.drop (i*j)).map AV.weak1
def O8 (j bytes:Nat):List AV→St→Option (AV×St)
 | [.nils,.int .i64 i,.list _ [row]],st=>if i=0∧row.length=j then some (.sl st.length 0 1 j,st++[.cells (M7 j 0 [] row)])else none
 | [.sl o 0 n s,.int .i64 i,.list _ [row]],st=>match st[o]? with
  | some (.cells cs)=>if s=j∧0≤i∧i≤n∧cs.length=n*j∧row.length=j∧(n+1)*bytes≤70368744177664 then some (.sl st.length 0 (n+1) j,st.set o .dead++[.cells (M7 j i.toNat cs row)])else none
  | _=>none
 | _,_=>none
def a0p (j i:Nat) (cs:List AV):List AV:=(cs.take (i*j)++cs.drop ((i+1)*j)).map AV.weak1
def a0f (l bytes:Nat):List AV→St→Option (AV×St)
 | [.sl o 0 n s,.int .i64 i,.int .i64 j],st=>match st[o]? with
  | some (.cells cs)=>if s=l∧0≤i∧i < n∧j=i+1∧cs.length=n*l∧n*bytes≤70368744177664 then some (.sl st.length 0 (n - 1) l,st.set o .dead++[.cells (a0p l i.toNat cs)])else none
  | _=>none
 | _,_=>none
def gh0 (W:World):Gh:={ n:=0,m:=fun _=>0,cl:=fun b _=>b < W.heap.size,sr:=fun _=>none,cp:=fun _=>0 }
theorem c2w (W:World):SRel (gh0 W) W []:=⟨rfl,fun o i h=>by simp at h,fun b p h=>(by cases h),fun b f h=>h⟩
structure Kept (W W':World):Prop where
 kept:W.keptBut W' (fun _=>False)
 fz:∀ a:Addr,a.block < W.heap.size→W'.frozen? a=W.frozen? a
 size:W.heap.size≤W'.heap.size
 old:∀ b,b < W.heap.size→W'.heap[b]?=W.heap[b]?
theorem E7 {P:Program} {gt:List (Nat×List AV)} {tbl:Nat→Option AFn} (y:ProgOK P gt tbl) {n f:Nat} {args:List AV} {b:Bool} {st':St} (h:m6 tbl n f args []=some (.bool b,st')) (F:∀ x∈args,x.weak=x)
 {W:World} {vs:List Value} (hg:Globs gt (gh0 W) W) (E:RelL (gh0 W) W args vs):Calls P f vs.toArray W (fun e u=>e=.returned (.bool b)∧Kept W u):=by
 refine((c1Y y n f args [] _ _ h F).2 (gh0 W) W vs (c2w W) hg E).mono fun e u C=>?_
 obtain⟨v,g',rfl,_,l,t⟩:=C;have t:=t.rel;simp only[Rel]at t;subst t;have j:∀ b,b < W.heap.size→u.heap[b]?=W.heap[b]?:=fun b B=>(l.keep b B rfl fun x=>x).1.1
 refine⟨rfl,⟨l.env.os,l.env.out,fun i hi=>?_⟩,fun a z=>by unfold World.frozen?; rw[j a.block z],l.size,j⟩;rw[j i hi];cases G:W.heap[i]? with
 | none=>simp
 | some o=>cases o<;>simp
theorem e8 {α:Sort _} {a b:α} (h:a=b):a=b:=by cases h;rfl
def obind {α β:Type} (x:Option α) (f:α→Option β):Option β:=match x with
 | some a=>f a
 | none=>none
theorem C0 {α β:Type} (a:α) (f:α→Option β):obind (some a) f=f a:=e8 rfl
theorem F2 {α β:Type} {x i:Option α} {f:α→Option β} (h:x=i):obind x f=obind i f:=by rw[h]
def p1 (x:Option (AV×AV×St)):Option AV:=match x with
 | some (r,_,_)=>some r
 | none=>none
theorem c6J (r b:AV) (st:St):p1 (some (r,b,st))=some r:=e8 rfl
def p2 (x:Option (AV×AV×St)):Option (AV×St):=match x with
 | some (r,_,st)=>some (r,st)
 | none=>none
theorem a8W (r b:AV) (st:St):p2 (some (r,b,st))=some (r,st):=e8 rfl
def gv (x:AV) (want:Bool) (e:Option AV):Option AV:=match x with
 | .bool b=>if b == want then e else some (.tuple [])
 | .tuple []=>some (.tuple [])
 | _=>none
def gv2 (x:AV) (want:Bool) (st:St) (e:Option (AV×St)):Option (AV×St):=match x with
 | .bool b=>if b == want then e else some (.tuple [],st)
 | .tuple []=>some (.tuple [],st)
 | _=>none
theorem b2Z (want:Bool) (e:Option AV):gv (.tuple []) want e=some (.tuple []):=e8 rfl
theorem d89 (e:Option AV):gv (.bool true) true e=e:=e8 rfl
theorem d84 (e:Option AV):gv (.bool true) false e=some (.tuple []):=e8 rfl
theorem d8P (e:Option AV):gv (.bool false) false e=e:=e8 rfl
theorem d9z (e:Option AV):gv (.bool false) true e=some (.tuple []):=e8 rfl
theorem d4D (st:St) (e:Option (AV×St)):gv2 (.bool true) true st e=e:=e8 rfl
theorem d6a (st:St) (e:Option (AV×St)):gv2 (.bool true) false st e=some (.tuple [],st):=e8 rfl
theorem d0j (st:St) (e:Option (AV×St)):gv2 (.bool false) false st e=e:=e8 rfl
theorem c9R (st:St) (e:Option (AV×St)):gv2 (.bool false) true st e=some (.tuple [],st):=e8 rfl
theorem c1q (want:Bool) (st:St) (e:Option (AV×St)):gv2 (.tuple []) want st e=some (.tuple [],st):=e8 rfl
theorem J0 {x:AV} {want:Bool} {st:St} {e:Option (AV×St)} {i:AV} (h:x=i):gv2 x want st e=gv2 i want st e:=by rw[h]
def j9 (xs:List Opd):Bool:=xs.any Opd.steals
theorem a0r:∀ {xs:List Opd} {σ:Sig},j9 xs=false→g9 xs σ=σ
 | [],_,_=>rfl
 | x::xs,σ,h=>by
  simp only[j9,List.any_cons,Bool.or_eq_false_iff]at h;have e:x.spend σ=σ:=by cases x<;>simp_all [Opd.spend,Opd.steals]
  rw[g9,e];exact a0r (xs:=xs) h.2
def goK (call:e9) {α:Type} (o:AOper) (σ:Sig) (k:Sig→Option α):Option α :=
 match o.kind.setSt || o.kind.alters || j9 o.args with
 | false=>obind (p1 (sem o.kind call (o.args.map (·.read σ)) (boxOf' o.box σ) σ.st)) fun r=>k (o.dst.put r σ)
 | true=>match o.kind.alters || j9 o.args with
  | false=>obind (p2 (sem o.kind call (o.args.map (·.read σ)) (boxOf' o.box σ) σ.st)) fun r=>k (o.dst.put r.1 { σ with st:=r.2 })
  | true=>obind (sem o.kind call (o.args.map (·.read σ)) (boxOf' o.box σ) σ.st) fun r =>
   let σ:=g9 o.args σ
   match o.box with
   | some i=>k (o.dst.put r.1 { σ with fr:=σ.fr.set i r.2.1,st:=r.2.2 })
   | none=>k (o.dst.put r.1 { σ with st:=r.2.2 })
where boxOf' (b:Option Nat) (σ:Sig):AV:=match b with|some i=>σ.fr.getD i .undef|none=>.undef
def a6e (call:e9) {α:Type} (o:AOper) (σ:Sig) (k:Sig→Option α):Option α :=
 match o.guard with
 | none=>goK call o σ k
 | some (x,want)=>match o.kind.setSt || o.kind.alters || j9 o.args with
  | false=>obind (gv (x.read σ) want (p1 (sem o.kind call (o.args.map (·.read σ)) (goK.boxOf' o.box σ) σ.st))) fun r=>k (o.dst.put r σ)
  | true=>match o.kind.alters || j9 o.args with
   | false=>obind (gv2 (x.read σ) want σ.st (p2 (sem o.kind call (o.args.map (·.read σ)) (goK.boxOf' o.box σ) σ.st))) fun r=>k (o.dst.put r.1 { σ with st:=r.2 })
   | true=>match x.read σ with
    | .bool b=>if b == want then goK call o σ k else k (o.dst.put (.tuple []) σ)
    | .tuple []=>k (o.dst.put (.tuple []) σ)
    | _=>none
def a8P (call:e9) {α:Type}:List AOper→Sig→(Sig→Option α)→Option α
 | [],σ,k=>k σ
 | o::os,σ,k=>a6e call o σ fun σ=>a8P call os σ k
theorem a4X (fr:List AV) (i:Nat):fr.set i (fr.getD i .undef)=fr:=by
 apply List.ext_getElem?;intro j;rw[List.getElem?_set];by_cases e:i=j
 · subst e;rw[if_pos rfl];split
   · rename_i h; simp[h]
   · rename_i h; rw[List.getElem?_eq_none (by omega)]
 · rw[if_neg e]
theorem a8b {call:e9} {α:Type} {o:AOper} {σ:Sig} {k:Sig→Option α}:goK call o σ k=obind (E9 call o σ) k:=by
 have C:goK.boxOf' o.box σ=(match o.box with|some i=>σ.fr.getD i .undef|none=>.undef):=rfl;unfold goK;rw[O9,C];split
 · rename_i u;simp only[Bool.or_eq_false_iff]at u;obtain⟨⟨B,l⟩,t⟩:=u;cases hs:sem o.kind call (o.args.map (·.read σ)) (match o.box with|some i=>σ.fr.getD i .undef|none=>.undef) σ.st with
   | none=>rfl
   | some x =>
    obtain⟨r,b',st'⟩:=x;have z:=a2f B hs;have e2:=a3H l hs;subst z;simp only[p1,C0,a0r t];cases j:o.box with
    | none=>rfl
    | some i =>simp only[j]at e2;rw[e2];simp only[a4X,C0]
 · rename_i u;split
   · rename_i y;simp only[Bool.or_eq_false_iff]at y;obtain⟨l,t⟩:=y;cases hs:sem o.kind call (o.args.map (·.read σ)) (match o.box with|some i=>σ.fr.getD i .undef|none=>.undef) σ.st with
     | none=>rfl
     | some x =>
      obtain⟨r,b',st'⟩:=x;have e2:=a3H l hs;simp only[p2,C0,a0r t];cases j:o.box with
      | none=>rfl
      | some i =>simp only[j]at e2;rw[e2];simp only[a4X,C0]
   · cases hs:sem o.kind call (o.args.map (·.read σ)) (match o.box with|some i=>σ.fr.getD i .undef|none=>.undef) σ.st with
     | none=>rfl
     | some x =>
      obtain⟨r,b',st'⟩:=x;simp only[C0];cases j:o.box with
      | none=>rfl
      | some i=>rfl
theorem c5j {α:Type} {x:AV} {want:Bool} {e:Option AV} {f:AV→Option α}:obind (gv x want e) f =
 (match x with|.bool b=>if b == want then obind e f else f (.tuple [])|.tuple []=>f (.tuple [])|_=>none):=by
 unfold gv;split
 · split<;>rfl
 · rfl
 · rfl
theorem c0Q {α:Type} {x:AV} {want:Bool} {st:St} {e:Option (AV×St)} {f:AV×St→Option α}:obind (gv2 x want st e) f =
 (match x with|.bool b=>if b == want then obind e f else f (.tuple [],st)|.tuple []=>f (.tuple [],st)|_=>none):=by
 unfold gv2;split
 · split<;>rfl
 · rfl
 · rfl
theorem a3Q {call:e9} {α:Type} {o:AOper} {σ:Sig} {k:Sig→Option α}:a6e call o σ k=obind (m2 call o σ) k:=by
 unfold a6e m2;cases hg:o.guard with
 | none=>exact a8b
 | some u =>
  obtain⟨x,want⟩:=u;simp only;split
  · rename_i j;have i:obind (p1 (sem o.kind call (o.args.map (·.read σ)) (goK.boxOf' o.box σ) σ.st)) (fun r=>k (o.dst.put r σ))=obind (E9 call o σ) k:=by have:=a8b (call:=call) (o:=o) (σ:=σ) (k:=k);unfold goK at this;rw[j]at this;exact this
    rw[c5j];cases l:x.read σ<;>try rfl
    · dsimp only;split
      · exact i
      · rfl
    · rename_i vs;cases vs<;>rfl
  · rename_i j;split
    · rename_i t;have i:obind (p2 (sem o.kind call (o.args.map (·.read σ)) (goK.boxOf' o.box σ) σ.st)) (fun r=>k (o.dst.put r.1 { σ with st:=r.2 }))=obind (E9 call o σ) k:=by have:=a8b (call:=call) (o:=o) (σ:=σ) (k:=k);unfold goK at this;rw[j,t]at this;exact this
      rw[c0Q];cases l:x.read σ<;>try rfl
      · dsimp only;split
        · exact i
        · rfl
      · rename_i vs;cases vs<;>rfl
    · cases l:x.read σ<;>try rfl
      · dsimp only;split
        · exact a8b
        · rfl
      · rename_i vs;cases vs<;>rfl
theorem a07 {call:e9} {α:Type} {k:Sig→Option α}:∀ {ops:List AOper} {σ:Sig},a8P call ops σ k=obind (l7 call ops σ) k
 | [],σ=>rfl
 | o::os,σ=>by
  simp only[a8P,l7,a3Q];cases hs:m2 call o σ with
  | none=>rfl
  | some σ1=>exact a07
def br (c:AV) (a b:Option Out):Option Out:=match c with
 | .bool true=>a
 | .bool false=>b
 | _=>none
theorem c1J (call:e9) (n:Nat) (kill:List Nat) (i:List AOper) (fr:List AV) (st:St) :
 exec call n (.reg kill i) fr st=a8P call i ⟨m0 kill fr,fun _=>.undef,st⟩ fun σ=>some (.normal,σ.fr,σ.st):=by
 rw[a07];simp only[exec,fL_eq];cases l7 call i ⟨m0 kill fr,fun _=>.undef,st⟩<;>rfl
theorem a5s (call:e9) (n:Nat) (kill:List Nat) (i:List AOper) (c:Opd) (a b:ACode) (fr:List AV) (st:St) :
 exec call n (.test kill i c a b) fr st=a8P call i ⟨m0 kill fr,fun _=>.undef,st⟩ fun σ=>br (c.read σ) (exec call n a σ.fr σ.st) (exec call n b σ.fr σ.st):=by
 rw[a07];simp only[exec,fL_eq];cases l7 call i ⟨m0 kill fr,fun _=>.undef,st⟩with
 | none=>rfl
 | some σ =>simp only[C0];generalize c.read σ=y;cases y<;>rfl
def c2r (i:Nat) (x:AV):AV:=match x with
 | .box _=>.loc i 0
 | _=>.undef
def seqK (x:Option Out) (f:List AV→St→Option Out):Option Out:=match x with
 | some (.normal,fr,st)=>f fr st
 | r=>r
theorem a2S (fr:List AV) (st:St) (f:List AV→St→Option Out):seqK (some (.normal,fr,st)) f=f fr st:=e8 rfl
theorem b8Y (id:Nat) (fr:List AV) (st:St) (f:List AV→St→Option Out):seqK (some (.exit id,fr,st)) f=some (.exit id,fr,st):=e8 rfl
theorem c1p (fr:List AV) (st:St) (f:List AV→St→Option Out):seqK (some (.ret,fr,st)) f=some (.ret,fr,st):=e8 rfl
theorem G6 {x i:Option Out} {f:List AV→St→Option Out} (h:x=i):seqK x f=seqK i f:=by rw[h]
theorem exec_seqK (call:e9) (n:Nat) (a b:ACode) (fr:List AV) (st:St):exec call n (.seq a b) fr st=seqK (exec call n a fr st) (exec call n b):=by simp only[exec,seqK];split<;>rename_i h<;>simp only[h]
def finK (rs:List ResK) (x:Option Out):Option (AV×St):=match x with
 | some (.exit _,_,_)=>none
 | some (_,fr,st)=>match H4 rs fr st with
  | some [v]=>some (v,st)
  | some vs=>some (.tuple vs,st)
  | none=>none
 | none=>none
theorem Z4 (fn:AFn) (call:e9) (n:Nat) (args:List AV) (st:St) (h:args.length=fn.np) :
 fn.run call n args st=finK fn.results (exec call n fn.code (args++List.replicate (fn.nv - fn.np) .undef) st):=by
 unfold AFn.run finK;rw[if_pos h];cases exec call n fn.code (args++List.replicate (fn.nv - fn.np) .undef) st with
 | none=>rfl
 | some x =>
  obtain⟨e,fr,st'⟩:=x;cases e<;>dsimp only<;>cases H4 fn.results fr st' with
  | none=>rfl
  | some vs =>
   match vs with
   | []=>rfl
   | [v]=>rfl
   | _::_::_=>rfl
theorem c1V (call:e9) (n:Nat) (fr:List AV) (st:St):exec call n .ret fr st=some (.ret,fr,st):=by simp only[exec]
theorem b82 (call:e9) (n id:Nat) (fr:List AV) (st:St):exec call n (.exit id) fr st=some (.exit id,fr,st):=by simp only[exec]
theorem b8o (call:e9) (n:Nat) (fr:List AV) (st:St):exec call n .skip fr st=some (.normal,fr,st):=by simp only[exec]
def V5 (c i:e9):Prop:=∀ f as st r,c f as st=some r→i f as st=some r
theorem d3O {c l:e9} (h:V5 c l) {k:Kind} {as:List AV} {b:AV} {st:St} {r:AV×AV×St} (hs:sem k c as b st=some r):sem k l as b st=some r:=by
 cases k
 case call f =>
  simp only[sem,B6]at hs ⊢;split at hs
  · rename_i j;rw[if_pos j];obtain⟨x,t,rfl⟩:=Option.map_eq_some_iff.1 hs;rw[h _ _ _ _ t];rfl
  · cases hs
 case callA f m =>
  simp only[sem,G9]at hs ⊢;cases i:B6 f c (as.take m) b st with
  | none=>rw[i]at hs; cases hs
  | some x =>
   rw[i]at hs;have:B6 f l (as.take m) b st=some x:=by
    unfold B6 at i ⊢;split at i
    · rename_i j;rw[if_pos j];obtain⟨y,u,rfl⟩:=Option.map_eq_some_iff.1 i;rw[h _ _ _ _ u];rfl
    · cases i
   rw[this];exact hs
 case callV =>
  simp only[sem]at hs ⊢;unfold H9 at hs ⊢;split at hs
  · split at hs
    · rename_i j;simp only[if_pos j];obtain⟨x,t,rfl⟩:=Option.map_eq_some_iff.1 hs;rw[h _ _ _ _ t];rfl
    · cases hs
  · cases hs
 all_goals exact hs
theorem b2H {c i:e9} (h:V5 c i) {o:AOper} {σ σ':Sig} (hs:E9 c o σ=some σ'):E9 i o σ=some σ':=by obtain⟨r,b',st',j,rfl⟩:=n8 hs;exact a1R (d3O h j)
theorem a4D {c j:e9} (h:V5 c j) {o:AOper} {σ σ':Sig} (hs:m2 c o σ=some σ'):m2 j o σ=some σ':=by
 unfold m2 at hs ⊢;split at hs
 · exact b2H h hs
 · split at hs
   · split at hs
     · rename_i i; rw[if_pos i]; exact b2H h hs
     · rename_i i; rw[if_neg i]; exact hs
   · exact hs
   · cases hs
theorem Y1 {c j:e9} (h:V5 c j):∀ {os:List AOper} {σ σ':Sig},l7 c os σ=some σ'→l7 j os σ=some σ'
 | [],_,_,hs=>hs
 | o::os,σ,σ',hs=>by
  simp only[l7]at hs ⊢;cases i:m2 c o σ with
  | none=>simp[i]at hs
  | some σ1 =>simp only[i]at hs;simp only[a4D h i];exact Y1 h hs
theorem a3F {body i:List AV→St→Option Out} (h:∀ fr st r,body fr st=some r→i fr st=some r):∀ {n m:Nat} {fr:List AV} {st:St} {r:Out},n≤m→J2 body n fr st=some r→J2 i m fr st=some r
 | 0,_,_,_,_,_,hs=>by simp[J2]at hs
 | n+1,0,_,_,_,j,_=>by omega
 | n+1,m+1,fr,st,r,j,hs=>by
  simp only[J2]at hs ⊢;cases l:body fr st with
  | none=>simp[l]at hs
  | some o =>
   rw[l]at hs;rw[h _ _ _ l];obtain⟨e,t,u⟩:=o;cases e with
   | normal=>exact a3F h (by omega) hs
   | exit id=>exact hs
   | ret=>exact hs
theorem D7 {c l:e9} (h:V5 c l) {n m:Nat} (i:n≤m):∀ {x:ACode} {fr:List AV} {st:St} {r:Out},exec c n x fr st=some r→exec l m x fr st=some r
 | .skip,_,_,_,hs=>hs
 | .exit _,_,_,_,hs=>hs
 | .ret,_,_,_,hs=>hs
 | .reg kill ops,fr,st,r,hs=>by
  simp only[exec]at hs ⊢;cases j:l7 c ops ⟨m0 kill fr,fun _=>.undef,st⟩with
  | none=>simp[j]at hs
  | some σ=>rw[j]at hs; rw[Y1 h j]; exact hs
 | .test kill ops x a b,fr,st,r,hs=>by
  rw[a5s]at hs ⊢;rw[a07]at hs ⊢;cases j:l7 c ops ⟨m0 kill fr,fun _=>.undef,st⟩with
  | none=>rw[j]at hs; cases hs
  | some σ =>
   rw[j]at hs;rw[Y1 h j];rw[C0]at hs ⊢;unfold br at hs ⊢;split at hs
   · exact D7 h i hs
   · exact D7 h i hs
   · cases hs
 | .either kill a b,fr,st,r,hs=>by simp only[exec]at hs ⊢;obtain⟨F,G,u,y,t,C⟩:=a1E hs;rw[D7 h i u,D7 h i y,a3Y (t.trans C.symm),t]
 | .seq a b,fr,st,r,hs=>by
  rw[exec_seqK]at hs ⊢;cases j:exec c n a fr st with
  | none=>rw[j]at hs; cases hs
  | some o =>
   rw[j]at hs;rw[D7 h i j];obtain⟨e,z,E⟩:=o;cases e with
   | normal=>exact D7 h i hs
   | exit id=>exact hs
   | ret=>exact hs
 | .blk id a,fr,st,r,hs=>by
  simp only[exec]at hs ⊢;cases j:exec c n a fr st with
  | none=>rw[j]at hs; cases hs
  | some o=>rw[j]at hs; rw[D7 h i j]; exact hs
 | .loop a,fr,st,r,hs=>by simp only[exec]at hs ⊢;exact a3F (fun _ _ _ B=>D7 h i B) i hs
theorem b0F {c l:e9} (h:V5 c l) {n m:Nat} (i:n≤m) {fn:AFn} {args:List AV} {st:St} {r:AV×St} (hs:fn.run c n args st=some r):fn.run l m args st=some r:=by
 have hl:args.length=fn.np:=by
  unfold AFn.run at hs;split at hs
  · assumption
  · cases hs
 rw[Z4 _ _ _ _ _ hl]at hs ⊢;cases j:exec c n fn.code (args++List.replicate (fn.nv - fn.np) .undef) st with
 | none=>rw[j]at hs; cases hs
 | some o=>rw[j]at hs; rw[D7 h i j]; exact hs
theorem J3 {tbl:Nat→Option AFn}:∀ {n m:Nat},n≤m→V5 (m6 tbl n) (m6 tbl m)
 | 0,_,_,_,_,_,_,hs=>by simp[m6]at hs
 | n+1,0,j,_,_,_,_,_=>by omega
 | n+1,m+1,j,f,as,st,r,hs=>by
  simp only[m6]at hs ⊢;cases i:tbl f with
  | none=>simp[i]at hs
  | some fn =>
   simp only[i]at hs ⊢;cases l:fn.ext with
   | some e=>simp only[l]at hs ⊢; exact hs
   | none =>simp only[l]at hs ⊢;exact b0F (J3 (by omega)) (by omega) hs
def Ev (tbl:Nat→Option AFn) (f:Nat) (as:List AV) (st:St) (r:AV) (st':St):Prop:=∃ n,m6 tbl n f as st=some (r,st')
theorem Ev.ge {tbl:Nat→Option AFn} {f:Nat} {as:List AV} {st:St} {r:AV} {st':St} (h:Ev tbl f as st r st'):∃ i,∀ n,i≤n→m6 tbl n f as st=some (r,st') :=
 let ⟨n,hn⟩:=h; ⟨n,fun m hm=>J3 hm _ _ _ _ hn⟩
end Go.Cb
namespace Go.Cb
open Classical
section
variable {tbl:Nat→Option AFn}
def XC (tbl:Nat→Option AFn) (x:ACode) (fr:List AV) (st:St) (out:Out):Prop:=∃ n,exec (m6 tbl n) n x fr st=some out
theorem XC.ge {x:ACode} {fr:List AV} {st:St} {out:Out} (h:XC tbl x fr st out):∃ i,∀ n,i≤n→exec (m6 tbl n) n x fr st=some out :=
 let ⟨n,hn⟩:=h; ⟨n,fun m hm=>D7 (J3 hm) hm hn⟩
def LX (tbl:Nat→Option AFn) (x:ACode) (fr:List AV) (st:St) (out:Out):Prop:=∃ n k,J2 (exec (m6 tbl n) n x) k fr st=some out
theorem LX.done {x:ACode} {fr:List AV} {st:St} {e:Ex} {i:List AV} {st':St} (h:XC tbl x fr st (e,i,st')) (j:e≠.normal):LX tbl x fr st (e,i,st'):=by
 obtain⟨n,hn⟩:=h;refine⟨n,1,?_⟩;simp only[J2,hn];cases e with
 | normal=>exact absurd rfl j
 | exit id=>rfl
 | ret=>rfl
theorem LX.step {x:ACode} {fr i:List AV} {st j:St} {out:Out} (h:XC tbl x fr st (.normal,i,j)) (l:LX tbl x i j out):LX tbl x fr st out:=by obtain⟨n,hn⟩:=h;obtain⟨m,k,hm⟩:=l;refine⟨max n m,k+1,?_⟩;have t:=D7 (J3 (tbl:=tbl) (Nat.le_max_left n m)) (Nat.le_max_left n m) hn;simp only[J2,t];exact a3F (fun _ _ _ u=>D7 (J3 (Nat.le_max_right n m)) (Nat.le_max_right n m) u) (Nat.le_refl k) hm
theorem XC.loop {x:ACode} {fr:List AV} {st:St} {out:Out} (h:LX tbl x fr st out):XC tbl (.loop x) fr st out:=by obtain⟨n,k,h⟩:=h;refine⟨max n k,?_⟩;simp only[exec];exact a3F (fun _ _ _ i=>D7 (J3 (Nat.le_max_left n k)) (Nat.le_max_left n k) i) (Nat.le_max_right n k) h
theorem XC.seq {a b:ACode} {fr i:List AV} {st j:St} {out:Out} (h:XC tbl a fr st (.normal,i,j)) (l:XC tbl b i j out):XC tbl (.seq a b) fr st out:=by obtain⟨n,hn⟩:=h;obtain⟨m,hm⟩:=l;refine⟨max n m,?_⟩;rw[exec_seqK,D7 (J3 (Nat.le_max_left n m)) (Nat.le_max_left n m) hn,a2S];exact D7 (J3 (Nat.le_max_right n m)) (Nat.le_max_right n m) hm
theorem XC.seq_out {a b:ACode} {fr i:List AV} {st j:St} {e:Ex} (h:XC tbl a fr st (e,i,j)) (l:e≠.normal):XC tbl (.seq a b) fr st (e,i,j):=by
 obtain⟨n,hn⟩:=h;refine⟨n,?_⟩;rw[exec_seqK,hn];cases e with
 | normal=>exact absurd rfl l
 | exit id=>rfl
 | ret=>rfl
theorem XC.blk {id:Nat} {a:ACode} {fr i:List AV} {st j:St} {e:Ex} (h:XC tbl a fr st (e,i,j)):XC tbl (.blk id a) fr st (if e=.exit id then .normal else e,i,j):=by
 obtain⟨n,hn⟩:=h;refine⟨n,?_⟩;simp only[exec,hn];cases e with
 | normal=>rfl
 | exit l =>
  by_cases hid:l=id
  · subst hid; simp
  · simp[hid]
 | ret=>rfl
theorem XC.skip {fr:List AV} {st:St}:XC tbl .skip fr st (.normal,fr,st):=⟨0,rfl⟩
theorem XC.exit {id:Nat} {fr:List AV} {st:St}:XC tbl (.exit id) fr st (.exit id,fr,st):=⟨0,rfl⟩
theorem XC.ret {fr:List AV} {st:St}:XC tbl .ret fr st (.ret,fr,st):=⟨0,rfl⟩
theorem XC.of {x:ACode} {fr:List AV} {st:St} {out:Out} (h:∃ i,∀ n,i≤n→exec (m6 tbl n) n x fr st=some out):XC tbl x fr st out :=
 let ⟨n,hn⟩:=h; ⟨n,hn n (Nat.le_refl n)⟩
theorem XC.goes {x a:ACode} {fr i:List AV} {st j:St} {out:Out} (h:∃ t,∀ n,t≤n→exec (m6 tbl n) n x fr st=exec (m6 tbl n) n a i j) (l:XC tbl a i j out):XC tbl x fr st out:=by obtain⟨n,hn⟩:=h;obtain⟨m,hm⟩:=l.ge;exact⟨max n m,by rw[hn _ (Nat.le_max_left n m)]; exact hm _ (Nat.le_max_right n m)⟩
theorem Ev.of_body {f:Nat} {fn:AFn} {as:List AV} {st:St} {e:Ex} {i:List AV} {st':St} {r:AV×St} (j:tbl f=some fn) (l:fn.ext=none) (hl:as.length=fn.np)
 (h:XC tbl fn.code (as++List.replicate (fn.nv - fn.np) .undef) st (e,i,st')) (t:finK fn.results (some (e,i,st'))=some r):Ev tbl f as st r.1 r.2:=by
 obtain⟨n,hn⟩:=h;refine⟨n+1,?_⟩;simp only[m6,j,l];rw[Z4 _ _ _ _ _ hl,hn,t]
theorem Ev.of_ext {f:Nat} {fn:AFn} {as:List AV} {st:St} {e:List AV→St→Option (AV×St)} {r:AV×St} (i:tbl f=some fn) (j:fn.ext=some e) (h:e as st=some r):Ev tbl f as st r.1 r.2 :=
 ⟨1,by simp only[m6,i,j]; exact h⟩
end
end Go.Cb
namespace Go.Cb.G
open Go Go.Cb
variable {ρ:Type}
section
noncomputable def onI (x:AV) (e:(Option ρ)) (k:IntKind→Int→(Option ρ)):(Option ρ):=AV.rec (motive_1:=fun _=>(Option ρ)) (motive_2:=fun _=>Unit) (motive_3:=fun _=>Unit)
 e (fun _=>e) (fun t n=>k t n) (fun _=>e) (fun _ _ _=>e) (fun _ _=>e) e (fun _ _=>e) (fun _ _=>e) (fun _ _=>e) (fun _=>e) e (fun _ _ _ _ _=>e) e (fun _ _=>e) (fun _ _=>e) (fun _ _ _=>e) e (fun _ _ _ _=>e) (fun _ _=>e) e
 () (fun _ _ _ _=>()) () (fun _ _ _ _=>()) x
noncomputable def c0N (x:AV) (e:(Option ρ)) (k:IntKind→Int→(Option ρ)) (l:List Nat→(Option ρ)):(Option ρ):=AV.rec (motive_1:=fun _=>(Option ρ)) (motive_2:=fun _=>Unit) (motive_3:=fun _=>Unit)
 e (fun _=>e) (fun t n=>k t n) (fun s=>l s) (fun _ _ _=>e) (fun _ _=>e) e (fun _ _=>e) (fun _ _=>e) (fun _ _=>e) (fun _=>e) e (fun _ _ _ _ _=>e) e (fun _ _=>e) (fun _ _=>e) (fun _ _ _=>e) e (fun _ _ _ _=>e) (fun _ _=>e) e
 () (fun _ _ _ _=>()) () (fun _ _ _ _=>()) x
noncomputable def onS (x:AV) (e:(Option ρ)) (k:List Nat→(Option ρ)):(Option ρ):=AV.rec (motive_1:=fun _=>(Option ρ)) (motive_2:=fun _=>Unit) (motive_3:=fun _=>Unit)
 e (fun _=>e) (fun t n=>e) (fun s=>k s) (fun _ _ _=>e) (fun _ _=>e) e (fun _ _=>e) (fun _ _=>e) (fun _ _=>e) (fun _=>e) e (fun _ _ _ _ _=>e) e (fun _ _=>e) (fun _ _=>e) (fun _ _ _=>e) e (fun _ _ _ _=>e) (fun _ _=>e) e
 () (fun _ _ _ _=>()) () (fun _ _ _ _=>()) x
noncomputable def onB (x:AV) (e:(Option ρ)) (k:Bool→(Option ρ)):(Option ρ):=AV.rec (motive_1:=fun _=>(Option ρ)) (motive_2:=fun _=>Unit) (motive_3:=fun _=>Unit)
 e (fun b=>k b) (fun t n=>e) (fun s=>e) (fun _ _ _=>e) (fun _ _=>e) e (fun _ _=>e) (fun _ _=>e) (fun _ _=>e) (fun _=>e) e (fun _ _ _ _ _=>e) e (fun _ _=>e) (fun _ _=>e) (fun _ _ _=>e) e (fun _ _ _ _=>e) (fun _ _=>e) e
 () (fun _ _ _ _=>()) () (fun _ _ _ _=>()) x
noncomputable def d4C (x:AV) (e:(Option ρ)) (k:Bool→(Option ρ)) (t:List AV→(Option ρ)):(Option ρ):=AV.rec (motive_1:=fun _=>(Option ρ)) (motive_2:=fun _=>Unit) (motive_3:=fun _=>Unit)
 e (fun b=>k b) (fun t n=>e) (fun s=>e) (fun _ _ _=>e) (fun _ _=>e) e (fun _ _=>e) (fun _ _=>e) (fun _ _=>e) (fun _=>e) e (fun _ _ _ _ _=>e) e (fun _ _=>e) (fun vs _=>t vs) (fun _ _ _=>e) e (fun _ _ _ _=>e) (fun _ _=>e) e
 () (fun _ _ _ _=>()) () (fun _ _ _ _=>()) x
noncomputable def onL (x:AV) (e:(Option ρ)) (k:List (List AV)→(Option ρ)):(Option ρ):=AV.rec (motive_1:=fun _=>(Option ρ)) (motive_2:=fun _=>Unit) (motive_3:=fun _=>Unit)
 e (fun b=>e) (fun t n=>e) (fun s=>e) (fun _ xs _=>k xs) (fun _ _=>e) e (fun _ _=>e) (fun _ _=>e) (fun _ _=>e) (fun _=>e) e (fun _ _ _ _ _=>e) e (fun _ _=>e) (fun _ _=>e) (fun _ _ _=>e) e (fun _ _ _ _=>e) (fun _ _=>e) e
 () (fun _ _ _ _=>()) () (fun _ _ _ _=>()) x
noncomputable def onP (x:AV) (e:(Option ρ)) (k:Nat→Nat→(Option ρ)):(Option ρ):=AV.rec (motive_1:=fun _=>(Option ρ)) (motive_2:=fun _=>Unit) (motive_3:=fun _=>Unit)
 e (fun b=>e) (fun t n=>e) (fun s=>e) (fun _ xs _=>e) (fun o f=>k o f) e (fun _ _=>e) (fun _ _=>e) (fun _ _=>e) (fun _=>e) e (fun _ _ _ _ _=>e) e (fun _ _=>e) (fun _ _=>e) (fun _ _ _=>e) e (fun _ _ _ _=>e) (fun _ _=>e) e
 () (fun _ _ _ _=>()) () (fun _ _ _ _=>()) x
noncomputable def a9T (x:AV) (e:(Option ρ)) (k:Nat→Nat→(Option ρ)) (l:List AV→(Option ρ)) (m:Nat→Nat→(Option ρ)):(Option ρ):=AV.rec (motive_1:=fun _=>(Option ρ)) (motive_2:=fun _=>Unit) (motive_3:=fun _=>Unit)
 e (fun b=>e) (fun t n=>e) (fun s=>e) (fun _ xs _=>e) (fun o f=>k o f) e (fun cs _=>l cs) (fun i f=>m i f) (fun _ _=>e) (fun _=>e) e (fun _ _ _ _ _=>e) e (fun _ _=>e) (fun _ _=>e) (fun _ _ _=>e) e (fun _ _ _ _=>e) (fun _ _=>e) e
 () (fun _ _ _ _=>()) () (fun _ _ _ _=>()) x
noncomputable def onR (x:AV) (e:(Option ρ)) (l:List AV→(Option ρ)):(Option ρ):=AV.rec (motive_1:=fun _=>(Option ρ)) (motive_2:=fun _=>Unit) (motive_3:=fun _=>Unit)
 e (fun b=>e) (fun t n=>e) (fun s=>e) (fun _ xs _=>e) (fun o f=>e) e (fun cs _=>l cs) (fun _ _=>e) (fun _ _=>e) (fun _=>e) e (fun _ _ _ _ _=>e) e (fun _ _=>e) (fun _ _=>e) (fun _ _ _=>e) e (fun _ _ _ _=>e) (fun _ _=>e) e
 () (fun _ _ _ _=>()) () (fun _ _ _ _=>()) x
noncomputable def b6F (x:AV) (e:(Option ρ)) (l:List AV→(Option ρ)):(Option ρ):=AV.rec (motive_1:=fun _=>(Option ρ)) (motive_2:=fun _=>Unit) (motive_3:=fun _=>Unit)
 e (fun b=>e) (fun t n=>e) (fun s=>e) (fun _ xs _=>e) (fun o f=>e) e (fun cs _=>e) (fun _ _=>e) (fun cs _=>l cs) (fun _=>e) e (fun _ _ _ _ _=>e) e (fun _ _=>e) (fun _ _=>e) (fun _ _ _=>e) e (fun _ _ _ _=>e) (fun _ _=>e) e
 () (fun _ _ _ _=>()) () (fun _ _ _ _=>()) x
noncomputable def c01 (x:AV) (e:(Option ρ)) (l:Nat→Nat→(Option ρ)):(Option ρ):=AV.rec (motive_1:=fun _=>(Option ρ)) (motive_2:=fun _=>Unit) (motive_3:=fun _=>Unit)
 e (fun b=>e) (fun t n=>e) (fun s=>e) (fun _ xs _=>e) (fun o f=>e) e (fun cs _=>e) (fun i f=>l i f) (fun cs _=>e) (fun _=>e) e (fun _ _ _ _ _=>e) e (fun _ _=>e) (fun _ _=>e) (fun _ _ _=>e) e (fun _ _ _ _=>e) (fun _ _=>e) e
 () (fun _ _ _ _=>()) () (fun _ _ _ _=>()) x
theorem a1s (x:AV) (e:(Option ρ)) (k:IntKind→Int→(Option ρ)):onI x e k=match x with|.int t n=>k t n|_=>e:=by cases x<;>rfl
theorem b22 (x:AV) (e:(Option ρ)) (k:IntKind→Int→(Option ρ)) (l:List Nat→(Option ρ)):c0N x e k l=match x with|.int t n=>k t n|.str s=>l s|_=>e:=by cases x<;>rfl
theorem a5L (x:AV) (e:(Option ρ)) (k:List Nat→(Option ρ)):onS x e k=match x with|.str s=>k s|_=>e:=by cases x<;>rfl
theorem b0k (x:AV) (e:(Option ρ)) (k:Bool→(Option ρ)):onB x e k=match x with|.bool b=>k b|_=>e:=by cases x<;>rfl
theorem c3p (x:AV) (e:(Option ρ)) (k:Bool→(Option ρ)) (t:List AV→(Option ρ)):d4C x e k t=match x with|.bool b=>k b|.tuple vs=>t vs|_=>e:=by cases x<;>rfl
theorem b0U (x:AV) (e:(Option ρ)) (k:List (List AV)→(Option ρ)):onL x e k=match x with|.list _ xs=>k xs|_=>e:=by cases x<;>rfl
theorem b1n (x:AV) (e:(Option ρ)) (k:Nat→Nat→(Option ρ)):onP x e k=match x with|.ptr o f=>k o f|_=>e:=by cases x<;>rfl
theorem a6S (x:AV) (e:(Option ρ)) (k:Nat→Nat→(Option ρ)) (l:List AV→(Option ρ)) (m:Nat→Nat→(Option ρ)):a9T x e k l m=match x with|.ptr o f=>k o f|.ro cs=>l cs|.loc i f=>m i f|_=>e:=by cases x<;>rfl
theorem d2u (x:AV) (e:(Option ρ)) (l:List AV→(Option ρ)):onR x e l=match x with|.ro cs=>l cs|_=>e:=by cases x<;>rfl
theorem a9c (x:AV) (e:(Option ρ)) (l:List AV→(Option ρ)):b6F x e l=match x with|.box cs=>l cs|_=>e:=by cases x<;>rfl
theorem b3k (x:AV) (e:(Option ρ)) (l:Nat→Nat→(Option ρ)):c01 x e l=match x with|.loc i f=>l i f|_=>e:=by cases x<;>rfl
end
noncomputable def kIx (k:IntKind):Nat:=IntKind.rec (motive:=fun _=>Nat) 0 1 2 3 4 5 6 7 k
noncomputable def cB (b:Bool) (x y:(Option ρ)):(Option ρ):=Bool.rec (motive:=fun _=>(Option ρ)) y x b
theorem X7 (b:Bool) (x y:(Option ρ)):cB b x y=if b=true then x else y:=by cases b<;>rfl
theorem a5b (a b:IntKind):Nat.beq (kIx a) (kIx b)=decide (a=b):=by cases a<;>cases b<;>rfl
noncomputable def bo (b:Bool) (k:AV→(Option ρ)):(Option ρ):=cB b (k (.bool true)) (k (.bool false))
theorem a79 (b:Bool) (k:AV→(Option ρ)):bo b k=k (.bool b):=by cases b<;>rfl
noncomputable def a3R (n:Nat) (k:Nat→(Option ρ)):(Option ρ):=Nat.rec (motive:=fun _=>(Option ρ)) (k 0) (fun m _=>k (Nat.succ m)) n
theorem a0Z (n:Nat) (k:Nat→(Option ρ)):a3R n k=k n:=by cases n<;>rfl
noncomputable def nn (a b:Int) (e:(Option ρ)) (k:Nat→Nat→(Option ρ)):(Option ρ):=Int.rec (motive:=fun _=>(Option ρ)) (fun a=>Int.rec (motive:=fun _=>(Option ρ)) (fun b=>k a b) (fun _=>e) b) (fun _=>e) a
theorem a5Y (a b:Int) (e:(Option ρ)) (k:Nat→Nat→(Option ρ)):nn a b e k=match a,b with|.ofNat a,.ofNat b=>k a b|_,_=>e:=by cases a<;>cases b<;>rfl
noncomputable def eqF (x:List Nat):List Nat→Bool:=List.rec (motive:=fun _=>List Nat→Bool) (fun y=>List.rec (motive:=fun _=>Bool) true (fun _ _ _=>false) y)
 (fun a _ i y=>List.rec (motive:=fun _=>Bool) false (fun b t _=>Bool.rec (motive:=fun _=>Bool) false (i t) (Nat.beq a b)) y) x
theorem b02:∀ x y:List Nat,eqF x y=eqN x y
 | [],[]=>rfl
 | [],_::_=>rfl
 | _::_,[]=>rfl
 | a::x,b::y=>by have i:=b02 x y;show(Bool.rec (motive:=fun _=>Bool) false (eqF x y) (Nat.beq a b))=(Nat.beq a b && eqN x y);rw[i];cases Nat.beq a b<;>rfl
noncomputable def a4G {β:Type} (l:List β) (e:(Option ρ)) (k:β→(Option ρ)):Nat→(Option ρ):=List.rec (motive:=fun _=>Nat→(Option ρ)) (fun _=>e) (fun a _ t i=>Nat.rec (motive:=fun _=>(Option ρ)) (k a) (fun j _=>t j) i) l
theorem a3I {β:Type}:∀ (l:List β) (e:(Option ρ)) (k:β→(Option ρ)) (i:Nat),a4G l e k i=match l[i]? with|some a=>k a|none=>e
 | [],e,k,i=>by cases i<;>rfl
 | a::l,e,k,0=>rfl
 | a::l,e,k,i+1=>by have:=a3I l e k i;show a4G l e k i=_;rw[this];simp
noncomputable def O5 {β:Type} (l:List β):Nat:=List.rec (motive:=fun _=>Nat) 0 (fun _ _ n=>Nat.add n 1) l
theorem L7 {β:Type}:∀ l:List β,O5 l=l.length
 | []=>rfl
 | a::l=>by show Nat.add (O5 l) 1=_;rw[L7 l];rfl
noncomputable def a7J (n:Nat):List AV→List AV:=Nat.rec (motive:=fun _=>List AV→List AV) (fun l=>l) (fun _ i l=>List.rec (motive:=fun _=>List AV) [] (fun _ t _=>i t) l) n
theorem a05:∀ (n:Nat) (l:List AV),a7J n l=l.drop n
 | 0,l=>rfl
 | n+1,[]=>rfl
 | n+1,a::l=>a05 n l
noncomputable def a9S {β:Type} (i:Nat) (l:List β):List β:=Nat.rec (motive:=fun _=>List β) l (fun _ j=>List.rec (motive:=fun _=>List β) [] (fun _ t _=>t) j) i
theorem a7f {β:Type}:∀ (i:Nat) (l:List β),a9S i l=l.drop i
 | 0,l=>rfl
 | i+1,l=>by have:=a7f i l;show List.rec (motive:=fun _=>List β) [] (fun _ t _=>t) (a9S i l)=_;rw[this,show l.drop (i+1)=(l.drop i).drop 1 by rw[List.drop_drop]];cases l.drop i<;>rfl
noncomputable def atO {β:Type} (l:List β) (e:(Option ρ)) (k:β→(Option ρ)) (i:Nat):(Option ρ):=List.rec (motive:=fun _=>(Option ρ)) e (fun a _ _=>k a) (a9S i l)
theorem b8K {β:Type} (l:List β) (e:(Option ρ)) (k:β→(Option ρ)) (i:Nat):atO l e k i=match l[i]? with|some a=>k a|none=>e:=by
 unfold atO;rw[a7f];have h:l[i]?=(l.drop i)[0]?:=by simp
 rw[h];cases l.drop i<;>rfl
noncomputable def a9R {β:Type} (n:Nat) (l:List β) (k:List β→(Option ρ)):(Option ρ):=Nat.rec (motive:=fun _=>List β→(List β→(Option ρ))→(Option ρ)) (fun _ k=>k []) (fun _ i l k=>List.rec (motive:=fun _=>(Option ρ)) (k []) (fun a t _=>i t fun r=>k (a::r)) l) n l k
theorem a3V {β:Type}:∀ (n:Nat) (l:List β) (k:List β→(Option ρ)),a9R n l k=k (l.take n)
 | 0,l,k=>by show k []=_; rw[List.take_zero]
 | n+1,[],k=>rfl
 | n+1,a::l,k=>a3V n l fun r=>k (a::r)
noncomputable def a7h {β:Type} (l r:List β) (k:List β→(Option ρ)):(Option ρ):=List.rec (motive:=fun _=>(List β→(Option ρ))→(Option ρ)) (fun k=>k r) (fun a _ i k=>i fun t=>k (a::t)) l k
theorem a6i {β:Type} (r:List β):∀ (l:List β) (k:List β→(Option ρ)),a7h l r k=k (l++r)
 | [],k=>rfl
 | a::l,k=>a6i r l fun t=>k (a::t)
noncomputable def c2o (l:List AV) (e:(Option ρ)) (k:AV→(Option ρ)):(Option ρ):=List.rec (motive:=fun _=>(Option ρ)) e (fun a _ _=>k a) l
theorem c0i (l:List AV) (e:(Option ρ)) (k:AV→(Option ρ)):c2o l e k=match l with|a::_=>k a|[]=>e:=by cases l<;>rfl
noncomputable def w1K (x:AV) (k:AV→(Option ρ)):(Option ρ):=AV.rec (motive_1:=fun _=>(Option ρ)) (motive_2:=fun _=>Unit) (motive_3:=fun _=>Unit)
 (k .undef) (fun b=>k (.bool b)) (fun t n=>k (.int t n)) (fun s=>k (.str s)) (fun _ xs _=>k (.list false xs)) (fun o f=>k (.ptr o f)) (k .nilp) (fun cs _=>k (.ro cs)) (fun i f=>k (.loc i f)) (fun cs _=>k (.box cs)) (fun o=>k (.map o)) (k .nilm) (fun f a c _ _=>k (.func f a c)) (k .nilf) (fun cs _=>k (.agg cs)) (fun vs _=>k (.tuple vs)) (fun t v _=>k (.iface t v)) (k .nili) (fun o f n s=>k (.sl o f n s)) (fun xs _=>k (.fresh xs)) (k .nils)
 () (fun _ _ _ _=>()) () (fun _ _ _ _=>()) x
theorem b8S (x:AV) (k:AV→(Option ρ)):w1K x k=k x.weak1:=by cases x<;>rfl
noncomputable def c2h (l:List AV) (k:List AV→(Option ρ)):(Option ρ):=List.rec (motive:=fun _=>(List AV→(Option ρ))→(Option ρ)) (fun k=>k []) (fun a _ i k=>w1K a fun w=>i fun r=>k (w::r)) l k
theorem b3i:∀ (l:List AV) (k:List AV→(Option ρ)),c2h l k=k (l.map AV.weak1)
 | [],k=>rfl
 | a::l,k=>by show w1K a (fun w=>c2h l fun r=>k (w::r))=_;rw[b8S,b3i l];rfl
noncomputable def a7R {β:Type} (l:List β) (e:(Option ρ)) (k:List β→(Option ρ)):(Option ρ):=List.rec (motive:=fun _=>(Option ρ)) e (fun _ l _=>List.rec (motive:=fun _=>(Option ρ)) e (fun _ l _=>List.rec (motive:=fun _=>(Option ρ)) e (fun _ l _=>List.rec (motive:=fun _=>(Option ρ)) e (fun _ l _=>List.rec (motive:=fun _=>(Option ρ)) e (fun _ l _=>List.rec (motive:=fun _=>(Option ρ)) e (fun _ l _=>List.rec (motive:=fun _=>(Option ρ)) e (fun _ l _=>List.rec (motive:=fun _=>(Option ρ)) e (fun _ l _=>k l) l) l) l) l) l) l) l) l
theorem c1i {β:Type} (l:List β) (e:(Option ρ)) (k:List β→(Option ρ)):a7R l e k=if 8≤l.length then k (l.drop 8)else e:=by
 match l with
 | []=>rfl
 | [_]=>rfl
 | [_,_]=>rfl
 | [_,_,_]=>rfl
 | [_,_,_,_]=>rfl
 | [_,_,_,_,_]=>rfl
 | [_,_,_,_,_,_]=>rfl
 | [_,_,_,_,_,_,_]=>rfl
 | _::_::_::_::_::_::_::_::t=>rw[if_pos (by simp)]; rfl
noncomputable def b6f {β:Type} (l:List β) (e:(Option ρ)) (k:β→(Option ρ)) (i:Nat):(Option ρ):=Nat.rec (motive:=fun _=>List β→(Option ρ)) (fun l=>a4G l e k (Nat.mod i 8)) (fun _ j l=>a7R l e j) (Nat.div i 8) l
theorem b2O {β:Type} (e:(Option ρ)) (k:β→(Option ρ)) (r:Nat):∀ (q:Nat) (l:List β),Nat.rec (motive:=fun _=>List β→(Option ρ)) (fun l=>a4G l e k r) (fun _ i l=>a7R l e i) q l=a4G l e k (8*q+r)
 | 0,l=>by show a4G l e k r=_; rw[Nat.mul_zero,Nat.zero_add]
 | q+1,l=>by
  show a7R l e (fun l=>Nat.rec (motive:=fun _=>List β→(Option ρ)) (fun l=>a4G l e k r) (fun _ i l=>a7R l e i) q l)=_;rw[c1i,b2O e k r q (l.drop 8),a3I,a3I];split
  · rw[List.getElem?_drop,show 8+(8*q+r)=8*(q+1)+r by omega]
  · rw[List.getElem?_eq_none (by omega)]
theorem a8s {β:Type} (l:List β) (e:(Option ρ)) (k:β→(Option ρ)) (i:Nat):b6f l e k i=match l[i]? with|some a=>k a|none=>e:=by unfold b6f;rw[b2O e k (Nat.mod i 8) (Nat.div i 8) l,a3I,show 8*Nat.div i 8+Nat.mod i 8=i from Nat.div_add_mod i 8]
noncomputable def a3M {β:Type} (l:List β) (e:(Option ρ)) (i:List β→(List β→(Option ρ))→(Option ρ)) (k:List β→(Option ρ)):(Option ρ):=List.rec (motive:=fun _=>(Option ρ)) e (fun a0 l _=>List.rec (motive:=fun _=>(Option ρ)) e (fun a1 l _=>List.rec (motive:=fun _=>(Option ρ)) e (fun a2 l _=>List.rec (motive:=fun _=>(Option ρ)) e (fun a3 l _=>List.rec (motive:=fun _=>(Option ρ)) e (fun a4 l _=>List.rec (motive:=fun _=>(Option ρ)) e (fun a5 l _=>List.rec (motive:=fun _=>(Option ρ)) e (fun a6 l _=>List.rec (motive:=fun _=>(Option ρ)) e (fun a7 l _=>i l (fun r=>k (a0::a1::a2::a3::a4::a5::a6::a7::r))) l) l) l) l) l) l) l) l
theorem b20 {β:Type} (l:List β) (e:(Option ρ)) (i:List β→(List β→(Option ρ))→(Option ρ)) (k:List β→(Option ρ)):a3M l e i k=if 8≤l.length then i (l.drop 8) (fun r=>k (l.take 8++r))else e:=by
 match l with
 | []=>rfl
 | [_]=>rfl
 | [_,_]=>rfl
 | [_,_,_]=>rfl
 | [_,_,_,_]=>rfl
 | [_,_,_,_,_]=>rfl
 | [_,_,_,_,_,_]=>rfl
 | [_,_,_,_,_,_,_]=>rfl
 | _::_::_::_::_::_::_::_::t=>rw[if_pos (by simp)]; rfl
section
variable (c:e9) (b:AV) (s:St) (f:AV→(Option ρ))
noncomputable def c0V (x y:AV):(Option ρ):=c0N x none (fun t m=>onI y none fun u n=>cB (Nat.beq (kIx t) (kIx u)) (nn m n (bo (eqI m n) f) fun a b=>bo (Nat.beq a b) f) none) (fun l=>onS y none fun r=>bo (eqF l r) f)
noncomputable def b9h (x y:AV):(Option ρ):=c0N x none (fun t m=>onI y none fun u n=>cB (Nat.beq (kIx t) (kIx u)) (nn m n (bo (!eqI m n) f) fun a b=>cB (Nat.beq a b) (f (.bool false)) (f (.bool true))) none) (fun l=>onS y none fun r=>cB (eqF l r) (f (.bool false)) (f (.bool true)))
noncomputable def a3b (op:BinOp) (g:Nat→Nat→Bool) (x y:AV):(Option ρ):=onI x (obind (p1 (sem (.bin op) c [x,y] b s)) f) (fun t m=>onI y none fun u n=>cB (Nat.beq (kIx t) (kIx u)) (nn m n (obind (p1 (sem (.bin op) c [.int t m,.int u n] b s)) f) fun a b=>bo (g a b) f) none)
noncomputable def c0b (x y:AV):(Option ρ):=onI x (obind (p1 (sem (.bin .add) c [x,y] b s)) f) (fun t m=>onI y none fun u n=>cB (Nat.beq (kIx t) (kIx u)) (nn m n (obind (p1 (sem (.bin .add) c [.int t m,.int u n] b s)) f)
 fun i j=>a3R (Nat.add i j) fun r=>cB (Nat.blt r 128) (f (.int t (.ofNat r))) (cB (Nat.beq (kIx t) 3) (cB (Nat.blt r 9223372036854775808) (f (.int t (.ofNat r))) (obind (p1 (sem (.bin .add) c [.int t m,.int u n] b s)) f)) (obind (p1 (sem (.bin .add) c [.int t m,.int u n] b s)) f))) none)
noncomputable def b9Y (x y:AV):(Option ρ):=onI x (obind (p1 (sem (.bin .sub) c [x,y] b s)) f) (fun t m=>onI y none fun u n=>cB (Nat.beq (kIx t) (kIx u)) (nn m n (obind (p1 (sem (.bin .sub) c [.int t m,.int u n] b s)) f)
 fun i j=>cB (Nat.ble j i) (a3R (Nat.sub i j) fun r=>cB (Nat.blt r 128) (f (.int t (.ofNat r))) (cB (Nat.beq (kIx t) 3) (cB (Nat.blt r 9223372036854775808) (f (.int t (.ofNat r))) (obind (p1 (sem (.bin .sub) c [.int t m,.int u n] b s)) f)) (obind (p1 (sem (.bin .sub) c [.int t m,.int u n] b s)) f))) (obind (p1 (sem (.bin .sub) c [.int t m,.int u n] b s)) f)) none)
noncomputable def c0o (x:AV):(Option ρ):=onB x none fun y=>cB y (f (.bool false)) (f (.bool true))
noncomputable def b1A (x:AV):(Option ρ):=cB x.plain (f x) none
noncomputable def b3r (x y z:AV):(Option ρ):=onB x none fun v=>cB v (b1A f y) (b1A f z)
noncomputable def b9C (x:AV):(Option ρ):=a9T x (obind (p1 (sem .nilchk c [x] b s)) f) (fun o i=>f (.ptr o i)) (fun cs=>f (.ro cs)) (fun i j=>f (.loc i j))
noncomputable def c1C (d:Nat) (x:AV):(Option ρ):=a9T x none (fun o i=>a3R (Nat.add i d) fun i=>f (.ptr o i)) (fun cs=>f (.ro (a7J d cs))) (fun o i=>a3R (Nat.add i d) fun i=>f (.loc o i))
noncomputable def a5X (ag:Bool) (n:Nat) (cs:List AV):(Option ρ):=cB ag (cB (Nat.ble n (O5 cs)) (a9R n cs fun r=>c2h r fun r=>f (.agg r)) none) (c2o cs none fun x=>w1K x f)
noncomputable def b0a (x:Obj) (k:List AV→(Option ρ)):(Option ρ):=Obj.rec (motive:=fun _=>(Option ρ)) k (fun _=>none) none x
noncomputable def a3N (ag:Bool) (n:Nat) (x:AV):(Option ρ):=onP x none fun o i=>b6f s none (fun j=>b0a j fun cs=>a5X f ag n (a7J i cs)) o
noncomputable def a7N (ag:Bool) (n:Nat) (x:AV):(Option ρ):=onR x none fun cs=>a5X f ag n cs
noncomputable def b6D (i:Nat) (ag:Bool) (n:Nat) (x:AV):(Option ρ):=c01 x none fun j off=>b6F b none fun cs=>cB (Nat.beq i j) (a5X f ag n (a7J off cs)) none
noncomputable def b3X (x:AV):(Option ρ):=onS x none fun l=>a3R (O5 l) fun n=>f (.int .i64 (.ofNat n))
noncomputable def b4W (x:AV):(Option ρ):=onL x (obind (p1 (sem .lenL c [x] b s)) f) fun l=>a3R (O5 l) fun n=>f (.int .i64 (.ofNat n))
noncomputable def c2d (x y:AV):(Option ρ):=onS x none fun l=>onI y none fun _ n=>Int.rec (motive:=fun _=>(Option ρ)) (fun i=>atO l none (fun m=>f (.int .u8 (.ofNat m))) i) (fun _=>none) n
noncomputable def c0k (j:Nat) (x y:AV):(Option ρ):=onL x (obind (p1 (sem (.iad j) c [x,y] b s)) f) fun l=>onI y none fun _ n=>Int.rec (motive:=fun _=>(Option ρ)) (fun i=>atO l none (fun r=>cB (Nat.beq (O5 r) j) (f (.ro r)) none) i) (fun _=>none) n
end
section
variable (c:e9) (b:AV) (s:St) (f:AV→(Option ρ))
theorem c54 (x y:AV):c0V f x y=obind (p1 (sem (.bin .eql) c [x,y] b s)) f:=by
 simp only[c0V,b22,a1s,a5L,X7,a79,a5Y,b02,a5b,sem,F1];cases x<;>cases y<;>try rfl
 · rename_i t m u n;by_cases h:t=u
   · subst h;cases m<;>cases n<;>simp[s4,p1,obind,eqI]
   · simp[s4,h,p1,obind]
theorem c6H (x y:AV):b9h f x y=obind (p1 (sem (.bin .neq) c [x,y] b s)) f:=by
 simp only[b9h,b22,a1s,a5L,X7,a79,a5Y,b02,a5b,sem,F1];cases x<;>cases y<;>try rfl
 · rename_i t m u n;by_cases h:t=u
   · subst h;cases m<;>cases n<;>simp[s4,p1,obind,eqI];rename_i m n;by_cases h:m=n
     · subst h; simp
     · have e:Nat.beq m n=false:=Bool.eq_false_iff.mpr (fun q=>h (Nat.eq_of_beq_eq_true q));simp[e,h]
   · simp[s4,h,p1,obind]
 · rename_i l r;simp only[s4,Option.map_some,p1,obind];cases eqN l r<;>rfl
theorem c0c {op:BinOp} (i:op=.lss∨op=.leq∨op=.gtr∨op=.geq) (t:IntKind) (m:Int) (y:AV) (j:∀ u n,y≠.int u n):s4 op (.int t m) y=none:=by cases y<;>first|(exfalso; exact j _ _ rfl)|(rcases i with rfl|rfl|rfl|rfl<;>rfl)
theorem d5a {op:BinOp} (i:op=.lss∨op=.leq∨op=.gtr∨op=.geq) {t u:IntKind} (h:t≠u) (m n:Int):s4 op (.int t m) (.int u n)=none:=by rcases i with rfl|rfl|rfl|rfl<;>simp[s4,h]
theorem a5W (op:BinOp) (g:Nat→Nat→Bool) (l:op=.lss∨op=.leq∨op=.gtr∨op=.geq) (hg:∀ (t:IntKind) (i j:Nat),s4 op (.int t (.ofNat i)) (.int t (.ofNat j))=some (.bool (g i j))) (x y:AV):a3b c b s f op g x y=obind (p1 (sem (.bin op) c [x,y] b s)) f:=by
 simp only[a3b,a1s,X7,a79,a5Y,a5b];cases x<;>try rfl
 rename_i t m;cases y
 case int u n =>
  simp only;by_cases h:t=u
  · subst h;simp only[decide_true,if_true];cases m<;>cases n<;>try rfl
    rename_i i j;simp only[sem,F1,hg,Option.map_some,p1,obind]
  · simp only[h,decide_false,Bool.false_eq_true,if_false,sem,F1,d5a l h,Option.map_none,p1,obind]
 all_goals (simp only[sem,F1]; rw[c0c l _ _ _ (by simp)]; rfl)
theorem a7W (t:IntKind) {r:Nat} (h:r < 128):D9 t (Int.ofNat r)=Int.ofNat r:=by rw[Y6];cases t<;>simp[IntKind.wrap,IntKind.signed,IntKind.bits]<;>omega
theorem a9k {r:Nat} (h:r < 9223372036854775808):D9 .i64 (Int.ofNat r)=Int.ofNat r:=by simp only[D9];rw[if_pos (by simpa using h)]
theorem c2j (t:IntKind):Nat.beq (kIx t) 3=true→t=.i64:=by cases t<;>decide
theorem a7H {op:BinOp} (i:op=.add∨op=.sub) (t:IntKind) (m:Int) (y:AV) (j:∀ u n,y≠.int u n):s4 op (.int t m) y=none:=by cases y<;>first|(exfalso; exact j _ _ rfl)|(rcases i with rfl|rfl<;>rfl)
theorem c5Z (x y:AV):c0b c b s f x y=obind (p1 (sem (.bin .add) c [x,y] b s)) f:=by
 simp only[c0b,a1s,X7,a79,a5Y,a5b,a0Z];cases x<;>try rfl
 rename_i t m;cases y
 case int u n =>
  simp only;by_cases h:t=u
  · subst h;simp only[decide_true,if_true];cases m<;>cases n<;>try rfl
    rename_i i j;dsimp only;have e:∀ r,Nat.add i j=r→D9 t (Int.ofNat r)=Int.ofNat r→f (.int t (.ofNat r))=obind (p1 (sem (.bin .add) c [.int t (.ofNat i),.int t (.ofNat j)] b s)) f:=fun r l z=>by subst l;simp only[sem,F1,s4,if_true,a5t,z,Option.map_some,p1,obind]
    split
    · rename_i hl;exact e _ rfl (a7W t (by simpa using hl))
    · split
      · rename_i hk;have:=c2j t hk;subst this;split
        · rename_i hl;exact e _ rfl (a9k (by simpa using hl))
        · rfl
      · rfl
  · simp only[h,decide_false,Bool.false_eq_true,if_false,sem,F1,s4,Option.map_none,p1,obind]
 all_goals (simp only[sem,F1]; rw[a7H (.inl rfl) _ _ _ (by simp)]; rfl)
theorem c7J (x y:AV):b9Y c b s f x y=obind (p1 (sem (.bin .sub) c [x,y] b s)) f:=by
 simp only[b9Y,a1s,X7,a79,a5Y,a5b,a0Z];cases x<;>try rfl
 rename_i t m;cases y
 case int u n =>
  simp only;by_cases h:t=u
  · subst h;simp only[decide_true,if_true];cases m<;>cases n<;>try rfl
    rename_i i j;dsimp only;split
    · rename_i l;have e:∀ r,Nat.sub i j=r→D9 t (Int.ofNat r)=Int.ofNat r→f (.int t (.ofNat r))=obind (p1 (sem (.bin .sub) c [.int t (.ofNat i),.int t (.ofNat j)] b s)) f:=fun r z B=>by subst z;simp only[sem,F1,s4,if_true,b0N,l,B,Option.map_some,p1,obind]
      split
      · rename_i hl;exact e _ rfl (a7W t (by simpa using hl))
      · split
        · rename_i hk;have:=c2j t hk;subst this;split
          · rename_i hl;exact e _ rfl (a9k (by simpa using hl))
          · rfl
        · rfl
    · rfl
  · simp only[h,decide_false,Bool.false_eq_true,if_false,sem,F1,s4,Option.map_none,p1,obind]
 all_goals (simp only[sem,F1]; rw[a7H (.inr rfl) _ _ _ (by simp)]; rfl)
theorem c7D (x:AV):c0o f x=obind (p1 (sem (.un .not) c [x] b s)) f:=by
 simp only[c0o,b0k,X7,sem];cases x<;>try rfl
 rename_i y; cases y<;>rfl
theorem c1w (x y z:AV):b3r f x y z=obind (p1 (sem .pick c [x,y,z] b s)) f:=by
 simp only[b3r,b1A,b0k,X7,sem];cases x<;>try rfl
 rename_i v;cases v
 · simp only[F3,Bool.false_eq_true,if_false]; split<;>rfl
 · simp only[F3,if_true]; split<;>rfl
theorem c40 (x:AV):b9C c b s f x=obind (p1 (sem .nilchk c [x] b s)) f:=by simp only[b9C,a6S];cases x<;>rfl
theorem c2U (d:Nat) (x:AV):c1C f d x=obind (p1 (sem (.fad d) c [x] b s)) f:=by simp only[c1C,a6S,a0Z,a05];cases x<;>rfl
theorem a2n (ag:Bool) (n:Nat) (cs:List AV):a5X f ag n cs=match m4 ag n cs with|some v=>f v|none=>none:=by
 simp only[a5X,X7,c0i,L7,a3V,b3i,b8S];cases ag
 · cases cs<;>rfl
 · simp only[m4,if_true];by_cases h:n≤cs.length
   · have e:Nat.ble n cs.length=true:=by simpa using h
     simp only[e,h,if_true]
   · have e:Nat.ble n cs.length=false:=Bool.eq_false_iff.mpr (fun q=>h (Nat.le_of_ble_eq_true q));simp only[e,h,Bool.false_eq_true,if_false]
theorem a5F (x:Obj) (k:List AV→(Option ρ)):b0a x k=match x with|.cells cs=>k cs|_=>none:=by cases x<;>rfl
theorem b1v {x:Option AV}:obind (p1 (x.map fun v=>(v,b,s))) f=match x with|some v=>f v|none=>none:=by cases x<;>rfl
theorem b1k (ag:Bool) (n:Nat) (x:AV):a3N s f ag n x=obind (p1 (sem (.ldSt ag n) c [x] b s)) f:=by
 simp only[a3N,b1n,a8s,a5F,a2n,a05];cases x<;>try rfl
 rename_i o i;simp only[sem,F4];cases s[o]? with
 | none=>rfl
 | some j=>cases j<;>first|rfl|exact(b1v b s f).symm
theorem b1w (ag:Bool) (n:Nat) (x:AV):a7N f ag n x=obind (p1 (sem (.ldRo ag n) c [x] b s)) f:=by
 simp only[a7N,d2u,a2n];cases x<;>try rfl
 exact(b1v b s f).symm
theorem c0G (i:Nat) (ag:Bool) (n:Nat) (x:AV):b6D b f i ag n x=obind (p1 (sem (.ldLc i ag n) c [x] b s)) f:=by
 simp only[b6D,b3k,a9c,a2n,a05,X7];cases x<;>try rfl
 rename_i j off;cases b<;>try rfl
 rename_i cs;simp only[sem,M0];by_cases h:i=j
 · simp only[h,Nat.beq_refl,if_true];exact(b1v _ s f).symm
 · have:Nat.beq i j=false:=Bool.eq_false_iff.mpr (fun q=>h (Nat.eq_of_beq_eq_true q));simp only[this,h,Bool.false_eq_true,if_false];rfl
theorem c1G (x:AV):b3X f x=obind (p1 (sem .lenS c [x] b s)) f:=by simp only[b3X,a5L,a0Z,L7];cases x<;>rfl
theorem c0l (x:AV):b4W c b s f x=obind (p1 (sem .lenL c [x] b s)) f:=by simp only[b4W,b0U,a0Z,L7];cases x<;>rfl
theorem c5i (x y:AV):c2d f x y=obind (p1 (sem .idxS c [x,y] b s)) f:=by
 simp only[c2d,a5L,a1s,b8K];cases x<;>try rfl
 cases y<;>try rfl
 rename_i l k n;simp only[sem,N7];cases n with
 | ofNat i =>have e:(Int.ofNat i).toNat=i:=rfl;simp only[Int.ofNat_eq_natCast,Int.natCast_nonneg,if_true,Int.toNat_natCast];cases l[i]?<;>rfl
 | negSucc i=>rfl
theorem c3W (j:Nat) (x y:AV):c0k c b s f j x y=obind (p1 (sem (.iad j) c [x,y] b s)) f:=by
 simp only[c0k,b0U,a1s,b8K,X7,L7];cases x<;>try rfl
 cases y<;>try rfl
 rename_i w l k n;simp only[sem,O1];cases n with
 | ofNat i =>
  simp only[Int.ofNat_eq_natCast,Int.natCast_nonneg,if_true,Int.toNat_natCast];cases l[i]? with
  | none=>rfl
  | some r =>
   by_cases h:r.length=j
   · have:Nat.beq r.length j=true:=by rw[h]; exact Nat.beq_refl j
     simp only[this,if_true,if_pos h];rfl
   · have:Nat.beq r.length j=false:=Bool.eq_false_iff.mpr (fun q=>h (Nat.eq_of_beq_eq_true q));simp only[this,h,Bool.false_eq_true,if_false];rfl
 | negSucc i=>rfl
end
noncomputable def qSb (x:AV) (k:AV→AV→(Option ρ)):(Option ρ):=AV.rec (motive_1:=fun _=>(Option ρ)) (motive_2:=fun _=>Unit) (motive_3:=fun _=>Unit)
 (k .undef .undef)
 (fun b=>k (.bool b) (.bool b))
 (fun t n=>k (.int t n) (.int t n))
 (fun s=>k (.str s) (.str s))
 (fun o xs _=>k (.list o xs) (.list false xs))
 (fun o f=>k (.ptr o f) (.ptr o f))
 (k .nilp .nilp)
 (fun cs _=>k (.ro cs) (.ro cs))
 (fun i f=>k (.loc i f) (.loc i f))
 (fun cs _=>k .undef .undef)
 (fun o=>k (.map o) (.map o))
 (k .nilm .nilm)
 (fun f a c _ _=>k (.func f a c) (.func f a c))
 (k .nilf .nilf)
 (fun cs _=>k (.agg cs) (.agg (cs.map AV.weak1)))
 (fun vs _=>k (.tuple vs) (.tuple vs))
 (fun t v _=>k (.iface t v) (.iface t v))
 (k .nili .nili)
 (fun o f n s=>k (.sl o f n s) (.sl o f n s))
 (fun xs _=>k (.fresh xs) (.fresh xs))
 (k .nils .nils)
 () (fun _ _ _ _=>()) () (fun _ _ _ _=>()) x
noncomputable def qSv (x:AV) (k:AV→AV→(Option ρ)):(Option ρ):=AV.rec (motive_1:=fun _=>(Option ρ)) (motive_2:=fun _=>Unit) (motive_3:=fun _=>Unit)
 (k .undef .undef)
 (fun b=>k (.bool b) (.bool b))
 (fun t n=>k (.int t n) (.int t n))
 (fun s=>k (.str s) (.str s))
 (fun o xs _=>k (.list o xs) (.list false xs))
 (fun o f=>k (.ptr o f) (.ptr o f))
 (k .nilp .nilp)
 (fun cs _=>k (.ro cs) (.ro cs))
 (fun i f=>k .undef .undef)
 (fun cs _=>k .undef .undef)
 (fun o=>k (.map o) (.map o))
 (k .nilm .nilm)
 (fun f a c _ _=>k (.func f a c) (.func f a c))
 (k .nilf .nilf)
 (fun cs _=>k (.agg cs) (.agg (cs.map AV.weak1)))
 (fun vs _=>k (.tuple vs) (.tuple vs))
 (fun t v _=>k (.iface t v) (.iface t v))
 (k .nili .nili)
 (fun o f n s=>k (.sl o f n s) (.sl o f n s))
 (fun xs _=>k (.fresh xs) (.fresh xs))
 (k .nils .nils)
 () (fun _ _ _ _=>()) () (fun _ _ _ _=>()) x
noncomputable def qWk (x:AV) (k:AV→(Option ρ)):(Option ρ):=AV.rec (motive_1:=fun _=>(Option ρ)) (motive_2:=fun _=>Unit) (motive_3:=fun _=>Unit)
 (k .undef)
 (fun b=>k (.bool b))
 (fun t n=>k (.int t n))
 (fun s=>k (.str s))
 (fun o xs _=>k (.list false xs))
 (fun o f=>k (.ptr o f))
 (k .nilp)
 (fun cs _=>k (.ro cs))
 (fun i f=>k (.loc i f))
 (fun cs _=>k (.box cs))
 (fun o=>k (.map o))
 (k .nilm)
 (fun f a c _ _=>k (.func f a c))
 (k .nilf)
 (fun cs _=>k (.agg (cs.map AV.weak1)))
 (fun vs _=>k (.tuple vs))
 (fun t v _=>k (.iface t v))
 (k .nili)
 (fun o f n s=>k (.sl o f n s))
 (fun xs _=>k (.fresh xs))
 (k .nils)
 () (fun _ _ _ _=>()) () (fun _ _ _ _=>()) x
theorem b8A (x:AV) (k:AV→AV→(Option ρ)):qSb x k=k (AV.stripB x) (AV.weak (AV.stripB x)):=by cases x<;>rfl
theorem d0d (x:AV) (k:AV→AV→(Option ρ)):qSv x k=k (AV.strip x) (AV.weak (AV.strip x)):=by cases x<;>rfl
theorem a2g (x:AV) (k:AV→(Option ρ)):qWk x k=k (AV.weak x):=by cases x<;>rfl
noncomputable def onT (x:AV) (k:List AV→(Option ρ)):(Option ρ):=AV.rec (motive_1:=fun _=>(Option ρ)) (motive_2:=fun _=>Unit) (motive_3:=fun _=>Unit)
 (none)
 (fun b=>none)
 (fun t n=>none)
 (fun s=>none)
 (fun o xs _=>none)
 (fun o f=>none)
 (none)
 (fun cs _=>none)
 (fun i f=>none)
 (fun cs _=>none)
 (fun o=>none)
 (none)
 (fun f a c _ _=>none)
 (none)
 (fun cs _=>none)
 (fun vs _=>k vs)
 (fun t v _=>none)
 (none)
 (fun o f n s=>none)
 (fun xs _=>none)
 (none)
 () (fun _ _ _ _=>()) () (fun _ _ _ _=>()) x
theorem d38 (x:AV) (k:List AV→(Option ρ)):onT x k=match x with|.tuple vs=>k vs|_=>none:=by cases x<;>rfl
noncomputable def d36 (x:AV) (e:(Option ρ)) (k:Bool→List (List AV)→(Option ρ)):(Option ρ):=AV.rec (motive_1:=fun _=>(Option ρ)) (motive_2:=fun _=>Unit) (motive_3:=fun _=>Unit)
 (e)
 (fun b=>e)
 (fun t n=>e)
 (fun s=>e)
 (fun o xs _=>k o xs)
 (fun o f=>e)
 (e)
 (fun cs _=>e)
 (fun i f=>e)
 (fun cs _=>e)
 (fun o=>e)
 (e)
 (fun f a c _ _=>e)
 (e)
 (fun cs _=>e)
 (fun vs _=>e)
 (fun t v _=>e)
 (e)
 (fun o f n s=>e)
 (fun xs _=>e)
 (e)
 () (fun _ _ _ _=>()) () (fun _ _ _ _=>()) x
theorem c55 (x:AV) (e:(Option ρ)) (k:Bool→List (List AV)→(Option ρ)):d36 x e k=match x with|.list o xs=>k o xs|_=>e:=by cases x<;>rfl
noncomputable def onU (x:AV) (k:(Option ρ)):(Option ρ):=AV.rec (motive_1:=fun _=>(Option ρ)) (motive_2:=fun _=>Unit) (motive_3:=fun _=>Unit)
 (k)
 (fun b=>none)
 (fun t n=>none)
 (fun s=>none)
 (fun o xs _=>none)
 (fun o f=>none)
 (none)
 (fun cs _=>none)
 (fun i f=>none)
 (fun cs _=>none)
 (fun o=>none)
 (none)
 (fun f a c _ _=>none)
 (none)
 (fun cs _=>none)
 (fun vs _=>none)
 (fun t v _=>none)
 (none)
 (fun o f n s=>none)
 (fun xs _=>none)
 (none)
 () (fun _ _ _ _=>()) () (fun _ _ _ _=>()) x
theorem d1H (x:AV) (k:(Option ρ)):onU x k=match x with|.undef=>k|_=>none:=by cases x<;>rfl
noncomputable def onC (x:AV) (k:List AV→(Option ρ)):(Option ρ):=AV.rec (motive_1:=fun _=>(Option ρ)) (motive_2:=fun _=>Unit) (motive_3:=fun _=>Unit)
 (k [.undef])
 (fun b=>k [(.bool b)])
 (fun t n=>k [(.int t n)])
 (fun s=>k [(.str s)])
 (fun o xs _=>k [(.list o xs)])
 (fun o f=>k [(.ptr o f)])
 (k [.nilp])
 (fun cs _=>k [(.ro cs)])
 (fun i f=>k [(.loc i f)])
 (fun cs _=>k [(.box cs)])
 (fun o=>k [(.map o)])
 (k [.nilm])
 (fun f a c _ _=>k [(.func f a c)])
 (k [.nilf])
 (fun cs _=>k cs)
 (fun vs _=>k [(.tuple vs)])
 (fun t v _=>k [(.iface t v)])
 (k [.nili])
 (fun o f n s=>k [(.sl o f n s)])
 (fun xs _=>k [(.fresh xs)])
 (k [.nils])
 () (fun _ _ _ _=>()) () (fun _ _ _ _=>()) x
theorem b7c (x:AV) (k:List AV→(Option ρ)):onC x k=k x.cells:=by cases x<;>rfl
noncomputable def plB (x:AV) (k:(Option ρ)):(Option ρ):=AV.rec (motive_1:=fun _=>(Option ρ)) (motive_2:=fun _=>Unit) (motive_3:=fun _=>Unit)
 (none)
 (fun b=>k)
 (fun t n=>k)
 (fun s=>k)
 (fun o xs _=>k)
 (fun o f=>k)
 (k)
 (fun cs _=>k)
 (fun i f=>none)
 (fun cs _=>none)
 (fun o=>k)
 (k)
 (fun f a c _ _=>k)
 (k)
 (fun cs _=>k)
 (fun vs _=>none)
 (fun t v _=>k)
 (k)
 (fun o f n s=>k)
 (fun xs _=>none)
 (k)
 () (fun _ _ _ _=>()) () (fun _ _ _ _=>()) x
theorem a7X (x:AV) (k:(Option ρ)):plB x k=if x.plain then k else none:=by cases x<;>rfl
noncomputable def c0p (f:AV→(Option ρ)) (d:Nat) (x:AV):(Option ρ):=onT x fun vs=>a4G vs none (fun v=>qWk v f) d
theorem c6c (c:e9) (b:AV) (s:St) (f:AV→(Option ρ)) (d:Nat) (x:AV):c0p f d x=obind (p1 (sem (.ext d) c [x] b s)) f:=by
 simp only[c0p,d38,a3I,a2g];cases x<;>try rfl
 rename_i vs;simp only[sem,S1];cases vs[d]?<;>rfl
noncomputable def a7Y (xs:List AV) (k:List AV→(Option ρ)):(Option ρ):=List.rec (motive:=fun _=>(List AV→(Option ρ))→(Option ρ)) (fun k=>k []) (fun a _ i k=>plB a (qWk a fun w=>i fun j=>k (w::j))) xs k
theorem a5I:∀ (xs:List AV) (k:List AV→(Option ρ)),a7Y xs k=if y9 xs then k (xs.map AV.weak)else none
 | [],k=>rfl
 | a::xs,k=>by show plB a (qWk a fun w=>a7Y xs fun l=>k (w::l))=_;rw[a7X,a2g,a5I xs];simp only[y9,Bool.and_eq_true,List.map_cons];by_cases i:a.plain=true<;>by_cases j:y9 xs=true<;>simp[i,j]
noncomputable def c1n (x:Option (AV×St)) (k:AV→St→(Option ρ)):(Option ρ):=Option.rec (motive:=fun _=>(Option ρ)) none (fun p=>Prod.rec (motive:=fun _=>(Option ρ)) (fun v s=>k v s) p) x
theorem b3q (x:Option (AV×St)) (k:AV→St→(Option ρ)):c1n x k=match x with|some (v,s)=>k v s|none=>none:=by cases x<;>rfl
noncomputable def c1L (c:e9) (b:AV) (s:St) (f:AV→(Option ρ)) (x y z:AV):(Option ρ):=onS x none fun l=>onI z none fun _ m=>onI y (obind (p1 (sem (.slS true true) c [x,y,z] b s)) f) fun _ i=>nn i m (obind (p1 (sem (.slS true true) c [x,y,z] b s)) f) fun i m =>cB (Nat.ble m (O5 l)) (cB (Nat.ble i m) (a9R (Nat.sub m i) (a9S i l) fun r=>f (.str r)) none) none
theorem c34 (c:e9) (b:AV) (s:St) (f:AV→(Option ρ)) (x y z:AV):c1L c b s f x y z=obind (p1 (sem (.slS true true) c [x,y,z] b s)) f:=by
 simp only[c1L,a5L,a1s,a5Y,X7,a3V,a7f,L7];cases x<;>try rfl
 cases z<;>try rfl
 cases y<;>try rfl
 rename_i l _ m _ i;cases i<;>cases m<;>try rfl
 rename_i i m;simp only[sem,S0,H2,R2,Int.ofNat_eq_natCast,Int.natCast_nonneg,true_and,Int.toNat_natCast,Int.ofNat_le,Nat.ble_eq];by_cases j:m≤l.length
 · simp only[j,if_true];by_cases t:i≤m
   · simp only[t,if_true,Option.map_some,p1,obind];rw[List.drop_take];rfl
   · simp only[t,if_false];rfl
 · simp only[j,if_false];rfl
noncomputable def b4T (i:Nat) (l:List (List AV)):Bool:=List.rec (motive:=fun _=>Bool) true (fun r _ _=>Nat.beq (O5 r) i) l
theorem b86 (i:Nat) (l:List (List AV)):b4T i l=s5 i l:=by
 cases l with
 | nil=>rfl
 | cons r l =>show Nat.beq (O5 r) i=(r.length == i);rw[L7,Bool.eq_iff_iff];simp
noncomputable def b9i (b:AV) (s:St) (f:AV×AV×St→(Option ρ)) (d e:Nat) (x y:AV):(Option ρ):=d36 x none fun o xs=>onL y none fun ys=>cB o (cB (b4T d xs) (cB (b4T d ys) (cB (Nat.ble (Nat.mul (Nat.add (O5 xs) (O5 ys)) e) 140737488355328) (a7h xs ys fun r=>f (.list true r,b,s)) none) none) none) none
theorem c7E (c:e9) (b:AV) (s:St) (f:AV×AV×St→(Option ρ)) (d e:Nat) (x y:AV):b9i b s f d e x y=obind (sem (.app d e) c [x,y] b s) f:=by
 simp only[b9i,c55,b0U,X7,b86,L7,a6i];cases x<;>try rfl
 rename_i o xs;cases y<;>try (cases o<;>rfl)
 rename_i o2 ys;cases o<;>try rfl
 simp only[sem,W6,if_true];have i:(Nat.ble (Nat.mul (Nat.add xs.length ys.length) e) 140737488355328)=decide ((xs.length+ys.length)*e≤2 ^ 47):=by rw[Bool.eq_iff_iff];simp
 rw[i];cases s5 d xs<;>cases s5 d ys<;>try rfl
 simp only[Bool.true_and,if_true];split<;>rfl
noncomputable def b0t (b:AV) (s:St) (f:AV×AV×St→(Option ρ)) (d:List AV):(Option ρ):=onU b (f (.undef,.box d,s))
theorem b7J (c:e9) (b:AV) (s:St) (f:AV×AV×St→(Option ρ)) (d:List AV):b0t b s f d=obind (sem (.alloc d) c [] b s) f:=by simp only[b0t,d1H];cases b<;>rfl
noncomputable def b3G (cs:List AV) (off:Nat) (new:List AV) (k:List AV→(Option ρ)):(Option ρ):=a9R off cs fun a=>a7h new (a7J (Nat.add off (O5 new)) cs) fun t=>a7h a t k
theorem b26 (cs:List AV) (off:Nat) (new:List AV) (k:List AV→(Option ρ)):b3G cs off new k=k (B7 cs off new):=by simp only[b3G,a3V,a6i,a05,L7,B7,List.append_assoc];rfl
noncomputable def b3M (b:AV) (s:St) (f:AV×AV×St→(Option ρ)) (i d:Nat) (x y:AV):(Option ρ):=c01 x none fun j off=>b6F b none fun cs=>cB (Nat.beq i j) (plB y (onC y fun new=>cB (Nat.beq (O5 new) d) (cB (Nat.ble (Nat.add off d) (O5 cs)) (b3G cs off new fun r=>f (.tuple [],.box r,s)) none) none)) none
theorem c2p (a b:Nat):(Nat.beq a b=true)=(a=b):=by simp
theorem c2t (a b:Nat):(Nat.ble a b=true)=(a≤b):=by simp
theorem c0R (c:e9) (b:AV) (s:St) (f:AV×AV×St→(Option ρ)) (i d:Nat) (x y:AV):b3M b s f i d x y=obind (sem (.stLc i d) c [x,y] b s) f:=by
 simp only[b3M,b3k,a9c,X7,a7X,b7c,L7,b26,c2p,c2t];cases x<;>try rfl
 rename_i j off;cases b<;>try rfl
 rename_i cs;simp only[sem,O6];by_cases l:i=j<;>by_cases t:y.plain=true<;>by_cases u:y.cells.length=d<;>by_cases z:off+d≤cs.length<;>simp[l,t,u,z,obind]
noncomputable def b0e {β:Type} (l:List β) (i:Nat) (x:β) (k:List β→(Option ρ)):(Option ρ):=List.rec (motive:=fun _=>Nat→(List β→(Option ρ))→(Option ρ)) (fun _ k=>k []) (fun a t u i k=>Nat.rec (motive:=fun _=>(Option ρ)) (k (x::t)) (fun j _=>u j fun r=>k (a::r)) i) l i k
theorem b3p {β:Type} (x:β):∀ (l:List β) (i:Nat) (k:List β→(Option ρ)),b0e l i x k=k (l.set i x)
 | [],_,_=>rfl
 | a::l,0,k=>rfl
 | a::l,i+1,k=>b3p x l i fun r=>k (a::r)
noncomputable def b9D {β:Type} (l:List β) (i:Nat) (x:β) (k:List β→(Option ρ)):(Option ρ):=Nat.rec (motive:=fun _=>List β→(List β→(Option ρ))→(Option ρ)) (fun l k=>b0e l (Nat.mod i 8) x k) (fun _ j l k=>a3M l (k l) j k) (Nat.div i 8) l k
theorem b3j {β:Type} (x:β) (r:Nat):∀ (q:Nat) (l:List β) (k:List β→(Option ρ)),Nat.rec (motive:=fun _=>List β→(List β→(Option ρ))→(Option ρ)) (fun l k=>b0e l r x k) (fun _ i l k=>a3M l (k l) i k) q l k=k (l.set (8*q+r) x)
 | 0,l,k=>by show b0e l r x k=_; rw[b3p,Nat.mul_zero,Nat.zero_add]
 | q+1,l,k=>by
  show a3M l (k l) (fun l k=>Nat.rec (motive:=fun _=>List β→(List β→(Option ρ))→(Option ρ)) (fun l k=>b0e l r x k) (fun _ i l k=>a3M l (k l) i k) q l k) k=_;rw[b20];split
  · rename_i h;rw[b3j x r q (l.drop 8)];congr 1;rw[show 8*(q+1)+r=8+(8*q+r)by omega];conv=>rhs; rw[← List.take_append_drop 8 l]
    rw[List.set_append_right _ _ (by rw[List.length_take]; omega),List.length_take,Nat.min_eq_left h,Nat.add_sub_cancel_left]
  · rename_i h;rw[List.set_eq_of_length_le (by omega)]
theorem c2A {β:Type} (x:β) (l:List β) (i:Nat) (k:List β→(Option ρ)):b9D l i x k=k (l.set i x):=by unfold b9D;rw[b3j x (Nat.mod i 8) (Nat.div i 8) l k,show 8*Nat.div i 8+Nat.mod i 8=i from Nat.div_add_mod i 8]
noncomputable def b3u (s:St) (f:AV×St→(Option ρ)) (d:Nat) (x y:AV):(Option ρ):=onP x none fun o off=>b6f s none (fun i=>b0a i fun cs=>plB y (onC y fun new=>cB (Nat.beq (O5 new) d) (cB (Nat.ble (Nat.add off d) (O5 cs)) (b3G cs off new fun r=>b9D s o (.cells r) fun s=>f (.tuple [],s)) none) none)) o
theorem c0X (c:e9) (b:AV) (s:St) (f:AV×St→(Option ρ)) (d:Nat) (x y:AV):b3u s f d x y=obind (p2 (sem (.stSt d) c [x,y] b s)) f:=by
 simp only[b3u,b1n,a8s,a5F,X7,a7X,b7c,L7,b26,c2A,c2p,c2t];cases x<;>try rfl
 rename_i o off;simp only[sem,H5,fL_eq];cases s[o]? with
 | none=>rfl
 | some t =>
  cases t<;>try rfl
  rename_i cs;by_cases i:y.plain=true<;>by_cases j:y.cells.length=d<;>by_cases l:off+d≤cs.length<;>simp[i,j,l,obind,p2]
noncomputable def bW (v w:Bool) (x y:(Option ρ)):(Option ρ):=Bool.rec (motive:=fun _=>(Option ρ)) (Bool.rec (motive:=fun _=>(Option ρ)) x y w) (Bool.rec (motive:=fun _=>(Option ρ)) y x w) v
theorem d9q (v w:Bool) (x y:(Option ρ)):bW v w x y=if v == w then x else y:=by cases v<;>cases w<;>rfl
theorem nb (i j:Nat):(!Nat.blt j i)=Nat.ble i j:=by
 have l:(Nat.blt j i=true)↔j < i:=by simp
 have t:(Nat.ble i j=true)↔i≤j:=by simp
 cases u:Nat.blt j i<;>cases x:Nat.ble i j<;>simp only[u,x,true_iff,false_iff,Bool.false_eq_true]at l t<;>first|rfl|omega
theorem d3Y (c:e9) (b:AV) (s:St) (f:AV→(Option ρ)) (x y:AV):a3b c b s f .lss Nat.blt x y=obind (p1 (sem (.bin .lss) c [x,y] b s)) f:=a5W c b s f .lss _ (by simp) (fun t i j=>by simp[s4,ltI]) x y
theorem d0z (c:e9) (b:AV) (s:St) (f:AV→(Option ρ)) (x y:AV):a3b c b s f .leq Nat.ble x y=obind (p1 (sem (.bin .leq) c [x,y] b s)) f:=a5W c b s f .leq _ (by simp) (fun t i j=>by simp only[s4,if_true,Int.ofNat_eq_natCast]; rw[show ∀ a b:Nat,ltI (a:Int) (b:Int)=Nat.blt a b from fun _ _=>rfl,nb]) x y
theorem d1b (c:e9) (b:AV) (s:St) (f:AV→(Option ρ)) (x y:AV):a3b c b s f .gtr (fun i j=>Nat.blt j i) x y=obind (p1 (sem (.bin .gtr) c [x,y] b s)) f:=a5W c b s f .gtr _ (by simp) (fun t i j=>by simp[s4,ltI]) x y
theorem d6n (c:e9) (b:AV) (s:St) (f:AV→(Option ρ)) (x y:AV):a3b c b s f .geq (fun i j=>Nat.ble j i) x y=obind (p1 (sem (.bin .geq) c [x,y] b s)) f:=a5W c b s f .geq _ (by simp) (fun t i j=>by simp only[s4,if_true,Int.ofNat_eq_natCast]; rw[show ∀ a b:Nat,ltI (a:Int) (b:Int)=Nat.blt a b from fun _ _=>rfl,nb]) x y
end Go.Cb.G
namespace Go.Cb.G
open Go Go.Cb
inductive W8 (α:Type) where
 | mk (x0 x1 x2 x3 x4 x5 x6 x7:α)
abbrev Fr:=W8 (W8 AV)
def pk8 {α:Type} (i:Nat) (w:W8 α):α:=match w with
 | .mk j l t u x y z B=>match i with
  | 0=>j
  | 1=>l
  | 2=>t
  | 3=>u
  | 4=>x
  | 5=>y
  | 6=>z
  | _=>B
def st8 {α:Type} (i:Nat) (x:α) (w:W8 α):W8 α:=match w with
 | .mk j l t u y z B C=>match i with
  | 0=>.mk x l t u y z B C
  | 1=>.mk j x t u y z B C
  | 2=>.mk j l x u y z B C
  | 3=>.mk j l t x y z B C
  | 4=>.mk j l t u x z B C
  | 5=>.mk j l t u y x B C
  | 6=>.mk j l t u y z x C
  | _=>.mk j l t u y z B x
theorem lt8 {i:Nat} (h:i < 8):i=0∨i=1∨i=2∨i=3∨i=4∨i=5∨i=6∨i=7:=by omega
theorem b8G {α:Type} {i j:Nat} (hi:i < 8) (l:j < 8) (x:α) (w:W8 α):pk8 j (st8 i x w)=if j=i then x else pk8 j w:=by cases w;rcases lt8 hi with rfl|rfl|rfl|rfl|rfl|rfl|rfl|rfl<;>rcases lt8 l with rfl|rfl|rfl|rfl|rfl|rfl|rfl|rfl<;>rfl
def a0u (i:Nat) (fr:Fr):AV:=pk8 (i % 8) (pk8 (i / 8) fr)
def a2y (i:Nat) (x:AV) (fr:Fr):Fr:=st8 (i / 8) (st8 (i % 8) x (pk8 (i / 8) fr)) fr
theorem c6V {i j:Nat} (hi:i < 64) (t:j < 64) (x:AV) (fr:Fr):a0u j (a2y i x fr)=if j=i then x else a0u j fr:=by
 unfold a0u a2y;rw[b8G (by omega) (by omega)];by_cases h:j / 8=i / 8
 · rw[if_pos h,b8G (by omega) (by omega),← h];by_cases l:j % 8=i % 8
   · rw[if_pos l,if_pos (by omega)]
   · rw[if_neg l,if_neg (by omega)]
 · rw[if_neg h,if_neg (by intro e; exact h (by rw[e]))]
def toL (nv:Nat) (fr:Fr):List AV:=(List.range nv).map fun i=>a0u i fr
theorem c7b (nv:Nat) (fr:Fr):(toL nv fr).length=nv:=by simp[toL]
theorem R7 {i nv:Nat} (h:i < nv) (fr:Fr):(toL nv fr).getD i .undef=a0u i fr:=by simp[toL,List.getD,h]
theorem a3J {i nv:Nat} (h:i < nv) (hn:nv≤64) (x:AV) (fr:Fr):(toL nv fr).set i x=toL nv (a2y i x fr):=by
 apply List.ext_getElem
 · simp[toL]
 · intro j l t;have u:j < nv:=by simpa[toL]using l
   rw[List.getElem_set];simp only[toL,List.getElem_map,List.getElem_range];rw[c6V (by omega) (by omega)];by_cases e:i=j
   · rw[if_pos e,if_pos e.symm]
   · rw[if_neg e,if_neg (fun q=>e q.symm)]
theorem a6C {i nv:Nat} (h:¬ i < nv) (x:AV) (fr:Fr):(toL nv fr).set i x=toL nv fr:=List.set_eq_of_length_le (by rw[c7b]; omega)
noncomputable def b1s {α β:Type} (i:Nat) (e:β) (Q:α→β) (j l t u x y z B:α):β :=
 Nat.rec (motive:=fun _=>β) (Q j) (fun i _=>Nat.rec (motive:=fun _=>β) (Q l) (fun i _=>Nat.rec (motive:=fun _=>β) (Q t) (fun i _=>Nat.rec (motive:=fun _=>β) (Q u) (fun i _=>Nat.rec (motive:=fun _=>β) (Q x) (fun i _=>Nat.rec (motive:=fun _=>β) (Q y) (fun i _=>Nat.rec (motive:=fun _=>β) (Q z) (fun i _=>Nat.rec (motive:=fun _=>β) (Q B) (fun i _=>e) i) i) i) i) i) i) i) i
theorem a2J {α β:Type} {G:β→Prop} {i:Nat} {e:β} {Q:α→β} {j l t u x y z B:α} (O:G e) (C:i=0→G (Q j)) (E:i=1→G (Q l)) (F:i=2→G (Q t)) (I:i=3→G (Q u)) (J:i=4→G (Q x)) (L:i=5→G (Q y)) (M:i=6→G (Q z)) (N:i=7→G (Q B)):G (b1s i e Q j l t u x y z B):=by
 match i,C,E,F,I,J,L,M,N with
 | 0,h,_,_,_,_,_,_,_=>exact h rfl
 | 1,_,h,_,_,_,_,_,_=>exact h rfl
 | 2,_,_,h,_,_,_,_,_=>exact h rfl
 | 3,_,_,_,h,_,_,_,_=>exact h rfl
 | 4,_,_,_,_,h,_,_,_=>exact h rfl
 | 5,_,_,_,_,_,h,_,_=>exact h rfl
 | 6,_,_,_,_,_,_,h,_=>exact h rfl
 | 7,_,_,_,_,_,_,_,h=>exact h rfl
 | _+8,_,_,_,_,_,_,_,_=>exact O
abbrev Gt (ρ:Type):=Fr→(AV→Option ρ)→Option ρ
abbrev Wr (ρ:Type):=AV→Fr→(Fr→Option ρ)→Option ρ
section
variable {ρ β:Type}
noncomputable def a2Y (i:Nat) (e:β) (Q:Gt ρ→β):β:=b1s (i / 8) e (fun o:Fr→(W8 AV→Option ρ)→Option ρ=>b1s (i % 8) e (fun n:W8 AV→(AV→Option ρ)→Option ρ=>Q fun fr k=>o fr fun w=>n w k)
 (fun w k=>W8.rec (motive:=fun _=>Option ρ) (fun j l t u x y z B=>k j) w)
 (fun w k=>W8.rec (motive:=fun _=>Option ρ) (fun j l t u x y z B=>k l) w)
 (fun w k=>W8.rec (motive:=fun _=>Option ρ) (fun j l t u x y z B=>k t) w)
 (fun w k=>W8.rec (motive:=fun _=>Option ρ) (fun j l t u x y z B=>k u) w)
 (fun w k=>W8.rec (motive:=fun _=>Option ρ) (fun j l t u x y z B=>k x) w)
 (fun w k=>W8.rec (motive:=fun _=>Option ρ) (fun j l t u x y z B=>k y) w)
 (fun w k=>W8.rec (motive:=fun _=>Option ρ) (fun j l t u x y z B=>k z) w)
 (fun w k=>W8.rec (motive:=fun _=>Option ρ) (fun j l t u x y z B=>k B) w))
 (fun w k=>W8.rec (motive:=fun _=>Option ρ) (fun j l t u x y z B=>k j) w)
 (fun w k=>W8.rec (motive:=fun _=>Option ρ) (fun j l t u x y z B=>k l) w)
 (fun w k=>W8.rec (motive:=fun _=>Option ρ) (fun j l t u x y z B=>k t) w)
 (fun w k=>W8.rec (motive:=fun _=>Option ρ) (fun j l t u x y z B=>k u) w)
 (fun w k=>W8.rec (motive:=fun _=>Option ρ) (fun j l t u x y z B=>k x) w)
 (fun w k=>W8.rec (motive:=fun _=>Option ρ) (fun j l t u x y z B=>k y) w)
 (fun w k=>W8.rec (motive:=fun _=>Option ρ) (fun j l t u x y z B=>k z) w)
 (fun w k=>W8.rec (motive:=fun _=>Option ρ) (fun j l t u x y z B=>k B) w)
theorem P4 {G:β→Prop} {i:Nat} {e:β} {Q:Gt ρ→β} (hi:i < 64) (j:G e) (h:∀ g:Gt ρ,(∀ fr k,g fr k=k (a0u i fr))→G (Q g)):G (a2Y i e Q):=by
 refine a2J j ?_ ?_ ?_ ?_ ?_ ?_ ?_ ?_<;>intro l<;>refine a2J j ?_ ?_ ?_ ?_ ?_ ?_ ?_ ?_<;>intro t<;>refine h _ (fun fr k=>?_)<;>unfold a0u<;>rw[l,t]<;>cases fr with
  | mk w0 w1 u x y z B C=>first|(cases w0; rfl)|(cases w1; rfl)|(cases u; rfl)|(cases x; rfl)|(cases y; rfl)|(cases z; rfl)|(cases B; rfl)|(cases C; rfl)
noncomputable def a9b (i:Nat) (e:β) (Q:Wr ρ→β):β:=b1s (i / 8) e (fun o:Fr→(W8 AV→(W8 AV→Option ρ)→Option ρ)→(Fr→Option ρ)→Option ρ=>b1s (i % 8) e (fun n:AV→W8 AV→(W8 AV→Option ρ)→Option ρ=>Q fun x fr k=>o fr (n x) k)
 (fun y w k=>W8.rec (motive:=fun _=>Option ρ) (fun j l t z B C E F=>k (.mk y l t z B C E F)) w)
 (fun y w k=>W8.rec (motive:=fun _=>Option ρ) (fun j l t z B C E F=>k (.mk j y t z B C E F)) w)
 (fun y w k=>W8.rec (motive:=fun _=>Option ρ) (fun j l t z B C E F=>k (.mk j l y z B C E F)) w)
 (fun y w k=>W8.rec (motive:=fun _=>Option ρ) (fun j l t z B C E F=>k (.mk j l t y B C E F)) w)
 (fun y w k=>W8.rec (motive:=fun _=>Option ρ) (fun j l t z B C E F=>k (.mk j l t z y C E F)) w)
 (fun y w k=>W8.rec (motive:=fun _=>Option ρ) (fun j l t z B C E F=>k (.mk j l t z B y E F)) w)
 (fun y w k=>W8.rec (motive:=fun _=>Option ρ) (fun j l t z B C E F=>k (.mk j l t z B C y F)) w)
 (fun y w k=>W8.rec (motive:=fun _=>Option ρ) (fun j l t z B C E F=>k (.mk j l t z B C E y)) w))
 (fun w u k=>W8.rec (motive:=fun _=>Option ρ) (fun j l t z B C E F=>u j fun y=>k (.mk y l t z B C E F)) w)
 (fun w u k=>W8.rec (motive:=fun _=>Option ρ) (fun j l t z B C E F=>u l fun y=>k (.mk j y t z B C E F)) w)
 (fun w u k=>W8.rec (motive:=fun _=>Option ρ) (fun j l t z B C E F=>u t fun y=>k (.mk j l y z B C E F)) w)
 (fun w u k=>W8.rec (motive:=fun _=>Option ρ) (fun j l t z B C E F=>u z fun y=>k (.mk j l t y B C E F)) w)
 (fun w u k=>W8.rec (motive:=fun _=>Option ρ) (fun j l t z B C E F=>u B fun y=>k (.mk j l t z y C E F)) w)
 (fun w u k=>W8.rec (motive:=fun _=>Option ρ) (fun j l t z B C E F=>u C fun y=>k (.mk j l t z B y E F)) w)
 (fun w u k=>W8.rec (motive:=fun _=>Option ρ) (fun j l t z B C E F=>u E fun y=>k (.mk j l t z B C y F)) w)
 (fun w u k=>W8.rec (motive:=fun _=>Option ρ) (fun j l t z B C E F=>u F fun y=>k (.mk j l t z B C E y)) w)
theorem a2L {G:β→Prop} {i:Nat} {e:β} {Q:Wr ρ→β} (hi:i < 64) (j:G e) (h:∀ g:Wr ρ,(∀ x fr k,g x fr k=k (a2y i x fr))→G (Q g)):G (a9b i e Q):=by
 refine a2J j ?_ ?_ ?_ ?_ ?_ ?_ ?_ ?_<;>intro l<;>refine a2J j ?_ ?_ ?_ ?_ ?_ ?_ ?_ ?_<;>intro t<;>refine h _ (fun x fr k=>?_)<;>unfold a2y<;>rw[l,t]<;>cases fr with
  | mk w0 w1 u y z B C E=>first|(cases w0; rfl)|(cases w1; rfl)|(cases u; rfl)|(cases y; rfl)|(cases z; rfl)|(cases B; rfl)|(cases C; rfl)|(cases E; rfl)
noncomputable def b5Y (i:Nat) (Q:(List AV→(AV→Option ρ)→Option ρ)→β):β:=Nat.rec (motive:=fun _=>((List AV→(AV→Option ρ)→Option ρ)→β)→β)
 (fun Q=>Q fun l k=>List.rec (motive:=fun _=>Option ρ) none (fun a _ _=>k a) l)
 (fun _ j Q=>j fun r=>Q fun l k=>List.rec (motive:=fun _=>Option ρ) none (fun _ t _=>r t k) l) i Q
theorem a1k {G:β→Prop}:∀ (i:Nat) {Q:(List AV→(AV→Option ρ)→Option ρ)→β},(∀ r:List AV→(AV→Option ρ)→Option ρ,(∀ l k,r l k=match l[i]? with|some a=>k a|none=>none)→G (Q r))→G (b5Y i Q)
 | 0,Q,h=>h _ fun l k=>by cases l<;>rfl
 | i+1,Q,h=>a1k i fun r j=>h _ fun l k=>by
  cases l with
  | nil=>rfl
  | cons a t=>show r t k=_; rw[j]; simp
end
abbrev U:AV:=.undef
def u8:W8 AV:=.mk U U U U U U U U
noncomputable def c1g {ρ:Type} (l:List AV) (k:W8 AV→Option ρ):Option ρ:=List.rec (motive:=fun _=>Option ρ) (k (.mk U U U U U U U U)) (fun y0 l _=>List.rec (motive:=fun _=>Option ρ) (k (.mk y0 U U U U U U U)) (fun y1 l _=>List.rec (motive:=fun _=>Option ρ) (k (.mk y0 y1 U U U U U U)) (fun i l _=>List.rec (motive:=fun _=>Option ρ) (k (.mk y0 y1 i U U U U U)) (fun j l _=>List.rec (motive:=fun _=>Option ρ) (k (.mk y0 y1 i j U U U U)) (fun t l _=>List.rec (motive:=fun _=>Option ρ) (k (.mk y0 y1 i j t U U U)) (fun u l _=>List.rec (motive:=fun _=>Option ρ) (k (.mk y0 y1 i j t u U U)) (fun x l _=>List.rec (motive:=fun _=>Option ρ) (k (.mk y0 y1 i j t u x U)) (fun y l _=>List.rec (motive:=fun _=>Option ρ) (k (.mk y0 y1 i j t u x y)) (fun _ _ _=>none) l) l) l) l) l) l) l) l) l
theorem e1e (i:Nat):pk8 i u8=U:=by show(match i with|0=>U|1=>U|2=>U|3=>U|4=>U|5=>U|6=>U|_=>U)=U;split<;>rfl
theorem c7i {ρ:Type} {l:List AV} {k:W8 AV→Option ρ} {r:ρ} (h:c1g l k=some r):∃ w:W8 AV,k w=some r∧l.length≤8∧∀ i,i < 8→pk8 i w=l.getD i .undef:=by
 match l,h with
 | [],h=>exact⟨_,h,by simp,fun i hi=>by rcases lt8 hi with rfl|rfl|rfl|rfl|rfl|rfl|rfl|rfl<;>rfl⟩
 | [y0],h=>exact⟨_,h,by simp,fun i hi=>by rcases lt8 hi with rfl|rfl|rfl|rfl|rfl|rfl|rfl|rfl<;>rfl⟩
 | [y0,y1],h=>exact⟨_,h,by simp,fun i hi=>by rcases lt8 hi with rfl|rfl|rfl|rfl|rfl|rfl|rfl|rfl<;>rfl⟩
 | [y0,y1,y2],h=>exact⟨_,h,by simp,fun i hi=>by rcases lt8 hi with rfl|rfl|rfl|rfl|rfl|rfl|rfl|rfl<;>rfl⟩
 | [y0,y1,y2,y3],h=>exact⟨_,h,by simp,fun i hi=>by rcases lt8 hi with rfl|rfl|rfl|rfl|rfl|rfl|rfl|rfl<;>rfl⟩
 | [y0,y1,y2,y3,y4],h=>exact⟨_,h,by simp,fun i hi=>by rcases lt8 hi with rfl|rfl|rfl|rfl|rfl|rfl|rfl|rfl<;>rfl⟩
 | [y0,y1,y2,y3,y4,y5],h=>exact⟨_,h,by simp,fun i hi=>by rcases lt8 hi with rfl|rfl|rfl|rfl|rfl|rfl|rfl|rfl<;>rfl⟩
 | [y0,y1,y2,y3,y4,y5,y6],h=>exact⟨_,h,by simp,fun i hi=>by rcases lt8 hi with rfl|rfl|rfl|rfl|rfl|rfl|rfl|rfl<;>rfl⟩
 | [y0,y1,y2,y3,y4,y5,y6,y7],h=>exact⟨_,h,by simp,fun i hi=>by rcases lt8 hi with rfl|rfl|rfl|rfl|rfl|rfl|rfl|rfl<;>rfl⟩
 | _::_::_::_::_::_::_::_::_::_,h=>cases h
def fr0 (w:W8 AV):Fr:=.mk w u8 u8 u8 u8 u8 u8 u8
theorem d2d {w:W8 AV} {l:List AV} {np nv:Nat} (x:∀ i,i < 8→pk8 i w=l.getD i .undef) (hl:l.length=np) (z:l.length≤8) (u:np≤nv) (hn:nv≤64):toL nv (fr0 w)=l++List.replicate (nv - np) .undef:=by
 apply List.ext_getElem
 · simp[toL,hl]; omega
 · intro j t y;have B:j < nv:=by simpa[toL]using t
   have hg:a0u j (fr0 w)=l.getD j .undef:=by
    unfold a0u;rcases Nat.lt_or_ge j 8 with h|h
    · rw[show j / 8=0 by omega,show j % 8=j by omega];exact x j h
    · have:pk8 (j / 8) (fr0 w)=u8:=by rcases lt8 (show j / 8 < 8 by omega)with e|e|e|e|e|e|e|e<;>rw[e]<;>first|(exfalso; omega)|rfl
      rw[this,e1e,List.getD_eq_getElem?_getD,List.getElem?_eq_none (by omega)];rfl
   simp only[toL,List.getElem_map,List.getElem_range,hg];rw[List.getElem_append];split
   · rename_i h; simp[List.getD,h]
   · rename_i h; rw[List.getD_eq_getElem?_getD,List.getElem?_eq_none (by omega)]; simp
end Go.Cb.G
namespace Go.Cb.G
open Go Go.Cb
abbrev RO:=Option (AV×Fr×St)
abbrev Rd:=List AV→Fr→(AV→RO)→RO
inductive Src where
 | w (l:Nat)|s (l:Nat)|d (l:Nat)|k (a:AV)|q (a:AV)
abbrev Scope:=List (Nat×Src)
noncomputable def L8 (s:Nat) (j:Scope):Option Src:=List.rec (motive:=fun _=>Option Src) none (fun p _ i=>Prod.rec (motive:=fun _=>Option Src) (fun t x=>Bool.rec (motive:=fun _=>Option Src) i (some x) (Nat.beq t s)) p) j
theorem a3u (s t:Nat) (x:Src) (i:Scope):L8 s ((t,x)::i)=if t=s then some x else L8 s i:=by
 show Bool.rec (motive:=fun _=>Option Src) (L8 s i) (some x) (Nat.beq t s)=_;by_cases h:t=s
 · rw[if_pos h,show Nat.beq t s=true by simpa using h]
 · rw[if_neg h,show Nat.beq t s=false from Bool.eq_false_iff.2 fun q=>h (Nat.eq_of_beq_eq_true q)]
def lv (env:List AV) (l:Nat):Option AV:=env.reverse[l]?
theorem e2C {env:List AV} {l:Nat} {a:AV} (x:AV) (h:lv env l=some a):lv (x::env) l=some a:=by
 unfold lv at *
 rw[List.reverse_cons,List.getElem?_append_left (by
  rcases Nat.lt_or_ge l env.reverse.length with q|q
  · exact q
  · rw[List.getElem?_eq_none q]at h; cases h)]
 exact h
theorem b8J (x:AV) (env:List AV):lv (x::env) env.length=some x:=by unfold lv;rw[List.reverse_cons,List.getElem?_append_right (by simp)];simp
theorem a9V {env:List AV} {l d:Nat} {a:AV} (i:env.length=d) (h:lv env l=some a):env[d - 1 - l]?=some a:=by
 unfold lv at h;have hl:l < env.length:=by
  rcases Nat.lt_or_ge l env.reverse.length with q|q
  · simpa using q
  · rw[List.getElem?_eq_none q]at h; cases h
 rw[List.getElem?_reverse hl,i]at h;exact h
def SrcOK (env:List AV) (v:AV):Src→Prop
 | .w l=>∃ a,lv env l=some a∧v.weak=a
 | .s l=>∃ a,lv env l=some a∧v=a
 | .d l=>∃ a,lv env l=some a∧v.weak=a.weak
 | .k a=>v=a
 | .q a=>v.weak=a
theorem SrcOK.push {env:List AV} {v:AV} {x:Src} (y:AV) (h:SrcOK env v x):SrcOK (y::env) v x:=by cases x<;>simp only[SrcOK]at*<;> first|exact h|(obtain⟨a,i,j⟩:=h; exact⟨a,e2C y i,j⟩)
structure Ag (nv dep:Nat) (sc:Scope) (env:List AV) (fr:Fr) (σ:Sig):Prop where
 f:σ.fr=toL nv fr
 d:env.length=dep
 nb:∀ s,(σ.τ s).stripB=σ.τ s
 t:∀ s x,L8 s sc=some x→SrcOK env (σ.τ s) x
noncomputable def d8W (x:AV) (y z:RO):RO:=AV.rec (motive_1:=fun _=>RO) (motive_2:=fun _=>Unit) (motive_3:=fun _=>Unit)
 z (fun _=>z) (fun _ _=>z) (fun _=>z) (fun _ _ _=>z) (fun _ _=>z) z (fun _ _=>z) (fun _ _=>z) (fun _ _=>y) (fun _=>z) z (fun _ _ _ _ _=>z) z (fun _ _=>z) (fun _ _=>z) (fun _ _ _=>z) z (fun _ _ _ _=>z) (fun _ _=>z) z
 () (fun _ _ _ _=>()) () (fun _ _ _ _=>()) x
noncomputable def c0P (i:Nat) (x:AV) (k:AV→RO):RO:=d8W x (k (.loc i 0)) (k .undef)
theorem c5R (i:Nat) (x:AV) (k:AV→RO):c0P i x k=k (match x with|.box _=>.loc i 0|_=>.undef):=by cases x<;>rfl
section
variable {β:Type}
noncomputable def rdK (nv j:Nat) (u:Scope) (x:Opd) (e:β) (Q:Rd→β):β :=
 match x with
 | .t s=>match L8 s u with
  | some (.w l)=>b5Y (j - 1 - l) fun r=>Q fun env _ k=>r env k
  | some (.s l)|some (.d l)=>b5Y (j - 1 - l) fun r=>Q fun env _ k=>r env fun x=>qWk x k
  | some (.k a)=>Q fun _ _ k=>k a.weak
  | some (.q a)=>Q fun _ _ k=>k a
  | none=>e
 | .ts s=>match L8 s u with
  | some (.s l)=>b5Y (j - 1 - l) fun r=>Q fun env _ k=>r env k
  | some (.k a)=>Q fun _ _ k=>k a
  | _=>e
 | .v i=>match Nat.blt i nv with
  | true=>a2Y i e fun g=>Q fun _ fr k=>g fr fun x=>qWk x k
  | false=>e
 | .vs i=>match Nat.blt i nv with
  | true=>a2Y i e fun g=>Q fun _ fr k=>g fr k
  | false=>e
 | .l i=>match Nat.blt i nv with
  | true=>a2Y i e fun g=>Q fun _ fr k=>g fr fun x=>c0P i x k
  | false=>e
 | .c a=>Q fun _ _ k=>k a
def d39 (nv i:Nat) (j:Scope) (x:Opd) (r:Rd):Prop:=∀ env fr σ,Ag nv i j env fr σ→∀ k,r env fr k=k (x.read σ)
theorem Y2 {i n:Nat} (h:Nat.blt i n=true):i < n:=by simpa using h
theorem a7j {G:β→Prop} {nv E:Nat} {I:Scope} {x:Opd} {e:β} {Q:Rd→β} (hn:nv≤64) (u:G e) (h:∀ r,d39 nv E I x r→G (Q r)):G (rdK nv E I x e Q):=by
 unfold rdK;cases x with
 | t s =>
  dsimp only;cases hs:L8 s I with
  | none=>exact u
  | some y =>
   cases y with
   | w l =>
    refine a1k _ fun r C=>h _ fun env fr σ j k=>?_
    obtain⟨a,z,B⟩:=j.t _ _ hs;show r env k=_;rw[C,a9V j.d z,← B]; rfl
   | s l =>
    refine a1k _ fun r C=>h _ fun env fr σ j k=>?_
    obtain⟨a,z,B⟩:=j.t _ _ hs;show r env _=_;rw[C,a9V j.d z];show qWk a k=_;rw[a2g,← B]; rfl
   | d l =>
    refine a1k _ fun r C=>h _ fun env fr σ j k=>?_
    obtain⟨a,z,B⟩:=j.t _ _ hs;show r env _=_;rw[C,a9V j.d z];show qWk a k=_;rw[a2g,← B]; rfl
   | k a =>
    refine h _ fun env fr σ j k=>?_
    have:=j.t _ _ hs;show k a.weak=k (σ.τ s).weak;rw[show σ.τ s=a from this]
   | q a =>
    refine h _ fun env fr σ j k=>?_
    have:=j.t _ _ hs;show k a=k (σ.τ s).weak;rw[show(σ.τ s).weak=a from this]
 | ts s =>
  dsimp only;cases hs:L8 s I with
  | none=>exact u
  | some y =>
   cases y with
   | s l =>
    refine a1k _ fun r C=>h _ fun env fr σ j k=>?_
    obtain⟨a,z,B⟩:=j.t _ _ hs;show r env k=_;rw[C,a9V j.d z,← B]; rfl
   | k a =>
    refine h _ fun env fr σ j k=>?_
    have:=j.t _ _ hs;show k a=k (σ.τ s);rw[show σ.τ s=a from this]
   | _=>exact u
 | v i =>
  dsimp only;cases F:Nat.blt i nv with
  | false=>exact u
  | true =>
   have hi:=Y2 F;refine P4 (by omega) u fun g hg=>h _ fun env fr σ j k=>?_
   show g fr (fun x=>qWk x k)=k (σ.fr.getD i .undef).weak;rw[hg,a2g,j.f,R7 hi]
 | vs i =>
  dsimp only;cases F:Nat.blt i nv with
  | false=>exact u
  | true =>
   have hi:=Y2 F;refine P4 (by omega) u fun g hg=>h _ fun env fr σ j k=>?_
   show g fr k=k (σ.fr.getD i .undef);rw[hg,j.f,R7 hi]
 | l i =>
  dsimp only;cases F:Nat.blt i nv with
  | false=>exact u
  | true =>
   have hi:=Y2 F;refine P4 (by omega) u fun g hg=>h _ fun env fr σ j k=>?_
   show g fr (fun x=>c0P i x k)=_;rw[hg,c5R];show _=k (match σ.fr.getD i .undef with|.box _=>.loc i 0|_=>.undef);rw[j.f,R7 hi]
 | c a=>exact h _ fun _ _ _ _ _=>rfl
def rdL (nv i:Nat) (j:Scope) (rd:Opd→β→(Rd→β)→β):List Opd→β→(List Rd→β)→β
 | [],_,Q=>Q []
 | x::xs,e,Q=>rd x e fun r=>rdL nv i j rd xs e fun rs=>Q (r::rs)
def a9Q (nv i:Nat) (j:Scope):List Opd→List Rd→Prop
 | [],[]=>True
 | x::xs,r::rs=>d39 nv i j x r∧a9Q nv i j xs rs
 | _,_=>False
theorem b1q {G:β→Prop} {nv i:Nat} {l:Scope} (hn:nv≤64):∀ {xs:List Opd} {e:β} {Q:List Rd→β},G e→(∀ rs,a9Q nv i l xs rs→G (Q rs))→G (rdL nv i l (fun x e Q=>rdK nv i l x e Q) xs e Q)
 | [],e,Q,he,h=>h [] trivial
 | x::xs,e,Q,he,h=>by unfold rdL;exact a7j hn he fun r t=>b1q hn he fun rs j=>h _ ⟨t,j⟩
end
def a2K:List Rd→List AV→Fr→(List AV→RO)→RO
 | [],_,_,k=>k []
 | r::rs,env,fr,k=>r env fr fun x=>a2K rs env fr fun xs=>k (x::xs)
theorem a2i {nv i:Nat} {l:Scope} {env:List AV} {fr:Fr} {σ:Sig} (j:Ag nv i l env fr σ):∀ {xs:List Opd} {rs:List Rd} {k:List AV→RO},a9Q nv i l xs rs→a2K rs env fr k=k (xs.map (·.read σ))
 | [],[],k,_=>rfl
 | x::xs,r::rs,k,h=>by show r env fr _=_;rw[h.1 env fr σ j,a2i j h.2];rfl
 | [],_::_,_,h=>h.elim
 | _::_,[],_,h=>h.elim
section
variable {β:Type}
abbrev RdA:=List AV→Fr→(List AV→RO)→RO
noncomputable def b5k (rs:List Rd) (Q:RdA→β):β:=List.rec (motive:=fun _=>(RdA→β)→β) (fun Q=>Q fun _ _ k=>k []) (fun r _ i Q=>i fun j=>Q fun env fr k=>r env fr fun x=>j env fr fun xs=>k (x::xs)) rs Q
theorem a2O {G:β→Prop}:∀ {rs:List Rd} {Q:RdA→β},(∀ j:RdA,(∀ env fr k,j env fr k=a2K rs env fr k)→G (Q j))→G (b5k rs Q)
 | [],Q,h=>h _ fun _ _ _=>rfl
 | r::rs,Q,h=>a2O (rs:=rs) fun j i=>h _ fun env fr k=>by show r env fr _=r env fr _;congr;funext x;exact i _ _ _
abbrev KF:=e9→List AV→Fr→AV→St→(AV→AV→St→RO)→RO
def c1T (kd:Kind) (rs:List Rd) (i:KF):Prop:=∀ c env fr b s K,i c env fr b s K=a2K rs env fr fun as=>obind (sem kd c as b s) fun p=>K p.1 p.2.1 p.2.2
theorem D5 {kd:Kind} (j:kd.setSt=false) (l:kd.alters=false) (c:e9) (as:List AV) (b:AV) (s:St) (K:AV→AV→St→RO):obind (p1 (sem kd c as b s)) (fun r=>K r b s)=obind (sem kd c as b s) fun p=>K p.1 p.2.1 p.2.2:=by
 cases hs:sem kd c as b s with
 | none=>rfl
 | some p =>obtain⟨r,b',t⟩:=p;have i:=a2f j hs;have e2:=a3H l hs;subst i e2;rfl
theorem a4i {kd:Kind} (i:kd.alters=false) (c:e9) (as:List AV) (b:AV) (s:St) (K:AV→AV→St→RO):obind (p2 (sem kd c as b s)) (fun r=>K r.1 b r.2)=obind (sem kd c as b s) fun p=>K p.1 p.2.1 p.2.2:=by
 cases hs:sem kd c as b s with
 | none=>rfl
 | some p =>obtain⟨r,b',j⟩:=p;have e2:=a3H i hs;subst e2;rfl
noncomputable def b0W (c:e9) (s:St) (K:AV→St→RO) (i:Nat) (xs:List AV):RO:=a7Y xs fun j=>c1n (c i j s) fun v s=>K v s
noncomputable def b4o (c:e9) (b:AV) (s:St) (f:AV→RO) (g:Bool) (d:Nat) (x:AV):RO:=a9T x (obind (p1 (sem (.ldAn g d) c [x] b s)) f) (fun o i=>a3N s f g d (.ptr o i)) (fun cs=>a7N f g d (.ro cs)) (fun _ _=>obind (p1 (sem (.ldAn g d) c [x] b s)) f)
theorem b9k (c:e9) (b:AV) (s:St) (f:AV→RO) (g:Bool) (d:Nat) (x:AV):b4o c b s f g d x=obind (p1 (sem (.ldAn g d) c [x] b s)) f:=by
 unfold b4o;rw[a6S];cases x<;>try rfl
 · rename_i o i;show a3N s f g d (.ptr o i)=_;rw[b1k c b s]; rfl
 · rename_i cs;show a7N f g d (.ro cs)=_;rw[b1w c b s]; rfl
noncomputable def c1k {β:Type} (l:List β) (x:β) (k:List β→RO):RO:=Nat.rec (motive:=fun _=>List β→(List β→RO)→RO) (fun l k=>a7h l [x] k) (fun _ i l k=>a3M l (k (l++[x])) i k) (Nat.div (O5 l) 8) l k
theorem b24 {β:Type} (x:β):∀ (q:Nat) (l:List β) (k:List β→RO),Nat.rec (motive:=fun _=>List β→(List β→RO)→RO) (fun l k=>a7h l [x] k) (fun _ i l k=>a3M l (k (l++[x])) i k) q l k=k (l++[x])
 | 0,l,k=>a6i [x] l k
 | q+1,l,k=>by
  show a3M l (k (l++[x])) (fun l k=>Nat.rec (motive:=fun _=>List β→(List β→RO)→RO) (fun l k=>a7h l [x] k) (fun _ i l k=>a3M l (k (l++[x])) i k) q l k) k=_;rw[b20];split
  · rw[b24 x q (l.drop 8),← List.append_assoc,List.take_append_drop]
  · rfl
theorem b29 {β:Type} (l:List β) (x:β) (k:List β→RO):c1k l x k=k (l++[x]):=b24 x _ l k
noncomputable def b39 (s:St) (f:AV×St→RO) (x:AV):RO:=plB x (fL x.cellsW fun cs=>a3R (O5 s) fun n=>c1k s (.cells cs) fun i=>f (.ptr n 0,i))
theorem c0U (c:e9) (b:AV) (s:St) (f:AV×St→RO) (x:AV):b39 s f x=obind (p2 (sem .boxO c [x] b s)) f:=by simp only[b39,a7X,fL_eq,a0Z,L7,b29,sem,O7];by_cases h:x.plain=true<;>simp[h,obind,p2]
noncomputable def a5U (s:St) (f:AV×St→RO) (z:List AV):RO:=a3R (O5 s) fun n=>c1k s (.cells z) fun i=>f (.ptr n 0,i)
theorem b5n (c:e9) (b:AV) (s:St) (f:AV×St→RO) (z:List AV):a5U s f z=obind (p2 (sem (.allocO z) c [] b s)) f:=by simp only[a5U,a0Z,L7,b29,sem,I7];rfl
noncomputable def b0Q (c:e9) (s:St) (K:AV→St→RO) (as:List AV):RO:=match as with
 | .func f a cs::xs=>a7Y xs fun _=>c1n (c f ((a++xs++cs).map AV.weak) s) fun v s=>K v s
 | _=>none
noncomputable def b9K (kd:Kind) (i:RdA) (Q:KF→β):β:=match kd.alters with
 | true=>Q fun c env fr b s K=>i env fr fun as=>obind (sem kd c as b s) fun p=>a3m p.1 fun r=>a3m p.2.1 fun b=>fL p.2.2 fun s=>K r b s
 | false=>match kd.setSt with
  | true=>Q fun c env fr b s K=>i env fr fun as=>obind (p2 (sem kd c as b s)) fun p=>a3m p.1 fun r=>fL p.2 fun s=>K r b s
  | false=>Q fun c env fr b s K=>i env fr fun as=>obind (p1 (sem kd c as b s)) fun x=>a3m x fun r=>K r b s
noncomputable def b58 (kd:Kind) (rs:List Rd) (Q:KF→β):β :=
 match kd,rs with
 | .mv,[x]=>Q fun c env fr b s K=>x env fr fun x=>K x b s
 | .bin .eql,[x,y]=>Q fun c env fr b s K=>x env fr fun x=>y env fr fun y=>c0V (fun r=>K r b s) x y
 | .bin .neq,[x,y]=>Q fun c env fr b s K=>x env fr fun x=>y env fr fun y=>b9h (fun r=>K r b s) x y
 | .bin .lss,[x,y]=>Q fun c env fr b s K=>x env fr fun x=>y env fr fun y=>a3b c b s (fun r=>K r b s) .lss Nat.blt x y
 | .bin .leq,[x,y]=>Q fun c env fr b s K=>x env fr fun x=>y env fr fun y=>a3b c b s (fun r=>K r b s) .leq Nat.ble x y
 | .bin .gtr,[x,y]=>Q fun c env fr b s K=>x env fr fun x=>y env fr fun y=>a3b c b s (fun r=>K r b s) .gtr (fun i j=>Nat.blt j i) x y
 | .bin .geq,[x,y]=>Q fun c env fr b s K=>x env fr fun x=>y env fr fun y=>a3b c b s (fun r=>K r b s) .geq (fun i j=>Nat.ble j i) x y
 | .bin .add,[x,y]=>Q fun c env fr b s K=>x env fr fun x=>y env fr fun y=>c0b c b s (fun r=>K r b s) x y
 | .bin .sub,[x,y]=>Q fun c env fr b s K=>x env fr fun x=>y env fr fun y=>b9Y c b s (fun r=>K r b s) x y
 | .un .not,[x]=>Q fun c env fr b s K=>x env fr fun x=>c0o (fun r=>K r b s) x
 | .nilchk,[x]=>Q fun c env fr b s K=>x env fr fun x=>b9C c b s (fun r=>K r b s) x
 | .lenS,[x]=>Q fun c env fr b s K=>x env fr fun x=>b3X (fun r=>K r b s) x
 | .lenL,[x]=>Q fun c env fr b s K=>x env fr fun x=>b4W c b s (fun r=>K r b s) x
 | .idxS,[x,y]=>Q fun c env fr b s K=>x env fr fun x=>y env fr fun y=>c2d (fun r=>K r b s) x y
 | .pick,[x,y,z]=>Q fun c env fr b s K=>x env fr fun x=>y env fr fun y=>z env fr fun z=>b3r (fun r=>K r b s) x y z
 | .fad d,[x]=>Q fun c env fr b s K=>x env fr fun x=>c1C (fun r=>K r b s) d x
 | .iad d,[x,y]=>Q fun c env fr b s K=>x env fr fun x=>y env fr fun y=>c0k c b s (fun r=>K r b s) d x y
 | .ldSt g d,[x]=>Q fun c env fr b s K=>x env fr fun x=>a3N s (fun r=>K r b s) g d x
 | .ldRo g d,[x]=>Q fun c env fr b s K=>x env fr fun x=>a7N (fun r=>K r b s) g d x
 | .ldAn g d,[x]=>Q fun c env fr b s K=>x env fr fun x=>b4o c b s (fun r=>K r b s) g d x
 | .ldLc i g d,[x]=>Q fun c env fr b s K=>x env fr fun x=>b6D b (fun r=>K r b s) i g d x
 | .ext d,[x]=>Q fun c env fr b s K=>x env fr fun x=>c0p (fun r=>K r b s) d x
 | .slS true true,[x,y,z]=>Q fun c env fr b s K=>x env fr fun x=>y env fr fun y=>z env fr fun z=>c1L c b s (fun r=>K r b s) x y z
 | .app d e,[x,y]=>Q fun c env fr b s K=>x env fr fun x=>y env fr fun y=>b9i b s (fun p=>K p.1 p.2.1 p.2.2) d e x y
 | .alloc d,[]=>Q fun c env fr b s K=>b0t b s (fun p=>K p.1 p.2.1 p.2.2) d
 | .stLc i d,[x,y]=>Q fun c env fr b s K=>x env fr fun x=>y env fr fun y=>b3M b s (fun p=>K p.1 p.2.1 p.2.2) i d x y
 | .stSt d,[x,y]=>Q fun c env fr b s K=>x env fr fun x=>y env fr fun y=>b3u s (fun p=>K p.1 b p.2) d x y
 | .boxO,[x]=>Q fun c env fr b s K=>x env fr fun x=>b39 s (fun p=>K p.1 b p.2) x
 | .allocO z,[]=>Q fun c env fr b s K=>a5U s (fun p=>K p.1 b p.2) z
 | .callV,rs=>b5k rs fun l=>Q fun c env fr b s K=>l env fr fun as=>b0Q c s (fun v s=>K v b s) as
 | .call f,rs=>b5k rs fun l=>Q fun c env fr b s K=>l env fr fun as=>b0W c s (fun v s=>K v b s) f as
 | kd,rs=>b5k rs fun l=>b9K kd l Q
theorem b8c {G:β→Prop} {kd:Kind} {rs:List Rd} {t:RdA} {Q:KF→β} (i:∀ env fr k,t env fr k=a2K rs env fr k) (h:∀ l,c1T kd rs l→G (Q l)):G (b9K kd t Q):=by
 unfold b9K;cases j:kd.alters with
 | true=>exact h _ fun c env fr b s K=>by rw[i]; simp only[fNew_eq,fL_eq]
 | false =>
  cases u:kd.setSt with
  | true =>
   refine h _ fun c env fr b s K=>?_
   rw[i]; simp only[fNew_eq,fL_eq];congr; funext as;exact a4i j c as b s K
  | false =>
   refine h _ fun c env fr b s K=>?_
   rw[i]; simp only[fNew_eq];congr; funext as;exact D5 u j c as b s K
theorem Z0 (x:Rd) (env:List AV) (fr:Fr) (k:List AV→RO):a2K [x] env fr k=x env fr fun x=>k [x]:=rfl
theorem R4 (x y:Rd) (env:List AV) (fr:Fr) (k:List AV→RO):a2K [x,y] env fr k=x env fr fun x=>y env fr fun y=>k [x,y]:=rfl
theorem b7H (x y z:Rd) (env:List AV) (fr:Fr) (k:List AV→RO):a2K [x,y,z] env fr k=x env fr fun x=>y env fr fun y=>z env fr fun z=>k [x,y,z]:=rfl
theorem b53 {G:β→Prop} {kd:Kind} {rs:List Rd} {Q:KF→β} (h:∀ l,c1T kd rs l→G (Q l)):G (b58 kd rs Q):=by
 unfold b58;split
 · exact h _ fun c env fr b s K=>rfl
 · exact h _ fun c env fr b s K=>by rw[R4]; congr; funext x; congr; funext y; rw[c54 c b s]; exact D5 rfl rfl ..
 · exact h _ fun c env fr b s K=>by rw[R4]; congr; funext x; congr; funext y; rw[c6H c b s]; exact D5 rfl rfl ..
 · exact h _ fun c env fr b s K=>by rw[R4]; congr; funext x; congr; funext y; rw[d3Y c b s]; exact D5 rfl rfl ..
 · exact h _ fun c env fr b s K=>by rw[R4]; congr; funext x; congr; funext y; rw[d0z c b s]; exact D5 rfl rfl ..
 · exact h _ fun c env fr b s K=>by rw[R4]; congr; funext x; congr; funext y; rw[d1b c b s]; exact D5 rfl rfl ..
 · exact h _ fun c env fr b s K=>by rw[R4]; congr; funext x; congr; funext y; rw[d6n c b s]; exact D5 rfl rfl ..
 · exact h _ fun c env fr b s K=>by rw[R4]; congr; funext x; congr; funext y; rw[c5Z c b s]; exact D5 rfl rfl ..
 · exact h _ fun c env fr b s K=>by rw[R4]; congr; funext x; congr; funext y; rw[c7J c b s]; exact D5 rfl rfl ..
 · exact h _ fun c env fr b s K=>by rw[Z0]; congr; funext x; rw[c7D c b s]; exact D5 rfl rfl ..
 · exact h _ fun c env fr b s K=>by rw[Z0]; congr; funext x; rw[c40 c b s]; exact D5 rfl rfl ..
 · exact h _ fun c env fr b s K=>by rw[Z0]; congr; funext x; rw[c1G c b s]; exact D5 rfl rfl ..
 · exact h _ fun c env fr b s K=>by rw[Z0]; congr; funext x; rw[c0l c b s]; exact D5 rfl rfl ..
 · exact h _ fun c env fr b s K=>by rw[R4]; congr; funext x; congr; funext y; rw[c5i c b s]; exact D5 rfl rfl ..
 · exact h _ fun c env fr b s K=>by rw[b7H]; congr; funext x; congr; funext y; congr; funext z; rw[c1w c b s]; exact D5 rfl rfl ..
 · exact h _ fun c env fr b s K=>by rw[Z0]; congr; funext x; rw[c2U c b s]; exact D5 rfl rfl ..
 · exact h _ fun c env fr b s K=>by rw[R4]; congr; funext x; congr; funext y; rw[c3W c b s]; exact D5 rfl rfl ..
 · exact h _ fun c env fr b s K=>by rw[Z0]; congr; funext x; rw[b1k c b s]; exact D5 rfl rfl ..
 · exact h _ fun c env fr b s K=>by rw[Z0]; congr; funext x; rw[b1w c b s]; exact D5 rfl rfl ..
 · exact h _ fun c env fr b s K=>by rw[Z0]; congr; funext x; rw[b9k c b s]; exact D5 rfl rfl ..
 · exact h _ fun c env fr b s K=>by rw[Z0]; congr; funext x; rw[c0G c b s]; exact D5 rfl rfl ..
 · exact h _ fun c env fr b s K=>by rw[Z0]; congr; funext x; rw[c6c c b s]; exact D5 rfl rfl ..
 · exact h _ fun c env fr b s K=>by rw[b7H]; congr; funext x; congr; funext y; congr; funext z; rw[c34 c b s]; exact D5 rfl rfl ..
 · exact h _ fun c env fr b s K=>by rw[R4]; congr; funext x; congr; funext y; exact c7E c b s ..
 · exact h _ fun c env fr b s K=>b7J c b s ..
 · exact h _ fun c env fr b s K=>by rw[R4]; congr; funext x; congr; funext y; exact c0R c b s ..
 · exact h _ fun c env fr b s K=>by rw[R4]; congr; funext x; congr; funext y; rw[c0X c b s]; exact a4i rfl ..
 · exact h _ fun c env fr b s K=>by rw[Z0]; congr; funext x; rw[c0U c b s]; exact a4i rfl ..
 · exact h _ fun c env fr b s K=>by show a5U s (fun p=>K p.1 b p.2) _=_; rw[b5n c b s]; exact a4i rfl ..
 · refine a2O fun t i=>h _ fun c env fr b s K=>?_
   rw[i];congr; funext as;show b0Q c s (fun v s=>K v b s) as=_;unfold b0Q;simp only[sem,H9];split
   · rename_i f a cs xs;rw[a5I];dsimp only;split
     · rw[b3q];cases c f ((a++xs++cs).map AV.weak) s<;>rfl
     · rfl
   · rename_i j;split
     · rename_i f a cs xs;exact absurd rfl (j f a cs xs)
     · rfl
 · refine a2O fun t i=>h _ fun c env fr b s K=>?_
   rw[i];congr; funext as;show b0W c s (fun v s=>K v b s) _ as=_;unfold b0W;rw[a5I];simp only[sem,B6];split
   · rw[b3q];cases c _ (as.map AV.weak) s<;>rfl
   · rfl
 · exact a2O fun t i=>b8c i h
end
end Go.Cb.G
namespace Go.Cb.G
open Go Go.Cb
inductive Clo where
 | mk (f:e9→List AV→Fr→St→RO)
noncomputable def Clo.run (x:Clo):e9→List AV→Fr→St→RO:=Clo.rec (motive:=fun _=>e9→List AV→Fr→St→RO) (fun f=>f) x
noncomputable def a1r:Clo:=.mk fun _ _ _ _=>none
abbrev OpF:=e9→List AV→Fr→St→(List AV→Fr→St→RO)→RO
abbrev CF:=e9→List AV→Fr→St→(AV→Fr→St→RO)→RO
section
variable {β:Type}
noncomputable def a4H:List Opd→Scope→Scope
 | [],sc=>sc
 | .ts s::xs,sc=>a4H xs (match L8 s sc with
  | some (.s l)=>(s,.d l)::sc
  | some (.k a)=>(s,.q a.weak)::sc
  | _=>sc)
 | _::xs,sc=>a4H xs sc
noncomputable def a3C (nv:Nat):List Opd→β→((Fr→(Fr→RO)→RO)→β)→β
 | [],_,Q=>Q fun fr k=>k fr
 | .vs i::xs,e,Q=>match Nat.blt i nv with
  | true=>a2Y i e fun g=>a9b i e fun p=>a3C nv xs e fun r=>Q fun fr k=>g fr fun x=>qWk x fun x=>p x fr fun fr=>r fr k
  | false=>e
 | _::xs,e,Q=>a3C nv xs e Q
def b5o:List Opd→Bool
 | []=>false
 | .vs _::_=>true
 | _::xs=>b5o xs
noncomputable def b3w (nv:Nat) (kd:Kind) (args:List Opd) (box:Option Nat) (j:KF) (e:β) (Q:CF→β):β :=
 match b5o args,box with
 | false,none=>Q fun c env fr st K=>j c env fr .undef st fun r _ s=>K r fr s
 | true,none=>a3C nv args e fun sp=>Q fun c env fr st K=>j c env fr .undef st fun r _ s=>sp fr fun fr=>K r fr s
 | vs,some i=>match Nat.blt i nv with
  | false=>e
  | true=>a2Y i e fun g=>match kd.alters || vs with
   | false=>Q fun c env fr st K=>g fr fun b=>j c env fr b st fun r _ s=>K r fr s
   | true=>a3C nv args e fun sp=>a9b i e fun p=>Q fun c env fr st K=>g fr fun b=>j c env fr b st fun r b s=>sp fr fun fr=>p b fr fun fr=>K r fr s
abbrev PF:=AV→List AV→Fr→St→(List AV→Fr→St→RO)→RO
def b99 (x:Nat):List Nat→Bool
 | []=>false
 | y::ys=>Nat.beq x y || b99 x ys
noncomputable def c1U (nv j:Nat) (u:List Nat) (d:Dst) (l:Scope) (e:β) (Q:PF→Nat→Scope→β):β :=
 match d with
 | .t s=>match b99 s u with
  | true=>Q (fun r env fr s k=>qSb r fun v _=>k (v::env) fr s) (j+1) ((s,.s j)::l)
  | false=>Q (fun r env fr s k=>qSb r fun _ w=>k (w::env) fr s) (j+1) ((s,.w j)::l)
 | .v i=>match Nat.blt i nv with
  | true=>a9b i e fun p=>Q (fun r env fr s k=>qSv r fun v _=>p v fr fun fr=>k env fr s) j l
  | false=>e
 | _=>Q (fun r env fr s k=>k env fr s) j l
noncomputable def qGd (q:AV) (w:Bool) (x y:RO):RO:=d4C q none (fun v=>bW v w x y) (fun vs=>List.rec (motive:=fun _=>RO) y (fun _ _ _=>none) vs)
theorem c8C (q:AV) (w:Bool) (x y:RO):qGd q w x y=match q with|.bool b=>if b == w then x else y|.tuple []=>y|_=>none:=by
 simp only[qGd,c3p,d9q];cases q<;>try rfl
 rename_i vs; cases vs<;>rfl
def a8H (o:AOper):Option (Nat×Opd):=match o with
 | ⟨.t s,.mv,[.t s'],none,none⟩=>some (s,.t s')
 | ⟨.t s,.mv,[.c a],none,none⟩=>some (s,.c a)
 | _=>none
noncomputable def opK (nv j:Nat) (i:Scope) (B:List Nat) (o:AOper) (e:β) (Q0:Scope→β) (Q:OpF→Nat→Scope→β):β :=
 match a8H o with
 | some (s,.t F)=>match L8 F i with
  | some (.w l)=>Q0 ((s,.w l)::i)
  | some (.s l)|some (.d l)=>Q0 ((s,.d l)::i)
  | some (.k a)=>Q0 ((s,.q a.weak)::i)
  | some (.q a)=>Q0 ((s,.q a)::i)
  | none=>e
 | some (s,.c a)=>Q0 ((s,.k a.stripB)::i)
 | _=>rdL nv j i (fun x e Q=>rdK nv j i x e Q) o.args e fun rs=>b58 o.kind rs fun E=>b3w nv o.kind o.args o.box E e fun C =>
  c1U nv j B o.dst (a4H o.args i) e fun z u y=>match o.guard with
   | none=>Q (fun c env fr st k=>C c env fr st fun r fr s=>z r env fr s k) u y
   | some (x,w)=>rdK nv j i x e fun g=>Q (fun c env fr st k=>g env fr fun q=>qGd q w (C c env fr st fun r fr s=>z r env fr s k) (z (.tuple []) env fr st k)) u y
theorem b2J {v:AV} (h:v.stripB=v):v.weak.stripB=v.weak:=by cases v<;>first|rfl|cases h
theorem a6w (v:AV):v.stripB.stripB=v.stripB:=by cases v<;>rfl
theorem a1S (τ:Nat→AV) (s:Nat) (a:AV) (j:Nat):C6 τ s a j=if j=s then a else τ j:=by
 unfold C6;by_cases h:j=s
 · subst h; simp
 · rw[if_neg h]; simp[h]
theorem O4 {nv:Nat} (hn:nv≤64):∀ (xs:List Opd) {G:β→Prop} {e:β} {Q:(Fr→(Fr→RO)→RO)→β},G e →
 (∀ sp:Fr→(Fr→RO)→RO,(∀ fr σ,σ.fr=toL nv fr→∃ y,(∀ k,sp fr k=k y)∧(g9 xs σ).fr=toL nv y)→G (Q sp))→G (a3C nv xs e Q)
 | [],G,e,Q,he,h=>h _ fun fr σ u=>⟨fr,fun _=>rfl,u⟩
 | x::xs,G,e,Q,he,h=>by
  cases x with
  | vs i =>
   unfold a3C;cases C:Nat.blt i nv with
   | false=>exact he
   | true =>
    have hi:=Y2 C;refine P4 (by omega) he fun g hg=>a2L (by omega) he fun p E=>O4 hn xs he fun sp j=>h _ fun fr σ u=>?_
    obtain⟨y,z,B⟩:=j (a2y i (a0u i fr).weak fr) (Opd.spend (.vs i) σ) (by show σ.fr.set i (σ.fr.getD i .undef).weak=_;rw[u,R7 hi,a3J hi hn]);refine⟨y,fun k=>?_,B⟩;show g fr (fun x=>qWk x fun x=>p x fr fun fr=>sp fr k)=_;rw[hg,a2g,E,z]
  | ts s=>exact O4 hn xs he fun sp j=>h sp fun fr σ u=>j fr (Opd.spend (.ts s) σ) u
  | t s=>exact O4 hn xs he fun sp j=>h sp fun fr σ u=>j fr σ u
  | v s=>exact O4 hn xs he fun sp j=>h sp fun fr σ u=>j fr σ u
  | l s=>exact O4 hn xs he fun sp j=>h sp fun fr σ u=>j fr σ u
  | c s=>exact O4 hn xs he fun sp j=>h sp fun fr σ u=>j fr σ u
def a5r (i:Scope) (env:List AV) (τ:Nat→AV):Prop:=∀ s x,L8 s i=some x→SrcOK env (τ s) x
theorem N5 {env:List AV}:∀ {xs:List Opd} {u:Scope} {σ:Sig},a5r u env σ.τ→(∀ s,(σ.τ s).stripB=σ.τ s) →
 a5r (a4H xs u) env σ.τ∧a5r (a4H xs u) env (g9 xs σ).τ∧(∀ s,((g9 xs σ).τ s).stripB=(g9 xs σ).τ s)∧(g9 xs σ).st=σ.st
 | [],u,σ,h,hb=>⟨h,h,hb,rfl⟩
 | x::xs,u,σ,h,hb=>by
  cases x with
  | ts s =>
   have J:∀ (v:AV),v=σ.τ s∨v=(σ.τ s).weak→∀ y,L8 s (match L8 s u with|some (.s l)=>(s,.d l)::u|some (.k a)=>(s,.q a.weak)::u|_=>u)=some y→SrcOK env v y:=by
    intro v M y j;have B:v.weak=(σ.τ s).weak:=by rcases M with rfl|rfl; rfl; exact I6 _
    cases hs:L8 s u with
    | none=>rw[hs]at j; dsimp only at j; rw[hs]at j; cases j
    | some z =>
     have F:=h _ _ hs;rw[hs]at j;cases z with
     | s l =>dsimp only at j;rw[a3u,if_pos rfl]at j;cases j;obtain⟨a,C,E⟩:=F;exact⟨a,C,by rw[B,E]⟩
     | k a =>dsimp only at j;rw[a3u,if_pos rfl]at j;cases j;show v.weak=a.weak;rw[B,show σ.τ s=a from F]
     | w l =>dsimp only at j;rw[hs]at j;cases j;obtain⟨a,C,E⟩:=F;exact⟨a,C,by rw[B,E]⟩
     | d l =>dsimp only at j;rw[hs]at j;cases j;obtain⟨a,C,E⟩:=F;exact⟨a,C,by rw[B,E]⟩
     | q a =>dsimp only at j;rw[hs]at j;cases j;show v.weak=a;rw[B];exact F
   have I:∀ t,t≠s→∀ y,L8 t (match L8 s u with|some (.s l)=>(s,.d l)::u|some (.k a)=>(s,.q a.weak)::u|_=>u)=some y→L8 t u=some y:=by
    intro t L y j;cases hs:L8 s u with
    | none=>rw[hs]at j; exact j
    | some z =>rw[hs]at j;cases z<;>dsimp only at j<;>first|exact j|(rw[a3u,if_neg (fun q=>L q.symm)]at j; exact j)
   have C:a5r (match L8 s u with|some (.s l)=>(s,.d l)::u|some (.k a)=>(s,.q a.weak)::u|_=>u) env σ.τ:=fun t y j=>by
    by_cases e:t=s
    · subst e; exact J _ (.inl rfl) y j
    · exact h _ _ (I t e y j)
   have E:a5r (match L8 s u with|some (.s l)=>(s,.d l)::u|some (.k a)=>(s,.q a.weak)::u|_=>u) env (Opd.spend (.ts s) σ).τ:=fun t y j=>by
    show SrcOK env (C6 σ.τ s (σ.τ s).weak t) y;rw[a1S];by_cases e:t=s
    · subst e; rw[if_pos rfl]; exact J _ (.inr rfl) y j
    · rw[if_neg e]; exact h _ _ (I t e y j)
   have G:∀ t,((Opd.spend (.ts s) σ).τ t).stripB=(Opd.spend (.ts s) σ).τ t:=fun t=>by
    show(C6 σ.τ s (σ.τ s).weak t).stripB=C6 σ.τ s (σ.τ s).weak t;rw[a1S];split
    · exact b2J (hb s)
    · exact hb t
   have a:=N5 (xs:=xs) C hb;have b:=N5 (xs:=xs) E G;exact⟨a.1,b.2.1,b.2.2.1,b.2.2.2⟩
  | vs i =>have a:=N5 (xs:=xs) h hb;have b:=N5 (xs:=xs) (σ:=Opd.spend (.vs i) σ) h hb;exact⟨a.1,b.2.1,b.2.2.1,b.2.2.2⟩
  | t s=>exact N5 (xs:=xs) h hb
  | v s=>exact N5 (xs:=xs) h hb
  | l s=>exact N5 (xs:=xs) h hb
  | c s=>exact N5 (xs:=xs) h hb
theorem b0d {xs:List Opd} (h:b5o xs=false):∀ σ:Sig,(g9 xs σ).fr=σ.fr:=by
 induction xs with
 | nil=>intro σ; rfl
 | cons x xs i=>intro σ; cases x<;>first|exact i h _|cases h
def e8L (nv l:Nat) (u:Scope) (o:AOper) (t:CF):Prop:=∀ c env fr st σ,Ag nv l u env fr σ→σ.st=st→∀ (K:AV→Fr→St→RO) out,t c env fr st K=some out →
 ∃ r b st' j,sem o.kind c (o.args.map (·.read σ)) (match o.box with|some i=>σ.fr.getD i .undef|none=>.undef) st=some (r,b,st')∧K r j st'=some out ∧
  (match o.box with|some i=>(g9 o.args σ).fr.set i b|none=>(g9 o.args σ).fr)=toL nv j
theorem a6a {α i:Type} {x:Option α} {f:α→Option i} {r:i} (h:obind x f=some r):∃ a,x=some a∧f a=some r:=by
 cases x with
 | none=>cases h
 | some a=>exact⟨a,rfl,h⟩
theorem b5t {G:β→Prop} {nv F:Nat} {V:Scope} {o:AOper} {rs:List Rd} {U:KF} {e:β} {Q:CF→β} (hn:nv≤64) (y:a9Q nv F V o.args rs) (x:c1T o.kind rs U) (J:G e) (h:∀ O,e8L nv F V o O→G (Q O)) :
 G (b3w nv o.kind o.args o.box U e Q):=by
 unfold b3w;split
 · rename_i S u;refine h _ fun c env fr st σ l E K out j=>?_
   rw[x,a2i l y]at j;obtain⟨⟨r,b,st'⟩,z,t⟩:=a6a j;exact⟨r,b,st',fr,by rw[u]; exact z,t,by rw[u]; dsimp only; rw[b0d S,l.f]⟩
 · rename_i S u;refine O4 hn o.args J fun sp C=>h _ fun c env fr st σ l E K out j=>?_
   rw[x,a2i l y]at j;obtain⟨⟨r,b,st'⟩,z,t⟩:=a6a j;obtain⟨I,L,M⟩:=C fr σ l.f;dsimp only at t;rw[L]at t;exact⟨r,b,st',I,by rw[u]; exact z,t,by rw[u]; exact M⟩
 · rename_i i u;cases N:Nat.blt i nv with
   | false=>exact J
   | true =>
    have hi:=Y2 N;refine P4 (by omega) J fun g hg=>?_
    split
    · rename_i B;simp only[Bool.or_eq_false_iff]at B;refine h _ fun c env fr st σ l E K out j=>?_
      rw[hg,x,a2i l y]at j;obtain⟨⟨r,b,st'⟩,z,t⟩:=a6a j;refine⟨r,b,st',fr,by rw[u]; dsimp only; rw[l.f,R7 hi]; exact z,t,?_⟩;rw[u];have:=a3H B.1 z;subst this;dsimp only;rw[b0d B.2,l.f,← R7 hi fr];exact a4X _ _
    · refine O4 hn o.args J fun sp C=>a2L (by omega) J fun p W=>h _ fun c env fr st σ l E K out j=>?_
      rw[hg,x,a2i l y]at j;obtain⟨⟨r,b,st'⟩,z,t⟩:=a6a j;obtain⟨I,L,M⟩:=C fr σ l.f;dsimp only at t;rw[L,W]at t;refine⟨r,b,st',_,by rw[u]; dsimp only; rw[l.f,R7 hi]; exact z,t,?_⟩;rw[u];dsimp only;rw[M,a3J hi hn]
def e4Y (nv u:Nat) (o:AOper) (z:Scope) (y:PF) (j:Nat) (x:Scope):Prop:=∀ r env fr s (k:List AV→Fr→St→RO) out,y r env fr s k=some out→∀ σ:Sig,σ.fr=toL nv fr→env.length=u→(∀ t,(σ.τ t).stripB=σ.τ t)→a5r z env σ.τ→σ.st=s →
 ∃ i l,k i l s=some out∧Ag nv j x i l (o.dst.put r σ)∧(o.dst.put r σ).st=s
theorem b7j {G:β→Prop} {nv F:Nat} {M:List Nat} {o:AOper} {S:Scope} {e:β} {Q:PF→Nat→Scope→β} (hn:nv≤64) (V:G e) (h:∀ W E J,e4Y nv F o S W E J→G (Q W E J)):G (c1U nv F M o.dst S e Q):=by
 unfold c1U;cases B:o.dst with
 | t s =>
  dsimp only;have I:∀ (σ:Sig) (r:AV),(∀ t,(σ.τ t).stripB=σ.τ t)→∀ t,(C6 σ.τ s r.stripB t).stripB=C6 σ.τ s r.stripB t:=fun σ r z t=>by
   rw[a1S]; split
   · exact a6w r
   · exact z t
  have L:∀ (σ:Sig) (r:AV) (env:List AV) (y:Src) (v:AV),env.length=F→a5r S env σ.τ→SrcOK (v::env) r.stripB y→a5r ((s,y)::S) (v::env) (C6 σ.τ s r.stripB):=fun σ r env y v hl l Y t x N=>by
   rw[a3u]at N;rw[a1S];split at N
   · rename_i e; cases N; rw[if_pos e.symm]; exact Y
   · rename_i e; rw[if_neg (fun q=>e q.symm)]; exact(l _ _ N).push v
  cases b99 s M with
  | true =>
   refine h _ _ _ fun r env fr O k out j σ C hl z l u=>?_
   rw[b8A]at j;refine⟨_,_,j,?_,by rw[B]; exact u⟩;rw[B];exact⟨C,by simp[hl],I σ r z,L σ r env _ _ hl l ⟨_,by rw[← hl]; exact b8J _ _,rfl⟩⟩
  | false =>
   refine h _ _ _ fun r env fr O k out j σ C hl z l u=>?_
   rw[b8A]at j;refine⟨_,_,j,?_,by rw[B]; exact u⟩;rw[B];exact⟨C,by simp[hl],I σ r z,L σ r env _ _ hl l ⟨_,by rw[← hl]; exact b8J _ _,rfl⟩⟩
 | v i =>
  dsimp only;cases U:Nat.blt i nv with
  | false=>exact V
  | true =>
   have hi:=Y2 U;refine a2L (by omega) V fun p X=>h _ _ _ fun r env fr O k out j σ C hl z l u=>?_
   rw[d0d,X]at j;refine⟨_,_,j,?_,by rw[B]; exact u⟩;rw[B];exact⟨by show σ.fr.set i r.strip=_; rw[C,a3J hi hn],hl,z,l⟩
 | none =>
  refine h _ _ _ fun r env fr O k out j σ C hl z l u=>?_
  refine⟨_,_,j,?_,by rw[B]; exact u⟩;rw[B];exact⟨C,hl,z,l⟩
 | bx =>
  refine h _ _ _ fun r env fr O k out j σ C hl z l u=>?_
  refine⟨_,_,j,?_,by rw[B]; exact u⟩;rw[B];exact⟨C,hl,z,l⟩
def e8R (nv t:Nat) (y:Scope) (o:AOper) (u:OpF) (j:Nat) (x:Scope):Prop:=∀ c env fr st σ,Ag nv t y env fr σ→σ.st=st→∀ (k:List AV→Fr→St→RO) out,u c env fr st k=some out →
 ∃ σ' i l,m2 c o σ=some σ'∧Ag nv j x i l σ'∧k i l σ'.st=some out
def d1E (nv i:Nat) (l:Scope) (o:AOper) (j:Scope):Prop:=∀ c env fr σ,Ag nv i l env fr σ→∃ σ',m2 c o σ=some σ'∧Ag nv i j env fr σ'∧σ'.st=σ.st
theorem a9m {nv i:Nat} {u:Scope} {env:List AV} {fr:Fr} {σ:Sig} (j:Ag nv i u env fr σ) (s:Nat) (v:AV) (y:Src) (z:SrcOK env v.stripB y):Ag nv i ((s,y)::u) env fr ({ σ with τ:=C6 σ.τ s v.stripB }) :=
 ⟨j.f,j.d,fun t=>by
  show(C6 σ.τ s v.stripB t).stripB=C6 σ.τ s v.stripB t;rw[a1S]; split
  · exact a6w v
  · exact j.nb t,fun t x l=>by
  show SrcOK env (C6 σ.τ s v.stripB t) x;rw[a3u]at l;rw[a1S];split at l
  · rename_i e; cases l; rw[if_pos e.symm]; exact z
  · rename_i e; rw[if_neg (fun q=>e q.symm)]; exact j.t _ _ l⟩
theorem a8e (c:e9) (s:Nat) (x:Opd) (i:x.steals=false) (σ:Sig):m2 c ⟨.t s,.mv,[x],none,none⟩ σ=some { σ with τ:=C6 σ.τ s (x.read σ).stripB }:=by have e:g9 [x] σ=σ:=a0r (by simp[j9,i]);show E9 c _ σ=_;rw[O9];show some (Dst.put (.t s) (x.read σ) { g9 [x] σ with st:=σ.st })=_;rw[e];rfl
theorem c0f {G:β→Prop} {nv J:Nat} {V:Scope} {b4:List Nat} {o:AOper} {e:β} {Q0:Scope→β} {Q:OpF→Nat→Scope→β} (hn:nv≤64) (X:G e) (W:∀ F,d1E nv J V o F→G (Q0 F))
 (h:∀ a0 B F,e8R nv J V o a0 B F→G (Q a0 B F)):G (opK nv J V b4 o e Q0 Q):=by
 unfold opK;split
 · rename_i s N z;have ho:o=⟨.t s,.mv,[.t N],none,none⟩:=by unfold a8H at z;split at z<;>first|(cases z; rfl)|cases z
   subst ho;have go:∀ y,(∀ env fr σ,Ag nv J V env fr σ→SrcOK env (σ.τ N).weak y)→d1E nv J V ⟨.t s,.mv,[.t N],none,none⟩ ((s,y)::V):=fun y hy c env fr σ u=>by refine⟨_,a8e c s (.t N) rfl σ,a9m u s _ y ?_,rfl⟩;show SrcOK env ((σ.τ N).weak).stripB y;rw[b2J (u.nb N)];exact hy env fr σ u
   split
   · rename_i l hs;exact W _ (go _ fun env fr σ u=>by obtain⟨a,M,S⟩:=u.t _ _ hs; exact⟨a,M,by rw[I6,S]⟩)
   · rename_i l hs;exact W _ (go _ fun env fr σ u=>by obtain⟨a,M,S⟩:=u.t _ _ hs; exact⟨a,M,by rw[I6,S]⟩)
   · rename_i l hs;exact W _ (go _ fun env fr σ u=>by obtain⟨a,M,S⟩:=u.t _ _ hs; exact⟨a,M,by rw[I6,S]⟩)
   · rename_i a hs;exact W _ (go _ fun env fr σ u=>by have:=u.t _ _ hs;show(σ.τ N).weak.weak=a.weak;rw[I6,show σ.τ N=a from this])
   · rename_i a hs;exact W _ (go _ fun env fr σ u=>by have:=u.t _ _ hs;show(σ.τ N).weak.weak=a;rw[I6];exact this)
   · exact X
 · rename_i s a z;have ho:o=⟨.t s,.mv,[.c a],none,none⟩:=by unfold a8H at z;split at z<;>first|(cases z; rfl)|cases z
   subst ho;exact W _ fun c env fr σ u=>⟨_,a8e c s (.c a) rfl σ,a9m u s _ _ rfl,rfl⟩
 · refine b1q hn X fun rs b2=>b53 fun kf b1=>b5t hn b2 b1 X fun cf a1=>b7j hn X fun pf B F Y=>?_
   have body:∀ c env fr st σ,Ag nv J V env fr σ→σ.st=st→∀ (k:List AV→Fr→St→RO) out,(cf c env fr st fun r fr s=>pf r env fr s k)=some out →
    ∃ σ' C E,E9 c o σ=some σ'∧Ag nv B F C E σ'∧k C E σ'.st=some out:=fun c env fr st σ u I k out j=>by
    obtain⟨r,b,st',E,M,S,h3⟩:=a1 c env fr st σ u I _ out j;obtain⟨e1,e2,e3,e4⟩:=N5 (xs:=o.args) (σ:=σ) u.t u.nb;let σ1:Sig:=match o.box with
     | some i=>{ g9 o.args σ with fr:=(g9 o.args σ).fr.set i b,st:=st' }
     | none=>{ g9 o.args σ with st:=st' }
    have a2:σ1.fr=toL nv E:=by rw[← h3]; simp only[σ1]; cases o.box<;>rfl
    have Z:σ1.τ=(g9 o.args σ).τ:=by simp only[σ1]; cases o.box<;>rfl
    have b3:σ1.st=st':=by simp only[σ1]; cases o.box<;>rfl
    obtain⟨L,O,g1,g2,g3⟩:=Y r env E st' k out S σ1 a2 u.d (by rw[Z]; exact e3) (by rw[Z]; exact e2) b3;refine⟨_,L,O,?_,g2,by rw[g3]; exact g1⟩;rw[O9,I];simp only[σ1];cases hb:o.box<;>rw[hb]at M<;>dsimp only at M ⊢<;>rw[M]
   split
   · rename_i hg;refine h _ _ _ fun c env fr st σ u I k out j=>?_
     unfold m2;rw[hg];exact body c env fr st σ u I k out j
   · rename_i x w hg;refine a7j hn X fun g b0=>h _ _ _ fun c env fr st σ u I k out j=>?_
     rw[b0 env fr σ u,c8C]at j;unfold m2;rw[hg];dsimp only;have skip:pf (.tuple []) env fr st k=some out→∃ σ' C E,some (o.dst.put (.tuple []) σ)=some σ'∧Ag nv B F C E σ'∧k C E σ'.st=some out:=fun j=>by obtain⟨L,O,g1,g2,g3⟩:=Y _ env fr st k out j σ u.f u.d u.nb (N5 (xs:=o.args) (σ:=σ) u.t u.nb).1 I;exact⟨_,L,O,rfl,g2,by rw[g3]; exact g1⟩
     cases hx:x.read σ<;>rw[hx]at j<;>(try dsimp only at j ⊢)<;>try cases j
     · rename_i b;split at j
       · rename_i U; rw[if_pos U]; exact body c env fr st σ u I k out j
       · rename_i U; rw[if_neg U]; exact skip j
     · rename_i vs;cases vs with
       | nil=>exact skip j
       | cons=>cases j
end
noncomputable def a6r (nv:Nat) (y:List Nat) (cond:Opd) (ops:List AOper):Nat→Scope→Clo:=List.rec (motive:=fun _=>Nat→Scope→Clo)
 (fun i u=>rdK nv i u cond a1r fun r=>.mk fun c env fr st=>r env fr fun x=>some (x,fr,st))
 (fun o _ z i u=>opK nv i u y o a1r (fun j=>z i j) fun t l j=>.mk fun c env fr st=>t c env fr st fun env fr st=>(z l j).run c env fr st) ops
def a6h (nv j:Nat) (l:Scope) (cond:Opd) (ops:List AOper) (x:Clo):Prop:=∀ c env fr st σ v i st',Ag nv j l env fr σ→σ.st=st→x.run c env fr st=some (v,i,st') →
 ∃ σ',l7 c ops σ=some σ'∧σ'.fr=toL nv i∧σ'.st=st'∧cond.read σ'=v
theorem b1H {nv i:Nat} {t:Scope} {cond:Opd} {ops:List AOper}:a6h nv i t cond ops a1r:=fun c env fr st σ v j st' u l h=>by cases (show(none:RO)=some _ from h)
theorem a4k {nv:Nat} (hn:nv≤64) {z:List Nat} {cond:Opd}:∀ (ops:List AOper) (i:Nat) (y:Scope),a6h nv i y cond ops (a6r nv z cond ops i y)
 | [],i,y=>by
  show a6h nv i y cond [] (rdK nv i y cond a1r fun r=>.mk fun c env fr st=>r env fr fun x=>some (x,fr,st));refine a7j (G:=a6h nv i y cond []) hn b1H fun r O c env fr st σ v t st' B u h=>?_
  have h:r env fr (fun x=>some (x,fr,st))=some (v,t,st'):=h;rw[O env fr σ B]at h;cases h;exact⟨σ,rfl,B.f,u,rfl⟩
 | o::ops,i,y=>by
  show a6h nv i y cond (o::ops) (opK nv i y z o a1r (fun j=>a6r nv z cond ops i j) fun E l j=>.mk fun c env fr st=>E c env fr st fun env fr st=>(a6r nv z cond ops l j).run c env fr st);refine c0f (G:=a6h nv i y cond (o::ops)) hn b1H (fun j M c env fr st σ v t st' B u h=>?_) fun E l j N c env fr st σ v t st' B u h=>?_
  · obtain⟨σ1,I,J,L⟩:=M c env fr σ B;obtain⟨σ2,g1,g2⟩:=a4k hn ops i j c env fr st σ1 v t st' J (L.trans u) h;exact⟨σ2,by rw[l7,I]; exact g1,g2⟩
  · obtain⟨σ1,C,F,I,J,L⟩:=N c env fr st σ B u _ _ h;obtain⟨σ2,g1,g2⟩:=a4k hn ops l j c C F σ1.st σ1 v t st' J rfl L;exact⟨σ2,by rw[l7,I]; exact g1,g2⟩
end Go.Cb.G
namespace Go.Cb.G
open Go Go.Cb
noncomputable def a9J (nv:Nat) (kill:List Nat) (Q:(Fr→(Fr→RO)→RO)→Clo):Clo:=List.rec (motive:=fun _=>((Fr→(Fr→RO)→RO)→Clo)→Clo) (fun Q=>Q fun fr k=>k fr)
 (fun i _ j Q=>Bool.rec (motive:=fun _=>Clo) (j Q) (a9b i a1r fun p=>j fun r=>Q fun fr k=>p .undef fr fun fr=>r fr k) (Nat.blt i nv)) kill Q
def tsL:List Opd→List Nat
 | []=>[]
 | .ts s::xs=>s::tsL xs
 | _::xs=>tsL xs
def b5Z:List AOper→List Nat
 | []=>[]
 | o::os=>match tsL o.args with
  | []=>b5Z os
  | l=>l++b5Z os
noncomputable def a7O (nv:Nat) (kill:List Nat) (ops:List AOper) (cond:Opd):Clo :=
 a9J nv kill fun i=>.mk fun c _ fr st=>i fr fun fr=>(a6r nv (tsL [cond]++b5Z ops) cond ops 0 []).run c [] fr st
theorem a4d {G:Clo→Prop} {nv:Nat} (hn:nv≤64) (hs:G a1r):∀ {kill:List Nat} {Q:(Fr→(Fr→RO)→RO)→Clo},(∀ r:Fr→(Fr→RO)→RO,(∀ fr,∃ j,(∀ k,r fr k=k j)∧m0 kill (toL nv fr)=toL nv j)→G (Q r))→G (a9J nv kill Q)
 | [],Q,h=>h _ fun fr=>⟨fr,fun _=>rfl,rfl⟩
 | i::is,Q,h=>by
  show G (Bool.rec (motive:=fun _=>Clo) (a9J nv is Q) (a9b i a1r fun p=>a9J nv is fun r=>Q fun fr k=>p .undef fr fun fr=>r fr k) (Nat.blt i nv));cases u:Nat.blt i nv with
  | false =>
   have hi:¬ i < nv:=fun q=>by rw[show Nat.blt i nv=true by simpa using q]at u; cases u
   exact a4d hn hs (kill:=is) fun r x=>h r fun fr=>by obtain⟨j,l,t⟩:=x fr;exact⟨j,l,by rw[m0,a6C hi]; exact t⟩
  | true =>have hi:=Y2 u;exact a2L (by omega) hs fun p y=>a4d hn hs (kill:=is) fun r x=>h _ fun fr=>by obtain⟨j,l,t⟩:=x (a2y i .undef fr);exact⟨j,fun k=>by show p .undef fr _=_; rw[y,l],by rw[m0,a3J hi hn]; exact t⟩
def b2M (nv:Nat) (kill:List Nat) (ops:List AOper) (cond:Opd) (x:Clo):Prop:=∀ c env fr st v i st',x.run c env fr st=some (v,i,st') →
 ∃ σ',l7 c ops ⟨m0 kill (toL nv fr),fun _=>.undef,st⟩=some σ'∧σ'.fr=toL nv i∧σ'.st=st'∧cond.read σ'=v
theorem b04 {nv:Nat} (hn:nv≤64) {kill:List Nat} {ops:List AOper} {cond:Opd}:b2M nv kill ops cond (a7O nv kill ops cond):=by
 refine a4d (G:=b2M nv kill ops cond) hn (fun c env fr st v i st' h=>by cases (show(none:RO)=some _ from h)) fun r u c env fr st v i st' h=>?_
 obtain⟨j,l,t⟩:=u fr;have h:r fr _=_:=h;rw[l]at h;exact a4k hn ops 0 [] c [] j st ⟨m0 kill (toL nv fr),fun _=>.undef,st⟩ v i st' ⟨t,rfl,fun _=>rfl,fun s x y=>by cases (show(none:Option Src)=some x from y)⟩ rfl h
abbrev CO:=Option (Ex×Fr×St)
inductive CloC where
 | mk (f:e9→Nat→Fr→St→CO)
noncomputable def CloC.run (x:CloC):e9→Nat→Fr→St→CO:=CloC.rec (motive:=fun _=>e9→Nat→Fr→St→CO) (fun f=>f) x
section
variable {ρ:Type}
noncomputable def b07 (x:RO) (k:AV→Fr→St→Option ρ):Option ρ:=Option.rec (motive:=fun _=>Option ρ) none (fun p=>Prod.rec (motive:=fun _=>Option ρ) (fun v q=>Prod.rec (motive:=fun _=>Option ρ) (fun fr st=>k v fr st) q) p) x
noncomputable def a2j (x:CO) (k:Ex→Fr→St→Option ρ):Option ρ:=Option.rec (motive:=fun _=>Option ρ) none (fun p=>Prod.rec (motive:=fun _=>Option ρ) (fun v q=>Prod.rec (motive:=fun _=>Option ρ) (fun fr st=>k v fr st) q) p) x
noncomputable def a2B (e:Ex) (n:Option ρ) (x:Nat→Option ρ) (r:Option ρ):Option ρ:=Ex.rec (motive:=fun _=>Option ρ) n x r e
theorem a9B {x:RO} {k:AV→Fr→St→Option ρ} {r:ρ} (h:b07 x k=some r):∃ v fr st,x=some (v,fr,st)∧k v fr st=some r:=by
 cases x with
 | none=>cases h
 | some p=>obtain⟨v,fr,st⟩:=p; exact⟨v,fr,st,rfl,h⟩
theorem a0D {x:CO} {k:Ex→Fr→St→Option ρ} {r:ρ} (h:a2j x k=some r):∃ v fr st,x=some (v,fr,st)∧k v fr st=some r:=by
 cases x with
 | none=>cases h
 | some p=>obtain⟨v,fr,st⟩:=p; exact⟨v,fr,st,rfl,h⟩
end
noncomputable def b4S (b:e9→Nat→Fr→St→CO) (c:e9) (n m:Nat):Fr→St→CO:=Nat.rec (motive:=fun _=>Fr→St→CO) (fun _ _=>none) (fun _ j fr st=>a2j (b c n fr st) fun e fr st=>a2B e (j fr st) (fun i=>some (.exit i,fr,st)) (some (.ret,fr,st))) m
def a8d (nv:Nat):List Nat→Fr→Fr
 | [],fr=>fr
 | i::is,fr=>a8d nv is (if i < nv then a2y i .undef fr else fr)
theorem a5J {nv:Nat} (hn:nv≤64):∀ {is:List Nat} {fr:Fr},m0 is (toL nv fr)=toL nv (a8d nv is fr)
 | [],fr=>rfl
 | i::is,fr=>by
  rw[m0,a8d];split
  · rename_i h; rw[a3J h hn]; exact a5J hn
  · rename_i h; rw[a6C h]; exact a5J hn
noncomputable def b6O (nv:Nat) (kill:List Nat) (x y:CO):CO:=a2j x fun e fr st=>a2j y fun e' i st' =>if a9L (G1 kill (e,toL nv fr,st)) (G1 kill (e',toL nv i,st'))then some (e,a8d nv kill fr,st)else none
noncomputable def a0S (nv:Nat) (x:ACode):CloC:=ACode.rec (motive:=fun _=>CloC)
 (.mk fun _ _ fr st=>some (.normal,fr,st))
 (fun kill ops=>.mk fun c _ fr st=>b07 ((a7O nv kill ops (.c .undef)).run c [] fr st) fun _ fr st=>some (.normal,fr,st))
 (fun kill ops x _ _ a b=>.mk fun c n fr st=>b07 ((a7O nv kill ops x).run c [] fr st) fun v fr st=>onB v none fun y=>Bool.rec (motive:=fun _=>CO) (b.run c n fr st) (a.run c n fr st) y)
 (fun _ _ a b=>.mk fun c n fr st=>a2j (a.run c n fr st) fun e fr st=>a2B e (b.run c n fr st) (fun i=>some (.exit i,fr,st)) (some (.ret,fr,st)))
 (fun id _ a=>.mk fun c n fr st=>a2j (a.run c n fr st) fun e fr st=>a2B e (some (.normal,fr,st)) (fun i=>Bool.rec (motive:=fun _=>CO) (some (.exit i,fr,st)) (some (.normal,fr,st)) (Nat.beq i id)) (some (.ret,fr,st)))
 (fun _ a=>.mk fun c n fr st=>b4S (fun c n fr st=>a.run c n fr st) c n n fr st)
 (fun kill _ _ a b=>.mk fun c n fr st=>b6O nv kill (a.run c n fr st) (b.run c n fr st))
 (fun id=>.mk fun _ _ fr st=>some (.exit id,fr,st))
 (.mk fun _ _ fr st=>some (.ret,fr,st)) x
def c6i (nv:Nat) (x:ACode) (y:CloC):Prop:=∀ c n fr st e i st',y.run c n fr st=some (e,i,st')→exec c n x (toL nv fr) st=some (e,toL nv i,st')
theorem b1G {nv:Nat} {a:ACode} {b:e9→Nat→Fr→St→CO} {c:e9} {n:Nat} (h:∀ fr st e j st',b c n fr st=some (e,j,st')→exec c n a (toL nv fr) st=some (e,toL nv j,st')):∀ (m:Nat) (fr:Fr) (st:St) (e:Ex) (j:Fr) (st':St),b4S b c n m fr st=some (e,j,st')→J2 (exec c n a) m (toL nv fr) st=some (e,toL nv j,st')
 | 0,fr,st,e,j,st',hs=>by cases (show(none:CO)=some _ from hs)
 | m+1,fr,st,e,j,st',hs=>by
  obtain⟨x,l,t,y,u⟩:=a0D (show a2j (b c n fr st) (fun e fr st=>a2B e (b4S b c n m fr st) (fun i=>some (.exit i,fr,st)) (some (.ret,fr,st)))=some (e,j,st')from hs);rw[J2,h _ _ _ _ _ y];cases x with
  | normal=>exact b1G h m l t e j st' u
  | exit i=>cases (show some (Ex.exit i,l,t)=some (e,j,st')from u); rfl
  | ret=>cases (show some (Ex.ret,l,t)=some (e,j,st')from u); rfl
theorem T5 {nv:Nat} (hn:nv≤64):∀ x:ACode,c6i nv x (a0S nv x)
 | .skip,c,n,fr,st,e,j,st',h=>by cases (show some (Ex.normal,fr,st)=some (e,j,st')from h); rfl
 | .ret,c,n,fr,st,e,j,st',h=>by cases (show some (Ex.ret,fr,st)=some (e,j,st')from h); rfl
 | .exit id,c,n,fr,st,e,j,st',h=>by cases (show some (Ex.exit id,fr,st)=some (e,j,st')from h); rfl
 | .reg kill ops,c,n,fr,st,e,j,st',h=>by obtain⟨v,l,u,z,t⟩:=a9B (show b07 ((a7O nv kill ops (.c .undef)).run c [] fr st) (fun _ fr st=>some (Ex.normal,fr,st))=some (e,j,st')from h);cases t;obtain⟨σ,g1,g2,g3,g4⟩:=b04 hn _ _ _ _ _ _ _ z;rw[exec,g1];simp only[fL_eq,g2,g3]
 | .test kill ops x a b,c,n,fr,st,e,j,st',h=>by
  obtain⟨v,l,u,z,t⟩:=a9B (show b07 ((a7O nv kill ops x).run c [] fr st) (fun v fr st=>onB v none fun y=>Bool.rec (motive:=fun _=>CO) ((a0S nv b).run c n fr st) ((a0S nv a).run c n fr st) y)=some (e,j,st')from h);obtain⟨σ,g1,g2,g3,g4⟩:=b04 hn _ _ _ _ _ _ _ z;rw[b0k]at t;rw[exec,g1];dsimp only;rw[g4];cases v<;>try (cases t; done)
  rename_i y;cases y
  · simp only[fL_eq,g2,g3]; exact T5 hn b _ _ _ _ _ _ _ t
  · simp only[fL_eq,g2,g3]; exact T5 hn a _ _ _ _ _ _ _ t
 | .seq a b,c,n,fr,st,e,j,st',h=>by
  obtain⟨B,l,u,z,t⟩:=a0D (show a2j ((a0S nv a).run c n fr st) (fun e fr st=>a2B e ((a0S nv b).run c n fr st) (fun i=>some (.exit i,fr,st)) (some (.ret,fr,st)))=some (e,j,st')from h);rw[exec,T5 hn a _ _ _ _ _ _ _ z];cases B with
  | normal=>exact T5 hn b _ _ _ _ _ _ _ t
  | exit i=>cases (show some (Ex.exit i,l,u)=some (e,j,st')from t); rfl
  | ret=>cases (show some (Ex.ret,l,u)=some (e,j,st')from t); rfl
 | .blk id a,c,n,fr,st,e,j,st',h=>by
  obtain⟨B,l,u,z,t⟩:=a0D (show a2j ((a0S nv a).run c n fr st) (fun e fr st=>a2B e (some (.normal,fr,st)) (fun i=>Bool.rec (motive:=fun _=>CO) (some (.exit i,fr,st)) (some (.normal,fr,st)) (Nat.beq i id)) (some (.ret,fr,st)))=some (e,j,st')from h);rw[exec,T5 hn a _ _ _ _ _ _ _ z];cases B with
  | normal=>cases (show some (Ex.normal,l,u)=some (e,j,st')from t); rfl
  | exit i =>
   have t:Bool.rec (motive:=fun _=>CO) (some (.exit i,l,u)) (some (.normal,l,u)) (Nat.beq i id)=some (e,j,st'):=t;dsimp only;cases C:Nat.beq i id with
   | true=>rw[C]at t; cases t; rw[if_pos (Nat.eq_of_beq_eq_true C)]
   | false=>rw[C]at t; cases t; rw[if_neg (Nat.ne_of_beq_eq_false C)]
  | ret=>cases (show some (Ex.ret,l,u)=some (e,j,st')from t); rfl
 | .loop a,c,n,fr,st,e,j,st',h=>by rw[exec];exact b1G (b:=fun c n fr st=>(a0S nv a).run c n fr st) (fun fr st e j st' h=>T5 hn a _ _ _ _ _ _ _ h) n fr st e j st' h
 | .either kill a b,c,n,fr,st,e,j,st',h=>by
  have h:b6O nv kill ((a0S nv a).run c n fr st) ((a0S nv b).run c n fr st)=some (e,j,st'):=h;obtain⟨B,l,u,z,t⟩:=a0D h;obtain⟨e2,F,st2,G,E⟩:=a0D t;rw[exec,T5 hn a _ _ _ _ _ _ _ z,T5 hn b _ _ _ _ _ _ _ G];unfold a6g;split at E
  · rename_i I;cases E;dsimp only;rw[if_pos I];show some (_,m0 kill (toL nv l),_)=_;rw[a5J hn]
  · cases E
inductive FnC where
 | mk (f:e9→Nat→List AV→St→Option (AV×St))
noncomputable def FnC.run (x:FnC):e9→Nat→List AV→St→Option (AV×St):=FnC.rec (motive:=fun _=>e9→Nat→List AV→St→Option (AV×St)) (fun f=>f) x
noncomputable def R5:FnC:=.mk fun _ _ _ _=>none
noncomputable def c0t (nv:Nat) (r:ResK) (Q:(Fr→St→(AV→Option (AV×St))→Option (AV×St))→FnC):FnC :=
 match r with
 | .v i=>match Nat.blt i nv with
  | true=>a2Y i R5 fun g=>Q fun fr _ k=>g fr fun x=>qWk x k
  | false=>R5
 | .vs i=>match Nat.blt i nv with
  | true=>a2Y i R5 fun g=>Q fun fr _ k=>g fr k
  | false=>R5
 | .bx i agg n=>match Nat.blt i nv with
  | true=>a2Y i R5 fun g=>Q fun fr st k=>g fr fun x=>b6F x none fun cs=>a5X k agg n cs
  | false=>R5
 | .po i agg n=>match Nat.blt i nv with
  | true=>a2Y i R5 fun g=>Q fun fr st k=>g fr fun x=>a3N st k agg n x
  | false=>R5
theorem b8w {G:FnC→Prop} {nv:Nat} (hn:nv≤64) (hs:G R5) {r:ResK} {Q:(Fr→St→(AV→Option (AV×St))→Option (AV×St))→FnC} (h:∀ g:Fr→St→(AV→Option (AV×St))→Option (AV×St),(∀ fr st k out,g fr st k=some out→∃ v,r.get (toL nv fr) st=some v∧k v=some out)→G (Q g)):G (c0t nv r Q):=by
 unfold c0t;cases r with
 | v i =>
  dsimp only;cases l:Nat.blt i nv with
  | false=>exact hs
  | true =>
   have hi:=Y2 l;refine P4 (by omega) hs fun g hg=>h _ fun fr st k out j=>?_
   rw[hg,a2g]at j;exact⟨_,by rw[ResK.get,R7 hi],j⟩
 | vs i =>
  dsimp only;cases l:Nat.blt i nv with
  | false=>exact hs
  | true =>
   have hi:=Y2 l;refine P4 (by omega) hs fun g hg=>h _ fun fr st k out j=>?_
   rw[hg]at j;exact⟨_,by rw[ResK.get,R7 hi],j⟩
 | bx i agg n =>
  dsimp only;cases l:Nat.blt i nv with
  | false=>exact hs
  | true =>
   have hi:=Y2 l;refine P4 (by omega) hs fun g hg=>h _ fun fr st k out j=>?_
   rw[hg,a9c]at j;rw[ResK.get,R7 hi];cases u:a0u i fr<;>rw[u]at j<;>try (cases j; done)
   rename_i cs;dsimp only at j ⊢;rw[a2n]at j;cases t:m4 agg n cs with
   | none=>rw[t]at j; cases j
   | some v=>rw[t]at j; exact⟨v,rfl,j⟩
 | po i agg n =>
  dsimp only;cases l:Nat.blt i nv with
  | false=>exact hs
  | true =>
   have hi:=Y2 l;refine P4 (by omega) hs fun g hg=>h _ fun fr st k out j=>?_
   rw[hg]at j;rw[ResK.get,R7 hi];simp only[a3N,b1n,a8s,a5F,a2n,a05]at j;cases u:a0u i fr<;>rw[u]at j<;>try (cases j; done)
   rename_i o off;dsimp only at j ⊢;cases x:st[o]? with
   | none=>rw[x]at j; cases j
   | some y =>
    rw[x]at j;cases y with
    | cells cs =>
     dsimp only at j ⊢;cases t:m4 agg n (cs.drop off)with
     | none=>rw[t]at j; cases j
     | some v=>rw[t]at j; exact⟨v,rfl,j⟩
    | map _=>cases j
    | dead=>cases j
noncomputable def b5p (nv:Nat):List ResK→((Fr→St→(List AV→Option (AV×St))→Option (AV×St))→FnC)→FnC
 | [],Q=>Q fun _ _ k=>k []
 | r::rs,Q=>c0t nv r fun g=>b5p nv rs fun gs=>Q fun fr st k=>g fr st fun v=>gs fr st fun vs=>k (v::vs)
theorem a9h {G:FnC→Prop} {nv:Nat} (hn:nv≤64) (hs:G R5):∀ {rs:List ResK} {Q:(Fr→St→(List AV→Option (AV×St))→Option (AV×St))→FnC},(∀ g:Fr→St→(List AV→Option (AV×St))→Option (AV×St),(∀ fr st k out,g fr st k=some out→∃ vs,H4 rs (toL nv fr) st=some vs∧k vs=some out)→G (Q g))→G (b5p nv rs Q)
 | [],Q,h=>h _ fun fr st k out j=>⟨[],rfl,j⟩
 | r::rs,Q,h=>by unfold b5p;exact b8w hn hs fun g hg=>a9h hn hs fun gs i=>h _ fun fr st k out j=>by obtain⟨v,l,t⟩:=hg fr st _ _ j;obtain⟨vs,u,x⟩:=i fr st _ _ t;exact⟨v::vs,by rw[H4,l,u],x⟩
noncomputable def a8v (vs:List AV) (st:St):Option (AV×St):=List.rec (motive:=fun _=>Option (AV×St)) (some (.tuple [],st)) (fun v i _=>List.rec (motive:=fun _=>Option (AV×St)) (some (v,st)) (fun _ _ _=>some (.tuple vs,st)) i) vs
noncomputable def b3A (fn:AFn):FnC:=match Nat.ble fn.nv 64 && Nat.ble fn.np fn.nv with
 | true=>b5p fn.nv fn.results fun g=>.mk fun c n as st=>Bool.rec (motive:=fun _=>Option (AV×St)) none (c1g as fun w=>a2j ((a0S fn.nv fn.code).run c n (fr0 w) st) fun e fr st=>a2B e (g fr st fun vs=>a8v vs st) (fun _=>none) (g fr st fun vs=>a8v vs st)) (Nat.beq (O5 as) fn.np)
 | false=>R5
noncomputable def fnC (x:Option AFn):FnC:=match x with
 | none=>R5
 | some fn=>match fn.ext with
  | some e=>.mk fun _ _ as st=>e as st
  | none=>b3A fn
theorem c4B {vs:List AV} {st:St}:a8v vs st=(match (some vs:Option (List AV))with|some [v]=>some (v,st)|some vs=>some (.tuple vs,st)|none=>none):=by
 match vs with
 | []=>rfl
 | [_]=>rfl
 | _::_::_=>rfl
def b7x (fn:AFn) (x:FnC):Prop:=∀ c n as st out,x.run c n as st=some out→fn.run c n as st=some out
theorem c1B (fn:AFn):b7x fn (b3A fn):=by
 have hs:b7x fn R5:=fun c n as st out h=>by cases (show(none:Option (AV×St))=some _ from h)
 unfold b3A;cases l:Nat.ble fn.nv 64 && Nat.ble fn.np fn.nv with
 | false=>exact hs
 | true =>
  simp only[Bool.and_eq_true,Nat.ble_eq]at l;refine a9h l.1 hs fun g hg c n as st out h=>?_
  have h:Bool.rec (motive:=fun _=>Option (AV×St)) none (c1g as fun w=>a2j ((a0S fn.nv fn.code).run c n (fr0 w) st) fun e fr st=>a2B e (g fr st fun vs=>a8v vs st) (fun _=>none) (g fr st fun vs=>a8v vs st)) (Nat.beq (O5 as) fn.np)=some out:=h;cases hl:Nat.beq (O5 as) fn.np with
  | false=>rw[hl]at h; cases h
  | true =>
   rw[hl]at h;have hl:=Nat.eq_of_beq_eq_true hl;rw[L7]at hl;obtain⟨w,x,y,z⟩:=c7i h;obtain⟨e,j,st',B,t⟩:=a0D x;have u:=T5 l.1 fn.code _ _ _ _ _ _ _ B;rw[d2d z hl y l.2 l.1]at u;unfold AFn.run;rw[if_pos hl,u];have fin:(g j st' fun vs=>a8v vs st')=some out→(match H4 fn.results (toL fn.nv j) st' with|some [v]=>some (v,st')|some vs=>some (.tuple vs,st')|none=>none)=some out:=fun h=>by obtain⟨vs,C,E⟩:=hg j st' _ _ h;rw[C,← E,c4B]
   cases e with
   | normal=>exact fin t
   | exit i=>cases (show(none:Option (AV×St))=some _ from t)
   | ret=>exact fin t
noncomputable def callG (tbl:Nat→Option AFn) (n:Nat):e9:=Nat.rec (motive:=fun _=>e9) (fun _ _ _=>none) (fun n i f as st=>(fnC (tbl f)).run i n as st) n
theorem a0y {tbl:Nat→Option AFn}:∀ n,V5 (callG tbl n) (m6 tbl n)
 | 0,f,as,st,r,h=>by cases (show(none:Option (AV×St))=some _ from h)
 | n+1,f,as,st,r,h=>by
  have h:(fnC (tbl f)).run (callG tbl n) n as st=some r:=h;unfold m6;cases j:tbl f with
  | none=>rw[j]at h; cases (show(none:Option (AV×St))=some _ from h)
  | some fn =>
   rw[j]at h;unfold fnC at h;dsimp only at h ⊢;cases i:fn.ext with
   | some e=>rw[i]at h; exact h
   | none =>rw[i]at h;exact b0F (a0y n) (Nat.le_refl _) (c1B fn _ _ _ _ _ h)
theorem ev_ofG {tbl:Nat→Option AFn} {k f:Nat} {as:List AV} {st:St} {r:AV} {st':St} (h:callG tbl k f as st=some (r,st')):Ev tbl f as st r st':=⟨k,a0y k _ _ _ _ h⟩
end Go.Cb.G
namespace Go.Cb.G
open Go Go.Cb
def N:e9:=fun _ _ _=>none
theorem a7D (c:e9):∀ (a b:List AOper) (σ:Sig),l7 c (a++b) σ=match l7 c a σ with|some σ=>l7 c b σ|none=>none
 | [],b,σ=>rfl
 | o::a,b,σ=>by
  show l7 c (o::(a++b)) σ=_;rw[l7,l7];cases m2 c o σ with
  | none=>rfl
  | some σ=>exact a7D c a b σ
def sp (kill:List Nat) (ops:List AOper) (i:Nat) (fr:List AV) (st:St):Option (Sig×AOper×List AOper):=match l7 N (ops.take i) ⟨m0 kill fr,fun _=>.undef,st⟩,ops.drop i with
 | some σ,o::os=>some (σ,o,os)
 | _,_=>none
def after (kill:List Nat) (ops:List AOper) (i:Nat) (x:Opd) (fr:List AV) (st:St) (r:AV) (j:St):Option (AV×List AV×St):=match sp kill ops i fr st with
 | some (σ,o,os)=>match l7 N os (o.dst.put r { g9 o.args σ with st:=j })with
  | some σ=>some (x.read σ,σ.fr,σ.st)
  | none=>none
 | none=>none
section
variable {tbl:Nat→Option AFn}
theorem b4j {code:ACode} {k:Nat} {fr:List AV} {st:St} {out:Out} (h:exec (callG tbl k) k code fr st=some out):XC tbl code fr st out:=⟨k,D7 (a0y k) (Nat.le_refl _) h⟩
def fin (rs:List ResK) (o:Option Out):Option (AV×St):=match o with
 | some (.exit _,_,_)=>none
 | some (_,fr,st)=>match H4 rs fr st with
  | some [v]=>some (v,st)
  | some vs=>some (.tuple vs,st)
  | none=>none
 | none=>none
def e5H (x:Option (AV×St)):Option AV:=match x with
 | some (v,_)=>some v
 | none=>none
def FX (tbl:Nat→Option AFn) (rs:List ResK) (code:ACode) (fr:List AV) (st:St) (v:AV):Prop:=∃ out st',XC tbl code fr st out∧fin rs (some out)=some (v,st')
theorem FX.seq {rs:List ResK} {a b:ACode} {fr i:List AV} {st j:St} {v:AV} (h:XC tbl a fr st (.normal,i,j)) (t:FX tbl rs b i j v):FX tbl rs (.seq a b) fr st v:=by obtain⟨⟨e,l,st'⟩,s,u,x⟩:=t;exact⟨_,s,XC.seq h u,x⟩
theorem FX.G {rs:List ResK} {code:ACode} {k:Nat} {fr:List AV} {st:St} {v:AV} (h:e5H (fin rs (exec (callG tbl k) k code fr st))=some v):FX tbl rs code fr st v:=by
 cases j:exec (callG tbl k) k code fr st with
 | none=>rw[j]at h; cases h
 | some o =>
  rw[j]at h;cases i:fin rs (some o)with
  | none=>rw[i]at h; cases h
  | some p =>obtain⟨w,s⟩:=p;rw[i]at h;cases (show some w=some v from h);exact⟨o,s,b4j j,i⟩
theorem FX.run {rs:List ResK} {code:ACode} {fr:List AV} {st:St} {v:AV} {f:Nat} {fn:AFn} {as:List AV} (t:tbl f=some fn) (z:fn.ext=none) (hl:as.length=fn.np) (B:fn.results=rs) (y:fn.code=code)
 (l:as++List.replicate (fn.nv - fn.np) .undef=fr) (h:FX tbl rs code fr st v):∃ n st',m6 tbl n f as st=some (v,st'):=by
 obtain⟨⟨e,u,C⟩,s,⟨n,x⟩,j⟩:=h;refine⟨n+1,s,?_⟩;unfold m6;rw[t];dsimp only;rw[z];dsimp only;unfold AFn.run;rw[if_pos hl,y,l,x,B];cases e with
 | exit i=>cases j
 | normal=>exact j
 | ret=>exact j
end
end Go.Cb.G
namespace Go.Cb
open Classical
def a1H:ACode→Bool
 | .ret=>false
 | .seq a b|.test _ _ _ a b|.either _ a b=>a1H a && a1H b
 | .blk _ a|.loop a=>a1H a
 | _=>true
def a1f (e:Nat):ACode→Bool
 | .seq a b|.test _ _ _ a b=>a1f e a && a1f e b
 | .blk id a=>!Nat.beq id e && a1f e a
 | .loop a=>a1f e a
 | .either ..=>false
 | _=>true
def P7 (e:Nat):ACode→ACode
 | .exit id=>if Nat.beq id e then .ret else .exit id
 | .seq a b=>.seq (P7 e a) (P7 e b)
 | .test k o c a b=>.test k o c (P7 e a) (P7 e b)
 | .blk id a=>.blk id (P7 e a)
 | .loop a=>.loop (P7 e a)
 | y=>y
def a0b (e:Nat):Ex→Ex
 | .exit id=>if Nat.beq id e then .ret else .exit id
 | x=>x
theorem a7P {b:List AV→St→Option Out} (h:∀ fr st out,b fr st=some out→out.1≠.ret):∀ (n:Nat) (fr:List AV) (st:St) (out:Out),J2 b n fr st=some out→out.1≠.ret
 | 0,_,_,_,i=>by cases i
 | n+1,fr,st,out,i=>by
  rw[J2]at i;split at i
  · exact a7P h n _ _ _ i
  · exact h _ _ _ i
theorem N1 {call:e9} {n:Nat}:∀ (y:ACode) (fr:List AV) (st:St) (out:Out),a1H y=true→exec call n y fr st=some out→out.1≠.ret
 | .skip,fr,st,out,_,i=>by simp only[exec,Option.some.injEq]at i; subst i; simp
 | .exit id,fr,st,out,_,i=>by simp only[exec,Option.some.injEq]at i; subst i; simp
 | .ret,_,_,_,h,_=>by cases h
 | .reg kill ops,fr,st,out,_,i=>by
  simp only[exec]at i;split at i
  · simp only[fL_eq,Option.some.injEq]at i; subst i; simp
  · cases i
 | .test kill ops c a b,fr,st,out,h,i=>by
  simp only[a1H,Bool.and_eq_true]at h;simp only[exec,fL_eq]at i;split at i
  · split at i
    · exact N1 a _ _ _ h.1 i
    · exact N1 b _ _ _ h.2 i
    · cases i
  · cases i
 | .seq a b,fr,st,out,h,i=>by
  simp only[a1H,Bool.and_eq_true]at h;rcases M6 i with⟨t,C,_,e2⟩|⟨j,_⟩
  · exact N1 b _ _ _ h.2 e2
  · exact N1 a _ _ _ h.1 j
 | .blk id a,fr,st,out,h,i=>by
  simp only[exec]at i;split at i
  · simp only[Option.some.injEq]at i;subst i;dsimp only;split<;>simp
  · exact N1 a _ _ _ h i
 | .loop a,fr,st,out,h,i=>by simp only[exec]at i;exact a7P (fun fr st out u=>N1 a fr st out h u) _ _ _ _ i
 | .either kill a b,fr,st,out,h,i=>by simp only[a1H,Bool.and_eq_true]at h;simp only[exec]at i;obtain⟨B,G,l,E,z,F⟩:=a1E i;subst z;exact fun x=>N1 a fr st B h.1 l x
theorem a7V {e:Nat} {b b':List AV→St→Option Out} (h:∀ fr st out,b fr st=some out→b' fr st=some (a0b e out.1,out.2)):∀ (n:Nat) (fr:List AV) (st:St) (out:Out),J2 b n fr st=some out→J2 b' n fr st=some (a0b e out.1,out.2)
 | 0,_,_,_,i=>by cases i
 | n+1,fr,st,out,i=>by
  rw[J2]at i;rw[J2];split at i
  · rename_i j t l;rw[h _ _ _ l];exact a7V h n _ _ _ i
  · rename_i l;rw[h _ _ _ i];obtain⟨x,j,t⟩:=out;cases x with
    | normal=>exact absurd i (l _ _)
    | ret=>rfl
    | exit id =>
     dsimp only[a0b];by_cases u:Nat.beq id e=true
     · simp only[u,if_true]
     · simp only[u,if_false,Bool.false_eq_true]
theorem J7 {e:Nat} {call:e9} {n:Nat}:∀ (y:ACode) (fr:List AV) (st:St) (out:Out),a1f e y=true→exec call n y fr st=some out→exec call n (P7 e y) fr st=some (a0b e out.1,out.2)
 | .skip,fr,st,out,_,i=>by simp only[exec,Option.some.injEq]at i; subst i; rfl
 | .ret,fr,st,out,_,i=>by simp only[exec,Option.some.injEq]at i; subst i; rfl
 | .exit id,fr,st,out,_,i=>by simp only[exec,Option.some.injEq]at i;subst i;simp only[P7,a0b];split<;>simp[exec]
 | .reg kill ops,fr,st,out,_,i=>by
  rw[P7,i];simp only[exec]at i;split at i
  · simp only[fL_eq,Option.some.injEq]at i; subst i; rfl
  · cases i
  all_goals simp
 | .test kill ops c a b,fr,st,out,h,i=>by
  simp only[a1f,Bool.and_eq_true]at h;simp only[exec,fL_eq]at i;simp only[P7,exec,fL_eq];split at i
  · split at i
    · exact J7 a _ _ _ h.1 i
    · exact J7 b _ _ _ h.2 i
    · cases i
  · cases i
 | .seq a b,fr,st,out,h,i=>by
  simp only[a1f,Bool.and_eq_true]at h;rw[P7,exec];rcases M6 i with⟨t,u,z,e2⟩|⟨z,hn⟩
  · rw[J7 a _ _ _ h.1 z];exact J7 b _ _ _ h.2 e2
  · rw[J7 a _ _ _ h.1 z];obtain⟨x,t,u⟩:=out;cases x with
    | normal=>exact absurd rfl hn
    | ret=>rfl
    | exit id =>
     dsimp only[a0b];by_cases l:Nat.beq id e=true
     · simp only[l,if_true]
     · simp only[l,if_false,Bool.false_eq_true]
 | .blk id a,fr,st,out,h,i=>by
  simp only[a1f,Bool.and_eq_true,Bool.not_eq_true']at h;simp only[exec]at i;rw[P7,exec];split at i
  · rename_i j t u C;simp only[Option.some.injEq]at i;subst i;rw[J7 a _ _ _ h.2 C];dsimp only[a0b];by_cases l:Nat.beq j e=true
    · have z:j=e:=Nat.eq_of_beq_eq_true l;have e2:j≠id:=fun q=>by rw[← q,l]at h; cases h.1
      simp only[l,if_true,e2,if_false]
    · simp only[l,if_false,Bool.false_eq_true];by_cases e2:j=id
      · simp only[e2,if_true]
      · simp only[e2,if_false,l,Bool.false_eq_true]
  · rename_i B;rw[J7 a _ _ _ h.2 i];obtain⟨x,t,u⟩:=out;cases x with
    | normal=>rfl
    | ret=>rfl
    | exit j=>exact absurd i (B _ _ _)
 | .loop a,fr,st,out,h,i=>by simp only[exec]at i;rw[P7,exec];exact a7V (fun fr st out E=>J7 a fr st out h E) _ _ _ _ i
 | .either ..,_,_,_,h,_=>by cases h
def a04 (i:Nat) (o:AOper):Bool:=(match o.dst with|.v j=>!Nat.beq i j|_=>true) && (match o.box with|some j=>!Nat.beq i j|none=>true) && o.args.all (fun x=>match x with|.vs j=>!Nat.beq i j|_=>true)
def a1e (i:Nat):ACode→Bool
 | .reg kill ops=>!kill.contains i && ops.all (a04 i)
 | .test kill ops _ a b=>!kill.contains i && ops.all (a04 i) && a1e i a && a1e i b
 | .seq a b=>a1e i a && a1e i b
 | .blk _ a|.loop a=>a1e i a
 | .either ..=>false
 | _=>true
theorem a2e {i:Nat}:∀ (kill:List Nat) (fr:List AV),i ∉ kill→(m0 kill fr).getD i .undef=fr.getD i .undef
 | [],_,_=>rfl
 | k::ks,fr,h=>by
  rw[m0,a2e ks _ fun hm=>h (List.mem_cons_of_mem _ hm)];have hk:k≠i:=fun e=>h (by simp[e])
  simp only[List.getD_eq_getElem?_getD,List.getElem?_set_ne hk]
theorem a4g {i:Nat} {d:Dst} {r:AV} {σ:Sig} (h:(match d with|.v j=>!Nat.beq i j|_=>true)=true):(d.put r σ).fr.getD i .undef=σ.fr.getD i .undef:=by
 cases d with
 | none=>rfl
 | bx=>rfl
 | t s=>rfl
 | v j =>
  have l:j≠i:=fun e=>by subst e; simp at h
  show(σ.fr.set j r.strip).getD i .undef=_;simp only[List.getD_eq_getElem?_getD,List.getElem?_set_ne l]
theorem a4s {i:Nat}:∀ (as:List Opd) (σ:Sig),as.all (fun x=>match x with|.vs j=>!Nat.beq i j|_=>true)=true→(g9 as σ).fr.getD i .undef=σ.fr.getD i .undef
 | [],_,_=>rfl
 | x::xs,σ,h=>by
  rw[List.all_cons,Bool.and_eq_true]at h;rw[g9,a4s xs _ h.2];cases x<;>try rfl
  rename_i j;have l:j≠i:=fun e=>by subst e; simp at h
  show(σ.fr.set j _).getD i .undef=_;simp only[List.getD_eq_getElem?_getD,List.getElem?_set_ne l]
theorem a9p {i:Nat} {call:e9} {o:AOper} {σ σ':Sig} (h:a04 i o=true) (hs:E9 call o σ=some σ'):σ'.fr.getD i .undef=σ.fr.getD i .undef:=by
 simp only[a04,Bool.and_eq_true]at h;obtain⟨⟨l,t⟩,u⟩:=h;rw[O9]at hs;split at hs
 · rename_i r bx st x;split at hs
   · rename_i j y;simp only[Option.some.injEq]at hs;subst hs;rw[a4g l];rw[y]at t;have z:j≠i:=fun e=>by subst e; simp at t
     simp only[List.getD_eq_getElem?_getD,List.getElem?_set_ne z];simpa only [List.getD_eq_getElem?_getD]using a4s o.args σ u
   · simp only[Option.some.injEq]at hs;subst hs;rw[a4g l];exact a4s o.args σ u
 · cases hs
theorem b1T {i:Nat} {call:e9} {o:AOper} {σ σ':Sig} (h:a04 i o=true) (hs:m2 call o σ=some σ'):σ'.fr.getD i .undef=σ.fr.getD i .undef:=by
 have l:(match o.dst with|.v j=>!Nat.beq i j|_=>true)=true:=by simp only[a04,Bool.and_eq_true]at h;exact h.1.1
 unfold m2 at hs;split at hs
 · exact a9p h hs
 · split at hs
   · split at hs
     · exact a9p h hs
     · simp only[Option.some.injEq]at hs; subst hs; exact a4g l
   · simp only[Option.some.injEq]at hs; subst hs; exact a4g l
   · cases hs
theorem a3a {i:Nat} {call:e9}:∀ (ops:List AOper) (σ σ':Sig),ops.all (a04 i)=true→l7 call ops σ=some σ'→σ'.fr.getD i .undef=σ.fr.getD i .undef
 | [],σ,σ',_,hs=>by simp only[l7,Option.some.injEq]at hs; subst hs; rfl
 | o::os,σ,σ',h,hs=>by
  rw[List.all_cons,Bool.and_eq_true]at h;simp only[l7]at hs;split at hs
  · rename_i σ1 j;rw[a3a os _ _ h.2 hs,b1T h.1 j]
  · cases hs
theorem a9g {i:Nat} {b:List AV→St→Option Out} (h:∀ fr st out,b fr st=some out→out.2.1.getD i .undef=fr.getD i .undef):∀ (n:Nat) (fr:List AV) (st:St) (out:Out),J2 b n fr st=some out→out.2.1.getD i .undef=fr.getD i .undef
 | 0,_,_,_,j=>by cases j
 | n+1,fr,st,out,j=>by
  rw[J2]at j;split at j
  · rename_i l u t;rw[a9g h n _ _ _ j];exact h _ _ _ t
  · exact h _ _ _ j
theorem Q5 {i:Nat} {call:e9} {n:Nat}:∀ (y:ACode) (fr:List AV) (st:St) (out:Out),a1e i y=true→exec call n y fr st=some out→out.2.1.getD i .undef=fr.getD i .undef
 | .skip,fr,st,out,_,j=>by simp only[exec,Option.some.injEq]at j; subst j; rfl
 | .ret,fr,st,out,_,j=>by simp only[exec,Option.some.injEq]at j; subst j; rfl
 | .exit id,fr,st,out,_,j=>by simp only[exec,Option.some.injEq]at j; subst j; rfl
 | .reg kill ops,fr,st,out,h,j=>by
  simp only[a1e,Bool.and_eq_true,Bool.not_eq_true']at h;simp only[exec]at j;split at j
  · rename_i σ l;simp only[fL_eq,Option.some.injEq]at j;subst j;rw[a3a ops _ _ h.2 l];exact a2e kill fr (by simpa using h.1)
  · cases j
 | .test kill ops c a b,fr,st,out,h,j=>by
  simp only[a1e,Bool.and_eq_true,Bool.not_eq_true']at h;obtain⟨⟨⟨z,C⟩,E⟩,F⟩:=h;simp only[exec,fL_eq]at j;split at j
  · rename_i σ l;have t:σ.fr.getD i .undef=fr.getD i .undef:=by rw[a3a ops _ _ C l];exact a2e kill fr (by simpa using z)
    split at j
    · rw[Q5 a _ _ _ E j,t]
    · rw[Q5 b _ _ _ F j,t]
    · cases j
  · cases j
 | .seq a b,fr,st,out,h,j=>by
  simp only[a1e,Bool.and_eq_true]at h;rcases M6 j with⟨u,x,t,e2⟩|⟨t,_⟩
  · rw[Q5 b _ _ _ h.2 e2];exact Q5 a _ _ _ h.1 t
  · exact Q5 a _ _ _ h.1 t
 | .blk id a,fr,st,out,h,j=>by
  simp only[exec]at j;split at j
  · rename_i B u x z;simp only[Option.some.injEq]at j;subst j;exact Q5 a fr st (Ex.exit B,u,x) h z
  · exact Q5 a _ _ _ h j
 | .loop a,fr,st,out,h,j=>by simp only[exec]at j;exact a9g (fun fr st out G=>Q5 a fr st out h G) _ _ _ _ j
 | .either ..,_,_,_,h,_=>by cases h
end Go.Cb
namespace Go.Cb
open Classical
def a2l (c:Cx):List Operand→List Opd→Bool
 | [],[]=>true
 | .tmp t::xs,.v i::ys=>c.slots[i]? == some t && !c.bxs.contains i && a2l c xs ys
 | _,_=>false
def a9K (c:Cx) (ops:List Oper) (q:AOper):Option Nat:=match q with
 | ⟨.none,.call i,ys,none,none⟩=>match ops.reverse with
  | ⟨none,.defer ⟨.value (.func f),args,_⟩,_,_,_,none⟩::l=>if f == i && a2l c args.toList ys then some l.length else none
  | ⟨none,.defer ⟨.value (.tmp t),args,_⟩,_,_,_,none⟩::⟨some t',.makeFunc (.func f) first caps,_,_,_,none⟩::l =>if args.size == 0 && first.size == 0 && f == i && t == t' && !c.slots.contains t && Nat.blt t c.nt && a2l c caps.toList ys then some l.length else none
  | _=>none
 | _=>none
def dfr0 (ops:List Oper):Option (Nat×Nat):=match ops.reverse with
 | ⟨none,.defer ⟨.value (.func f),args,_⟩,_,_,_,none⟩::l=>if args.size == 1 then some (l.length,f)else none
 | _=>none
section
variable {c:Cx} {g:Gh} {w:World} {pr:Nat→Option Pl} {bx:Nat→Nat} {σ σ':Sig} {a:Act} {call:e9} {ops:Array Oper} {Q:Exit→Act→World→Prop}
theorem a6n (G:Fx c) (I:L6 c.P c.gt call) {l:List Oper} {y:List AOper} (x:Z6 c ops l y=true) (hl:∀ (i:Nat) o,l[i]?=some o→ops[i]?=some o) {rest:List Nat}:∀ (n k:Nat) (g:Gh) (w:World) (pr:Nat→Option Pl) (bx:Nat→Nat) (σ:Sig) (a:Act),k+n=y.length →
 S c g w pr bx σ a→l7 call (y.drop k) σ=some σ'→Post c g w a σ' (wpOps c.P ops Q rest)→wpOps c.P ops Q (List.range' k n++rest) a w
 | 0,k,g,w,pr,bx,σ,a,hk,h,t,j=>by rw[List.drop_of_length_le (by omega)]at t;simp only[l7,Option.some.injEq]at t;subst t;exact j a w g pr bx rfl h (Tr.refl _ _ _)
 | n+1,k,g,w,pr,bx,σ,a,hk,h,t,j=>by
  obtain⟨_,u⟩:=a0B x;rw[List.drop_eq_getElem_cons (by omega)]at t;simp only[l7]at t;obtain⟨o,M,J,L⟩:=u k _ (List.getElem?_eq_getElem (show k < y.length by omega));cases hs:m2 call (y[k]'(by omega)) σ with
  | none=>simp[hs]at t
  | some σ1 =>
   simp only[hs]at t;rw[List.range'_succ,List.cons_append,wpOps_cons];refine a6q G I h (hl _ _ M) J L hs fun a1 w1 g1 F z C B E=>?_
   exact a6n G I x hl n (k+1) g1 w1 F z σ1 a1 (by omega) B t (j.trans C E)
theorem a7t (h:S c g w pr bx σ a):∀ {xs:List Operand} {ys:List Opd},a2l c xs ys=true→RelL g w ((ys.map (·.read σ)).map AV.weak) (xs.map a.eval)
 | [],[],_=>by simp[RelL]
 | x::xs,[],hv=>by cases x<;>simp[a2l]at hv
 | [],y::ys,hv=>by simp[a2l]at hv
 | x::xs,y::ys,hv=>by
  unfold a2l at hv;split at hv
  · rename_i l e2; cases l
  · rename_i t G i I l e2;cases l; cases e2;simp only[Bool.and_eq_true,beq_iff_eq,Bool.not_eq_true']at hv;obtain⟨⟨B,C⟩,E⟩:=hv;have j:=h.fr.var i t B;have z:∀ cs,σ.fr.getD i .undef≠.box cs:=fun cs u=>by have:=h.fr.bxs i cs u;simp[this]at C
    have F:Rel g w (σ.fr.getD i .undef).weak (a.tmps.getD t undef):=ValOK.rel (ValOK.of_weak (mine:=No) (ValOK.rel (j.val z)));simp only[List.map_cons,RelL];exact⟨_,_,rfl,by show Rel g w (σ.fr.getD i .undef).weak.weak _; rw[I6]; exact F,a7t h E⟩
  · cases hv
theorem b3o {ops:Array Oper} {o:Oper} {l:List Oper} (h:ops.toList.reverse=o::l):ops.size=l.length+1∧ops.toList.take l.length=l.reverse∧ops[l.length]?=some o:=by
 have e:ops.toList=l.reverse++[o]:=by have:=congrArg List.reverse h;simpa using this
 refine⟨by rw[← Array.length_toList,e]; simp,by rw[e]; simp,?_⟩;rw[← Array.getElem?_toList,e,List.getElem?_append_right (by simp)];simp
theorem c1o {ops:Array Oper} {o p:Oper} {l:List Oper} (h:ops.toList.reverse=o::p::l):ops.size=l.length+2∧ops.toList.take l.length=l.reverse∧ops[l.length]?=some p∧ops[l.length+1]?=some o:=by
 have e:ops.toList=l.reverse++[p,o]:=by have:=congrArg List.reverse h;simpa using this
 refine⟨by rw[← Array.length_toList,e]; simp,by rw[e]; simp,?_,?_⟩
 · rw[← Array.getElem?_toList,e,List.getElem?_append_right (by simp)];simp
 · rw[← Array.getElem?_toList,e,List.getElem?_append_right (by simp)];simp
theorem b5M (fx:Fx c) (hc:L6 c.P c.gt call) {id:Nat} {q:AOper} {f:Nat} {ys:List Opd} (hq:q=⟨.none,.call f,ys,none,none⟩) {k:Nat} (E:a9K c ops.toList q=some k) {kill:List Nat} {ps:List AOper} (Z:Z6 c ops (ops.toList.take k) ps=true)
 {fr:List AV} {τ:Nat→AV} {st:St} (h:S c g w pr bx ⟨fr,τ,st⟩ a) (hr:l7 call ps ⟨m0 kill fr,fun _=>.undef,st⟩=some σ)
 (J:∀ a1 w1 g1 O F (cap G:Array Value) (vs:List Value),vs.toArray=G++cap→RelL g1 w1 ((ys.map (·.read σ)).map AV.weak) vs→a1.defers={ target:=.fn (.func f) cap,args:=G }::a.defers →
  S c g1 w1 O F ⟨σ.fr,fun _=>.undef,σ.st⟩ a1→Tr c.A g w g1 w1→Q .normal a1 w1):(Code.region id ops false).wp c.P Q a w:=by
 subst hq;have h0:=h.reset kill;obtain⟨hl,_⟩:=a0B Z;refine wp_region ?_;have V:∀ (i:Nat) o,(ops.toList.take k)[i]?=some o→ops[i]?=some o:=fun i o hi=>by
  rw[List.getElem?_take]at hi;split at hi
  · rwa [Array.getElem?_toList]at hi
  · cases hi
 unfold a9K at E;dsimp only at E;split at E
 · rename_i C args at_ ty pos W l M;split at E
   case isFalse=>cases E
   rename_i u;simp only[Bool.and_eq_true,beq_iff_eq]at u;obtain⟨rfl,hv⟩:=u;simp only[Option.some.injEq]at E;subst E;obtain⟨a2,z,y⟩:=b3o M;have B:ps.length=l.length:=by rw[← hl,z]; simp
   rw[List.range_eq_range',a2,← List.range'_append_1,show 0+l.length=l.length by omega,List.range'_one,← B];refine a6n fx hc Z V ps.length 0 g w pr bx _ a (by omega) h0 (by simpa using hr) fun a1 w1 g1 O F X x b0=>?_
   rw[wpOps_cons];refine X5 (by rw[B]; exact y) rfl ?_;have L:=a7t x hv;have N:(execOp a1.eval ⟨none,.defer ⟨.value (.func C),args,at_⟩,ty,pos,W,none⟩).run c.P w1=.ok (.defer { target:=.fn (.func C) #[],args:=args.map a1.eval }) w1:=by simp[execOp,resolve,Deferred.ofValue,Act.eval]
   unfold Oper.wp;rw[N,Oper.upon_defer];refine J { a1 with defers:=_::a1.defers } w1 g1 O F #[] (args.map a1.eval) (args.toList.map a1.eval) (Array.toList_inj.1 (by simp)) L (by simp only[X]) ?_ b0;exact⟨(x.reset []).fr,x.st,x.gl,x.fresh,x.stA⟩
 · rename_i t args at_ ty pos W t' C first j b5 b2 b1 l M
   split at E
   case isFalse=>cases E
   rename_i u;simp only[Bool.and_eq_true,beq_iff_eq,Bool.not_eq_true']at u;obtain⟨⟨⟨⟨⟨⟨ea,ef⟩,rfl⟩,rfl⟩,Y⟩,U⟩,hv⟩:=u;have ea:=Array.eq_empty_of_size_eq_zero ea;have ef:=Array.eq_empty_of_size_eq_zero ef;subst ea; subst ef;simp only[Option.some.injEq]at E;subst E;obtain⟨a2,z,b4,y⟩:=c1o M;have B:ps.length=l.length:=by rw[← hl,z]; simp
   have U:t < c.nt:=by simpa using U
   have Y:t ∉ c.slots:=by simpa using Y
   rw[List.range_eq_range',a2,← List.range'_append_1,show 0+l.length=l.length by omega,show List.range' l.length 2=[l.length,l.length+1]from rfl,← B];refine a6n fx hc Z V ps.length 0 g w pr bx _ a (by omega) h0 (by simpa using hr) fun a1 w1 g1 O F X x b0=>?_
   rw[wpOps_cons];refine X5 (by rw[B]; exact b4) rfl ?_;have L:=a7t x hv;have N:(execOp a1.eval ⟨some t,.makeFunc (.func C) #[] j,b5,b2,b1,none⟩).run c.P w1=.ok (.value (.func (.func C) #[] (j.map a1.eval))) w1:=by simp[execOp,Instr.makeFunc]
   unfold Oper.wp;rw[N,Oper.upon_value,wpOps_cons];have I:=(x.reset []).put_undef Y U (.func (.func C) #[] (j.map a1.eval));refine X5 (by rw[B]; exact y) rfl ?_;have b3:(a1.put (some t) (.func (.func C) #[] (j.map a1.eval))).eval (.tmp t)=.func (.func C) #[] (j.map a1.eval):=by have:=x.fr.size;simp only[Act.put,Act.eval];exact I9 (by rw[this]; exact U)
   have a0:(execOp (a1.put (some t) (.func (.func C) #[] (j.map a1.eval))).eval ⟨none,.defer ⟨.value (.tmp t),#[],at_⟩,ty,pos,W,none⟩).run c.P w1=.ok (.defer { target:=.fn (.func C) (j.map a1.eval),args:=#[] }) w1:=by simp only[execOp,resolve,Sem.run_bind,b3];simp[Deferred.ofValue]
   unfold Oper.wp;rw[a0,Oper.upon_defer];refine J { a1.put (some t) (.func (.func C) #[] (j.map a1.eval))with defers:=_::(a1.put (some t) (.func (.func C) #[] (j.map a1.eval))).defers } w1 g1 O F (j.map a1.eval) #[] (j.toList.map a1.eval) (Array.toList_inj.1 (by simp)) L (by simp only[Act.put,X]) ?_ b0;exact⟨I.fr,I.st,I.gl,I.fresh,I.stA⟩
 · cases E
theorem b2p (X:Fx c) (Z:L6 c.P c.gt call) {id:Nat} {f k:Nat} (x:dfr0 ops.toList=some (k,f)) {kill:List Nat} {M:List AOper} (E:Z6 c ops (ops.toList.take k) M=true)
 {fr:List AV} {τ:Nat→AV} {st:St} (h:S c g w pr bx ⟨fr,τ,st⟩ a) (hr:l7 call M ⟨m0 kill fr,fun _=>.undef,st⟩=some σ)
 (z:∀ a1 w1 g1 C u (j:Array Value),j.size=1→a1.defers={ target:=.fn (.func f) #[],args:=j }::a.defers→S c g1 w1 C u ⟨σ.fr,fun _=>.undef,σ.st⟩ a1→Tr c.A g w g1 w1→Q .normal a1 w1):(Code.region id ops false).wp c.P Q a w:=by
 have Y:=h.reset kill;obtain⟨hl,_⟩:=a0B E;refine wp_region ?_;have G:∀ (i:Nat) o,(ops.toList.take k)[i]?=some o→ops[i]?=some o:=fun i o hi=>by
  rw[List.getElem?_take]at hi;split at hi
  · rwa [Array.getElem?_toList]at hi
  · cases hi
 unfold dfr0 at x;split at x
 · rename_i W args at_ ty pos N l I;split at x
   case isFalse=>cases x
   rename_i L;simp only[Option.some.injEq,Prod.mk.injEq]at x;obtain⟨rfl,rfl⟩:=x;obtain⟨U,B,y⟩:=b3o I;have F:M.length=l.length:=by rw[← hl,B]; simp
   rw[List.range_eq_range',U,← List.range'_append_1,show 0+l.length=l.length by omega,List.range'_one,← F];refine a6n X Z E G M.length 0 g w pr bx _ a (by omega) Y (by simpa using hr) fun a1 w1 g1 C u O t V=>?_
   rw[wpOps_cons];refine X5 (by rw[F]; exact y) rfl ?_;have J:(execOp a1.eval ⟨none,.defer ⟨.value (.func W),args,at_⟩,ty,pos,N,none⟩).run c.P w1=.ok (.defer { target:=.fn (.func W) #[],args:=args.map a1.eval }) w1:=by simp[execOp,resolve,Deferred.ofValue,Act.eval]
   unfold Oper.wp;rw[J,Oper.upon_defer];refine z { a1 with defers:=_::a1.defers } w1 g1 C u (args.map a1.eval) (by simpa using L) (by simp only[O]) ?_ V;exact⟨(t.reset []).fr,t.st,t.gl,t.fresh,t.stA⟩
 · cases x
def b6K (P:Program) (i:List Nat):Prop:=∀ f∈i,a0o P f=true∧∀ (args:Array Value) (w:World),args.size=1→CallsD P f args .returning w fun e u w'=>u=.returning∧w'=w∧∃ v,e=.returned v
def DOK (P:Program) (gt:List (Nat×List AV)) (D:List Nat) (call:e9):Prop :=
 ∀ (f:Nat) (args:List AV) (st:St) (res:AV) (st':St),f∈D→call f args st=some (res,st')→(∀ x∈args,x.weak=x) →
  a0o P f=true∧∀ (g:Gh) (w:World) (vs:List Value),SRel g w st→Globs gt g w→RelL g w args vs→CallsD P f vs.toArray .returning w (fun e u w'=>u=.returning∧CallPost g w st' res e w')
theorem S.called (h:S c g w pr bx σ a) {g':Gh} {w':World} {st':St} (t:SRel g' w' st') (i:Tr No g w g' w'):S c g' w' pr bx { σ with st:=st' } a :=
 ⟨h.fr.evolve i,t,h.gl.ext i.ext,fun b j=>h.fresh b (Nat.le_trans i.size j),fun b p j=>by
  rcases Nat.lt_or_ge b w.heap.size with l|hge
  · cases u:g.sr b with
    | some q=>exact h.stA b q u
    | none=>have:=(i.keep b l u (fun x=>x)).2; rw[j]at this; cases this
  · exact h.fresh b hge⟩
theorem S.dfrs (h:S c g w pr bx σ a) (i:List Deferred):S c g w pr bx σ { a with defers:=i }:=⟨h.fr,h.st,h.gl,h.fresh,h.stA⟩
def a0V (y:ACode):List Opd→Bool
 | []=>true
 | .v i::xs=>a1e i y && a0V y xs
 | _=>false
def a1h (c:Cx) (D l:List Nat):Code→ACode→Bool
 | .seq (.region id ops d) rest,y=>match y with
  | .seq (.reg kill u) (.seq (.blk e i) .skip)=>match dfr0 ops.toList with
   | some (k,f)=>!d && Z6 c ops (ops.toList.take k) u && l.contains f && a1H i && a1f e i && a1h c D l rest (P7 e i)
   | none=>B2 c (.seq (.region id ops d) rest) y
  | .seq (.reg kill u) (.seq (.blk e i) (.reg [] [q]))=>match a9K c ops.toList q with
   | some k=>!d && Z6 c ops (ops.toList.take k) u && (match q.kind with|.call f=>D.contains f|_=>false) && a0V i q.args && a1H i && a1f e i && a1h c D l rest (P7 e i)
   | none=>B2 c (.seq (.region id ops d) rest) y
  | .seq (.test kill u z t b') i=>match rest with
   | .seq (.cond x a b) j=>a4m c ops d kill u && a3G c x z && B2 c a t && B2 c b b' && a1h c D l j i
   | _=>B2 c (.seq (.region id ops d) rest) y
  | .seq t b'=>B2 c (.region id ops d) t && a1h c D l rest b'
  | y=>B2 c (.seq (.region id ops d) rest) y
 | .seq a b,y=>match y with
  | .seq t b'=>B2 c a t && a1h c D l b b'
  | y=>B2 c (.seq a b) y
 | x,y=>B2 c x y
theorem a9i {σ1 σ2:Sig} {call:e9} {n:Nat} {y:ACode} {out:Out} (l:exec call n y σ1.fr σ1.st=some out) (j:σ2.fr=out.2.1):∀ {xs:List Opd},a0V y xs=true→xs.map (·.read σ2)=xs.map (·.read σ1)
 | [],_=>rfl
 | x::xs,h=>by cases x<;>simp only[a0V,Bool.and_eq_true,Bool.false_eq_true]at h;rename_i i;rw[List.map_cons,List.map_cons,a9i l j h.2];congr 1;show(σ2.fr.getD i .undef).weak=(σ1.fr.getD i .undef).weak;rw[j,Q5 y _ _ _ h.1 l]
def Left (c:Cx) (fn:Func) (R:Ending→World→Prop) (g:Gh) (w:World) (a:Act) (out:Out):Prop :=
 ∀ i w' g' l j t,i.defers=a.defers→S c g' w' l j ⟨out.2.1,t,out.2.2⟩ i→Tr c.A g w g' w'→Leaves c.P fn i.tmps R a.defers .returning w'
theorem Left.after {fn:Func} {R:Ending→World→Prop} {out:Out} (h:Left c fn R g w a out) (ho:out.1=.normal∨out.1=.ret):After c g w a out (bodyPostD c.P fn R):=fun u w' g' j i l t x y=>by have:=h u w' g' j i l t x y;rw[← t]at this;rcases ho with ho|ho<;>rw[ho]<;>exact this
theorem Left.trans {fn:Func} {R:Ending→World→Prop} {out:Out} {a1:Act} {g1:Gh} {w1:World} (h:Left c fn R g w a out) (y:a1.defers=a.defers) (B:Tr c.A g w g1 w1):Left c fn R g1 w1 a1 out:=fun z w' g' u i x l j t=>by rw[y];exact h z w' g' u i x (l.trans y) j (B.trans t)
theorem b7e {D:List Nat} (O:DOK c.P c.gt D call) {fn:Func} {R:Ending→World→Prop} {f:Nat} {as:List AV} {vs:List Value} {cap i:Array Value} {N:List Deferred} {a2:Act} {F:Nat→AV} {u:List AV} {st2 l:St} {v:AV} {g2:Gh} {C:World} {pr2:Nat→Option Pl} {t:Nat→Nat}
 (V:f∈D) (M:vs.toArray=i++cap) (W:∀ x∈as,x.weak=x) (j:call f as st2=some (v,l)) (z:RelL g2 C as vs) (G:S c g2 C pr2 t ⟨u,F,st2⟩ a2)
 (y:∀ g3 E,S c g3 E pr2 t ⟨u,F,l⟩ a2→Tr c.A g2 C g3 E→Leaves c.P fn a2.tmps R N .returning E) :
 Leaves c.P fn a2.tmps R ({ target:=.fn (.func f) cap,args:=i }::N) .returning C:=by
 obtain⟨J,I⟩:=O f as st2 v l V j W;refine leaves_cons (f:=f) (args:=vs.toArray) (by simp) ?_ ?_
 · simp only[invoke];rw[M];exact a2G J _ _
 · refine(I g2 C vs G.st G.gl z).mono fun e X E U=>?_
   obtain⟨rfl,_,g3,rfl,L,B,_⟩:=U;exact y g3 E (G.called L B) (B.wider fun _ x=>x.elim)
theorem b79 {n:Nat} (fx:Fx c) (hm:c.P.follows .mixedOrders=true) (hc:L6 c.P c.gt call) {D D0:List Nat} (hD:DOK c.P c.gt D call) (c3:b6K c.P D0) {fn:Func} {R:Ending→World→Prop} (x:Code) (y:ACode) (h:a1h c D D0 x y=true)
 {g:Gh} {w:World} {pr:Nat→Option Pl} {bx:Nat→Nat} {fr:List AV} {τ:Nat→AV} {st:St} {a:Act} {out:Out} (hS:S c g w pr bx ⟨fr,τ,st⟩ a) (F:exec call n y fr st=some out) (ho:out.1=.normal∨out.1=.ret) (hL:Left c fn R g w a out):x.wp c.P (bodyPostD c.P fn R) a w:=by
 have plain:∀ (x:Code) (y:ACode),B2 c x y=true→exec call n y fr st=some out→x.wp c.P (bodyPostD c.P fn R) a w :=
  fun x y d6 F=>u9 x y d6 fx hm hc hS F (hL.after ho)
 have go:∀ (q:Code),SizeOf.sizeOf q < SizeOf.sizeOf x→∀ (y:ACode),a1h c D D0 q y=true→∀ {g:Gh} {w:World} {pr:Nat→Option Pl} {bx:Nat→Nat} {fr:List AV} {τ:Nat→AV} {st:St} {a:Act} {out:Out},S c g w pr bx ⟨fr,τ,st⟩ a→exec call n y fr st=some out→(out.1=.normal∨out.1=.ret)→Left c fn R g w a out→q.wp c.P (bodyPostD c.P fn R) a w :=
  fun q hq y h _ _ _ _ _ _ _ _ _ hS F ho hL=>b79 fx hm hc hD c3 q y h hS F ho hL
 have both:∀ (A q:Code) (Y b':ACode),SizeOf.sizeOf q < SizeOf.sizeOf x→B2 c A Y=true→a1h c D D0 q b'=true→exec call n (.seq Y b') fr st=some out→A.wp c.P (Exit.then (q.wp c.P (bodyPostD c.P fn R)) (bodyPostD c.P fn R)) a w:=by
  intro A q Y b' d7 h1 h2 F;rcases M6 F with⟨b2,c0,l,e2⟩|⟨l,hn⟩
  · exact u9 A Y h1 fx hm hc hS l fun a1 w1 g1 N J X C u E=>go q d7 b' h2 u e2 ho (hL.trans C E)
  · refine u9 A Y h1 fx hm hc hS l fun a1 w1 g1 N J X C u E=>?_
    have:=hL.after ho a1 w1 g1 N J X C u E;revert this hn;cases out.1<;>simp[Ex.toExit,Exit.then]
 unfold a1h at h;split at h
 · -- a region ahead
   rename_i id ops d rest;split at h
   · -- perhaps one that does nothing
     rename_i kill ps e i;split at h
     · rename_i k f hk;simp only[Bool.and_eq_true,Bool.not_eq_true']at h;obtain⟨⟨⟨⟨⟨h1,h2⟩,h3⟩,h5⟩,h6⟩,h7⟩:=h;subst h1;have hf:f∈D0:=by simpa using h3
       rcases M6 F with⟨b2,c0,l,e2⟩|⟨l,hn⟩
       · simp only[exec]at l;cases hr:l7 call ps ⟨m0 kill fr,fun _=>.undef,st⟩with
         | none=>simp[hr]at l
         | some σ =>
          simp only[hr,fL_eq,Option.some.injEq,Prod.mk.injEq,true_and]at l;obtain⟨rfl,rfl⟩:=l;have L:∃ ex j st2,exec call n i σ.fr σ.st=some (ex,j,st2)∧(ex=.normal∨ex=.exit e)∧out=(.normal,j,st2):=by
           rcases M6 e2 with⟨j,st2,t,e4⟩|⟨t,hn⟩
           · simp only[exec,Option.some.injEq]at e4;simp only[exec]at t;split at t
             · rename_i M b4 c1 Z;simp only[Option.some.injEq,Prod.mk.injEq]at t;obtain⟨e5,rfl,rfl⟩:=t;have:M=e:=by
                by_cases q:M=e
                · exact q
                · rw[if_neg q]at e5; cases e5
               subst this;exact⟨_,_,_,Z,.inr rfl,e4.symm⟩
             · exact⟨_,_,_,t,.inl rfl,e4.symm⟩
           · exfalso;simp only[exec]at t;split at t
             · rename_i M b4 c1 Z;simp only[Option.some.injEq]at t;subst t;dsimp only at ho hn;split at hn
               · exact hn rfl
               · rename_i b7;rw[if_neg b7]at ho;rcases ho with ho|ho<;>cases ho
             · rcases ho with ho|ho
               · exact hn ho
               · exact N1 i _ _ _ h5 t ho
          obtain⟨ex,j,st2,Z,hex,rfl⟩:=L;have b5:=J7 i _ _ _ h6 Z;have W:a0b e ex=.normal∨a0b e ex=.ret:=by
           rcases hex with rfl|rfl
           · exact .inl rfl
           · right; simp[a0b]
          refine wp_seq (b2p fx hc hk h2 hS hr fun a1 w1 g1 N J U e0 C u E=>?_);show rest.wp c.P (bodyPostD c.P fn R) a1 w1;refine go rest (by simp; omega) (P7 e i) h7 u b5 W fun a2 w2 g2 pr2 b1 c2 d3 b6 a0=>?_
          rw[C];obtain⟨d4,d2⟩:=c3 f hf;refine leaves_cons (f:=f) (args:=U++#[]) (by simp) (by simp only[invoke]; exact a2G d4 _ _) ?_;refine(d2 _ w2 (by simpa using e0)).mono fun t u' w3 G=>?_
          obtain⟨rfl,rfl,v,rfl⟩:=G;exact hL { a2 with defers:=a.defers } _ g2 pr2 b1 c2 rfl (b6.dfrs _) (E.trans a0)
       · exfalso;simp only[exec]at l;split at l
         · simp only[fL_eq,Option.some.injEq]at l;subst l;exact hn rfl
         · cases l
     · exact plain _ _ h F
   · -- perhaps a deferred call
     rename_i kill ps e i q;split at h
     · rename_i k hk;simp only[Bool.and_eq_true,Bool.not_eq_true']at h;obtain⟨⟨⟨⟨⟨⟨h1,h2⟩,h3⟩,h4⟩,h5⟩,h6⟩,h7⟩:=h;subst h1;obtain⟨f,ys,rfl⟩:∃ f ys,q=⟨.none,.call f,ys,none,none⟩:=by
        unfold a9K at hk;split at hk
        · exact⟨_,_,rfl⟩
        · cases hk
       have hf:f∈D:=by simpa using h3
       rcases M6 F with⟨b2,c0,l,e2⟩|⟨l,hn⟩
       · simp only[exec]at l;cases hr:l7 call ps ⟨m0 kill fr,fun _=>.undef,st⟩with
         | none=>simp[hr]at l
         | some σ =>
          simp only[hr,fL_eq,Option.some.injEq,Prod.mk.injEq,true_and]at l;obtain⟨rfl,rfl⟩:=l
          -- how the rest ends
          have L:∃ ex j st2 I v,exec call n i σ.fr σ.st=some (ex,j,st2)∧(ex=.normal∨ex=.exit e)∧call f ((ys.map (·.read ⟨j,fun _=>.undef,st2⟩)).map AV.weak) st2=some (v,I)∧out=(.normal,j,I):=by
           have fin:∀ j st2,exec call n (.reg [] [⟨.none,.call f,ys,none,none⟩]) j st2=some out→∃ I v,call f ((ys.map (·.read ⟨j,fun _=>.undef,st2⟩)).map AV.weak) st2=some (v,I)∧∃ b3,out=(.normal,b3,I)∧b3=(g9 ys ⟨j,fun _=>.undef,st2⟩).fr:=by
            intro j st2 G;simp only[exec,m0,l7,m2]at G;cases hg:E9 call ⟨.none,.call f,ys,none,none⟩ ⟨j,fun _=>.undef,st2⟩with
            | none=>rw[hg]at G; cases G
            | some e6 =>
             rw[hg]at G;simp only[fL_eq,Option.some.injEq]at G;obtain⟨r,b',I,hs,rfl⟩:=n8 hg;simp only[sem,B6]at hs;split at hs
             · cases c4:call f ((ys.map (·.read ⟨j,fun _=>.undef,st2⟩)).map AV.weak) st2 with
               | none=>rw[c4]at hs; cases hs
               | some z =>obtain⟨v,s3⟩:=z;rw[c4]at hs;simp only[Option.map_some,Option.some.injEq,Prod.mk.injEq]at hs;obtain⟨rfl,rfl,rfl⟩:=hs;exact⟨s3,v,rfl,_,G.symm,rfl⟩
             · cases hs
           have b8:∀ (xs:List Opd) (b0:Sig),a0V i xs=true→g9 xs b0=b0:=by
            intro xs;induction xs with
            | nil=>intro b0 _; rfl
            | cons x xs ih =>intro b0 hx;cases x<;>simp only[a0V,Bool.and_eq_true,Bool.false_eq_true]at hx;exact ih _ hx.2
           rcases M6 e2 with⟨j,st2,t,e4⟩|⟨t,hn⟩
           · simp only[exec]at t;obtain⟨I,v,hv,b3,c8,c6⟩:=fin j st2 e4;rw[b8 ys _ h4]at c6;subst c6;split at t
             · rename_i M b4 c1 Z;simp only[Option.some.injEq,Prod.mk.injEq]at t;obtain⟨e5,rfl,rfl⟩:=t;have:M=e:=by
                by_cases q:M=e
                · exact q
                · rw[if_neg q]at e5; cases e5
               subst this;exact⟨_,_,_,_,_,Z,.inr rfl,hv,c8⟩
             · exact⟨_,_,_,_,_,t,.inl rfl,hv,c8⟩
           · exfalso;simp only[exec]at t;split at t
             · rename_i M b4 c1 Z;simp only[Option.some.injEq]at t;subst t;dsimp only at ho hn;split at hn
               · exact hn rfl
               · rename_i b7;rw[if_neg b7]at ho;rcases ho with ho|ho<;>cases ho
             · rcases ho with ho|ho
               · exact hn ho
               · exact N1 i _ _ _ h5 t ho
          obtain⟨ex,j,st2,I,v,Z,hex,V,rfl⟩:=L;have b5:=J7 i _ _ _ h6 Z;have W:a0b e ex=.normal∨a0b e ex=.ret:=by
           rcases hex with rfl|rfl
           · exact .inl rfl
           · right; simp[a0b]
          refine wp_seq (b5M fx hc rfl hk h2 hS hr fun a1 w1 g1 N J cap U vs d9 d0 C u E=>?_);show rest.wp c.P (bodyPostD c.P fn R) a1 w1;refine go rest (by simp; omega) (P7 e i) h7 u b5 W fun a2 w2 g2 pr2 b1 c2 d3 b6 a0=>?_
          rw[C];have d5:(ys.map (·.read ⟨j,fun _=>.undef,st2⟩))=ys.map (·.read σ):=a9i (σ1:=σ) Z rfl h4;rw[d5]at V;refine b7e hD hf d9 (fun x hx=>?_) V (d0.ext a0.ext _ _) b6 fun g3 w3 d1 d8=>?_
          · obtain⟨z,_,rfl⟩:=List.mem_map.1 hx;exact I6 z
          · have c7:=hL { a2 with defers:=a.defers } w3 g3 pr2 b1 c2 rfl (d1.dfrs _) ((E.trans a0).trans d8);exact c7
       · exfalso;simp only[exec]at l;split at l
         · simp only[fL_eq,Option.some.injEq]at l;subst l;exact hn rfl
         · cases l
     · exact plain _ _ h F
   · rename_i kill ps z Y b' i;split at h
     · rename_i x A B O;simp only[Bool.and_eq_true]at h;obtain⟨⟨⟨⟨h1,h2⟩,h3⟩,h4⟩,h5⟩:=h;rcases M6 F with⟨b2,c0,l,e2⟩|⟨l,hn⟩
       · refine wp_seq (a5l (Q':=Exit.then (O.wp c.P (bodyPostD c.P fn R)) (bodyPostD c.P fn R)) h1 h2 (u9 _ _ h3) (u9 _ _ h4) fx hm hc hS l (fun a1 w1 g1 N J X C u E=>?_) fun _ _ x=>wp_seq x);exact go O (by simp; omega) i h5 u e2 ho (hL.trans C E)
       · refine wp_seq (a5l (Q':=Exit.then (O.wp c.P (bodyPostD c.P fn R)) (bodyPostD c.P fn R)) h1 h2 (u9 _ _ h3) (u9 _ _ h4) fx hm hc hS l (fun a1 w1 g1 N J X C u E=>?_) fun _ _ x=>wp_seq x);have:=hL.after ho a1 w1 g1 N J X C u E;revert this hn;cases out.1<;>simp[Ex.toExit,Exit.then]
     · exact plain _ _ h F
   · rename_i Y b' _ _ _;rw[Bool.and_eq_true]at h;exact wp_seq (both _ rest Y b' (by simp; omega) h.1 h.2 F)
   · exact plain _ _ h F
 · rename_i p q _;split at h
   · rename_i Y b';rw[Bool.and_eq_true]at h;exact wp_seq (both p q Y b' (by simp; omega) h.1 h.2 F)
   · exact plain _ _ h F
 · exact plain _ _ h F
termination_by SizeOf.sizeOf x
decreasing_by all_goals assumption
end
def a1L (P:Program) (gt:List (Nat×List AV)) (D i:List Nat) (slots bxs:List Nat) (fn:Func) (f:AFn) (A:Nat→Prop):Bool :=
 f.ext.isNone && a3v slots && slots.all (fun s=>Nat.blt s fn.ntmps) && slots.take f.np == List.range f.np && Nat.ble f.np slots.length && Nat.beq f.nv slots.length &&
  (match fn.body with|some x=>a1h ⟨P,slots,bxs,fn.ntmps,gt,A⟩ D i x f.code|none=>false) && a0t ⟨P,slots,bxs,fn.ntmps,gt,A⟩ fn.results.toList f.results
structure ProgD (P:Program) (gt:List (Nat×List AV)) (D D0:List Nat) (tbl:Nat→Option AFn):Prop where
 mixed:P.follows .mixedOrders=true
 fn:∀ f af,tbl f=some af→a0o P f=true∧((∃ slots bxs fn,P.funcs[f]?=some fn∧∀ A,a2s P gt slots bxs fn af A=true)∨(∃ slots bxs fn,P.funcs[f]?=some fn∧∀ A,a1L P gt D D0 slots bxs fn af A=true)∨(∃ e,af.ext=some e∧L9 P gt f e))
 dfr:∀ f∈D,∀ af,tbl f=some af→∃ slots bxs fn,P.funcs[f]?=some fn∧∀ A,a2s P gt slots bxs fn af A=true
 dfr0:b6K P D0
theorem c8M {P:Program} {gt:List (Nat×List AV)} {D G:List Nat} {slots bxs:List Nat} {fn:Func} {I:AFn} {g:Gh} {w:World} {args:List AV} {vs:List Value} {st st':St} {res:AV} {call:e9} {n:Nat} (hm:P.follows .mixedOrders=true) (S:L6 P gt call) (N:DOK P gt D call) (B:b6K P G)
 (i:∀ A,a1L P gt D G slots bxs fn I A=true) (h:I.run call n args st=some (res,st')) (t:∀ x∈args,x.weak=x) (F:SRel g w st) (E:Globs gt g w) (z:RelL g w args vs) :
 ∃ body,fn.body=some body∧body.wp P (bodyPostD P fn (CallPost g w st' res)) { tmps:=vs.toArray++Array.replicate (fn.ntmps - vs.toArray.size) undef,defers:=[] } w:=by
 have i:=i fun b=>w.heap.size≤b∨g.sr b≠none
 simp only[a1L,Bool.and_eq_true,Option.isNone_iff_eq_none,beq_iff_eq,Nat.beq_eq]at i;obtain⟨⟨⟨⟨⟨⟨⟨o1,o2⟩,o3⟩,o4⟩,o5⟩,o6⟩,o7⟩,V⟩:=i;have o5:=Nat.le_of_ble_eq_true o5;split at o7
 case h_2=>cases o7
 rename_i body j;unfold AFn.run at h;split at h
 case isFalse=>cases h
 rename_i u;split at h
 · cases h
 · rename_i ex L X y l;obtain⟨M,O⟩:=b0y (bxs:=bxs) o2 o3 o4 o5 o6 u t F E z;refine⟨body,j,?_⟩;refine b79 M hm S N B _ _ o7 O l ?_ fun Z w' g' W J Y hd C U=>?_
   · cases ex with
     | normal=>exact .inl rfl
     | ret=>exact .inr rfl
     | exit id=>exact(y id rfl).elim
   · exact b8h C U V h
 · cases h
theorem b8L {P:Program} {gt:List (Nat×List AV)} {D S:List Nat} {tbl:Nat→Option AFn} (C:ProgD P gt D S tbl):∀ n,L6 P gt (m6 tbl n)∧DOK P gt D (m6 tbl n):=by
 intro n;induction n with
 | zero=>exact⟨fun f args st res st' h=>by simp[m6]at h,fun f args st res st' _ h=>by simp[m6]at h⟩
 | succ n J =>
  obtain⟨J,O⟩:=J;refine⟨fun f args st res st' h j=>?_,fun f args st res st' M h j=>?_⟩
  · simp only[m6]at h;cases i:tbl f with
    | none=>simp[i]at h
    | some B =>
     simp only[i]at h;obtain⟨L,N⟩:=C.fn f B i;refine⟨L,fun g w vs y x t=>?_⟩;rcases N with⟨slots,bxs,fn,I,l⟩|⟨slots,bxs,fn,I,l⟩|⟨e,E,G⟩
     · have E:B.ext=none:=by
        have:=l fun _=>True
        simp only[a2s,Bool.and_eq_true,Option.isNone_iff_eq_none]at this;exact this.1.1.1.1.1.1.1
       simp only[E]at h;obtain⟨body,F,z⟩:=b5L C.mixed J l h j y x t;exact calls_of_wp I F z
     · have E:B.ext=none:=by
        have:=l fun _=>True
        simp only[a1L,Bool.and_eq_true,Option.isNone_iff_eq_none]at this;exact this.1.1.1.1.1.1.1
       simp only[E]at h;obtain⟨body,F,z⟩:=c8M C.mixed J O C.dfr0 l h j y x t;exact calls_of_wp_defers I F z
     · simp only[E]at h;exact G args st res st' h j g w vs y x t
  · simp only[m6]at h;cases i:tbl f with
    | none=>simp[i]at h
    | some B =>
     simp only[i]at h;refine⟨(C.fn f B i).1,fun g w vs y x t=>?_⟩;obtain⟨slots,bxs,fn,I,l⟩:=C.dfr f M B i;have E:B.ext=none:=by
      have:=l fun _=>True
      simp only[a2s,Bool.and_eq_true,Option.isNone_iff_eq_none]at this;exact this.1.1.1.1.1.1.1
     simp only[E]at h;obtain⟨body,F,z⟩:=b5L C.mixed J l h j y x t;exact(callsD_of_wp I F z).mono fun e u w' U=>U
end Go.Cb
namespace Go.Cb
open Classical
theorem c3D {P:Program} {gt:List (Nat×List AV)} {D y:List Nat} {tbl:Nat→Option AFn} (z:ProgD P gt D y tbl) {n f:Nat} {args:List AV} {b:Bool} {st':St} (h:m6 tbl n f args []=some (.bool b,st')) (G:∀ x∈args,x.weak=x)
 {W:World} {vs:List Value} (hg:Globs gt (gh0 W) W) (F:RelL (gh0 W) W args vs):Calls P f vs.toArray W (fun e u=>e=.returned (.bool b)∧Kept W u):=by
 refine(((b8L z n).1 f args [] _ _ h G).2 (gh0 W) W vs (c2w W) hg F).mono fun e u E=>?_
 obtain⟨v,g',rfl,_,l,t⟩:=E;have t:=t.rel;simp only[Rel]at t;subst t;have j:∀ b,b < W.heap.size→u.heap[b]?=W.heap[b]?:=fun b C=>(l.keep b C rfl fun x=>x).1.1
 refine⟨rfl,⟨l.env.os,l.env.out,fun i hi=>?_⟩,fun a B=>by unfold World.frozen?; rw[j a.block B],l.size,j⟩;rw[j i hi];cases I:W.heap[i]? with
 | none=>simp
 | some o=>cases o<;>simp
end Go.Cb
