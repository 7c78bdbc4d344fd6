import Derived.Test.YtbibkdncfclnbaaGreatDoorXAms2
import Derived.Laws.CopyRow
import Derived.Laws.Externs
import Derived.Test.YtbibkdncfclnbaaGreatDoorXAms1
/-
 THE ABSTRACT MACHINE, part 29: slices.Clone.
-/
set_option maxRecDepth 4000
set_option linter.unusedSimpArgs false
set_option linter.unusedVariables false
namespace Go.Cb
open Classical

section
variable {c:Cx} {g:Gh} {w:World} {pr:Nat→Option Pl} {bx:Nat→Nat} {σ:Sig} {a:Act} {o:Oper}

theorem c2q (fx:Fx c) (h:S c g w pr bx σ a) {t e:TypeId} {i:TypeInfo} {d:Dst} (ho:o.op=.buildSlice t 0 #[]) (hu:c.P.underlying t=some (.slice e)) (hi:c.P.info? e=some i) (hd:n8 c o.dst d=true)
 {next:Act→World→Prop} {Q:Exit→Act→World→Prop} (hnext:Post c g w a (d.put (.list true []) σ) next):o.wp c.P a w next Q:=by
 have hrun:(execOp a.eval o).run c.P w=.ok (.value (.slice (some (ad w.heap.size 0)) 0 0)) (w.alloc (.cells #[] e)):=by
  have e0:(Array.map (fun _:Nat=>(default:Value)) (Array.range 0))=#[]:=by apply Array.ext'; simp
  simp [execOp,ho,Instr.buildSlice,run_underlying hu,sizeOf,typeInfo,hi,Instr.fill,newRow,e0]
 unfold Oper.wp
 rw [hrun]
 refine hnext _ _ g pr bx (q8 _ _ _) (T1 fx (h.alloc _ _) hd (mine:=No) (r:=.list true []) ?_ fun _ x=>x.elim) (Tr.alloc _ h.st.cli _)
 refine (show ValOK g _ No (.list true []) _ from ⟨?_,fun _ _=>.inl ⟨_,_,rfl⟩,fun _ e=>(by cases e)⟩)
 simp only [Rel]
 exact ⟨_,0,0,rfl,rfl,Nat.le_refl _,fun _=>rfl,fun h=>absurd rfl h⟩

theorem c2j (fx:Fx c) (h:S c g w pr bx σ a) {t t' e:TypeId} {x:Operand} {d:Dst} {ad0:Option Addr} {n cap:Nat} (ho:o.op=.binOp .eql t x (.const (.slice none 0 0)) t') (hu:c.P.underlying t=some (.slice e))
 (hx:a.eval x=.slice ad0 n cap) (hd:n8 c o.dst d=true) {next:Act→World→Prop} {Q:Exit→Act→World→Prop} (hnext:Post c g w a (d.put (.bool ad0.isNone) σ) next):o.wp c.P a w next Q:=by
 have hrun:(execOp a.eval o).run c.P w=.ok (.value (.bool ad0.isNone)) w:=by
  have hg:∀ v:Value,(eqGuard .eql t x (.const (.slice none 0 0)) (.slice ad0 n cap) (.slice none 0 0)).run c.P w=.ok () w:=fun _=>rfl
  have hy:a.eval (.const (.slice none 0 0))=.slice none 0 0:=rfl
  have heq:(Op.equal t (.slice ad0 n cap) (.slice none 0 0)).run c.P w=.ok ad0.isNone w:=by
   rw [V0,Op.equalIn,Sem.run_bind,run_underlying hu,Result.andThen_ok]
   cases ad0 <;> rfl
  simp only [execOp,ho,hx,hy,hg (.bool true),binOp,Sem.run_bind,heq,Result.andThen_ok,Sem.run_pure]
 exact b2X fx h hd (r:=.bool ad0.isNone) hrun (show ValOK g w No (.bool ad0.isNone) (.bool ad0.isNone) from ValOK.mk' (by simp [Rel]) (by simp) (by simp)) hnext

def a9R (P:Program) (t sz bytes:Nat):Bool:=match P.underlying t with
 | some (.slice e)=>match P.info? e with
  | some ie=>ie.size == sz && ie.bytes == bytes && decide (0 < bytes) && (match ie.zero with|some z=>z.cells.size == sz|none=>false)
  | none=>false
 | _=>false

structure CloneShape (P:Program) (fn:Func) (t sz bytes:Nat) where
 i0:Nat
 i1:Nat
 i2:Nat
 i3:Nat
 o0:Oper
 o1:Oper
 o2:Oper
 o3:Oper
 o4:Oper
 o5:Oper
 o6:Oper
 o7:Oper
 ty:TypeId
 body:fn.body=some (.seq (.region i0 #[o0] false) (.seq (.seq (.region i1 #[o1,o2] false) (.cond (.tmp 4) (.seq (.region i2 #[o3] false) .ret) .skip)) (.seq (.region i3 #[o4,o5,o6,o7] false) .ret)))
 nt:fn.ntmps=8
 res:fn.results=#[.tmp 2]
 d0:o0.dst=some 2∧o0.op=.assign (.const (.slice none 0 0))∧o0.guard=none
 d1:o1.dst=some 3∧o1.op=.move (.tmp 0)∧o1.guard=none
 d2:o2.dst=some 4∧o2.op=.binOp .eql t (.tmp 3) (.const (.slice none 0 0)) ty∧o2.guard=none
 d3:o3.dst=some 2∧o3.op=.assign (.const (.slice none 0 0))∧o3.guard=none
 d4:o4.dst=some 5∧o4.op=.buildSlice t 0 #[]∧o4.guard=none
 d5:o5.dst=some 6∧o5.op=.move (.tmp 0)∧o5.guard=none
 d6:o6.dst=some 7∧o6.op=.call { callee:=.builtin .append,args:=#[.tmp 5,.tmp 6],argTypes:=#[t,t] }∧o6.guard=none
 d7:o7.dst=some 2∧o7.op=.assign (.tmp 7)∧o7.guard=none
 tb:a9R P t sz bytes=true

theorem b1N {P:Program} {t sz bytes:Nat} (h:a9R P t sz bytes=true):∃ e ie z,P.underlying t=some (.slice e)∧P.info? e=some ie∧ie.zero=some z∧ie.size=sz∧ie.bytes=bytes∧z.cells.size=sz∧0 < bytes:=by
 unfold a9R at h
 split at h
 case h_2=>cases h
 rename_i e hu
 split at h
 case h_2=>cases h
 rename_i ie hi
 simp only [Bool.and_eq_true,beq_iff_eq,decide_eq_true_eq] at h
 obtain ⟨⟨⟨h1,h2⟩,h3⟩,h4⟩:=h
 split at h4
 case h_2=>cases h4
 rename_i z hz
 exact ⟨e,ie,z,hu,hi,hz,h1,h2,by simpa using h4,h3⟩

theorem b0V {P:Program} {gt:List (Nat×List AV)} {f t sz bytes:Nat} {fn:Func} (hf:P.funcs[f]?=some fn) (C:CloneShape P fn t sz bytes):Q2 P gt f (X8 sz bytes):=by
 intro args st res st' h hweak g w vs hst _ hrel
 obtain ⟨e,ie,z,tu,ti,tz,tsz,tby,tzs,tb1⟩:=b1N C.tb
 unfold X8 at h
 split at h
 case h_2=>cases h
 rename_i own xs
 split at h
 case isFalse=>cases h
 rename_i hcond
 simp only [Bool.and_eq_true,decide_eq_true_eq] at hcond
 obtain ⟨hrows,hbytes⟩:=hcond
 simp only [Option.some.injEq,Prod.mk.injEq] at h
 obtain ⟨rfl,rfl⟩:=h
 simp only [RelL] at hrel
 obtain ⟨v,_,rfl,hv,rfl⟩:=hrel
 have hvs:=hv
 simp only [Rel] at hvs
 obtain ⟨ad0,n,cap,rfl,rfl,hcap,hnil,hne⟩:=hvs
 let A:Nat→Prop:=fun b=>w.heap.size≤b∨g.sr b≠none
 let c:Cx:=⟨P,[0,2],[],8,[],A⟩
 have fx:Fx c:=⟨show ([0,2]:List Nat).Nodup by decide,show ∀ s∈([0,2]:List Nat),s < 8 by decide⟩
 have hown:own=false:=by
  have:=hweak (.list own xs) (by simp)
  simpa [AV.weak] using this.symm
 subst hown
 refine calls_of_wp hf C.body ?_
 have hS:S c g w (fun _=>none) (fun _=>0) ⟨[.list false xs,.undef],fun _=>.undef,st⟩ { tmps:=#[Value.slice ad0 xs.length cap]++Array.replicate (fn.ntmps - 1) undef,defers:=[] }:=by
  refine ⟨⟨by simp [c,C.nt],rfl,fun i s hs=>?_,fun s _=>ValOK.undef,fun b p hb=>(by cases hb),fun i cs hi=>?_⟩,hst,fun e he=>(by cases he),fun b hb=>.inl hb,fun b p hb=>.inr (by rw [hb]; simp)⟩
  · match i,hs with
    | 0,hs =>
     simp only [c,List.getElem?_cons_zero,Option.some.injEq] at hs
     subst hs
     have hval:ValOK g w (fun b=>(fun _=>none:Nat→Option Pl) b=some (.var 0)) (AV.list false xs).weak (.slice ad0 xs.length cap):=ValOK.of_weak hv
     have e0:(#[Value.slice ad0 xs.length cap]++Array.replicate (fn.ntmps - 1) undef).getD 0 undef=.slice ad0 xs.length cap:=by rw [C.nt]; rfl
     show VarOK g w (fun _=>none) (fun _=>0) 0 (.list false xs) ((#[Value.slice ad0 xs.length cap]++Array.replicate (fn.ntmps - 1) undef).getD 0 undef)
     rw [e0]
     exact hval
    | 1,hs=>exact VarOK.undef
    | i+2,hs=>simp [c] at hs
  · match i,hi with
    | 0,hi=>simp at hi
    | 1,hi=>simp at hi
    | i+2,hi=>simp at hi
 -- the end
 have fin:∀ (x:AV) (a':Act) (w':World) (g':Gh) (pr':Nat→Option Pl) (bx':Nat→Nat) (τ':Nat→AV),a'.defers=[]→S c g' w' pr' bx' ⟨[x,.list true xs],τ',st⟩ a'→Tr c.A g w g' w' →
  bodyPost P fn (CallPost g w st (.list true xs)) .ret a' w':=by
  intro x a' w' g' pr' bx' τ' hd hS' ht
  refine ⟨hd,?_⟩
  obtain ⟨us,hus,hul,hall⟩:=b02 (c:=c) hS' (rs:=fn.results.toList) (ks:=[.vs 1]) (vs:=[.list true xs]) (by rw [C.res]; rfl) rfl
  refine ⟨_,a3f hus,_,g',rfl,hS'.st,⟨ht.ext,ht.size,ht.env,fun b hb hs _=>ht.keep b hb hs fun hA=>?_⟩,?_⟩
  · rcases hA with hA|hA
    · omega
    · exact hA hs
  · match us,hul,hall with
    | [u],_,hall =>
     refine (hall 0 (.list true xs) u rfl rfl).mono (Ext.refl _ _) fun b hb=>⟨?_,rfl,fun _ x=>x⟩
     obtain ⟨p,hp⟩:=hb
     obtain ⟨q1,q2,q3⟩:=hS'.fr.prv b p hp
     exact ⟨q1,q2,q3⟩
 refine wp_seq (wp_region ?_)
 show wpOps P #[C.o0] _ [0] _ _
 rw [wpOps_cons]
 refine S6 rfl C.d0.2.2 (a25 (c:=c) fx hS (.inr C.d0.2.1) (p:=.c (.list true [])) (d:=.v 1) rfl (by rw [C.d0.1]; rfl) fun a1 w1 g1 pr1 bx1 hd1 hS1 ht1=>?_)
 show (Code.seq _ _).wp P _ a1 w1
 refine wp_seq (wp_seq (wp_region ?_))
 show wpOps P #[C.o1,C.o2] _ [0,1] _ _
 rw [wpOps_cons]
 refine S6 rfl C.d1.2.2 (a25 (c:=c) fx hS1 (.inl C.d1.2.1) (p:=.v 0) (d:=.t 3) rfl (by rw [C.d1.1]; rfl) fun a2 w2 g2 pr2 bx2 hd2 hS2 ht2=>?_)
 rw [wpOps_cons]
 have hA2:=N8 hS2 (x:=.tmp 3) (p:=.t 3) rfl
 have hr2:Rel g2 w2 (.list false xs) (a2.eval (.tmp 3)):=ValOK.rel hA2
 have hr2':=hr2
 simp only [Rel] at hr2'
 obtain ⟨ad2,n2,cap2,hev2,hn2,hcap2,hnil2,hne2⟩:=hr2'
 refine S6 rfl C.d2.2.2 (c2j (c:=c) fx hS2 C.d2.2.1 tu hev2 (d:=.t 4) (by rw [C.d2.1]; rfl) fun a3 w3 g3 pr3 bx3 hd3 hS3 ht3=>?_)
 show (Code.cond _ _ _).wp P _ a3 w3
 have ht03:=(ht1.trans ht2).trans ht3
 have hd03:a3.defers=[]:=hd3.trans (hd2.trans hd1)
 have hb:=a1s hS3 (x:=.tmp 4) (y:=.t 4) rfl (b:=ad2.isNone) rfl
 refine wp_cond hb ?_
 cases ad2 with
 | none =>
  have hx0:xs=[]:=by
   have:=hnil2 rfl
   exact List.eq_nil_of_length_eq_zero (by omega)
  refine wp_seq (wp_region ?_)
  show wpOps P #[C.o3] _ [0] _ _
  rw [wpOps_cons]
  refine S6 rfl C.d3.2.2 (a25 (c:=c) fx hS3 (.inr C.d3.2.1) (p:=.c (.list true [])) (d:=.v 1) rfl (by rw [C.d3.1]; rfl) fun a4 w4 g4 pr4 bx4 hd4 hS4 ht4=>?_)
  show Code.ret.wp P _ a4 w4
  refine wp_ret ?_
  show bodyPost P fn _ .ret a4 w4
  subst hx0
  exact fin _ a4 w4 g4 pr4 bx4 _ (hd4.trans hd03) hS4 (ht03.trans ht4)
 | some ad3 =>
  refine wp_skip ?_
  show (Code.seq _ _).wp P _ a3 w3
  refine wp_seq (wp_region ?_)
  show wpOps P #[C.o4,C.o5,C.o6,C.o7] _ [0,1,2,3] _ _
  rw [wpOps_cons]
  refine S6 rfl C.d4.2.2 (c2q (c:=c) fx hS3 C.d4.2.1 tu ti (d:=.t 5) (by rw [C.d4.1]; rfl) fun a4 w4 g4 pr4 bx4 hd4 hS4 ht4=>?_)
  rw [wpOps_cons]
  refine S6 rfl C.d5.2.2 (a25 (c:=c) fx hS4 (.inl C.d5.2.1) (p:=.v 0) (d:=.t 6) rfl (by rw [C.d5.1]; rfl) fun a5 w5 g5 pr5 bx5 hd5 hS5 ht5=>?_)
  rw [wpOps_cons]
  refine S6 rfl C.d6.2.2 (b55 (c:=c) fx hS5 C.d6.2.1 rfl tu ti tz tsz tby tzs tb1 (p0:=.ts 5) (p1:=.t 6) (d:=.t 7) rfl rfl (by rw [C.d6.1]; rfl) (by rw [C.d6.1]; rfl) (xs:=[]) (ys:=xs) (own:=false) rfl rfl rfl hrows (by simpa using hbytes) fun a6 w6 g6 pr6 bx6 hd6 hS6 ht6=>?_)
  rw [wpOps_cons]
  refine S6 rfl C.d7.2.2 (a25 (c:=c) fx hS6 (.inr C.d7.2.1) (p:=.ts 7) (d:=.v 1) rfl (by rw [C.d7.1]; rfl) fun a7 w7 g7 pr7 bx7 hd7 hS7 ht7=>?_)
  show Code.ret.wp P _ a7 w7
  refine wp_ret ?_
  show bodyPost P fn _ .ret a7 w7
  exact fin _ a7 w7 g7 pr7 bx7 _ (hd7.trans (hd6.trans (hd5.trans (hd4.trans hd03)))) hS7 ((((ht03.trans ht4).trans ht5).trans ht6).trans ht7)
end
end Go.Cb
/-
 THE ABSTRACT MACHINE, part 49: rows that are objects of their own: a copy, one row more, one row less: answers of their own.
-/
set_option maxRecDepth 4000
set_option linter.unusedVariables false
namespace Go.Cb
open Classical

def a0i (sz bytes:Nat):List AV→St→Option (AV×St)
 | [.nils],st=>some (.nils,st)
 | [.sl o f n s],st=>match st[o]? with
  | some (.cells cs)=>if s=sz∧f+n*sz≤cs.length∧n*bytes≤70368744177664 then some (.sl st.length 0 n sz,st++[.cells (((cs.drop f).take (n*sz)).map AV.weak1)]) else none
  | _=>none
 | _,_=>none
def I8 (sz i:Nat) (cs row:List AV):List AV:=(cs.take (i*sz)++row++cs.drop (i*sz)).map AV.weak1
def Q6 (sz bytes:Nat):List AV→St→Option (AV×St)
 | [.nils,.int .i64 i,.list _ [row]],st=>if i=0∧row.length=sz then some (.sl st.length 0 1 sz,st++[.cells (I8 sz 0 [] row)]) else none
 | [.sl o 0 n s,.int .i64 i,.list _ [row]],st=>match st[o]? with
  | some (.cells cs)=>if s=sz∧0≤i∧i≤n∧cs.length=n*sz∧row.length=sz∧(n+1)*bytes≤70368744177664 then some (.sl st.length 0 (n+1) sz,st.set o .dead++[.cells (I8 sz i.toNat cs row)]) else none
  | _=>none
 | _,_=>none
def a1c (sz i:Nat) (cs:List AV):List AV:=(cs.take (i*sz)++cs.drop ((i+1)*sz)).map AV.weak1
def b13 (sz bytes:Nat):List AV→St→Option (AV×St)
 | [.sl o 0 n s,.int .i64 i,.int .i64 j],st=>match st[o]? with
  | some (.cells cs)=>if s=sz∧0≤i∧i < n∧j=i+1∧cs.length=n*sz∧n*bytes≤70368744177664 then some (.sl st.length 0 (n - 1) sz,st.set o .dead++[.cells (a1c sz i.toNat cs)]) else none
  | _=>none
 | _,_=>none
end Go.Cb
/-
 THE ABSTRACT MACHINE, part 50: a copy of rows of several cells; two slices that lie apart; what a new object in the store comes to.
-/
set_option maxRecDepth 4000
set_option linter.unusedVariables false
set_option linter.unusedSimpArgs false
namespace Go.Cb
open Classical

theorem P9 {P:Program} (w:World) (dT sT ty elem:TypeId) (sz g o dLen dCap:Nat) (a:Addr) (sLen sCap:Nat) (cur:Array Value) (t:TypeId) (cs:List Value)
 (hu:P.underlying dT=some (.slice elem)) (hs:(P.info? elem).map (·.size)=some sz)
 (hg:w.heap[g]?=some (.cells cur t (0,0))) (hn:cs.length=Nat.min sLen dLen*sz)
 (hsrc:∀ j v,cs[j]?=some v→w.cell? (a.add j)=some v) (hfit:o+cs.length≤cur.size) (h1:∀ v∈cs,v.oneCell'=true) :
 (Builtin.copy_ #[dT,sT] ty #[.slice (some ⟨g,o,none⟩) dLen dCap,.slice (some a) sLen sCap]).run P w =
  .ok (goInt (Nat.min sLen dLen)) (w.setRow g (cur.toList.take o++cs++cur.toList.drop (o+cs.length)).toArray):=by
 have hl:=run_loadCells_list (P:=P) w a cs hsrc
 have hst:=run_storeCells_at P g o t cs 0 cur w hg (by simpa using hfit) h1
 cases hq:P.info? elem with
 | none=>simp [hq] at hs
 | some i =>
  have hi:i.size=sz:=by simpa [hq] using hs
  simp [Builtin.copy_,run_underlying hu,Builtin.lenOf,Builtin.firstCells,sizeOf,typeInfo,hq,hi,← hn,hl,hst]

theorem a2a {P:Program} (w:World) (tS tR e:TypeId) (ht:P.underlying tS=some (.slice e)) (size:Nat) (hz:∀ w,(Go.sizeOf e).run P w=.ok size w)
 (a b:Addr) (la ca lb cb:Nat) (hne:a.block≠b.block) {arrA arrB:Array Value} {TA TB:TypeId} {zA:Nat×Nat}
 (hA:w.heap[a.block]?=some (.cells arrA TA zA)) (hB:w.heap[b.block]?=some (.cells arrB TB (0,0))) (hkA:arrA.size≠0) (hkB:arrB.size≠0) :
 (Extern.SlicesOverlaps.overlaps #[tS,tS] #[tR] #[.slice (some a) la ca,.slice (some b) lb cb]).run P w=.ok (.bool false) w:=by
 have hnb:(a.block != b.block)=true:=by simpa using hne
 have hnb':(a.block == b.block)=false:=by simpa using hne
 have hsa:w.shape? a.block=some (TA,arrA.size):=by simp [World.shape?,hA]
 have hsb:w.shape? b.block=some (TB,arrB.size):=by simp [World.shape?,hB]
 have hfb:∀ x:Addr,x.block=b.block→w.frozen? x=false:=fun x hx=>by simp [World.frozen?,hx,hB]
 have hf1:=hfb b rfl
 have hf2:=hfb { block:=b.block,off:=arrB.size } rfl
 delta Extern.SlicesOverlaps.overlaps
 dsimp only
 delta Extern.SlicesOverlaps.overlaps.match_4
 dsimp only [Array.size,List.length]
 simp only [dif_pos,Nat.reduceAdd,Nat.zero_add]
 dsimp only [Array.getLit,getElem,Array.getInternal,List.get]
 by_cases h0:la=0∨lb=0∨size=0
 · simp [run_underlying ht,hz,h0]
 · cases hn:arrB.size with
   | zero=>exact absurd hn hkB
   | succ kB =>
    rw [hn] at hsb hf2
    cases hm:arrA.size with
    | zero=>exact absurd hm hkA
    | succ kA =>
    rw [hm] at hsa
    cases hfa:w.frozen? a with
    | true=>simp [run_underlying ht,hz,h0,hnb,hnb',frozen,noView,viewAt,mayBeOne,stringish,shape,Sem.run,hsa,hsb,hfa,hf1,hf2]
    | false =>
     cases hfe:w.frozen? { block:=a.block,off:=kA+1 } <;>
     simp [run_underlying ht,hz,h0,hnb,hnb',frozen,noView,viewAt,mayBeOne,stringish,shape,Sem.run,hsa,hsb,hfa,hf1,hf2,hfe]
end Go.Cb
/-
 THE ABSTRACT MACHINE, part 30: from an abstract answer to the model's call.
-/
set_option maxRecDepth 4000
set_option linter.unusedVariables false
namespace Go.Cb
open Classical

def gh0 (W:World):Gh:={ n:=0,m:=fun _=>0,cl:=fun b _=>b < W.heap.size,sr:=fun _=>none,cp:=fun _=>0 }

theorem c5G (W:World):SRel (gh0 W) W []:=⟨rfl,fun o ob h=>by simp at h,fun b p h=>(by cases h),fun b f h=>h⟩

structure Kept (W W':World):Prop where
 kept:W.keptBut W' (fun _=>False)
 fz:∀ a:Addr,a.block < W.heap.size→W'.frozen? a=W.frozen? a
 size:W.heap.size≤W'.heap.size
 old:∀ b,b < W.heap.size→W'.heap[b]?=W.heap[b]?

theorem q9 {P:Program} {gt:List (Nat×List AV)} {tbl:Nat→Option AFn} (hP:ProgOK P gt tbl) {n f:Nat} {args:List AV} {b:Bool} {st':St} (h:l0 tbl n f args []=some (.bool b,st')) (hw:∀ x∈args,x.weak=x)
 {W:World} {vs:List Value} (hg:Globs gt (gh0 W) W) (hr:RelL (gh0 W) W args vs):Calls P f vs.toArray W (fun e W'=>e=.returned (.bool b)∧Kept W W'):=by
 refine ((b8y hP n f args [] _ _ h hw).2 (gh0 W) W vs (c5G W) hg hr).mono fun e W' he=>?_
 obtain ⟨v,g',rfl,_,ht,hv⟩:=he
 have hv:=hv.rel
 simp only [Rel] at hv
 subst hv
 have hold:∀ b,b < W.heap.size→W'.heap[b]?=W.heap[b]?:=fun b hb=>(ht.keep b hb rfl fun x=>x).1.1
 refine ⟨rfl,⟨ht.env.os,ht.env.out,fun i hi=>?_⟩,ht.env.fz,ht.size,hold⟩
 rw [hold i hi]
 cases hq:W.heap[i]? with
 | none=>simp
 | some o=>cases o <;> simp
end Go.Cb
/-
 THE ABSTRACT MACHINE, part 28: running told as a chain, for reckoning with unknowns.
-/
set_option maxRecDepth 4000
set_option linter.unusedSimpArgs false
set_option linter.unusedVariables false
namespace Go.Cb
open Classical

theorem b5 {α:Sort _} {a b:α} (h:a=b):a=b:=by
 cases h
 rfl

def obind {α β:Type} (x:Option α) (f:α→Option β):Option β:=match x with
 | some a=>f a
 | none=>none
theorem n4 {α β:Type} (a:α) (f:α→Option β):obind (some a) f=f a:=b5 rfl
theorem e9 {α β:Type} {x x':Option α} {f:α→Option β} (h:x=x'):obind x f=obind x' f:=by rw [h]

def p1 (x:Option (AV×AV×St)):Option AV:=match x with
 | some (r,_,_)=>some r
 | none=>none
theorem b3d (r b:AV) (st:St):p1 (some (r,b,st))=some r:=b5 rfl
def p2 (x:Option (AV×AV×St)):Option (AV×St):=match x with
 | some (r,_,st)=>some (r,st)
 | none=>none
theorem a1u (r b:AV) (st:St):p2 (some (r,b,st))=some (r,st):=b5 rfl

def gv (x:AV) (want:Bool) (e:Option AV):Option AV:=match x with
 | .bool b=>if b == want then e else some (.tuple [])
 | .tuple []=>some (.tuple [])
 | _=>none
def gv2 (x:AV) (want:Bool) (st:St) (e:Option (AV×St)):Option (AV×St):=match x with
 | .bool b=>if b == want then e else some (.tuple [],st)
 | .tuple []=>some (.tuple [],st)
 | _=>none
theorem a6X (want:Bool) (e:Option AV):gv (.tuple []) want e=some (.tuple []):=b5 rfl

theorem c0j (e:Option AV):gv (.bool true) true e=e:=b5 rfl
theorem b9i (e:Option AV):gv (.bool true) false e=some (.tuple []):=b5 rfl
theorem b9c (e:Option AV):gv (.bool false) false e=e:=b5 rfl
theorem c0s (e:Option AV):gv (.bool false) true e=some (.tuple []):=b5 rfl
theorem b6r (st:St) (e:Option (AV×St)):gv2 (.bool true) true st e=e:=b5 rfl
theorem b5f (st:St) (e:Option (AV×St)):gv2 (.bool true) false st e=some (.tuple [],st):=b5 rfl
theorem b61 (st:St) (e:Option (AV×St)):gv2 (.bool false) false st e=e:=b5 rfl
theorem b5k (st:St) (e:Option (AV×St)):gv2 (.bool false) true st e=some (.tuple [],st):=b5 rfl
theorem b0R (want:Bool) (st:St) (e:Option (AV×St)):gv2 (.tuple []) want st e=some (.tuple [],st):=b5 rfl
theorem i8 {x:AV} {want:Bool} {st:St} {e:Option (AV×St)} {x':AV} (h:x=x'):gv2 x want st e=gv2 x' want st e:=by rw [h]

def d9 (xs:List Opd):Bool:=xs.any Opd.steals

theorem Q3:∀ {xs:List Opd} {σ:Sig},d9 xs=false→b7 xs σ=σ
 | [],_,_=>rfl
 | x::xs,σ,h=>by
  simp only [d9,List.any_cons,Bool.or_eq_false_iff] at h
  have e:x.spend σ=σ:=by cases x <;> simp_all [Opd.spend,Opd.steals]
  rw [b7,e]
  exact Q3 (xs:=xs) h.2

def goK (call:b6) {α:Type} (o:AOper) (σ:Sig) (k:Sig→Option α):Option α :=
 match o.kind.setSt || o.kind.alters || d9 o.args with
 | false=>obind (p1 (sem o.kind call (o.args.map (·.read σ)) (boxOf' o.box σ) σ.st)) fun r=>k (o.dst.put r σ)
 | true=>match o.kind.alters || d9 o.args with
  | false=>obind (p2 (sem o.kind call (o.args.map (·.read σ)) (boxOf' o.box σ) σ.st)) fun r=>k (o.dst.put r.1 { σ with st:=r.2 })
  | true=>obind (sem o.kind call (o.args.map (·.read σ)) (boxOf' o.box σ) σ.st) fun r =>
   let σ:=b7 o.args σ
   match o.box with
   | some i=>k (o.dst.put r.1 { σ with fr:=σ.fr.set i r.2.1,st:=r.2.2 })
   | none=>k (o.dst.put r.1 { σ with st:=r.2.2 })
where boxOf' (b:Option Nat) (σ:Sig):AV:=match b with|some i=>σ.fr.getD i .undef|none=>.undef

def a28 (call:b6) {α:Type} (o:AOper) (σ:Sig) (k:Sig→Option α):Option α :=
 match o.guard with
 | none=>goK call o σ k
 | some (x,want)=>match o.kind.setSt || o.kind.alters || d9 o.args with
  | false=>obind (gv (x.read σ) want (p1 (sem o.kind call (o.args.map (·.read σ)) (goK.boxOf' o.box σ) σ.st))) fun r=>k (o.dst.put r σ)
  | true=>match o.kind.alters || d9 o.args with
   | false=>obind (gv2 (x.read σ) want σ.st (p2 (sem o.kind call (o.args.map (·.read σ)) (goK.boxOf' o.box σ) σ.st))) fun r=>k (o.dst.put r.1 { σ with st:=r.2 })
   | true=>match x.read σ with
    | .bool b=>if b == want then goK call o σ k else k (o.dst.put (.tuple []) σ)
    | .tuple []=>k (o.dst.put (.tuple []) σ)
    | _=>none

def a7c (call:b6) {α:Type}:List AOper→Sig→(Sig→Option α)→Option α
 | [],σ,k=>k σ
 | o::os,σ,k=>a28 call o σ fun σ=>a7c call os σ k

theorem a2e (fr:List AV) (i:Nat):fr.set i (fr.getD i .undef)=fr:=by
 apply List.ext_getElem?
 intro j
 rw [List.getElem?_set]
 by_cases e:i=j
 · subst e
   rw [if_pos rfl]
   split
   · rename_i h; simp [h]
   · rename_i h; rw [List.getElem?_eq_none (by omega)]
 · rw [if_neg e]

theorem a5b {call:b6} {α:Type} {o:AOper} {σ:Sig} {k:Sig→Option α}:goK call o σ k=obind (C8 call o σ) k:=by
 have hb:goK.boxOf' o.box σ=(match o.box with|some i=>σ.fr.getD i .undef|none=>.undef):=rfl
 unfold goK
 rw [L4,hb]
 split
 · rename_i hp
   simp only [Bool.or_eq_false_iff] at hp
   obtain ⟨⟨h1,h2⟩,h3⟩:=hp
   cases hs:sem o.kind call (o.args.map (·.read σ)) (match o.box with|some i=>σ.fr.getD i .undef|none=>.undef) σ.st with
   | none=>rfl
   | some x =>
    obtain ⟨r,b',st'⟩:=x
    have e1:=a2G h1 hs
    have e2:=a1k h2 hs
    subst e1
    simp only [p1,n4,Q3 h3]
    cases hbx:o.box with
    | none=>rfl
    | some i =>
     simp only [hbx] at e2
     rw [e2]
     simp only [a2e,n4]
 · rename_i hp
   split
   · rename_i hq
     simp only [Bool.or_eq_false_iff] at hq
     obtain ⟨h2,h3⟩:=hq
     cases hs:sem o.kind call (o.args.map (·.read σ)) (match o.box with|some i=>σ.fr.getD i .undef|none=>.undef) σ.st with
     | none=>rfl
     | some x =>
      obtain ⟨r,b',st'⟩:=x
      have e2:=a1k h2 hs
      simp only [p2,n4,Q3 h3]
      cases hbx:o.box with
      | none=>rfl
      | some i =>
       simp only [hbx] at e2
       rw [e2]
       simp only [a2e,n4]
   · cases hs:sem o.kind call (o.args.map (·.read σ)) (match o.box with|some i=>σ.fr.getD i .undef|none=>.undef) σ.st with
     | none=>rfl
     | some x =>
      obtain ⟨r,b',st'⟩:=x
      simp only [n4]
      cases hbx:o.box with
      | none=>rfl
      | some i=>rfl

theorem c0B {α:Type} {x:AV} {want:Bool} {e:Option AV} {f:AV→Option α}:obind (gv x want e) f =
 (match x with|.bool b=>if b == want then obind e f else f (.tuple [])|.tuple []=>f (.tuple [])|_=>none):=by
 unfold gv
 split
 · split <;> rfl
 · rfl
 · rfl

theorem b8B {α:Type} {x:AV} {want:Bool} {st:St} {e:Option (AV×St)} {f:AV×St→Option α}:obind (gv2 x want st e) f =
 (match x with|.bool b=>if b == want then obind e f else f (.tuple [],st)|.tuple []=>f (.tuple [],st)|_=>none):=by
 unfold gv2
 split
 · split <;> rfl
 · rfl
 · rfl

theorem a1M {call:b6} {α:Type} {o:AOper} {σ:Sig} {k:Sig→Option α}:a28 call o σ k=obind (j2 call o σ) k:=by
 unfold a28 j2
 cases hg:o.guard with
 | none=>exact a5b
 | some xw =>
  obtain ⟨x,want⟩:=xw
  simp only
  split
  · rename_i hp
    have hgo:obind (p1 (sem o.kind call (o.args.map (·.read σ)) (goK.boxOf' o.box σ) σ.st)) (fun r=>k (o.dst.put r σ))=obind (C8 call o σ) k:=by
     have:=a5b (call:=call) (o:=o) (σ:=σ) (k:=k)
     unfold goK at this
     rw [hp] at this
     exact this
    rw [c0B]
    cases hx:x.read σ <;> try rfl
    · dsimp only
      split
      · exact hgo
      · rfl
    · rename_i vs
      cases vs <;> rfl
  · rename_i hp
    split
    · rename_i hq
      have hgo:obind (p2 (sem o.kind call (o.args.map (·.read σ)) (goK.boxOf' o.box σ) σ.st)) (fun r=>k (o.dst.put r.1 { σ with st:=r.2 }))=obind (C8 call o σ) k:=by
       have:=a5b (call:=call) (o:=o) (σ:=σ) (k:=k)
       unfold goK at this
       rw [hp,hq] at this
       exact this
      rw [b8B]
      cases hx:x.read σ <;> try rfl
      · dsimp only
        split
        · exact hgo
        · rfl
      · rename_i vs
        cases vs <;> rfl
    · cases hx:x.read σ <;> try rfl
      · dsimp only
        split
        · exact a5b
        · rfl
      · rename_i vs
        cases vs <;> rfl

theorem a0h {call:b6} {α:Type} {k:Sig→Option α}:∀ {ops:List AOper} {σ:Sig},a7c call ops σ k=obind (l8 call ops σ) k
 | [],σ=>rfl
 | o::os,σ=>by
  simp only [a7c,l8,a1M]
  cases hs:j2 call o σ with
  | none=>rfl
  | some σ1=>exact a0h

def br (c:AV) (a b:Option Out):Option Out:=match c with
 | .bool true=>a
 | .bool false=>b
 | _=>none
theorem b7N (call:b6) (n:Nat) (kill:List Nat) (ps:List AOper) (fr:List AV) (st:St) :
 e8 call n (.reg kill ps) fr st=a7c call ps ⟨k7 kill fr,fun _=>.undef,st⟩ fun σ=>some (.normal,σ.fr,σ.st):=by
 rw [a0h]
 simp only [e8,fL_eq]
 cases l8 call ps ⟨k7 kill fr,fun _=>.undef,st⟩ <;> rfl
theorem a8p (call:b6) (n:Nat) (kill:List Nat) (ps:List AOper) (c:Opd) (a b:ACode) (fr:List AV) (st:St) :
 e8 call n (.test kill ps c a b) fr st=a7c call ps ⟨k7 kill fr,fun _=>.undef,st⟩ fun σ=>br (c.read σ) (e8 call n a σ.fr σ.st) (e8 call n b σ.fr σ.st):=by
 rw [a0h]
 simp only [e8,fL_eq]
 cases l8 call ps ⟨k7 kill fr,fun _=>.undef,st⟩ with
 | none=>rfl
 | some σ =>
  simp only [n4]
  generalize c.read σ=y
  cases y <;> rfl

def b9C (i:Nat) (x:AV):AV:=match x with
 | .box _=>.loc i 0
 | _=>.undef

def seqK (x:Option Out) (f:List AV→St→Option Out):Option Out:=match x with
 | some (.normal,fr,st)=>f fr st
 | r=>r
theorem a06 (fr:List AV) (st:St) (f:List AV→St→Option Out):seqK (some (.normal,fr,st)) f=f fr st:=b5 rfl
theorem a7t (id:Nat) (fr:List AV) (st:St) (f:List AV→St→Option Out):seqK (some (.exit id,fr,st)) f=some (.exit id,fr,st):=b5 rfl
theorem b0L (fr:List AV) (st:St) (f:List AV→St→Option Out):seqK (some (.ret,fr,st)) f=some (.ret,fr,st):=b5 rfl
theorem g9 {x x':Option Out} {f:List AV→St→Option Out} (h:x=x'):seqK x f=seqK x' f:=by rw [h]
theorem exec_seqK (call:b6) (n:Nat) (a b:ACode) (fr:List AV) (st:St):e8 call n (.seq a b) fr st=seqK (e8 call n a fr st) (e8 call n b):=by
 simp only [e8,seqK]
 split <;> rename_i h <;> simp only [h]

def finK (rs:List ResK) (x:Option Out):Option (AV×St):=match x with
 | some (.exit _,_,_)=>none
 | some (_,fr,st)=>match L1 rs fr with
  | some [v]=>some (v,st)
  | some vs=>some (.tuple vs,st)
  | none=>none
 | none=>none
theorem a4p (fn:AFn) (call:b6) (n:Nat) (args:List AV) (st:St) (h:args.length=fn.np) :
 fn.run call n args st=finK fn.results (e8 call n fn.code (args++List.replicate (fn.nv - fn.np) .undef) st):=by
 unfold AFn.run finK
 rw [if_pos h]
 cases e8 call n fn.code (args++List.replicate (fn.nv - fn.np) .undef) st with
 | none=>rfl
 | some x =>
  obtain ⟨e,fr,st'⟩:=x
  cases e <;> dsimp only <;> cases L1 fn.results fr with
  | none=>rfl
  | some vs =>
   match vs with
   | []=>rfl
   | [v]=>rfl
   | _::_::_=>rfl
theorem b08 (call:b6) (n:Nat) (fr:List AV) (st:St):e8 call n .ret fr st=some (.ret,fr,st):=by simp only [e8]
theorem a7n (call:b6) (n id:Nat) (fr:List AV) (st:St):e8 call n (.exit id) fr st=some (.exit id,fr,st):=by simp only [e8]
theorem a8O (call:b6) (n:Nat) (fr:List AV) (st:St):e8 call n .skip fr st=some (.normal,fr,st):=by simp only [e8]
end Go.Cb
/-
 THE ABSTRACT MACHINE, part 31: more fuel does no harm.
-/
set_option maxRecDepth 4000
set_option linter.unusedSimpArgs false
set_option linter.unusedVariables false
namespace Go.Cb
open Classical

def T6 (c c':b6):Prop:=∀ f as st r,c f as st=some r→c' f as st=some r

theorem c3C {c c':b6} (h:T6 c c') {k:Kind} {as:List AV} {b:AV} {st:St} {r:AV×AV×St} (hs:sem k c as b st=some r):sem k c' as b st=some r:=by
 cases k
 case call f =>
  simp only [sem,s5] at hs ⊢
  split at hs
  · rename_i hp
    rw [if_pos hp]
    obtain ⟨x,hx,rfl⟩:=Option.map_eq_some_iff.1 hs
    rw [h _ _ _ _ hx]
    rfl
  · cases hs
 case callA f m =>
  simp only [sem,B8] at hs ⊢
  cases hc:s5 f c (as.take m) b st with
  | none=>rw [hc] at hs; cases hs
  | some x =>
   rw [hc] at hs
   have:s5 f c' (as.take m) b st=some x:=by
    unfold s5 at hc ⊢
    split at hc
    · rename_i hp
      rw [if_pos hp]
      obtain ⟨y,hy,rfl⟩:=Option.map_eq_some_iff.1 hc
      rw [h _ _ _ _ hy]
      rfl
    · cases hc
   rw [this]
   exact hs
 case callV =>
  simp only [sem] at hs ⊢
  unfold H6 at hs ⊢
  split at hs
  · split at hs
    · rename_i hp
      simp only [if_pos hp]
      obtain ⟨x,hx,rfl⟩:=Option.map_eq_some_iff.1 hs
      rw [h _ _ _ _ hx]
      rfl
    · cases hs
  · cases hs
 all_goals exact hs

theorem b2G {c c':b6} (h:T6 c c') {o:AOper} {σ σ':Sig} (hs:C8 c o σ=some σ'):C8 c' o σ=some σ':=by
 obtain ⟨r,b',st',h1,rfl⟩:=k9 hs
 exact a2T (c3C h h1)
theorem b6u {c c':b6} (h:T6 c c') {o:AOper} {σ σ':Sig} (hs:j2 c o σ=some σ'):j2 c' o σ=some σ':=by
 unfold j2 at hs ⊢
 split at hs
 · exact b2G h hs
 · split at hs
   · split at hs
     · rename_i hc; rw [if_pos hc]; exact b2G h hs
     · rename_i hc; rw [if_neg hc]; exact hs
   · exact hs
   · cases hs
theorem a2s {c c':b6} (h:T6 c c'):∀ {os:List AOper} {σ σ':Sig},l8 c os σ=some σ'→l8 c' os σ=some σ'
 | [],_,_,hs=>hs
 | o::os,σ,σ',hs=>by
  simp only [l8] at hs ⊢
  cases hq:j2 c o σ with
  | none=>simp [hq] at hs
  | some σ1 =>
   simp only [hq] at hs
   simp only [b6u h hq]
   exact a2s h hs
theorem a2O {body body':List AV→St→Option Out} (h:∀ fr st r,body fr st=some r→body' fr st=some r):∀ {n m:Nat} {fr:List AV} {st:St} {r:Out},n≤m→S1 body n fr st=some r→S1 body' m fr st=some r
 | 0,_,_,_,_,_,hs=>by simp [S1] at hs
 | n+1,0,_,_,_,hle,_=>by omega
 | n+1,m+1,fr,st,r,hle,hs=>by
  simp only [S1] at hs ⊢
  cases hq:body fr st with
  | none=>simp [hq] at hs
  | some o =>
   rw [hq] at hs
   rw [h _ _ _ hq]
   obtain ⟨e,fr1,st1⟩:=o
   cases e with
   | normal=>exact a2O h (by omega) hs
   | exit id=>exact hs
   | ret=>exact hs
theorem t7 {c c':b6} (h:T6 c c') {n m:Nat} (hle:n≤m):∀ {x:ACode} {fr:List AV} {st:St} {r:Out},e8 c n x fr st=some r→e8 c' m x fr st=some r
 | .skip,_,_,_,hs=>hs
 | .exit _,_,_,_,hs=>hs
 | .ret,_,_,_,hs=>hs
 | .reg kill ops,fr,st,r,hs=>by
  simp only [e8] at hs ⊢
  cases hq:l8 c ops ⟨k7 kill fr,fun _=>.undef,st⟩ with
  | none=>simp [hq] at hs
  | some σ=>rw [hq] at hs; rw [a2s h hq]; exact hs
 | .test kill ops x a b,fr,st,r,hs=>by
  rw [a8p] at hs ⊢
  rw [a0h] at hs ⊢
  cases hq:l8 c ops ⟨k7 kill fr,fun _=>.undef,st⟩ with
  | none=>rw [hq] at hs; cases hs
  | some σ =>
   rw [hq] at hs
   rw [a2s h hq]
   rw [n4] at hs ⊢
   unfold br at hs ⊢
   split at hs
   · exact t7 h hle hs
   · exact t7 h hle hs
   · cases hs
 | .either kill a b,fr,st,r,hs=>by
  simp only [e8] at hs ⊢
  obtain ⟨oa,ob,ea,eb,ka,kb⟩:=a4W hs
  rw [t7 h hle ea,t7 h hle eb,a1L (ka.trans kb.symm),ka]
 | .seq a b,fr,st,r,hs=>by
  rw [exec_seqK] at hs ⊢
  cases hq:e8 c n a fr st with
  | none=>rw [hq] at hs; cases hs
  | some o =>
   rw [hq] at hs
   rw [t7 h hle hq]
   obtain ⟨e,fr1,st1⟩:=o
   cases e with
   | normal=>exact t7 h hle hs
   | exit id=>exact hs
   | ret=>exact hs
 | .blk id a,fr,st,r,hs=>by
  simp only [e8] at hs ⊢
  cases hq:e8 c n a fr st with
  | none=>rw [hq] at hs; cases hs
  | some o=>rw [hq] at hs; rw [t7 h hle hq]; exact hs
 | .loop a,fr,st,r,hs=>by
  simp only [e8] at hs ⊢
  exact a2O (fun _ _ _ hb=>t7 h hle hb) hle hs
theorem b4T {c c':b6} (h:T6 c c') {n m:Nat} (hle:n≤m) {fn:AFn} {args:List AV} {st:St} {r:AV×St} (hs:fn.run c n args st=some r):fn.run c' m args st=some r:=by
 have hl:args.length=fn.np:=by
  unfold AFn.run at hs
  split at hs
  · assumption
  · cases hs
 rw [a4p _ _ _ _ _ hl] at hs ⊢
 cases hq:e8 c n fn.code (args++List.replicate (fn.nv - fn.np) .undef) st with
 | none=>rw [hq] at hs; cases hs
 | some o=>rw [hq] at hs; rw [t7 h hle hq]; exact hs
theorem M9 {tbl:Nat→Option AFn}:∀ {n m:Nat},n≤m→T6 (l0 tbl n) (l0 tbl m)
 | 0,_,_,_,_,_,_,hs=>by simp [l0] at hs
 | n+1,0,hle,_,_,_,_,_=>by omega
 | n+1,m+1,hle,f,as,st,r,hs=>by
  simp only [l0] at hs ⊢
  cases htb:tbl f with
  | none=>simp [htb] at hs
  | some fn =>
   simp only [htb] at hs ⊢
   cases he:fn.ext with
   | some e=>simp only [he] at hs ⊢; exact hs
   | none =>
    simp only [he] at hs ⊢
    exact b4T (M9 (by omega)) (by omega) hs

def Ev (tbl:Nat→Option AFn) (f:Nat) (as:List AV) (st:St) (r:AV) (st':St):Prop:=∃ n,l0 tbl n f as st=some (r,st')
theorem Ev.ge {tbl:Nat→Option AFn} {f:Nat} {as:List AV} {st:St} {r:AV} {st':St} (h:Ev tbl f as st r st'):∃ n0,∀ n,n0≤n→l0 tbl n f as st=some (r,st') :=
 let ⟨n,hn⟩:=h; ⟨n,fun m hm=>M9 hm _ _ _ _ hn⟩
end Go.Cb
/-
 THE ABSTRACT MACHINE, part 32: rules for what code comes to, with enough fuel.
-/
set_option maxRecDepth 4000
set_option linter.unusedVariables false
namespace Go.Cb
open Classical

section
variable {tbl:Nat→Option AFn}

def XC (tbl:Nat→Option AFn) (x:ACode) (fr:List AV) (st:St) (out:Out):Prop:=∃ n,e8 (l0 tbl n) n x fr st=some out
theorem XC.ge {x:ACode} {fr:List AV} {st:St} {out:Out} (h:XC tbl x fr st out):∃ n0,∀ n,n0≤n→e8 (l0 tbl n) n x fr st=some out :=
 let ⟨n,hn⟩:=h; ⟨n,fun m hm=>t7 (M9 hm) hm hn⟩

def LX (tbl:Nat→Option AFn) (x:ACode) (fr:List AV) (st:St) (out:Out):Prop:=∃ n k,S1 (e8 (l0 tbl n) n x) k fr st=some out

theorem LX.done {x:ACode} {fr:List AV} {st:St} {e:Ex} {fr':List AV} {st':St} (h:XC tbl x fr st (e,fr',st')) (he:e≠.normal):LX tbl x fr st (e,fr',st'):=by
 obtain ⟨n,hn⟩:=h
 refine ⟨n,1,?_⟩
 simp only [S1,hn]
 cases e with
 | normal=>exact absurd rfl he
 | exit id=>rfl
 | ret=>rfl
theorem LX.step {x:ACode} {fr fr1:List AV} {st st1:St} {out:Out} (h:XC tbl x fr st (.normal,fr1,st1)) (h':LX tbl x fr1 st1 out):LX tbl x fr st out:=by
 obtain ⟨n,hn⟩:=h
 obtain ⟨m,k,hm⟩:=h'
 refine ⟨max n m,k+1,?_⟩
 have h1:=t7 (M9 (tbl:=tbl) (Nat.le_max_left n m)) (Nat.le_max_left n m) hn
 simp only [S1,h1]
 exact a2O (fun _ _ _ hb=>t7 (M9 (Nat.le_max_right n m)) (Nat.le_max_right n m) hb) (Nat.le_refl k) hm
theorem XC.loop {x:ACode} {fr:List AV} {st:St} {out:Out} (h:LX tbl x fr st out):XC tbl (.loop x) fr st out:=by
 obtain ⟨n,k,h⟩:=h
 refine ⟨max n k,?_⟩
 simp only [e8]
 exact a2O (fun _ _ _ hb=>t7 (M9 (Nat.le_max_left n k)) (Nat.le_max_left n k) hb) (Nat.le_max_right n k) h
theorem XC.seq {a b:ACode} {fr fr1:List AV} {st st1:St} {out:Out} (h:XC tbl a fr st (.normal,fr1,st1)) (h':XC tbl b fr1 st1 out):XC tbl (.seq a b) fr st out:=by
 obtain ⟨n,hn⟩:=h
 obtain ⟨m,hm⟩:=h'
 refine ⟨max n m,?_⟩
 rw [exec_seqK,t7 (M9 (Nat.le_max_left n m)) (Nat.le_max_left n m) hn,a06]
 exact t7 (M9 (Nat.le_max_right n m)) (Nat.le_max_right n m) hm
theorem XC.blk {id:Nat} {a:ACode} {fr fr1:List AV} {st st1:St} {e:Ex} (h:XC tbl a fr st (e,fr1,st1)):XC tbl (.blk id a) fr st (if e=.exit id then .normal else e,fr1,st1):=by
 obtain ⟨n,hn⟩:=h
 refine ⟨n,?_⟩
 simp only [e8,hn]
 cases e with
 | normal=>rfl
 | exit id' =>
  by_cases hid:id'=id
  · subst hid; simp
  · simp [hid]
 | ret=>rfl
theorem XC.skip {fr:List AV} {st:St}:XC tbl .skip fr st (.normal,fr,st):=⟨0,rfl⟩
theorem XC.exit {id:Nat} {fr:List AV} {st:St}:XC tbl (.exit id) fr st (.exit id,fr,st):=⟨0,rfl⟩
theorem XC.ret {fr:List AV} {st:St}:XC tbl .ret fr st (.ret,fr,st):=⟨0,rfl⟩

theorem XC.of {x:ACode} {fr:List AV} {st:St} {out:Out} (h:∃ n0,∀ n,n0≤n→e8 (l0 tbl n) n x fr st=some out):XC tbl x fr st out :=
 let ⟨n,hn⟩:=h; ⟨n,hn n (Nat.le_refl n)⟩
theorem XC.goes {x a:ACode} {fr fr1:List AV} {st st1:St} {out:Out} (h:∃ n0,∀ n,n0≤n→e8 (l0 tbl n) n x fr st=e8 (l0 tbl n) n a fr1 st1) (h':XC tbl a fr1 st1 out):XC tbl x fr st out:=by
 obtain ⟨n,hn⟩:=h
 obtain ⟨m,hm⟩:=h'.ge
 exact ⟨max n m,by rw [hn _ (Nat.le_max_left n m)]; exact hm _ (Nat.le_max_right n m)⟩

theorem Ev.of_body {f:Nat} {fn:AFn} {as:List AV} {st:St} {e:Ex} {fr':List AV} {st':St} {r:AV×St} (htb:tbl f=some fn) (he:fn.ext=none) (hl:as.length=fn.np)
 (h:XC tbl fn.code (as++List.replicate (fn.nv - fn.np) .undef) st (e,fr',st')) (hr:finK fn.results (some (e,fr',st'))=some r):Ev tbl f as st r.1 r.2:=by
 obtain ⟨n,hn⟩:=h
 refine ⟨n+1,?_⟩
 simp only [l0,htb,he]
 rw [a4p _ _ _ _ _ hl,hn,hr]
theorem Ev.of_ext {f:Nat} {fn:AFn} {as:List AV} {st:St} {e:List AV→St→Option (AV×St)} {r:AV×St} (htb:tbl f=some fn) (he:fn.ext=some e) (h:e as st=some r):Ev tbl f as st r.1 r.2 :=
 ⟨1,by simp only [l0,htb,he]; exact h⟩
end
end Go.Cb
/-
 THE ABSTRACT MACHINE, part 33: with enough fuel it comes to something of that sort.
-/
set_option maxRecDepth 4000
set_option linter.unusedVariables false
namespace Go.Cb
open Classical

def WC {α:Type} (c:Nat→Option α) (Q:α→Prop):Prop:=∃ n0 a,(∀ n,n0≤n→c n=some a)∧Q a
def EvQ (tbl:Nat→Option AFn) (f:Nat) (as:List AV) (st:St) (Q:AV→St→Prop):Prop:=∃ r st',Ev tbl f as st r st'∧Q r st'

theorem WC.ret {α:Type} {a:α} {Q:α→Prop} (h:Q a):WC (fun _=>some a) Q:=⟨0,a,fun _ _=>rfl,h⟩
theorem WC.mono {α:Type} {c:Nat→Option α} {P Q:α→Prop} (h:WC c P) (hq:∀ a,P a→Q a):WC c Q :=
 let ⟨n,a,ha,hp⟩:=h; ⟨n,a,ha,hq a hp⟩
theorem WC.obind {α β:Type} {c:Nat→Option α} {k:Nat→α→Option β} {P:α→Prop} {Q:β→Prop} (h:WC c P) (hk:∀ a,P a→WC (fun n=>k n a) Q):WC (fun n=>Go.Cb.obind (c n) (k n)) Q:=by
 obtain ⟨n,a,ha,hp⟩:=h
 obtain ⟨m,b,hb,hq⟩:=hk a hp
 refine ⟨max n m,b,fun j hj=>?_,hq⟩
 show Go.Cb.obind (c j) (k j)=some b
 rw [ha j (by omega),n4]
 exact hb j (Nat.le_trans (Nat.le_max_right n m) hj)
theorem EvQ.mono {tbl:Nat→Option AFn} {f:Nat} {as:List AV} {st:St} {P Q:AV→St→Prop} (h:EvQ tbl f as st P) (hq:∀ r st',P r st'→Q r st'):EvQ tbl f as st Q :=
 let ⟨r,st',he,hp⟩:=h; ⟨r,st',he,hq r st' hp⟩

section
variable {tbl:Nat→Option AFn}
theorem WC.call {β:Type} {f:Nat} {as as':List AV} {bx:AV} {st:St} {k:Nat→AV×St→Option β} {P:AV→St→Prop} {Q:β→Prop}
 (h:EvQ tbl f as' st P) (hp:r8 as=true) (hw:as.map AV.weak=as') (hk:∀ r st',P r st'→WC (fun n=>k n (r,st')) Q):WC (fun n=>Go.Cb.obind (p2 (s5 f (l0 tbl n) as bx st)) (k n)) Q:=by
 obtain ⟨r,st',he,hq⟩:=h
 obtain ⟨n0,h0⟩:=he.ge
 refine WC.obind (P:=fun x=>x=(r,st')) ⟨n0,(r,st'),fun n hn=>?_,rfl⟩ (fun a ha=>ha ▸ hk r st' hq)
 simp only [s5,hp,if_true,hw,h0 n hn,Option.map_some,a1u]
theorem WC.callV {β:Type} {f:Nat} {first caps as as':List AV} {bx:AV} {st:St} {k:Nat→AV×St→Option β} {P:AV→St→Prop} {Q:β→Prop}
 (h:EvQ tbl f as' st P) (hp:r8 as=true) (hw:(first++as++caps).map AV.weak=as') (hk:∀ r st',P r st'→WC (fun n=>k n (r,st')) Q):WC (fun n=>Go.Cb.obind (p2 (H6 (l0 tbl n) (.func f first caps::as) bx st)) (k n)) Q:=by
 obtain ⟨r,st',he,hq⟩:=h
 obtain ⟨n0,h0⟩:=he.ge
 refine WC.obind (P:=fun x=>x=(r,st')) ⟨n0,(r,st'),fun n hn=>?_,rfl⟩ (fun a ha=>ha ▸ hk r st' hq)
 simp only [H6,hp,if_true,hw,h0 n hn,Option.map_some,a1u]

def a0w (id:Nat) (o:Out):Out:=match o with
 | (.exit id',fr,st)=>if id'=id then (.normal,fr,st) else (.exit id',fr,st)
 | o=>o
def blkK (id:Nat) (x:Option Out):Option Out:=match x with
 | some o=>some (a0w id o)
 | none=>none
theorem a2u (id:Nat) (o:Out):blkK id (some o)=some (a0w id o):=b5 rfl
theorem a1X (id:Nat) (fr:List AV) (st:St):a0w id (.normal,fr,st)=(.normal,fr,st):=b5 rfl
theorem a4E (id:Nat) (fr:List AV) (st:St):a0w id (.ret,fr,st)=(.ret,fr,st):=b5 rfl
theorem a3r (id id':Nat) (fr:List AV) (st:St):a0w id (.exit id',fr,st)=if id'=id then (.normal,fr,st) else (.exit id',fr,st):=b5 rfl
theorem g8 {id:Nat} {x x':Option Out} (h:x=x'):blkK id x=blkK id x':=by rw [h]
theorem a7S (call:b6) (n id:Nat) (a:ACode) (fr:List AV) (st:St):e8 call n (.blk id a) fr st=blkK id (e8 call n a fr st):=by
 simp only [e8,blkK]
 cases e8 call n a fr st with
 | none=>rfl
 | some o =>
  obtain ⟨e,fr',st'⟩:=o
  cases e with
  | normal=>rfl
  | ret=>rfl
  | exit id'=>by_cases h:id'=id <;> simp [a0w,h]
theorem WC.seqK {c:Nat→Option Out} {g:Nat→List AV→St→Option Out} {P Q:Out→Prop} (h:WC c P) (hk:∀ o,P o→WC (fun n=>Go.Cb.seqK (some o) (g n)) Q):WC (fun n=>Go.Cb.seqK (c n) (g n)) Q:=by
 obtain ⟨n,a,ha,hp⟩:=h
 obtain ⟨m,b,hb,hq⟩:=hk a hp
 exact ⟨max n m,b,fun j hj=>by dsimp only; rw [ha j (by omega)]; exact hb j (by omega),hq⟩
theorem WC.blkK {id:Nat} {c:Nat→Option Out} {Q:Out→Prop} (h:WC c (fun o=>Q (a0w id o))):WC (fun n=>Go.Cb.blkK id (c n)) Q:=by
 obtain ⟨n,a,ha,hp⟩:=h
 exact ⟨n,_,fun j hj=>by dsimp only; rw [ha j hj,a2u],hp⟩
theorem WC.finK {rs:List ResK} {c:Nat→Option Out} {P:Out→Prop} {Q:AV×St→Prop} (h:WC c P) (hk:∀ o,P o→WC (fun n=>Go.Cb.finK rs (some o)) Q):WC (fun n=>Go.Cb.finK rs (c n)) Q:=by
 obtain ⟨n,a,ha,hp⟩:=h
 obtain ⟨m,b,hb,hq⟩:=hk a hp
 exact ⟨max n m,b,fun j hj=>by dsimp only; rw [ha j (by omega)]; exact hb j (by omega),hq⟩

theorem WC.of_xc {x:ACode} {fr:List AV} {st:St} {out:Out} {Q:Out→Prop} (h:XC tbl x fr st out) (hq:Q out):WC (fun n=>e8 (l0 tbl n) n x fr st) Q:=by
 obtain ⟨n,hn⟩:=h.ge
 exact ⟨n,out,hn,hq⟩
theorem WC.xc {x:ACode} {fr:List AV} {st:St} {Q:Out→Prop} (h:WC (fun n=>e8 (l0 tbl n) n x fr st) Q):∃ out,XC tbl x fr st out∧Q out:=by
 obtain ⟨n,a,ha,hq⟩:=h
 exact ⟨a,⟨n,ha n (Nat.le_refl n)⟩,hq⟩

theorem WC.loop {x:ACode} {Q:Out→Prop} (I:Nat→List AV→St→Prop) {m:Nat} {fr:List AV} {st:St} (h0:I m fr st)
 (hI:∀ m fr st,I m fr st→WC (fun n=>e8 (l0 tbl n) n x fr st) (fun o=>(∃ m' fr' st',o=(.normal,fr',st')∧m' < m∧I m' fr' st')∨(o.1≠.normal∧Q o))) :
 WC (fun n=>e8 (l0 tbl n) n (.loop x) fr st) Q:=by
 have key:∀ m fr st,I m fr st→∃ out,LX tbl x fr st out∧Q out:=by
  intro m
  induction m using Nat.strongRecOn with
  | ind m ih =>
   intro fr st h
   obtain ⟨out,hx,hc⟩:=(hI m fr st h).xc
   rcases hc with ⟨m',fr',st',rfl,hlt,hi⟩|⟨hne,hq⟩
   · obtain ⟨out,hl,hq⟩:=ih m' hlt fr' st' hi
     exact ⟨out,LX.step hx hl,hq⟩
   · obtain ⟨e,fr',st'⟩:=out
     exact ⟨_,LX.done hx hne,hq⟩
 obtain ⟨out,hl,hq⟩:=key m fr st h0
 exact WC.of_xc (XC.loop hl) hq

theorem EvQ.of_body {f:Nat} {fn:AFn} {as:List AV} {st:St} {Q:AV→St→Prop} (htb:tbl f=some fn) (he:fn.ext=none) (hl:as.length=fn.np)
 (h:WC (fun n=>Go.Cb.finK fn.results (e8 (l0 tbl n) n fn.code (as++List.replicate (fn.nv - fn.np) .undef) st)) (fun r=>Q r.1 r.2)):EvQ tbl f as st Q:=by
 obtain ⟨n,a,ha,hq⟩:=h
 refine ⟨a.1,a.2,⟨n+1,?_⟩,hq⟩
 simp only [l0,htb,he]
 rw [a4p _ _ _ _ _ hl]
 exact ha n (Nat.le_refl n)
theorem EvQ.of_ext {f:Nat} {fn:AFn} {as:List AV} {st:St} {e:List AV→St→Option (AV×St)} {r:AV×St} {Q:AV→St→Prop} (htb:tbl f=some fn) (he:fn.ext=some e) (h:e as st=some r) (hq:Q r.1 r.2):EvQ tbl f as st Q :=
 ⟨_,_,Ev.of_ext htb he h,hq⟩
end
end Go.Cb
/-
 THE ABSTRACT MACHINE, part 34: rules for loops within blocks, and for a body's end.
-/
set_option maxRecDepth 4000
set_option linter.unusedVariables false
namespace Go.Cb
open Classical
section
variable {tbl:Nat→Option AFn}

theorem WC.next {I:Nat→List AV→St→Prop} {m m':Nat} {fr':List AV} {st':St} {R:Out→Prop} (hm:m' < m) (hi:I m' fr' st') :
 WC (fun _=>some (Ex.normal,fr',st')) (fun o=>(∃ m' fr' st',o=(.normal,fr',st')∧m' < m∧I m' fr' st')∨(o.1≠.normal∧R o)):=WC.ret (Or.inl ⟨m',fr',st',rfl,hm,hi⟩)
theorem WC.leave {I:Nat→List AV→St→Prop} {m id:Nat} {fr':List AV} {st':St} {R:Out→Prop} (h:R (.exit id,fr',st')) :
 WC (fun _=>some (Ex.exit id,fr',st')) (fun o=>(∃ m' fr' st',o=(.normal,fr',st')∧m' < m∧I m' fr' st')∨(o.1≠.normal∧R o)):=WC.ret (Or.inr ⟨fun h=>by simp at h,h⟩)
theorem WC.leaveR {I:Nat→List AV→St→Prop} {m:Nat} {fr':List AV} {st':St} {R:Out→Prop} (h:R (.ret,fr',st')) :
 WC (fun _=>some (Ex.ret,fr',st')) (fun o=>(∃ m' fr' st',o=(.normal,fr',st')∧m' < m∧I m' fr' st')∨(o.1≠.normal∧R o)):=WC.ret (Or.inr ⟨fun h=>by simp at h,h⟩)

theorem EvQ.body {f:Nat} {fn:AFn} {as:List AV} {st:St} {Q:AV→St→Prop} (htb:tbl f=some fn) (he:fn.ext=none) (hl:as.length=fn.np)
 (h:WC (fun n=>e8 (l0 tbl n) n fn.code (as++List.replicate (fn.nv - fn.np) .undef) st) (fun o=>∃ r st',Go.Cb.finK fn.results (some o)=some (r,st')∧Q r st')):EvQ tbl f as st Q :=
 EvQ.of_body htb he hl (WC.finK h fun o ⟨r,st',hr,hq⟩=>⟨0,(r,st'),fun _ _=>hr,hq⟩)
end
end Go.Cb
/-
 THE ABSTRACT MACHINE, part 35: small laws on numbers and rows, for walks with unknowns.
-/
set_option maxRecDepth 4000
set_option linter.unusedVariables false
namespace Go.Cb
open Classical

theorem a6B {n:Int} (h1:-9223372036854775808≤n) (h2:n < 9223372036854775808):i6 .i64 n=n:=by
 rw [M8]
 simp only [IntKind.wrap,IntKind.signed,IntKind.bits,Bool.true_and]
 split
 · rename_i h; have h:=of_decide_eq_true h; omega
 · rename_i h; have h:¬ (n % 2 ^ 64 ≥ 2 ^ (64 - 1)):=fun x=>h (decide_eq_true x); omega
theorem B6 {i:Nat} (h:i+1 < 2 ^ 63):i6 .i64 (F4 (i:Int) 1)=((i+1:Nat):Int):=by
 rw [addI_eq,a6B (by omega) (by omega)]
 omega
theorem ltN (i j:Nat):ltI (i:Int) (j:Int)=decide (i < j):=by
 rw [ltI_eq]
 by_cases h:i < j
 · simp [h]
 · simp [h]
theorem c2x (i j:Nat):eqI (i:Int) (j:Int)=decide (i=j):=by
 rw [eqI_eq]
 by_cases h:i=j
 · simp [h]
 · simp [h]; omega
theorem d8 (b:Bool):b=true∨b=false:=by cases b <;> simp
theorem Z2 {sz:Nat} {xs:List (List AV)} (h:∀ r∈xs,r.length=sz):k8 sz xs=true:=by
 cases xs with
 | nil=>rfl
 | cons r rs=>simp [k8,h r (by simp)]
end Go.Cb
/-
 THE ABSTRACT MACHINE, part 36: guarded values, reckoned without splitting; copies, form by form; tests as rules.
-/
set_option maxRecDepth 4000
set_option linter.unusedVariables false
namespace Go.Cb
open Classical

def gV (x:AV) (want:Bool) (v:AV):AV:=match x with
 | .bool b=>if b == want then v else .tuple []
 | _=>.tuple []
theorem b93 (v:AV):gV (.bool true) true v=v:=b5 rfl
theorem b9P (v:AV):gV (.bool false) false v=v:=b5 rfl
theorem b9g (v:AV):gV (.bool true) false v=.tuple []:=b5 rfl
theorem b9l (v:AV):gV (.bool false) true v=.tuple []:=b5 rfl
theorem b25 (want:Bool) (v:AV):gV (.tuple []) want v=.tuple []:=b5 rfl
theorem a6V (c want:Bool) (v:AV):gv (.bool c) want (some v)=some (gV (.bool c) want v):=by
 cases c <;> cases want <;> rfl
theorem a4n (x:AV) (w b want:Bool) (v:AV):gv (gV x w (.bool b)) want (some v)=some (gV (gV x w (.bool b)) want v):=by
 unfold gV
 cases x with
 | bool c=>cases c <;> cases w <;> cases b <;> cases want <;> rfl
 | _=>rfl
theorem i7 {x x':AV} {want:Bool} {e e':Option AV} (h1:x=x') (h2:x'=.bool want→e=e'):gv x want e=gv x' want e':=by
 subst h1
 unfold gv
 split
 · rename_i b
   by_cases hb:b=want
   · rw [h2 (by rw [hb])]
   · simp [hb]
 · rfl
 · rfl
theorem b2e (x:AV) (w:Bool) (v:AV):(gV x w v).weak=gV x w v.weak:=by
 unfold gV
 cases x with
 | bool c=>dsimp only; split <;> rfl
 | _=>rfl
theorem b1i (x:AV) (w:Bool) (v:AV):(gV x w v).strip=gV x w v.strip:=by
 unfold gV
 cases x with
 | bool c=>dsimp only; split <;> rfl
 | _=>rfl
theorem a8o (x:AV) (w:Bool) (v:AV):(gV x w v).stripB=gV x w v.stripB:=by
 unfold gV
 cases x with
 | bool c=>dsimp only; split <;> rfl
 | _=>rfl
theorem b5K (call:b6) (a b bx:AV) (st:St):p1 (A9 call [.bool true,a,b] bx st)=if a.plain then some a else none:=by
 unfold A9; dsimp only; by_cases h:a.plain=true <;> simp [h,p1]
theorem b5T (call:b6) (a b bx:AV) (st:St):p1 (A9 call [.bool false,a,b] bx st)=if b.plain then some b else none:=by
 unfold A9; dsimp only; by_cases h:b.plain=true <;> simp [h,p1]
theorem b2L (call:b6) (c d:Bool) (bx:AV) (st:St):p1 (A9 call [.bool c,.bool true,gV (.bool c) false (.bool d)] bx st)=some (.bool (c || d)):=by
 cases c <;> rfl
theorem b0g (call:b6) (c d:Bool) (bx:AV) (st:St):p1 (A9 call [.bool c,gV (.bool c) true (.bool d),.bool false] bx st)=some (.bool (c && d)):=by
 cases c <;> rfl

theorem a8u (b:Bool):(AV.bool b).weak=.bool b:=b5 rfl
theorem b0M (k:IntKind) (n:Int):(AV.int k n).weak=.int k n:=b5 rfl
theorem b0n (s:List Nat):(AV.str s).weak=.str s:=b5 rfl
theorem a7X (o:Bool) (xs:List (List AV)):(AV.list o xs).weak=.list false xs:=b5 rfl
theorem b0x (o f:Nat):(AV.ptr o f).weak=.ptr o f:=b5 rfl
theorem a7q:AV.nilp.weak=.nilp:=b5 rfl
theorem a8a:AV.nils.weak=.nils:=b5 rfl
theorem b2d (cs:List AV):(AV.ro cs).weak=.ro cs:=b5 rfl
theorem a9k (i f:Nat):(AV.loc i f).weak=.loc i f:=b5 rfl
theorem b1e (o:Nat):(AV.map o).weak=.map o:=b5 rfl
theorem a8v:AV.nilm.weak=.nilm:=b5 rfl
theorem a7J (f:Nat) (a b:List AV):(AV.func f a b).weak=.func f a b:=b5 rfl
theorem a7N:AV.nilf.weak=.nilf:=b5 rfl
theorem w9 (cs:List AV):(AV.agg cs).weak=.agg (cs.map AV.weak1):=b5 rfl
theorem b2K (o f n s:Nat):(AV.sl o f n s).weak=.sl o f n s:=b5 rfl
theorem a5c (t:Nat) (v:AV):(AV.iface t v).weak=.iface t v:=b5 rfl
theorem a8f:AV.nili.weak=.nili:=b5 rfl
theorem a4X (vs:List AV):(AV.tuple vs).weak=.tuple vs:=b5 rfl
theorem a6s:AV.undef.weak=.undef:=b5 rfl
theorem b0J (cs:List AV):(AV.box cs).weak=.box cs:=b5 rfl
theorem a6m (b:Bool):(AV.bool b).weak1=.bool b:=b5 rfl
theorem a7r (k:IntKind) (n:Int):(AV.int k n).weak1=.int k n:=b5 rfl
theorem a7H (s:List Nat):(AV.str s).weak1=.str s:=b5 rfl
theorem a5X (o:Bool) (xs:List (List AV)):(AV.list o xs).weak1=.list false xs:=b5 rfl
theorem b0f (o f n s:Nat):(AV.sl o f n s).weak1=.sl o f n s:=b5 rfl
theorem a6d (f:Nat) (a b:List AV):(AV.func f a b).weak1=.func f a b:=b5 rfl
theorem a8w (o f:Nat):(AV.ptr o f).weak1=.ptr o f:=b5 rfl
theorem a4L:AV.nilp.weak1=.nilp:=b5 rfl
theorem a5Q:AV.nils.weak1=.nils:=b5 rfl
theorem M4 (o:Nat):(AV.map o).weak1=.map o:=b5 rfl
theorem a5Z:AV.nilm.weak1=.nilm:=b5 rfl
theorem a5F (b:Bool):(AV.bool b).strip=.bool b:=b5 rfl
theorem a8c (k:IntKind) (n:Int):(AV.int k n).strip=.int k n:=b5 rfl
theorem a8z (s:List Nat):(AV.str s).strip=.str s:=b5 rfl
theorem a5D (o:Bool) (xs:List (List AV)):(AV.list o xs).strip=.list o xs:=b5 rfl
theorem a7P (o f:Nat):(AV.ptr o f).strip=.ptr o f:=b5 rfl
theorem a5q:AV.nilp.strip=.nilp:=b5 rfl
theorem a5x:AV.nils.strip=.nils:=b5 rfl
theorem a9t (cs:List AV):(AV.ro cs).strip=.ro cs:=b5 rfl
theorem a8N (i f:Nat):(AV.loc i f).strip=.undef:=b5 rfl
theorem a7u (o:Nat):(AV.map o).strip=.map o:=b5 rfl
theorem a4K:AV.nilm.strip=.nilm:=b5 rfl
theorem a6l (f:Nat) (a b:List AV):(AV.func f a b).strip=.func f a b:=b5 rfl
theorem a4O:AV.nilf.strip=.nilf:=b5 rfl
theorem a8B (cs:List AV):(AV.agg cs).strip=.agg cs:=b5 rfl
theorem a9w (o f n s:Nat):(AV.sl o f n s).strip=.sl o f n s:=b5 rfl
theorem a3q (vs:List AV):(AV.tuple vs).strip=.tuple vs:=b5 rfl
theorem a3p:AV.undef.strip=.undef:=b5 rfl
theorem a3z (b:Bool):(AV.bool b).stripB=.bool b:=b5 rfl
theorem a5n (k:IntKind) (n:Int):(AV.int k n).stripB=.int k n:=b5 rfl
theorem a6r (s:List Nat):(AV.str s).stripB=.str s:=b5 rfl
theorem a3N (o:Bool) (xs:List (List AV)):(AV.list o xs).stripB=.list o xs:=b5 rfl
theorem a5S (o f:Nat):(AV.ptr o f).stripB=.ptr o f:=b5 rfl
theorem a3R:AV.nilp.stripB=.nilp:=b5 rfl
theorem a3i:AV.nils.stripB=.nils:=b5 rfl
theorem a8I (cs:List AV):(AV.ro cs).stripB=.ro cs:=b5 rfl
theorem a5k (i f:Nat):(AV.loc i f).stripB=.loc i f:=b5 rfl
theorem a5U (o:Nat):(AV.map o).stripB=.map o:=b5 rfl
theorem a3U:AV.nilm.stripB=.nilm:=b5 rfl
theorem a3K (f:Nat) (a b:List AV):(AV.func f a b).stripB=.func f a b:=b5 rfl
theorem a3J:AV.nilf.stripB=.nilf:=b5 rfl
theorem a5s (cs:List AV):(AV.agg cs).stripB=.agg cs:=b5 rfl
theorem a49 (xs:List (List AV)):(AV.fresh xs).weak=.fresh xs:=b5 rfl
theorem a3l (xs:List (List AV)):(AV.fresh xs).strip=.fresh xs:=b5 rfl
theorem a2C (xs:List (List AV)):(AV.fresh xs).stripB=.fresh xs:=b5 rfl
theorem a7z (o f n s:Nat):(AV.sl o f n s).stripB=.sl o f n s:=b5 rfl
theorem a2H (vs:List AV):(AV.tuple vs).stripB=.tuple vs:=b5 rfl
theorem a2n:AV.undef.stripB=.undef:=b5 rfl

/-! what comes behind, as constants that wait: nothing of it is reckoned ahead of its time -/
def b3i {α:Type} (K:α→Option Out) (g:List AV→St→Option Out) (a:α):Option Out:=Go.Cb.seqK (K a) g
def b3S {α:Type} (id:Nat) (K:α→Option Out) (a:α):Option Out:=Go.Cb.blkK id (K a)
theorem b6N {α:Type} (K:α→Option Out) (g:List AV→St→Option Out) (a:α):b3i K g a=Go.Cb.seqK (K a) g:=b5 rfl
theorem b4y {α:Type} (id:Nat) (K:α→Option Out) (a:α):b3S id K a=Go.Cb.blkK id (K a):=b5 rfl
theorem a3t {α:Type} (x:Option α) (f:α→Option Out) (g:List AV→St→Option Out):Go.Cb.seqK (Go.Cb.obind x f) g=Go.Cb.obind x (b3i f g):=by cases x <;> rfl
theorem a3M {α:Type} (id:Nat) (x:Option α) (f:α→Option Out):Go.Cb.blkK id (Go.Cb.obind x f)=Go.Cb.obind x (b3S id f):=by cases x <;> rfl

def a1A (call:b6) (n:Nat) (a:ACode) (fr:List AV) (st:St) (_:Unit):Option Out:=e8 call n a fr st
def b7i (A:Unit→Option Out) (g:List AV→St→Option Out) (u:Unit):Option Out:=Go.Cb.seqK (A u) g
def b7w (id:Nat) (A:Unit→Option Out) (u:Unit):Option Out:=Go.Cb.blkK id (A u)
theorem b40 (call:b6) (n:Nat) (a:ACode) (fr:List AV) (st:St) (u:Unit):a1A call n a fr st u=e8 call n a fr st:=b5 rfl
theorem b5N (A:Unit→Option Out) (g:List AV→St→Option Out) (u:Unit):b7i A g u=Go.Cb.seqK (A u) g:=b5 rfl
theorem b6J (id:Nat) (A:Unit→Option Out) (u:Unit):b7w id A u=Go.Cb.blkK id (A u):=b5 rfl
def brT (c:AV) (A B:Unit→Option Out):Option Out:=match c with
 | .bool true=>A ()
 | .bool false=>B ()
 | _=>none
theorem b0E (A B:Unit→Option Out):brT (.bool true) A B=A ():=b5 rfl
theorem a8h (A B:Unit→Option Out):brT (.bool false) A B=B ():=b5 rfl
theorem j0 {c c':AV} {A B:Unit→Option Out} (h:c=c'):brT c A B=brT c' A B:=by rw [h]
theorem b0q (c:AV) (A B:Unit→Option Out) (g:List AV→St→Option Out):Go.Cb.seqK (brT c A B) g=brT c (b7i A g) (b7i B g):=by
 cases c <;> try rfl
 rename_i b; cases b <;> rfl
theorem b1A (id:Nat) (c:AV) (A B:Unit→Option Out):Go.Cb.blkK id (brT c A B)=brT c (b7w id A) (b7w id B):=by
 cases c <;> try rfl
 rename_i b; cases b <;> rfl
theorem c47 (call:b6) (n:Nat) (c:AV) (a b:ACode) (fr:List AV) (st:St):Go.Cb.br c (e8 call n a fr st) (e8 call n b fr st)=brT c (a1A call n a fr st) (a1A call n b fr st):=by
 cases c <;> try rfl
theorem b4k (call:b6) (n:Nat) (kill:List Nat) (ps:List AOper) (c:Opd) (a b:ACode) (fr:List AV) (st:St) :
 e8 call n (.test kill ps c a b) fr st=a7c call ps ⟨k7 kill fr,fun _=>.undef,st⟩ fun σ=>brT (c.read σ) (a1A call n a σ.fr σ.st) (a1A call n b σ.fr σ.st):=by
 rw [a8p]
 simp only [c47]
def a9c (call:b6) (n:Nat) (x:ACode) (fr:List AV) (st:St):Option Out:=e8 call n (.loop x) fr st
theorem a5O (call:b6) (n:Nat) (x:ACode) (fr:List AV) (st:St):e8 call n (.loop x) fr st=Go.Cb.obind (a9c call n x fr st) some:=by
 unfold a9c; cases e8 call n (.loop x) fr st <;> rfl

theorem WC.br {c:Bool} {A B:Nat→Unit→Option Out} {Q:Out→Prop} (ht:c=true→WC (fun n=>A n ()) Q) (hf:c=false→WC (fun n=>B n ()) Q):WC (fun n=>brT (.bool c) (A n) (B n)) Q:=by
 cases c with
 | true=>exact ht rfl
 | false=>exact hf rfl
theorem WC.loopR {tbl:Nat→Option AFn} {β:Type} {x:ACode} {K:Nat→Out→Option β} {Q:β→Prop} (I:Nat→List AV→St→Prop) {m:Nat} {fr:List AV} {st:St} (h0:I m fr st)
 (hI:∀ m fr st,I m fr st→WC (fun n=>e8 (l0 tbl n) n x fr st) (fun o=>(∃ m' fr' st',o=(.normal,fr',st')∧m' < m∧I m' fr' st')∨(o.1≠.normal∧WC (fun n=>K n o) Q))) :
 WC (fun n=>Go.Cb.obind (a9c (l0 tbl n) n x fr st) (K n)) Q:=WC.obind (WC.loop I h0 hI) fun _ ho=>ho
theorem WC.g2 {β:Type} {c want:Bool} {st:St} {E:Nat→Option (AV×St)} {k:Nat→AV×St→Option β} {Q:β→Prop} (ht:c=want→WC (fun n=>Go.Cb.obind (E n) (k n)) Q) (hf:c=!want→WC (fun n=>k n (.tuple [],st)) Q) :
 WC (fun n=>Go.Cb.obind (gv2 (.bool c) want st (E n)) (k n)) Q:=by
 by_cases h:c=want
 · subst h
   have e:∀ n,gv2 (.bool c) c st (E n)=E n:=fun n=>by cases c <;> rfl
   simp only [e]
   exact ht rfl
 · have h':c=!want:=by cases c <;> cases want <;> simp_all
   have e:∀ n,gv2 (.bool c) want st (E n)=some (.tuple [],st):=fun n=>by subst h'; cases want <;> rfl
   simp only [e,n4]
   exact hf h'
end Go.Cb
/-
 THE ABSTRACT MACHINE, part 37: what operations come to, form by form; all of it under one name.
-/
set_option maxRecDepth 4000
set_option linter.unusedVariables false
set_option linter.unusedSimpArgs false
namespace Go.Cb
def W (a:AV):AV:=AV.weak (AV.stripB a)
def brE (c:AV) (call:b6) (n:Nat) (a b:ACode) (fr:List AV) (st:St):Option Out:=brT c (a1A call n a fr st) (a1A call n b fr st)
def m1 {β:Type} (a:AV) (f:AV→Option β):Option β:=obind (p1 (some (a,AV.undef,([]:St)))) f
def gm {β:Type} (x:AV) (w:Bool) (a:AV) (f:AV→Option β):Option β:=obind (gv x w (some a)) f
theorem j5 {β:Type} {a a':AV} {f:AV→Option β} (h:a=a'):m1 a f=m1 a' f:=by rw [h]
theorem j4 {β:Type} {x x' a a':AV} {w:Bool} {f:AV→Option β} (h1:x=x') (h2:x'=.bool w→a=a'):gm x w a f=gm x' w a' f:=by
 unfold gm
 rw [i7 (e:=some a) (e':=some a') h1 (fun h=>by rw [h2 h])]
end Go.Cb
namespace Go.Cb.R
open Go.Cb
theorem c2M (call:b6) (bx:AV) (st:St) (a:AV):a0T call [a] bx st=some (a,bx,st):=b5 rfl
theorem a5v (call:b6) (bx:AV) (st:St) (o f:Nat):B0 call [.ptr o f] bx st=some (.ptr o f,bx,st):=b5 rfl
theorem a6a (call:b6) (bx:AV) (st:St) (o f:Nat):B0 call [.loc o f] bx st=some (.loc o f,bx,st):=b5 rfl
theorem a7L (call:b6) (bx:AV) (st:St) (cs:List AV):B0 call [.ro cs] bx st=some (.ro cs,bx,st):=b5 rfl
theorem a3F (call:b6) (bx:AV) (st:St) (f:Nat) (a b:List AV):B0 call [.func f a b] bx st=some (.func f a b,bx,st):=b5 rfl
theorem b2v (call:b6) (st:St) (zero:List AV):Q4 zero call [] .undef st=some (.undef,.box zero,st):=b5 rfl
theorem b5z (call:b6) (st:St) (a:AV):U5 call [a] .undef st=if a.plain then some (.undef,.box a.cellsW,st) else none:=b5 rfl
theorem a9M (call:b6) (bx:AV) (st:St) (zero:List AV):J6 zero call [] bx st=some (.ptr st.length 0,bx,st++[.cells zero]):=b5 rfl
theorem b4I (call:b6) (bx:AV) (st:St) (a:AV):Q8 call [a] bx st=if a.plain then some (.ptr st.length 0,bx,st++[.cells a.cellsW]) else none:=b5 rfl
theorem b18 (call:b6) (bx:AV) (st:St) (zero:List AV) (offs:List (Nat×Nat)) (as:List AV):K8 zero offs call as bx st=(G3 offs as zero).map fun cs=>(.agg cs,bx,st):=b5 rfl
theorem a9L (call:b6) (bx:AV) (st:St) (sz:Nat) (zero:List (List AV)) (at_:List Nat) (as:List AV):J2 sz zero at_ call as bx st=(D5 sz at_ as zero).map fun rs=>(.list true rs,bx,st):=b5 rfl
theorem b4Z (call:b6) (st:St) (i off n:Nat) (agg:Bool) (cs:List AV):I6 i agg n call [.loc i off] (.box cs) st=(j3 agg n (cs.drop off)).map (fun v=>(v,.box cs,st)):=by unfold I6; simp only [if_true]
theorem b5X (call:b6) (bx:AV) (st:St) (o off n:Nat) (agg:Bool):A0 agg n call [.ptr o off] bx st=match st[o]? with|some (.cells cs)=>(j3 agg n (cs.drop off)).map (fun v=>(v,bx,st))|_=>none:=b5 rfl
theorem b6P (call:b6) (bx:AV) (st:St) (n:Nat) (agg:Bool) (cs:List AV):O4 agg n call [.ro cs] bx st=(j3 agg n cs).map (fun v=>(v,bx,st)):=b5 rfl
theorem b28 (call:b6) (bx:AV) (st:St) (n:Nat) (agg:Bool) (cs:List AV):D2 agg n call [.ro cs] bx st=(j3 agg n cs).map (fun v=>(v,bx,st)):=b5 rfl
theorem ldAn_ptr (call:b6) (bx:AV) (st:St) (o off n:Nat) (agg:Bool):D2 agg n call [.ptr o off] bx st=match st[o]? with|some (.cells cs)=>(j3 agg n (cs.drop off)).map (fun v=>(v,bx,st))|_=>none:=b5 rfl
theorem b1Z (call:b6) (st:St) (i off:Nat) (cs:List AV):N1 i call [.loc i off] (.box cs) st=match cs[off]? with|some c=>some (c,.box (cs.set off c.weak1),st)|none=>none:=by unfold N1; simp only [if_true]; rfl
theorem b20 (call:b6) (bx:AV) (st:St) (o off:Nat):z6 call [.ptr o off] bx st=match st[o]? with|some (.cells cs)=>(match cs[off]? with|some c=>some (c,bx,st.set o (.cells (cs.set off c.weak1)))|none=>none)|_=>none:=b5 rfl
theorem b6s (call:b6) (st:St) (i n off:Nat) (x:AV) (cs:List AV):O5 i n call [.loc i off,x] (.box cs) st=if x.plain=true∧x.cells.length=n∧off+n≤cs.length then some (.tuple [],.box (n7 cs off x.cells),st) else none:=by unfold O5; simp only [true_and]
theorem b6b (call:b6) (bx:AV) (st:St) (o off n:Nat) (x:AV):D3 n call [.ptr o off,x] bx st=match st[o]? with|some (.cells cs)=>(if x.plain=true∧x.cells.length=n∧off+n≤cs.length then some (.tuple [],bx,st.set o (.cells (n7 cs off x.cells))) else none)|_=>none:=by unfold D3; simp only [fL_eq]; rfl
theorem b2W (call:b6) (bx:AV) (st:St) (off o f:Nat):M7 off call [.ptr o f] bx st=some (.ptr o (f+off),bx,st):=b5 rfl
theorem b23 (call:b6) (bx:AV) (st:St) (off o f:Nat):M7 off call [.loc o f] bx st=some (.loc o (f+off),bx,st):=b5 rfl
theorem b5o (call:b6) (bx:AV) (st:St) (off:Nat) (cs:List AV):M7 off call [.ro cs] bx st=some (.ro (cs.drop off),bx,st):=b5 rfl
theorem b9z (call:b6) (bx:AV) (st:St) (off n:Nat) (agg:Bool) (cs:List AV):S3 off n agg call [.agg cs] bx st=if off+n≤cs.length then (j3 agg n (cs.drop off)).map (fun v=>(v,bx,st)) else none:=b5 rfl
theorem b86 (call:b6) (bx:AV) (st:St) (sz:Nat) (w:Bool) (xs:List (List AV)) (k:IntKind) (i:Int):F9 sz call [.list w xs,.int k i] bx st=if 0≤i then (match xs[i.toNat]? with|some r=>if r.length=sz then some (.ro r,bx,st) else none|none=>none) else none:=b5 rfl
theorem b6n (call:b6) (bx:AV) (st:St) (sz o f n s:Nat) (k:IntKind) (i:Int):F9 sz call [.sl o f n s,.int k i] bx st=if 0≤i∧i < (n:Int)∧s=sz then some (.ptr o (f+i.toNat*sz),bx,st) else none:=b5 rfl
theorem a7O (call:b6) (bx:AV) (st:St):B9 call [.nils] bx st=some (.int .i64 0,bx,st):=b5 rfl
theorem b2P (call:b6) (bx:AV) (st:St) (o f n s:Nat):B9 call [.sl o f n s] bx st=some (.int .i64 n,bx,st):=b5 rfl
theorem a8b (call:b6) (bx:AV) (st:St) (sz:Nat) (zero:List (List AV)) (at_:List Nat) (as:List AV):H2 sz zero at_ call as bx st=(r7 sz at_ as zero).map fun rs=>(.fresh rs,bx,st):=b5 rfl
theorem a7T (call:b6) (bx:AV) (st:St) (sz:Nat) (zero:List (List AV)) (at_:List Nat) (as:List AV):H3 sz zero at_ call as bx st=(r7 sz at_ as zero).map fun rs=>(.sl st.length 0 zero.length sz,bx,st++[.cells rs.flatten]):=b5 rfl
theorem b6k (call:b6) (bx:AV) (st:St) (k k':IntKind) (a b:Int):W2 call [.int k a,.int k' b] bx st=if k=k' then some (.int k (b3x a b),bx,st) else none:=b5 rfl
theorem b5i (call:b6) (bx:AV) (st:St) (neg:Bool) (k k':IntKind) (a b:Int) (s t:List Nat):T9 neg call [.agg [.int k a,.str s],.agg [.int k' b,.str t]] bx st=if k=k' then some (.bool (a6k neg a b s t),bx,st) else none:=b5 rfl
theorem a3A (sz:Nat) (rs:List (List AV)):r7 sz [] [] rs=some rs:=b5 rfl
theorem a3g (sz i:Nat) (is:List Nat) (p:AV) (ps:List AV) (rs:List (List AV)):r7 sz (i::is) (p::ps) rs=if p.plain=true∧p.cells.length=sz∧i < rs.length then r7 sz is ps (rs.set i (p.cells.map AV.cellW1)) else none:=b5 rfl
theorem b0X (call:b6) (bx:AV) (st:St) (sz bytes:Nat) (ys:List (List AV)) (gs:List AV):G6 sz bytes call (.list true []::.fresh ys::gs) bx st=if ys.isEmpty=false∧k8 sz ys=true∧ys.length*bytes≤2 ^ 47∧M3 none st.length gs=true then some (.sl st.length 0 ys.length sz,bx,st++[.cells ys.flatten]) else none:=b5 rfl
theorem a7U (call:b6) (bx:AV) (st:St) (sz bytes:Nat) (ys:List (List AV)) (gs:List AV):G6 sz bytes call (.nils::.fresh ys::gs) bx st=if ys.isEmpty=false∧k8 sz ys=true∧ys.length*bytes≤2 ^ 47∧M3 none st.length gs=true then some (.sl st.length 0 ys.length sz,bx,st++[.cells ys.flatten]) else none:=b5 rfl
theorem b2F (call:b6) (bx:AV) (st:St) (sz bytes o n s:Nat) (ys:List (List AV)) (gs:List AV):G6 sz bytes call (.sl o 0 n s::.fresh ys::gs) bx st=match st[o]? with|some (.cells xs)=>(if s=sz∧ys.isEmpty=false∧k8 sz ys=true∧xs.length=n*sz∧(n+ys.length)*bytes≤2 ^ 47∧M3 (some o) st.length gs=true then some (.sl st.length 0 (n+ys.length) sz,bx,st.set o .dead++[.cells (xs++ys.flatten)]) else none)|_=>none:=b5 rfl
theorem b24 (o:Option Nat) (n:Nat):M3 o n []=true:=b5 rfl
theorem b11 (o:Option Nat) (n p f:Nat) (gs:List AV):M3 o n (.ptr p f::gs)=(Nat.blt p n && (match o with|some o=>!Nat.beq p o|none=>true) && M3 o n gs):=b5 rfl
theorem b4U {α:Type}:([]:List (List α)).flatten=[]:=b5 rfl
theorem b6C {α:Type} (a:List α) (l:List (List α)):(a::l).flatten=a++l.flatten:=b5 rfl
theorem b9J (call:b6) (bx:AV) (st:St) (w:Bool) (xs:List (List AV)):R8 call [.list w xs] bx st=(L7 xs).map fun s=>(.str s,bx,st):=b5 rfl
theorem a7x:L7 []=some []:=b5 rfl
theorem a8y (n:Int) (rs:List (List AV)):L7 ([.int .u8 n]::rs)=if 0≤n∧n < 256 then (L7 rs).map (n.toNat::·) else none:=b5 rfl
theorem b2U (call:b6) (bx:AV) (st:St) (len sz:Nat) (cs:List AV) (k:IntKind) (i:Int):J1 len sz call [.ro cs,.int k i] bx st=if 0≤i∧i < (len:Int) then some (.ro (cs.drop (i.toNat*sz)),bx,st) else none:=b5 rfl
theorem b1d (call:b6) (bx:AV) (st:St) (len sz o f:Nat) (k:IntKind) (i:Int):J1 len sz call [.ptr o f,.int k i] bx st=if 0≤i∧i < (len:Int) then some (.ptr o (f+i.toNat*sz),bx,st) else none:=b5 rfl
theorem a9v (call:b6) (bx:AV) (st:St) (len sz o f:Nat) (k:IntKind) (i:Int):J1 len sz call [.loc o f,.int k i] bx st=if 0≤i∧i < (len:Int) then some (.loc o (f+i.toNat*sz),bx,st) else none:=b5 rfl
theorem b6h (call:b6) (bx:AV) (st:St) (s:List Nat) (k:IntKind) (i:Int):L8 call [.str s,.int k i] bx st=if 0≤i then (match s[i.toNat]? with|some b=>some (.int .u8 b,bx,st)|none=>none) else none:=b5 rfl
theorem b91 (call:b6) (bx:AV) (st:St) (lo hi:Bool) (s:List Nat) (r:List AV):P8 lo hi call (.str s::r) bx st=(C6 lo hi r s.length).map fun p=>(.str ((s.take p.2).drop p.1),bx,st):=b5 rfl
theorem b6w (call:b6) (bx:AV) (st:St) (sz:Nat) (lo hi:Bool) (o f n s:Nat) (r:List AV):P2 sz lo hi call (.sl o f n s::r) bx st=if s=sz then (slB lo hi r n).map fun p=>(.sl o (f+p.1*sz) (p.2 - p.1) s,bx,st) else none:=b5 rfl
theorem c0g (call:b6) (bx:AV) (st:St) (sz:Nat) (lo hi:Bool) (w:Bool) (xs:List (List AV)) (r:List AV):P2 sz lo hi call (.list w xs::r) bx st=if k8 sz xs then (C6 lo hi r xs.length).map fun p=>(.list false ((xs.take p.2).drop p.1),bx,st) else none:=b5 rfl
theorem b9j (call:b6) (bx:AV) (st:St) (w:Bool) (xs:List (List AV)):R7 call [.list w xs] bx st=some (.list true [],bx,st):=b5 rfl
theorem b99 (call:b6) (bx:AV) (st:St) (len sz:Nat) (lo hi:Bool) (cs r:List AV):S8 len sz lo hi call (.ro cs::r) bx st=if cs.length=len*sz then (C6 lo hi r len).map fun p=>(.list false (((Y2 sz len cs).take p.2).drop p.1),bx,st) else none:=b5 rfl
theorem b9x (call:b6) (bx:AV) (st:St) (op:BinOp) (a b:AV):t6 op call [a,b] bx st=(l7 op a b).map (fun v=>(v,bx,st)):=b5 rfl
theorem b5s (call:b6) (bx:AV) (st:St) (op:BinOp) (a b:AV):N3 op call [a,b] bx st=(a5W op a b).map (fun v=>(v,bx,st)):=b5 rfl
theorem b6I (call:b6) (bx:AV) (st:St) (op:BinOp) (a b:AV):O0 op call [a,b] bx st=(Z3 op a b).map (fun v=>(v,bx,st)):=b5 rfl
theorem b5B (k:IntKind) (a b:Int):l7 .add (.int k a) (.int k b)=some (.int k (i6 k (F4 a b))):=by simp only [l7,if_true]
theorem b6F (k:IntKind) (a b:Int):l7 .sub (.int k a) (.int k b)=some (.int k (i6 k (a4k a b))):=by simp only [l7,if_true]
theorem b4M (k:IntKind) (a b:Int):l7 .mul (.int k a) (.int k b)=some (.int k (i6 k (a*b))):=by simp only [l7,if_true]
theorem b6B (k:IntKind) (a b:Int):l7 .quo (.int k a) (.int k b)=if b=0 then none else some (.int k (k.wrap (a.tdiv b))):=by simp only [l7,if_true]
theorem b5b (k:IntKind) (a b:Int):l7 .rem (.int k a) (.int k b)=if b=0 then none else some (.int k (a.tmod b)):=by simp only [l7,if_true]
theorem b6K (k:IntKind) (a b:Int):l7 .eql (.int k a) (.int k b)=some (.bool (eqI a b)):=by simp only [l7,if_true]
theorem b6e (k:IntKind) (a b:Int):l7 .neq (.int k a) (.int k b)=some (.bool !(eqI a b)):=by simp only [l7,if_true]
theorem b60 (k:IntKind) (a b:Int):l7 .lss (.int k a) (.int k b)=some (.bool (ltI a b)):=by simp only [l7,if_true]
theorem b6W (k:IntKind) (a b:Int):l7 .leq (.int k a) (.int k b)=some (.bool !(ltI b a)):=by simp only [l7,if_true]
theorem b6y (k:IntKind) (a b:Int):l7 .gtr (.int k a) (.int k b)=some (.bool (ltI b a)):=by simp only [l7,if_true]
theorem b6V (k:IntKind) (a b:Int):l7 .geq (.int k a) (.int k b)=some (.bool !(ltI a b)):=by simp only [l7,if_true]
theorem b5r (a b:List Nat):l7 .add (.str a) (.str b)=if a.length+b.length≤2 ^ 62 then some (.str (a++b)) else none:=b5 rfl
theorem b4w (a b:List Nat):l7 .eql (.str a) (.str b)=some (.bool (eqN a b)):=b5 rfl
theorem b5A (a b:List Nat):l7 .neq (.str a) (.str b)=some (.bool !(eqN a b)):=b5 rfl
theorem b5P (a b:List Nat):l7 .lss (.str a) (.str b)=some (.bool (l3 a b)):=b5 rfl
theorem b5W (a b:Bool):a5W .eql (.bool a) (.bool b)=some (.bool (a == b)):=b5 rfl
theorem b5C (a b:Bool):a5W .neq (.bool a) (.bool b)=some (.bool !(a == b)):=b5 rfl
theorem b2z (o f:Nat):Z3 .eql (.ptr o f) .nilp=some (.bool false):=b5 rfl
theorem b10 (o f:Nat):Z3 .eql .nilp (.ptr o f)=some (.bool false):=b5 rfl
theorem b2i:Z3 .eql .nilp .nilp=some (.bool true):=b5 rfl
theorem b2w (o f:Nat):Z3 .neq (.ptr o f) .nilp=some (.bool true):=b5 rfl
theorem b2O (o f:Nat):Z3 .neq .nilp (.ptr o f)=some (.bool true):=b5 rfl
theorem b2k:Z3 .neq .nilp .nilp=some (.bool false):=b5 rfl
theorem b4A (call:b6) (bx:AV) (st:St) (b:Bool):W5 .not call [.bool b] bx st=some (.bool !b,bx,st):=b5 rfl
theorem b47 (call:b6) (bx:AV) (st:St) (k:IntKind) (n:Int):W5 .neg call [.int k n] bx st=some (.int k (i6 k (0 - n)),bx,st):=b5 rfl
theorem b6z (call:b6) (bx:AV) (st:St) (k k':IntKind) (n:Int):N6 k call [.int k' n] bx st=some (.int k (i6 k n),bx,st):=b5 rfl
theorem b9G (call:b6) (bx:AV) (st:St) (f n:Nat) (as:List AV):S5 f n call as bx st=if r8 as then some (.func f ((as.map AV.weak).take n) ((as.map AV.weak).drop n),bx,st) else none:=b5 rfl
theorem b85 (call:b6) (bx:AV) (st:St):X3 call [] bx st=some (.map st.length,bx,st++[.map []]):=b5 rfl
theorem b9y (call:b6) (bx:AV) (st:St) (i:Nat) (vs:List AV):P6 i call [.tuple vs] bx st=match vs[i]? with|some v=>some (v.weak,bx,st)|none=>none:=b5 rfl
theorem b4z (call:b6) (bx:AV) (st:St) (s:List Nat):N5 call [.str s] bx st=some (.int .i64 s.length,bx,st):=b5 rfl
theorem b4V (call:b6) (bx:AV) (st:St) (w:Bool) (xs:List (List AV)):B9 call [.list w xs] bx st=some (.int .i64 xs.length,bx,st):=b5 rfl
theorem b83 (call:b6) (bx:AV) (st:St) (sz bytes:Nat) (w:Bool) (xs ys:List (List AV)):T5 sz bytes call [.list true xs,.list w ys] bx st=if k8 sz xs && k8 sz ys && decide ((xs.length+ys.length)*bytes≤2 ^ 47) then some (.list true (xs++ys),bx,st) else none:=b5 rfl
theorem takeVal_t (n:Nat) (cs:List AV):j3 true n cs=if n≤cs.length then some (.agg ((cs.take n).map AV.weak1)) else none:=b5 rfl
theorem a8P (n:Nat) (c:AV) (cs:List AV):j3 false n (c::cs)=some c.weak1:=b5 rfl
theorem a6f (cs:List AV):G3 [] [] cs=some cs:=b5 rfl
theorem a5r (off n:Nat) (offs:List (Nat×Nat)) (p:AV) (ps cs:List AV):G3 ((off,n)::offs) (p::ps) cs=if p.plain=true∧p.cells.length=n∧off+n≤cs.length then G3 offs ps (n7 cs off p.cells) else none:=b5 rfl
theorem a5o (sz:Nat) (rs:List (List AV)):D5 sz [] [] rs=some rs:=b5 rfl
theorem a4Z (sz i:Nat) (is:List Nat) (p:AV) (ps:List AV) (rs:List (List AV)):D5 sz (i::is) (p::ps) rs=if p.plain=true∧p.cells.length=sz∧i < rs.length then D5 sz is ps (rs.set i (p.cells.map AV.weak1)) else none:=b5 rfl
theorem b0G (cs:List AV) (off:Nat) (new:List AV):n7 cs off new=cs.take off++new++cs.drop (off+new.length):=b5 rfl
theorem a7F (n:Nat):C6 false false [] n=some (0,n):=b5 rfl
theorem a8C (l:AV) (n:Nat):C6 true false [l] n=(M2 l n).map fun l=>(l,n):=b5 rfl
theorem a8x (h:AV) (n:Nat):C6 false true [h] n=(M2 h n).map fun h=>(0,h):=b5 rfl
theorem a7p (l h:AV) (n:Nat):C6 true true [l,h] n=match M2 h n with|some h=>(M2 l h).map (fun l=>(l,h))|none=>none:=b5 rfl
theorem b2o (k:IntKind) (i:Int) (top:Nat):M2 (.int k i) top=if 0≤i∧i≤(top:Int) then some i.toNat else none:=b5 rfl
theorem a9K (sz:Nat):k8 sz []=true:=b5 rfl
theorem b03 (sz:Nat) (r:List AV) (rs:List (List AV)):k8 sz (r::rs)=(r.length == sz):=b5 rfl
theorem b19 (i:Nat) (cs:List AV):b9C i (.box cs)=.loc i 0:=b5 rfl
theorem a4J (b:Bool):AV.plain (.bool b)=true:=b5 rfl
theorem a5w (b:Bool):AV.cells (.bool b)=[.bool b]:=b5 rfl
theorem a3y (b:Bool):AV.cellW1 (.bool b)=.bool b:=b5 rfl
theorem a3P (b:Bool):AV.cellsW (.bool b)=[.bool b]:=b5 rfl
theorem a7D (k:IntKind) (n:Int):AV.plain (.int k n)=true:=b5 rfl
theorem a7E (k:IntKind) (n:Int):AV.cells (.int k n)=[.int k n]:=b5 rfl
theorem a5l (k:IntKind) (n:Int):AV.cellW1 (.int k n)=.int k n:=b5 rfl
theorem a6u (k:IntKind) (n:Int):AV.cellsW (.int k n)=[.int k n]:=b5 rfl
theorem a8K (s:List Nat):AV.plain (.str s)=true:=b5 rfl
theorem a7w (s:List Nat):AV.cells (.str s)=[.str s]:=b5 rfl
theorem a5V (s:List Nat):AV.cellW1 (.str s)=.str s:=b5 rfl
theorem a5E (s:List Nat):AV.cellsW (.str s)=[.str s]:=b5 rfl
theorem a5R (w:Bool) (xs:List (List AV)):AV.plain (.list w xs)=true:=b5 rfl
theorem a4R (w:Bool) (xs:List (List AV)):AV.cells (.list w xs)=[.list w xs]:=b5 rfl
theorem a7G (o f:Nat):AV.plain (.ptr o f)=true:=b5 rfl
theorem a8q (o f:Nat):AV.cells (.ptr o f)=[.ptr o f]:=b5 rfl
theorem a5j (o f:Nat):AV.cellW1 (.ptr o f)=.ptr o f:=b5 rfl
theorem a5y (o f:Nat):AV.cellsW (.ptr o f)=[.ptr o f]:=b5 rfl
theorem a5I :AV.plain (.nilp)=true:=b5 rfl
theorem a5B :AV.cells (.nilp)=[.nilp]:=b5 rfl
theorem a3C :AV.cellW1 (.nilp)=.nilp:=b5 rfl
theorem a3j :AV.cellsW (.nilp)=[.nilp]:=b5 rfl
theorem b1D (cs:List AV):AV.plain (.ro cs)=true:=b5 rfl
theorem b0B (cs:List AV):AV.cells (.ro cs)=[.ro cs]:=b5 rfl
theorem a8l (cs:List AV):AV.cellW1 (.ro cs)=.ro cs:=b5 rfl
theorem a8J (cs:List AV):AV.cellsW (.ro cs)=[.ro cs]:=b5 rfl
theorem a7M (o:Nat):AV.plain (.map o)=true:=b5 rfl
theorem a7y (o:Nat):AV.cells (.map o)=[.map o]:=b5 rfl
theorem a5e (o:Nat):AV.cellW1 (.map o)=.map o:=b5 rfl
theorem a4C (o:Nat):AV.cellsW (.map o)=[.map o]:=b5 rfl
theorem a4Q :AV.plain (.nilm)=true:=b5 rfl
theorem a6g :AV.cells (.nilm)=[.nilm]:=b5 rfl
theorem a3T :AV.cellW1 (.nilm)=.nilm:=b5 rfl
theorem a3O :AV.cellsW (.nilm)=[.nilm]:=b5 rfl
theorem a5Y (f:Nat) (a b:List AV):AV.plain (.func f a b)=true:=b5 rfl
theorem a5J (f:Nat) (a b:List AV):AV.cells (.func f a b)=[.func f a b]:=b5 rfl
theorem a3D (f:Nat) (a b:List AV):AV.cellW1 (.func f a b)=.func f a b:=b5 rfl
theorem a3G (f:Nat) (a b:List AV):AV.cellsW (.func f a b)=[.func f a b]:=b5 rfl
theorem a6z :AV.plain (.nilf)=true:=b5 rfl
theorem a4I :AV.cells (.nilf)=[.nilf]:=b5 rfl
theorem a3B :AV.cellW1 (.nilf)=.nilf:=b5 rfl
theorem a3W :AV.cellsW (.nilf)=[.nilf]:=b5 rfl
theorem b0e (o f n s:Nat):AV.plain (.sl o f n s)=true:=b5 rfl
theorem b1c (o f n s:Nat):AV.cells (.sl o f n s)=[.sl o f n s]:=b5 rfl
theorem a7V (o f n s:Nat):AV.cellW1 (.sl o f n s)=.sl o f n s:=b5 rfl
theorem a8E (o f n s:Nat):AV.cellsW (.sl o f n s)=[.sl o f n s]:=b5 rfl
theorem a3k (t:Nat) (v:AV):AV.plain (.iface t v)=true:=b5 rfl
theorem a3Q (t:Nat) (v:AV):AV.cells (.iface t v)=[.iface t v]:=b5 rfl
theorem a2I (t:Nat) (v:AV):AV.cellW1 (.iface t v)=.iface t v:=b5 rfl
theorem a2w (t:Nat) (v:AV):AV.cellsW (.iface t v)=[.iface t v]:=b5 rfl
theorem a6e :AV.plain (.nili)=true:=b5 rfl
theorem a6q :AV.cells (.nili)=[.nili]:=b5 rfl
theorem a3u :AV.cellW1 (.nili)=.nili:=b5 rfl
theorem a3w :AV.cellsW (.nili)=[.nili]:=b5 rfl
theorem a5N :AV.plain (.nils)=true:=b5 rfl
theorem a5m :AV.cells (.nils)=[.nils]:=b5 rfl
theorem a3S :AV.cellW1 (.nils)=.nils:=b5 rfl
theorem a3b :AV.cellsW (.nils)=[.nils]:=b5 rfl
theorem a3e (w:Bool) (xs:List (List AV)):AV.cellW1 (.list w xs)=.list (w && xs.isEmpty) xs:=b5 rfl
theorem plain_agg (cs:List AV):AV.plain (.agg cs)=true:=b5 rfl
theorem a8m (cs:List AV):AV.cells (.agg cs)=cs:=b5 rfl
theorem a4Y (cs:List AV):AV.cellsW (.agg cs)=cs:=b5 rfl
theorem a3V (w:Bool) (xs:List (List AV)):AV.cellsW (.list w xs)=[.list (w && xs.isEmpty) xs]:=b5 rfl
theorem allPlain_n:r8 []=true:=b5 rfl
theorem allPlain_c (a:AV) (as:List AV):r8 (a::as)=(a.plain && r8 as):=b5 rfl
theorem b88 {α β:Type} (f:α→β):List.map f []=[]:=b5 rfl
theorem b9b {α β:Type} (f:α→β) (a:α) (l:List α):List.map f (a::l)=f a::l.map f:=b5 rfl
theorem b5y {α:Type} (l:List α):List.drop 0 l=l:=b5 rfl
theorem b4Q {α:Type} (n:Nat) (a:α) (l:List α):List.drop (n+1) (a::l)=l.drop n:=b5 rfl
theorem b5Z {α:Type} (n:Nat):List.drop n ([]:List α)=[]:=by cases n <;> rfl
theorem b6X {α:Type} (l:List α):List.take 0 l=[]:=b5 rfl
theorem b6R {α:Type} (n:Nat) (a:α) (l:List α):List.take (n+1) (a::l)=a::l.take n:=b5 rfl
theorem b6S {α:Type} (n:Nat):List.take n ([]:List α)=[]:=by cases n <;> rfl
theorem b9U {α:Type}:([]:List α).length=0:=b5 rfl
theorem b9Y {α:Type} (a:α) (l:List α):(a::l).length=l.length+1:=b5 rfl
theorem b9h {α:Type} (a:α) (l m:List α):(a::l)++m=a::(l++m):=b5 rfl
theorem b9e {α:Type} (l:List α):[]++l=l:=b5 rfl
theorem b26 {α:Type} (l:List α):l++[]=l:=List.append_nil l
theorem b97 {α:Type} (a:α) (l:List α):(a::l)[0]?=some a:=b5 rfl
theorem c0a {α:Type} (n:Nat) (a:α) (l:List α):(a::l)[n+1]?=l[n]?:=b5 rfl
theorem b95 {α:Type} (a b:α) (l:List α):(a::l).set 0 b=b::l:=b5 rfl
theorem b9a {α:Type} (n:Nat) (a b:α) (l:List α):(a::l).set (n+1) b=a::l.set n b:=b5 rfl
theorem b90 {α:Type} (a:α):List.replicate 0 a=[]:=b5 rfl
theorem c0f {α:Type} (n:Nat) (a:α):List.replicate (n+1) a=a::List.replicate n a:=b5 rfl
theorem b6a {α β:Type} (f:α→β) (a:α):Option.map f (some a)=some (f a):=b5 rfl
theorem b4N {α β:Type} (f:α→β):Option.map f none=none:=b5 rfl
theorem b9S {α:Type}:([]:List α).isEmpty=true:=b5 rfl
theorem b81 {α:Type} (a:α) (l:List α):(a::l).isEmpty=false:=b5 rfl
theorem b80 {α:Type} (a b:α):(if True then a else b)=a:=if_pos trivial
theorem b9H {α:Type} (a b:α):(if False then a else b)=b:=if_neg (fun h=>h)
theorem b9r {α:Type} (a b:α):(if true=true then a else b)=a:=if_pos rfl
theorem b9B {α:Type} (a b:α):(if false=true then a else b)=b:=if_neg (fun h=>by cases h)
theorem b41:(true=false)=False:=by simp
theorem b5I:(false=true)=False:=by simp
theorem c0d:(!true)=false:=b5 rfl
theorem b9I:(!false)=true:=b5 rfl
theorem b9X (b:Bool):(true && b)=b:=b5 rfl
theorem b9v (b:Bool):(b && true)=b:=by cases b <;> rfl
theorem b9N (b:Bool):(false && b)=false:=b5 rfl
theorem b9R (b:Bool):(b && false)=false:=by cases b <;> rfl
theorem c4K (b:Bool):(true || b)=true:=b5 rfl
theorem c36 (b:Bool):(b || true)=true:=by cases b <;> rfl
theorem c3h (b:Bool):(false || b)=b:=b5 rfl
theorem c4w (b:Bool):(b || false)=b:=by cases b <;> rfl
theorem b9q (p:Prop):(p∧True)=p:=by simp
theorem b92 (p:Prop):(True∧p)=p:=by simp
theorem b9W:decide True=true:=b5 rfl
theorem b9A:decide False=false:=b5 rfl
theorem eqs {α:Type} (a:α):(a=a)=True:=by simp
theorem nn (n:Nat):(0≤(n:Int))=True:=by simp
theorem tn (n:Nat):(n:Int).toNat=n:=Int.toNat_natCast n
theorem b6g (m n:Nat):((m:Int)≤(n:Int))=(m≤n):=by simp
theorem b6G (n:Nat):(n≤n)=True:=by simp
theorem c4o (i j:Nat):ltI (i:Int) (j:Int)=decide (i < j):=ltN i j
theorem c4k (i j:Nat):eqI (i:Int) (j:Int)=decide (i=j):=c2x i j
theorem c0p (c:AV) (call:b6) (n:Nat) (a b:ACode) (fr:List AV) (st:St):brE c call n a b fr st=brT c (a1A call n a fr st) (a1A call n b fr st):=b5 rfl
theorem c5j:(0 < (1:Nat))=True:=by simp
theorem c4Y:(0 < (3:Nat))=True:=by simp
theorem c3I:(1 < (3:Nat))=True:=by simp
theorem c3F:(2 < (3:Nat))=True:=by simp
theorem il0:(0≤(0:Int))=True:=by simp
theorem it0:(0:Int).toNat=0:=b5 rfl
theorem il1:(0≤(1:Int))=True:=by simp
theorem it1:(1:Int).toNat=1:=b5 rfl
theorem il2:(0≤(2:Int))=True:=by simp
theorem it2:(2:Int).toNat=2:=b5 rfl
theorem m41:4*1=(4:Nat):=b5 rfl
theorem W_e (a:AV):W a=AV.weak (AV.stripB a):=b5 rfl
theorem c5g {β:Type} (a:AV) (f:AV→Option β):m1 a f=f a:=b5 rfl
theorem b2I {β:Type} (c w:Bool) (a:AV) (f:AV→Option β):gm (.bool c) w a f=f (gV (.bool c) w a):=by unfold gm; rw [a6V,n4]
theorem b0U {β:Type} (x:AV) (w b want:Bool) (a:AV) (f:AV→Option β):gm (gV x w (.bool b)) want a f=f (gV (gV x w (.bool b)) want a):=by unfold gm; rw [a4n,n4]
theorem b1S {β:Type} (w:Bool) (a:AV) (f:AV→Option β):gm (.tuple []) w a f=f (.tuple []):=by unfold gm; rw [a6X,n4]
theorem b9T (n:Nat):0+n=n:=Nat.zero_add n
theorem c0u (n:Nat):n+0=n:=b5 rfl
theorem b4l (n:Nat):(n == n)=true:=by simp
end Go.Cb.R
namespace Go.Cb
open Go.Cb.R
theorem SS:type_of% (And.intro (And.intro (And.intro (And.intro (And.intro (And.intro (And.intro (And.intro (@exec_seqK) (@a7S)) (And.intro (@b08) (And.intro (@a7n) (@a8O)))) (And.intro (And.intro (@a06) (And.intro (@a7t) (@b0L))) (And.intro (@a2u) (And.intro (@a1X) (@a4E))))) (And.intro (And.intro (And.intro (@a3r) (@b6N)) (And.intro (@b4y) (And.intro (@a3t) (@a3M)))) (And.intro (And.intro (@b40) (And.intro (@b5N) (@b6J))) (And.intro (@b0E) (And.intro (@a8h) (@b0q)))))) (And.intro (And.intro (And.intro (And.intro (@b1A) (@a5O)) (And.intro (@b3d) (And.intro (@a1u) (@n4)))) (And.intro (And.intro (@c0j) (And.intro (@b9i) (@b9c))) (And.intro (@c0s) (And.intro (@a6X) (@b6r))))) (And.intro (And.intro (And.intro (@b5f) (@b61)) (And.intro (@b5k) (And.intro (@b0R) (@b93)))) (And.intro (And.intro (@b9P) (And.intro (@b9g) (@b9l))) (And.intro (@b25) (And.intro (@a6V) (@a4n))))))) (And.intro (And.intro (And.intro (And.intro (And.intro (@b2e) (@b1i)) (And.intro (@a8o) (And.intro (@b5K) (@b5T)))) (And.intro (And.intro (@b2L) (And.intro (@b0g) (@a8u))) (And.intro (@b0M) (And.intro (@b0n) (@a7X))))) (And.intro (And.intro (And.intro (@b0x) (@a7q)) (And.intro (@a8a) (And.intro (@b2d) (@a9k)))) (And.intro (And.intro (@b1e) (And.intro (@a8v) (@a7J))) (And.intro (@a7N) (And.intro (@w9) (@b2K)))))) (And.intro (And.intro (And.intro (And.intro (@a5c) (@a8f)) (And.intro (@a4X) (And.intro (@a6s) (@b0J)))) (And.intro (And.intro (@a6m) (And.intro (@a7r) (@a7H))) (And.intro (@a5X) (And.intro (@b0f) (@a6d))))) (And.intro (And.intro (And.intro (@a8w) (And.intro (@a4L) (@a5Q))) (And.intro (@M4) (And.intro (@a5Z) (@a5F)))) (And.intro (And.intro (@a8c) (And.intro (@a8z) (@a5D))) (And.intro (@a7P) (And.intro (@a5q) (@a5x)))))))) (And.intro (And.intro (And.intro (And.intro (And.intro (And.intro (@a9t) (@a8N)) (And.intro (@a7u) (And.intro (@a4K) (@a6l)))) (And.intro (And.intro (@a4O) (And.intro (@a8B) (@a9w))) (And.intro (@a3q) (And.intro (@a3p) (@a3z))))) (And.intro (And.intro (And.intro (@a5n) (@a6r)) (And.intro (@a3N) (And.intro (@a5S) (@a3R)))) (And.intro (And.intro (@a3i) (And.intro (@a8I) (@a5k))) (And.intro (@a5U) (And.intro (@a3U) (@a3K)))))) (And.intro (And.intro (And.intro (And.intro (@a3J) (@a5s)) (And.intro (@a49) (And.intro (@a3l) (@a2C)))) (And.intro (And.intro (@a7z) (And.intro (@a2H) (@a2n))) (And.intro (@c2M) (And.intro (@a5v) (@a6a))))) (And.intro (And.intro (And.intro (@a7L) (@a3F)) (And.intro (@b2v) (And.intro (@b5z) (@a9M)))) (And.intro (And.intro (@b4I) (And.intro (@b18) (@a9L))) (And.intro (@b4Z) (And.intro (@b5X) (@b6P))))))) (And.intro (And.intro (And.intro (And.intro (And.intro (@b28) (@ldAn_ptr)) (And.intro (@b1Z) (And.intro (@b20) (@b6s)))) (And.intro (And.intro (@b6b) (And.intro (@b2W) (@b23))) (And.intro (@b5o) (And.intro (@b9z) (@b86))))) (And.intro (And.intro (And.intro (@b6n) (@a7O)) (And.intro (@b2P) (And.intro (@a8b) (@a7T)))) (And.intro (And.intro (@b6k) (And.intro (@b5i) (@a3A))) (And.intro (@a3g) (And.intro (@b0X) (@a7U)))))) (And.intro (And.intro (And.intro (And.intro (@b2F) (@b24)) (And.intro (@b11) (And.intro (@b4U) (@b6C)))) (And.intro (And.intro (@b9J) (And.intro (@a7x) (@a8y))) (And.intro (@b2U) (And.intro (@b1d) (@a9v))))) (And.intro (And.intro (And.intro (@b6h) (And.intro (@b91) (@b6w))) (And.intro (@c0g) (And.intro (@b9j) (@b99)))) (And.intro (And.intro (@b9x) (And.intro (@b5s) (@b6I))) (And.intro (@b5B) (And.intro (@b6F) (@b4M))))))))) (And.intro (And.intro (And.intro (And.intro (And.intro (And.intro (And.intro (@b6B) (@b5b)) (And.intro (@b6K) (And.intro (@b6e) (@b60)))) (And.intro (And.intro (@b6W) (And.intro (@b6y) (@b6V))) (And.intro (@b5r) (And.intro (@b4w) (@b5A))))) (And.intro (And.intro (And.intro (@b5P) (@b5W)) (And.intro (@b5C) (And.intro (@b2z) (@b10)))) (And.intro (And.intro (@b2i) (And.intro (@b2w) (@b2O))) (And.intro (@b2k) (And.intro (@b4A) (@b47)))))) (And.intro (And.intro (And.intro (And.intro (@b6z) (@b9G)) (And.intro (@b85) (And.intro (@b9y) (@b4z)))) (And.intro (And.intro (@b4V) (And.intro (@b83) (@takeVal_t))) (And.intro (@a8P) (And.intro (@a6f) (@a5r))))) (And.intro (And.intro (And.intro (@a5o) (@a4Z)) (And.intro (@b0G) (And.intro (@a7F) (@a8C)))) (And.intro (And.intro (@a8x) (And.intro (@a7p) (@b2o))) (And.intro (@a9K) (And.intro (@b03) (@b19))))))) (And.intro (And.intro (And.intro (And.intro (And.intro (@a4J) (@a5w)) (And.intro (@a3y) (And.intro (@a3P) (@a7D)))) (And.intro (And.intro (@a7E) (And.intro (@a5l) (@a6u))) (And.intro (@a8K) (And.intro (@a7w) (@a5V))))) (And.intro (And.intro (And.intro (@a5E) (@a5R)) (And.intro (@a4R) (And.intro (@a7G) (@a8q)))) (And.intro (And.intro (@a5j) (And.intro (@a5y) (@a5I))) (And.intro (@a5B) (And.intro (@a3C) (@a3j)))))) (And.intro (And.intro (And.intro (And.intro (@b1D) (@b0B)) (And.intro (@a8l) (And.intro (@a8J) (@a7M)))) (And.intro (And.intro (@a7y) (And.intro (@a5e) (@a4C))) (And.intro (@a4Q) (And.intro (@a6g) (@a3T))))) (And.intro (And.intro (And.intro (@a3O) (And.intro (@a5Y) (@a5J))) (And.intro (@a3D) (And.intro (@a3G) (@a6z)))) (And.intro (And.intro (@a4I) (And.intro (@a3B) (@a3W))) (And.intro (@b0e) (And.intro (@b1c) (@a7V)))))))) (And.intro (And.intro (And.intro (And.intro (And.intro (And.intro (@a8E) (@a3k)) (And.intro (@a3Q) (And.intro (@a2I) (@a2w)))) (And.intro (And.intro (@a6e) (And.intro (@a6q) (@a3u))) (And.intro (@a3w) (And.intro (@a5N) (@a5m))))) (And.intro (And.intro (And.intro (@a3S) (@a3b)) (And.intro (@a3e) (And.intro (@plain_agg) (@a8m)))) (And.intro (And.intro (@a4Y) (And.intro (@a3V) (@allPlain_n))) (And.intro (@allPlain_c) (And.intro (@b88) (@b9b)))))) (And.intro (And.intro (And.intro (And.intro (@b5y) (@b4Q)) (And.intro (@b5Z) (And.intro (@b6X) (@b6R)))) (And.intro (And.intro (@b6S) (And.intro (@b9U) (@b9Y))) (And.intro (@b9h) (And.intro (@b9e) (@b26))))) (And.intro (And.intro (And.intro (@b97) (And.intro (@c0a) (@b95))) (And.intro (@b9a) (And.intro (@b90) (@c0f)))) (And.intro (And.intro (@b6a) (And.intro (@b4N) (@b9S))) (And.intro (@b81) (And.intro (@b80) (@b9H))))))) (And.intro (And.intro (And.intro (And.intro (And.intro (@b9r) (@b9B)) (And.intro (@b41) (And.intro (@b5I) (@c0d)))) (And.intro (And.intro (@b9I) (And.intro (@b9X) (@b9v))) (And.intro (@b9N) (And.intro (@b9R) (@c4K))))) (And.intro (And.intro (And.intro (@c36) (@c3h)) (And.intro (@c4w) (And.intro (@b9q) (@b92)))) (And.intro (And.intro (@b9W) (And.intro (@b9A) (@eqs))) (And.intro (@nn) (And.intro (@tn) (@b6g)))))) (And.intro (And.intro (And.intro (And.intro (@b6G) (@c4o)) (And.intro (@c4k) (And.intro (@c0p) (@c5j)))) (And.intro (And.intro (@c4Y) (And.intro (@c3I) (@c3F))) (And.intro (@il0) (And.intro (@it0) (@il1))))) (And.intro (And.intro (And.intro (@it1) (And.intro (@il2) (@it2))) (And.intro (@m41) (And.intro (@W_e) (@c5g)))) (And.intro (And.intro (@b2I) (And.intro (@b0U) (@b1S))) (And.intro (@b9T) (And.intro (@c0u) (@b4l)))))))))):=And.intro (And.intro (And.intro (And.intro (And.intro (And.intro (And.intro (And.intro (@exec_seqK) (@a7S)) (And.intro (@b08) (And.intro (@a7n) (@a8O)))) (And.intro (And.intro (@a06) (And.intro (@a7t) (@b0L))) (And.intro (@a2u) (And.intro (@a1X) (@a4E))))) (And.intro (And.intro (And.intro (@a3r) (@b6N)) (And.intro (@b4y) (And.intro (@a3t) (@a3M)))) (And.intro (And.intro (@b40) (And.intro (@b5N) (@b6J))) (And.intro (@b0E) (And.intro (@a8h) (@b0q)))))) (And.intro (And.intro (And.intro (And.intro (@b1A) (@a5O)) (And.intro (@b3d) (And.intro (@a1u) (@n4)))) (And.intro (And.intro (@c0j) (And.intro (@b9i) (@b9c))) (And.intro (@c0s) (And.intro (@a6X) (@b6r))))) (And.intro (And.intro (And.intro (@b5f) (@b61)) (And.intro (@b5k) (And.intro (@b0R) (@b93)))) (And.intro (And.intro (@b9P) (And.intro (@b9g) (@b9l))) (And.intro (@b25) (And.intro (@a6V) (@a4n))))))) (And.intro (And.intro (And.intro (And.intro (And.intro (@b2e) (@b1i)) (And.intro (@a8o) (And.intro (@b5K) (@b5T)))) (And.intro (And.intro (@b2L) (And.intro (@b0g) (@a8u))) (And.intro (@b0M) (And.intro (@b0n) (@a7X))))) (And.intro (And.intro (And.intro (@b0x) (@a7q)) (And.intro (@a8a) (And.intro (@b2d) (@a9k)))) (And.intro (And.intro (@b1e) (And.intro (@a8v) (@a7J))) (And.intro (@a7N) (And.intro (@w9) (@b2K)))))) (And.intro (And.intro (And.intro (And.intro (@a5c) (@a8f)) (And.intro (@a4X) (And.intro (@a6s) (@b0J)))) (And.intro (And.intro (@a6m) (And.intro (@a7r) (@a7H))) (And.intro (@a5X) (And.intro (@b0f) (@a6d))))) (And.intro (And.intro (And.intro (@a8w) (And.intro (@a4L) (@a5Q))) (And.intro (@M4) (And.intro (@a5Z) (@a5F)))) (And.intro (And.intro (@a8c) (And.intro (@a8z) (@a5D))) (And.intro (@a7P) (And.intro (@a5q) (@a5x)))))))) (And.intro (And.intro (And.intro (And.intro (And.intro (And.intro (@a9t) (@a8N)) (And.intro (@a7u) (And.intro (@a4K) (@a6l)))) (And.intro (And.intro (@a4O) (And.intro (@a8B) (@a9w))) (And.intro (@a3q) (And.intro (@a3p) (@a3z))))) (And.intro (And.intro (And.intro (@a5n) (@a6r)) (And.intro (@a3N) (And.intro (@a5S) (@a3R)))) (And.intro (And.intro (@a3i) (And.intro (@a8I) (@a5k))) (And.intro (@a5U) (And.intro (@a3U) (@a3K)))))) (And.intro (And.intro (And.intro (And.intro (@a3J) (@a5s)) (And.intro (@a49) (And.intro (@a3l) (@a2C)))) (And.intro (And.intro (@a7z) (And.intro (@a2H) (@a2n))) (And.intro (@c2M) (And.intro (@a5v) (@a6a))))) (And.intro (And.intro (And.intro (@a7L) (@a3F)) (And.intro (@b2v) (And.intro (@b5z) (@a9M)))) (And.intro (And.intro (@b4I) (And.intro (@b18) (@a9L))) (And.intro (@b4Z) (And.intro (@b5X) (@b6P))))))) (And.intro (And.intro (And.intro (And.intro (And.intro (@b28) (@ldAn_ptr)) (And.intro (@b1Z) (And.intro (@b20) (@b6s)))) (And.intro (And.intro (@b6b) (And.intro (@b2W) (@b23))) (And.intro (@b5o) (And.intro (@b9z) (@b86))))) (And.intro (And.intro (And.intro (@b6n) (@a7O)) (And.intro (@b2P) (And.intro (@a8b) (@a7T)))) (And.intro (And.intro (@b6k) (And.intro (@b5i) (@a3A))) (And.intro (@a3g) (And.intro (@b0X) (@a7U)))))) (And.intro (And.intro (And.intro (And.intro (@b2F) (@b24)) (And.intro (@b11) (And.intro (@b4U) (@b6C)))) (And.intro (And.intro (@b9J) (And.intro (@a7x) (@a8y))) (And.intro (@b2U) (And.intro (@b1d) (@a9v))))) (And.intro (And.intro (And.intro (@b6h) (And.intro (@b91) (@b6w))) (And.intro (@c0g) (And.intro (@b9j) (@b99)))) (And.intro (And.intro (@b9x) (And.intro (@b5s) (@b6I))) (And.intro (@b5B) (And.intro (@b6F) (@b4M))))))))) (And.intro (And.intro (And.intro (And.intro (And.intro (And.intro (And.intro (@b6B) (@b5b)) (And.intro (@b6K) (And.intro (@b6e) (@b60)))) (And.intro (And.intro (@b6W) (And.intro (@b6y) (@b6V))) (And.intro (@b5r) (And.intro (@b4w) (@b5A))))) (And.intro (And.intro (And.intro (@b5P) (@b5W)) (And.intro (@b5C) (And.intro (@b2z) (@b10)))) (And.intro (And.intro (@b2i) (And.intro (@b2w) (@b2O))) (And.intro (@b2k) (And.intro (@b4A) (@b47)))))) (And.intro (And.intro (And.intro (And.intro (@b6z) (@b9G)) (And.intro (@b85) (And.intro (@b9y) (@b4z)))) (And.intro (And.intro (@b4V) (And.intro (@b83) (@takeVal_t))) (And.intro (@a8P) (And.intro (@a6f) (@a5r))))) (And.intro (And.intro (And.intro (@a5o) (@a4Z)) (And.intro (@b0G) (And.intro (@a7F) (@a8C)))) (And.intro (And.intro (@a8x) (And.intro (@a7p) (@b2o))) (And.intro (@a9K) (And.intro (@b03) (@b19))))))) (And.intro (And.intro (And.intro (And.intro (And.intro (@a4J) (@a5w)) (And.intro (@a3y) (And.intro (@a3P) (@a7D)))) (And.intro (And.intro (@a7E) (And.intro (@a5l) (@a6u))) (And.intro (@a8K) (And.intro (@a7w) (@a5V))))) (And.intro (And.intro (And.intro (@a5E) (@a5R)) (And.intro (@a4R) (And.intro (@a7G) (@a8q)))) (And.intro (And.intro (@a5j) (And.intro (@a5y) (@a5I))) (And.intro (@a5B) (And.intro (@a3C) (@a3j)))))) (And.intro (And.intro (And.intro (And.intro (@b1D) (@b0B)) (And.intro (@a8l) (And.intro (@a8J) (@a7M)))) (And.intro (And.intro (@a7y) (And.intro (@a5e) (@a4C))) (And.intro (@a4Q) (And.intro (@a6g) (@a3T))))) (And.intro (And.intro (And.intro (@a3O) (And.intro (@a5Y) (@a5J))) (And.intro (@a3D) (And.intro (@a3G) (@a6z)))) (And.intro (And.intro (@a4I) (And.intro (@a3B) (@a3W))) (And.intro (@b0e) (And.intro (@b1c) (@a7V)))))))) (And.intro (And.intro (And.intro (And.intro (And.intro (And.intro (@a8E) (@a3k)) (And.intro (@a3Q) (And.intro (@a2I) (@a2w)))) (And.intro (And.intro (@a6e) (And.intro (@a6q) (@a3u))) (And.intro (@a3w) (And.intro (@a5N) (@a5m))))) (And.intro (And.intro (And.intro (@a3S) (@a3b)) (And.intro (@a3e) (And.intro (@plain_agg) (@a8m)))) (And.intro (And.intro (@a4Y) (And.intro (@a3V) (@allPlain_n))) (And.intro (@allPlain_c) (And.intro (@b88) (@b9b)))))) (And.intro (And.intro (And.intro (And.intro (@b5y) (@b4Q)) (And.intro (@b5Z) (And.intro (@b6X) (@b6R)))) (And.intro (And.intro (@b6S) (And.intro (@b9U) (@b9Y))) (And.intro (@b9h) (And.intro (@b9e) (@b26))))) (And.intro (And.intro (And.intro (@b97) (And.intro (@c0a) (@b95))) (And.intro (@b9a) (And.intro (@b90) (@c0f)))) (And.intro (And.intro (@b6a) (And.intro (@b4N) (@b9S))) (And.intro (@b81) (And.intro (@b80) (@b9H))))))) (And.intro (And.intro (And.intro (And.intro (And.intro (@b9r) (@b9B)) (And.intro (@b41) (And.intro (@b5I) (@c0d)))) (And.intro (And.intro (@b9I) (And.intro (@b9X) (@b9v))) (And.intro (@b9N) (And.intro (@b9R) (@c4K))))) (And.intro (And.intro (And.intro (@c36) (@c3h)) (And.intro (@c4w) (And.intro (@b9q) (@b92)))) (And.intro (And.intro (@b9W) (And.intro (@b9A) (@eqs))) (And.intro (@nn) (And.intro (@tn) (@b6g)))))) (And.intro (And.intro (And.intro (And.intro (@b6G) (@c4o)) (And.intro (@c4k) (And.intro (@c0p) (@c5j)))) (And.intro (And.intro (@c4Y) (And.intro (@c3I) (@c3F))) (And.intro (@il0) (And.intro (@it0) (@il1))))) (And.intro (And.intro (And.intro (@it1) (And.intro (@il2) (@it2))) (And.intro (@m41) (And.intro (@W_e) (@c5g)))) (And.intro (And.intro (@b2I) (And.intro (@b0U) (@b1S))) (And.intro (@b9T) (And.intro (@c0u) (@b4l)))))))))
end Go.Cb
/-
 THE ABSTRACT MACHINE, part 48: running told by rules, operation by operation, in place of printed chains.
-/
set_option maxRecDepth 4000
set_option linter.unusedSimpArgs false
set_option linter.unusedVariables false
namespace Go.Cb.V
open Go Go.Cb
def b8 (call:b6) (ops:List AOper) (σ:Sig) (k:Sig→Option Out):Option Out:=obind (l8 call ops σ) k
theorem runR_congr {call:b6} {ops:List AOper} {σ σ':Sig} {k:Sig→Option Out} (h:σ=σ'):b8 call ops σ k=b8 call ops σ' k:=by rw [h]
theorem b63 (call:b6) (σ:Sig) (k:Sig→Option Out):b8 call [] σ k=k σ:=b5 rfl
theorem a0g (call:b6) (o:AOper) (os:List AOper) (σ:Sig) (k:Sig→Option Out):b8 call (o::os) σ k=obind (j2 call o σ) fun σ=>b8 call os σ k:=by
 unfold b8
 simp only [l8]
 cases j2 call o σ <;> rfl
theorem W6:∀ (as:List Opd) (σ:Sig),(b7 as σ).st=σ.st
 | [],_=>rfl
 | x::xs,σ=>by rw [b7,W6 xs]; cases x <;> rfl
section
variable (call:b6) (d:Dst) (as:List Opd) (os:List AOper) (σ:Sig) (k:Sig→Option Out)
theorem m6 {K:Kind} (h1:K.setSt=false):b8 call (⟨d,K,as,none,none⟩::os) σ k=obind (p1 (sem K call (as.map (·.read σ)) .undef σ.st)) fun x=>b8 call os (d.put x (b7 as σ)) k:=by
 rw [a0g]
 simp only [j2]
 rw [L4]
 dsimp only
 cases hs:sem K call (as.map (·.read σ)) .undef σ.st with
 | none=>rfl
 | some x =>
  obtain ⟨r,b,st⟩:=x
  obtain rfl:=a2G h1 hs
  simp only [p1,n4]
  have e:({ b7 as σ with st:=σ.st }:Sig)=b7 as σ:=by
   have:=W6 as σ
   cases h:b7 as σ
   rw [h] at this
   simp only at this
   rw [this]
  rw [e]
theorem O6 {K:Kind}:b8 call (⟨d,K,as,none,none⟩::os) σ k=obind (p2 (sem K call (as.map (·.read σ)) .undef σ.st)) fun x=>b8 call os (d.put x.1 { b7 as σ with st:=x.2 }) k:=by
 rw [a0g]
 simp only [j2]
 rw [L4]
 dsimp only
 cases hs:sem K call (as.map (·.read σ)) .undef σ.st with
 | none=>rfl
 | some x =>
  obtain ⟨r,b,st⟩:=x
  simp only [p2,n4]
theorem a8Y {K:Kind} (i:Nat):b8 call (⟨d,K,as,some i,none⟩::os) σ k=obind (sem K call (as.map (·.read σ)) (σ.fr.getD i .undef) σ.st) fun x=>b8 call os (d.put x.1 { b7 as σ with fr:=(b7 as σ).fr.set i x.2.1,st:=x.2.2 }) k:=by
 rw [a0g]
 simp only [j2]
 rw [L4]
 dsimp only
 cases hs:sem K call (as.map (·.read σ)) (σ.fr.getD i .undef) σ.st with
 | none=>rfl
 | some x =>
  obtain ⟨r,b,st⟩:=x
  simp only [n4]
end
theorem c5Y {call:b6} {d:Dst} {as:List Opd} {os:List AOper} {σ:Sig} {k:Sig→Option Out} {K:Kind} {box:Option Nat} (h:(K.setSt || K.alters || d9 as)=false) :
 b8 call (⟨d,K,as,box,none⟩::os) σ k=obind (p1 (sem K call (as.map (·.read σ)) (goK.boxOf' box σ) σ.st)) fun r=>b8 call os (d.put r σ) k:=by
 rw [a0g,← a1M]
 simp only [a28,goK,h]
theorem m3 {call:b6} {d:Dst} {as:List Opd} {os:List AOper} {σ:Sig} {k:Sig→Option Out} {K:Kind} {box:Option Nat} {x:Opd} {w:Bool} (h:(K.setSt || K.alters || d9 as)=false) :
 b8 call (⟨d,K,as,box,some (x,w)⟩::os) σ k=obind (gv (x.read σ) w (p1 (sem K call (as.map (·.read σ)) (goK.boxOf' box σ) σ.st))) fun r=>b8 call os (d.put r σ) k:=by
 rw [a0g,← a1M]
 simp only [a28,h]
theorem J0 {call:b6} {d:Dst} {as:List Opd} {os:List AOper} {σ:Sig} {k:Sig→Option Out} {K:Kind} {box:Option Nat} {x:Opd} {w:Bool} (h1:K.setSt=true) (h2:K.alters=false) (h:d9 as=false) :
 b8 call (⟨d,K,as,box,some (x,w)⟩::os) σ k=obind (gv2 (x.read σ) w σ.st (p2 (sem K call (as.map (·.read σ)) (goK.boxOf' box σ) σ.st))) fun r=>b8 call os (d.put r.1 { σ with st:=r.2 }) k:=by
 rw [a0g,← a1M]
 simp only [a28,h1,h2,h,Bool.true_or,Bool.or_false]
theorem c5f:d9 []=false:=b5 rfl
theorem c2X (s:Nat) (xs:List Opd):d9 (.t s::xs)=d9 xs:=b5 rfl
theorem c32 (s:Nat) (xs:List Opd):d9 (.v s::xs)=d9 xs:=b5 rfl
theorem c2o (s:Nat) (xs:List Opd):d9 (.l s::xs)=d9 xs:=b5 rfl
theorem c4D (a:AV) (xs:List Opd):d9 (.c a::xs)=d9 xs:=b5 rfl
theorem a7s (call:b6) (n:Nat) (kill:List Nat) (ps:List AOper) (fr:List AV) (st:St) :
 e8 call n (.reg kill ps) fr st=b8 call ps ⟨k7 kill fr,fun _=>.undef,st⟩ fun σ=>some (.normal,σ.fr,σ.st):=by
 rw [b7N,a0h]; rfl
theorem a4U (call:b6) (n:Nat) (kill:List Nat) (ps:List AOper) (c:Opd) (a b:ACode) (fr:List AV) (st:St) :
 e8 call n (.test kill ps c a b) fr st=b8 call ps ⟨k7 kill fr,fun _=>.undef,st⟩ fun σ=>brE (c.read σ) call n a b σ.fr σ.st:=by
 rw [b4k,a0h]; rfl
theorem c3P (s:Nat) (fr:List AV) (τ:Nat→AV) (st:St):Opd.read (.t s) ⟨fr,τ,st⟩=(τ s).weak:=b5 rfl
theorem b8Y (s:Nat) (fr:List AV) (τ:Nat→AV) (st:St):Opd.read (.ts s) ⟨fr,τ,st⟩=τ s:=b5 rfl
theorem c4g (s:Nat) (fr:List AV) (τ:Nat→AV) (st:St):Opd.read (.v s) ⟨fr,τ,st⟩=(fr.getD s .undef).weak:=b5 rfl
theorem b9p (s:Nat) (fr:List AV) (τ:Nat→AV) (st:St):Opd.read (.vs s) ⟨fr,τ,st⟩=fr.getD s .undef:=b5 rfl
theorem c5a (s:Nat) (fr:List AV) (τ:Nat→AV) (st:St):Opd.read (.l s) ⟨fr,τ,st⟩=b9C s (fr.getD s .undef):=b5 rfl
theorem c4i (a:AV) (σ:Sig):Opd.read (.c a) σ=a:=b5 rfl
theorem b9E (τ:Nat→AV) (s:Nat) (a:AV) (j:Nat):r5 τ s a j=if j=s then a else τ j:=by
 unfold r5
 by_cases h:j=s
 · subst h; simp
 · rw [if_neg h,if_neg]; intro e; exact h (Nat.eq_of_beq_eq_true e)
theorem put_t (s:Nat) (a:AV) (fr:List AV) (τ:Nat→AV) (st:St):Dst.put (.t s) a ⟨fr,τ,st⟩=⟨fr,r5 τ s a.stripB,st⟩:=b5 rfl
theorem put_v (s:Nat) (a:AV) (fr:List AV) (τ:Nat→AV) (st:St):Dst.put (.v s) a ⟨fr,τ,st⟩=⟨fr.set s a.strip,τ,st⟩:=b5 rfl
theorem b8Z (a:AV) (σ:Sig):Dst.put .none a σ=σ:=b5 rfl
theorem b9L (a:AV) (σ:Sig):Dst.put .bx a σ=σ:=b5 rfl
theorem c3D (σ:Sig):b7 [] σ=σ:=b5 rfl
theorem c3z (x:Opd) (xs:List Opd) (σ:Sig):b7 (x::xs) σ=b7 xs (x.spend σ):=b5 rfl
theorem c31 (s:Nat) (σ:Sig):Opd.spend (.t s) σ=σ:=b5 rfl
theorem c4B (s:Nat) (σ:Sig):Opd.spend (.v s) σ=σ:=b5 rfl
theorem c4t (s:Nat) (σ:Sig):Opd.spend (.l s) σ=σ:=b5 rfl
theorem c5i (a:AV) (σ:Sig):Opd.spend (.c a) σ=σ:=b5 rfl
theorem c0v (s:Nat) (fr:List AV) (τ:Nat→AV) (st:St):Opd.spend (.ts s) ⟨fr,τ,st⟩=⟨fr,r5 τ s (τ s).weak,st⟩:=b5 rfl
theorem c0i (s:Nat) (fr:List AV) (τ:Nat→AV) (st:St):Opd.spend (.vs s) ⟨fr,τ,st⟩=⟨fr.set s (fr.getD s .undef).weak,τ,st⟩:=b5 rfl
theorem c2B (a d:AV) (l:List AV):(a::l).getD 0 d=a:=b5 rfl
theorem c3T (a d:AV) (l:List AV) (n:Nat):(a::l).getD (n+1) d=l.getD n d:=b5 rfl
theorem c2T (fr:List AV):k7 [] fr=fr:=b5 rfl
theorem c2J (i:Nat) (is:List Nat) (fr:List AV):k7 (i::is) fr=k7 is (fr.set i .undef):=b5 rfl
section
variable (call:b6) (d:Dst) (as:List Opd) (os:List AOper) (fr:List AV) (τ:Nat→AV) (s:St) (k:Sig→Option Out)
theorem c5h :b8 call (⟨d,.mv,as,none,none⟩::os) ⟨fr,τ,s⟩ k=obind (p1 (a0T call (as.map (·.read ⟨fr,τ,s⟩)) .undef s)) fun x=>b8 call os (d.put x (b7 as ⟨fr,τ,s⟩)) k:=m6 call d as os ⟨fr,τ,s⟩ k rfl
theorem b6m :b8 call (⟨d,.pick,as,none,none⟩::os) ⟨fr,τ,s⟩ k=obind (p1 (A9 call (as.map (·.read ⟨fr,τ,s⟩)) .undef s)) fun x=>b8 call os (d.put x (b7 as ⟨fr,τ,s⟩)) k:=m6 call d as os ⟨fr,τ,s⟩ k rfl
theorem b0h :b8 call (⟨d,.nilchk,as,none,none⟩::os) ⟨fr,τ,s⟩ k=obind (p1 (B0 call (as.map (·.read ⟨fr,τ,s⟩)) .undef s)) fun x=>b8 call os (d.put x (b7 as ⟨fr,τ,s⟩)) k:=m6 call d as os ⟨fr,τ,s⟩ k rfl
theorem b2a (z:List AV) (o:List (Nat×Nat)):b8 call (⟨d,.build z o,as,none,none⟩::os) ⟨fr,τ,s⟩ k=obind (p1 (K8 z o call (as.map (·.read ⟨fr,τ,s⟩)) .undef s)) fun x=>b8 call os (d.put x (b7 as ⟨fr,τ,s⟩)) k:=m6 call d as os ⟨fr,τ,s⟩ k rfl
theorem b00 (q:Nat) (z:List (List AV)) (t:List Nat):b8 call (⟨d,.bslice q z t,as,none,none⟩::os) ⟨fr,τ,s⟩ k=obind (p1 (J2 q z t call (as.map (·.read ⟨fr,τ,s⟩)) .undef s)) fun x=>b8 call os (d.put x (b7 as ⟨fr,τ,s⟩)) k:=m6 call d as os ⟨fr,τ,s⟩ k rfl
theorem a8j (q:Nat) (z:List (List AV)) (t:List Nat):b8 call (⟨d,.bsliceM q z t,as,none,none⟩::os) ⟨fr,τ,s⟩ k=obind (p1 (H2 q z t call (as.map (·.read ⟨fr,τ,s⟩)) .undef s)) fun x=>b8 call os (d.put x (b7 as ⟨fr,τ,s⟩)) k:=m6 call d as os ⟨fr,τ,s⟩ k rfl
theorem b59 (g:Bool) (n:Nat):b8 call (⟨d,.ldSt g n,as,none,none⟩::os) ⟨fr,τ,s⟩ k=obind (p1 (A0 g n call (as.map (·.read ⟨fr,τ,s⟩)) .undef s)) fun x=>b8 call os (d.put x (b7 as ⟨fr,τ,s⟩)) k:=m6 call d as os ⟨fr,τ,s⟩ k rfl
theorem b4P (g:Bool) (n:Nat):b8 call (⟨d,.ldRo g n,as,none,none⟩::os) ⟨fr,τ,s⟩ k=obind (p1 (O4 g n call (as.map (·.read ⟨fr,τ,s⟩)) .undef s)) fun x=>b8 call os (d.put x (b7 as ⟨fr,τ,s⟩)) k:=m6 call d as os ⟨fr,τ,s⟩ k rfl
theorem b4X (g:Bool) (n:Nat):b8 call (⟨d,.ldAn g n,as,none,none⟩::os) ⟨fr,τ,s⟩ k=obind (p1 (D2 g n call (as.map (·.read ⟨fr,τ,s⟩)) .undef s)) fun x=>b8 call os (d.put x (b7 as ⟨fr,τ,s⟩)) k:=m6 call d as os ⟨fr,τ,s⟩ k rfl
theorem b17 (g:Bool) (n:Nat):b8 call (⟨d,.ldStR g n,as,none,none⟩::os) ⟨fr,τ,s⟩ k=obind (p1 (F8 g n call (as.map (·.read ⟨fr,τ,s⟩)) .undef s)) fun x=>b8 call os (d.put x (b7 as ⟨fr,τ,s⟩)) k:=m6 call d as os ⟨fr,τ,s⟩ k rfl
theorem b9Q (n:Nat):b8 call (⟨d,.fad n,as,none,none⟩::os) ⟨fr,τ,s⟩ k=obind (p1 (M7 n call (as.map (·.read ⟨fr,τ,s⟩)) .undef s)) fun x=>b8 call os (d.put x (b7 as ⟨fr,τ,s⟩)) k:=m6 call d as os ⟨fr,τ,s⟩ k rfl
theorem b9O (o n:Nat) (g:Bool):b8 call (⟨d,.fld o n g,as,none,none⟩::os) ⟨fr,τ,s⟩ k=obind (p1 (S3 o n g call (as.map (·.read ⟨fr,τ,s⟩)) .undef s)) fun x=>b8 call os (d.put x (b7 as ⟨fr,τ,s⟩)) k:=m6 call d as os ⟨fr,τ,s⟩ k rfl
theorem c0t (n:Nat):b8 call (⟨d,.iad n,as,none,none⟩::os) ⟨fr,τ,s⟩ k=obind (p1 (F9 n call (as.map (·.read ⟨fr,τ,s⟩)) .undef s)) fun x=>b8 call os (d.put x (b7 as ⟨fr,τ,s⟩)) k:=m6 call d as os ⟨fr,τ,s⟩ k rfl
theorem b6q (l n:Nat):b8 call (⟨d,.iadA l n,as,none,none⟩::os) ⟨fr,τ,s⟩ k=obind (p1 (J1 l n call (as.map (·.read ⟨fr,τ,s⟩)) .undef s)) fun x=>b8 call os (d.put x (b7 as ⟨fr,τ,s⟩)) k:=m6 call d as os ⟨fr,τ,s⟩ k rfl
theorem b5w :b8 call (⟨d,.idxS,as,none,none⟩::os) ⟨fr,τ,s⟩ k=obind (p1 (L8 call (as.map (·.read ⟨fr,τ,s⟩)) .undef s)) fun x=>b8 call os (d.put x (b7 as ⟨fr,τ,s⟩)) k:=m6 call d as os ⟨fr,τ,s⟩ k rfl
theorem b9k (a b:Bool):b8 call (⟨d,.slS a b,as,none,none⟩::os) ⟨fr,τ,s⟩ k=obind (p1 (P8 a b call (as.map (·.read ⟨fr,τ,s⟩)) .undef s)) fun x=>b8 call os (d.put x (b7 as ⟨fr,τ,s⟩)) k:=m6 call d as os ⟨fr,τ,s⟩ k rfl
theorem b9K (n:Nat) (a b:Bool):b8 call (⟨d,.slL n a b,as,none,none⟩::os) ⟨fr,τ,s⟩ k=obind (p1 (P2 n a b call (as.map (·.read ⟨fr,τ,s⟩)) .undef s)) fun x=>b8 call os (d.put x (b7 as ⟨fr,τ,s⟩)) k:=m6 call d as os ⟨fr,τ,s⟩ k rfl
theorem b9t :b8 call (⟨d,.slZ,as,none,none⟩::os) ⟨fr,τ,s⟩ k=obind (p1 (R7 call (as.map (·.read ⟨fr,τ,s⟩)) .undef s)) fun x=>b8 call os (d.put x (b7 as ⟨fr,τ,s⟩)) k:=m6 call d as os ⟨fr,τ,s⟩ k rfl
theorem b84 (l n:Nat) (a b:Bool):b8 call (⟨d,.slA l n a b,as,none,none⟩::os) ⟨fr,τ,s⟩ k=obind (p1 (S8 l n a b call (as.map (·.read ⟨fr,τ,s⟩)) .undef s)) fun x=>b8 call os (d.put x (b7 as ⟨fr,τ,s⟩)) k:=m6 call d as os ⟨fr,τ,s⟩ k rfl
theorem c0e (o:BinOp):b8 call (⟨d,.bin o,as,none,none⟩::os) ⟨fr,τ,s⟩ k=obind (p1 (t6 o call (as.map (·.read ⟨fr,τ,s⟩)) .undef s)) fun x=>b8 call os (d.put x (b7 as ⟨fr,τ,s⟩)) k:=m6 call d as os ⟨fr,τ,s⟩ k rfl
theorem b43 (o:BinOp):b8 call (⟨d,.binB o,as,none,none⟩::os) ⟨fr,τ,s⟩ k=obind (p1 (N3 o call (as.map (·.read ⟨fr,τ,s⟩)) .undef s)) fun x=>b8 call os (d.put x (b7 as ⟨fr,τ,s⟩)) k:=m6 call d as os ⟨fr,τ,s⟩ k rfl
theorem b5h (o:BinOp):b8 call (⟨d,.binP o,as,none,none⟩::os) ⟨fr,τ,s⟩ k=obind (p1 (O0 o call (as.map (·.read ⟨fr,τ,s⟩)) .undef s)) fun x=>b8 call os (d.put x (b7 as ⟨fr,τ,s⟩)) k:=m6 call d as os ⟨fr,τ,s⟩ k rfl
theorem c3g (o:UnOp):b8 call (⟨d,.un o,as,none,none⟩::os) ⟨fr,τ,s⟩ k=obind (p1 (W5 o call (as.map (·.read ⟨fr,τ,s⟩)) .undef s)) fun x=>b8 call os (d.put x (b7 as ⟨fr,τ,s⟩)) k:=m6 call d as os ⟨fr,τ,s⟩ k rfl
theorem b5D (t:IntKind):b8 call (⟨d,.conv t,as,none,none⟩::os) ⟨fr,τ,s⟩ k=obind (p1 (N6 t call (as.map (·.read ⟨fr,τ,s⟩)) .undef s)) fun x=>b8 call os (d.put x (b7 as ⟨fr,τ,s⟩)) k:=m6 call d as os ⟨fr,τ,s⟩ k rfl
theorem b9Z (f n:Nat):b8 call (⟨d,.mkF f n,as,none,none⟩::os) ⟨fr,τ,s⟩ k=obind (p1 (S5 f n call (as.map (·.read ⟨fr,τ,s⟩)) .undef s)) fun x=>b8 call os (d.put x (b7 as ⟨fr,τ,s⟩)) k:=m6 call d as os ⟨fr,τ,s⟩ k rfl
theorem b4K (a:Nat) (z:List AV) (b c:Bool):b8 call (⟨d,.mget a z b c,as,none,none⟩::os) ⟨fr,τ,s⟩ k=obind (p1 (L3 a z b c call (as.map (·.read ⟨fr,τ,s⟩)) .undef s)) fun x=>b8 call os (d.put x (b7 as ⟨fr,τ,s⟩)) k:=m6 call d as os ⟨fr,τ,s⟩ k rfl
theorem b89 (n:Nat):b8 call (⟨d,.ext n,as,none,none⟩::os) ⟨fr,τ,s⟩ k=obind (p1 (P6 n call (as.map (·.read ⟨fr,τ,s⟩)) .undef s)) fun x=>b8 call os (d.put x (b7 as ⟨fr,τ,s⟩)) k:=m6 call d as os ⟨fr,τ,s⟩ k rfl
theorem b6M :b8 call (⟨d,.lenS,as,none,none⟩::os) ⟨fr,τ,s⟩ k=obind (p1 (N5 call (as.map (·.read ⟨fr,τ,s⟩)) .undef s)) fun x=>b8 call os (d.put x (b7 as ⟨fr,τ,s⟩)) k:=m6 call d as os ⟨fr,τ,s⟩ k rfl
theorem b5e :b8 call (⟨d,.lenL,as,none,none⟩::os) ⟨fr,τ,s⟩ k=obind (p1 (B9 call (as.map (·.read ⟨fr,τ,s⟩)) .undef s)) fun x=>b8 call os (d.put x (b7 as ⟨fr,τ,s⟩)) k:=m6 call d as os ⟨fr,τ,s⟩ k rfl
theorem b9M (n b:Nat):b8 call (⟨d,.app n b,as,none,none⟩::os) ⟨fr,τ,s⟩ k=obind (p1 (T5 n b call (as.map (·.read ⟨fr,τ,s⟩)) .undef s)) fun x=>b8 call os (d.put x (b7 as ⟨fr,τ,s⟩)) k:=m6 call d as os ⟨fr,τ,s⟩ k rfl
theorem b9u :b8 call (⟨d,.b2s,as,none,none⟩::os) ⟨fr,τ,s⟩ k=obind (p1 (R8 call (as.map (·.read ⟨fr,τ,s⟩)) .undef s)) fun x=>b8 call os (d.put x (b7 as ⟨fr,τ,s⟩)) k:=m6 call d as os ⟨fr,τ,s⟩ k rfl
theorem b2Q (z:List AV) (o:List (Nat×Nat)) (x:Opd) (w:Bool) (h:d9 as=false):b8 call (⟨d,.build z o,as,none,some (x,w)⟩::os) ⟨fr,τ,s⟩ k=obind (gv (x.read ⟨fr,τ,s⟩) w (p1 (K8 z o call (as.map (·.read ⟨fr,τ,s⟩)) .undef s))) fun r=>b8 call os (d.put r ⟨fr,τ,s⟩) k:=m3 (by rw [h]; rfl)
theorem a9W (q:Nat) (z:List (List AV)) (t:List Nat) (x:Opd) (w:Bool) (h:d9 as=false):b8 call (⟨d,.bslice q z t,as,none,some (x,w)⟩::os) ⟨fr,τ,s⟩ k=obind (gv (x.read ⟨fr,τ,s⟩) w (p1 (J2 q z t call (as.map (·.read ⟨fr,τ,s⟩)) .undef s))) fun r=>b8 call os (d.put r ⟨fr,τ,s⟩) k:=m3 (by rw [h]; rfl)
theorem a8k (q:Nat) (z:List (List AV)) (t:List Nat) (x:Opd) (w:Bool) (h:d9 as=false):b8 call (⟨d,.bsliceM q z t,as,none,some (x,w)⟩::os) ⟨fr,τ,s⟩ k=obind (gv (x.read ⟨fr,τ,s⟩) w (p1 (H2 q z t call (as.map (·.read ⟨fr,τ,s⟩)) .undef s))) fun r=>b8 call os (d.put r ⟨fr,τ,s⟩) k:=m3 (by rw [h]; rfl)
theorem b5t (g:Bool) (n:Nat) (x:Opd) (w:Bool) (h:d9 as=false):b8 call (⟨d,.ldSt g n,as,none,some (x,w)⟩::os) ⟨fr,τ,s⟩ k=obind (gv (x.read ⟨fr,τ,s⟩) w (p1 (A0 g n call (as.map (·.read ⟨fr,τ,s⟩)) .undef s))) fun r=>b8 call os (d.put r ⟨fr,τ,s⟩) k:=m3 (by rw [h]; rfl)
theorem b6l (g:Bool) (n:Nat) (x:Opd) (w:Bool) (h:d9 as=false):b8 call (⟨d,.ldRo g n,as,none,some (x,w)⟩::os) ⟨fr,τ,s⟩ k=obind (gv (x.read ⟨fr,τ,s⟩) w (p1 (O4 g n call (as.map (·.read ⟨fr,τ,s⟩)) .undef s))) fun r=>b8 call os (d.put r ⟨fr,τ,s⟩) k:=m3 (by rw [h]; rfl)
theorem b5G (g:Bool) (n:Nat) (x:Opd) (w:Bool) (h:d9 as=false):b8 call (⟨d,.ldAn g n,as,none,some (x,w)⟩::os) ⟨fr,τ,s⟩ k=obind (gv (x.read ⟨fr,τ,s⟩) w (p1 (D2 g n call (as.map (·.read ⟨fr,τ,s⟩)) .undef s))) fun r=>b8 call os (d.put r ⟨fr,τ,s⟩) k:=m3 (by rw [h]; rfl)
theorem b12 (g:Bool) (n:Nat) (x:Opd) (w:Bool) (h:d9 as=false):b8 call (⟨d,.ldStR g n,as,none,some (x,w)⟩::os) ⟨fr,τ,s⟩ k=obind (gv (x.read ⟨fr,τ,s⟩) w (p1 (F8 g n call (as.map (·.read ⟨fr,τ,s⟩)) .undef s))) fun r=>b8 call os (d.put r ⟨fr,τ,s⟩) k:=m3 (by rw [h]; rfl)
theorem b94 (n:Nat) (x:Opd) (w:Bool) (h:d9 as=false):b8 call (⟨d,.fad n,as,none,some (x,w)⟩::os) ⟨fr,τ,s⟩ k=obind (gv (x.read ⟨fr,τ,s⟩) w (p1 (M7 n call (as.map (·.read ⟨fr,τ,s⟩)) .undef s))) fun r=>b8 call os (d.put r ⟨fr,τ,s⟩) k:=m3 (by rw [h]; rfl)
theorem b9s (o n:Nat) (g:Bool) (x:Opd) (w:Bool) (h:d9 as=false):b8 call (⟨d,.fld o n g,as,none,some (x,w)⟩::os) ⟨fr,τ,s⟩ k=obind (gv (x.read ⟨fr,τ,s⟩) w (p1 (S3 o n g call (as.map (·.read ⟨fr,τ,s⟩)) .undef s))) fun r=>b8 call os (d.put r ⟨fr,τ,s⟩) k:=m3 (by rw [h]; rfl)
theorem c0r (n:Nat) (x:Opd) (w:Bool) (h:d9 as=false):b8 call (⟨d,.iad n,as,none,some (x,w)⟩::os) ⟨fr,τ,s⟩ k=obind (gv (x.read ⟨fr,τ,s⟩) w (p1 (F9 n call (as.map (·.read ⟨fr,τ,s⟩)) .undef s))) fun r=>b8 call os (d.put r ⟨fr,τ,s⟩) k:=m3 (by rw [h]; rfl)
theorem b4L (l n:Nat) (x:Opd) (w:Bool) (h:d9 as=false):b8 call (⟨d,.iadA l n,as,none,some (x,w)⟩::os) ⟨fr,τ,s⟩ k=obind (gv (x.read ⟨fr,τ,s⟩) w (p1 (J1 l n call (as.map (·.read ⟨fr,τ,s⟩)) .undef s))) fun r=>b8 call os (d.put r ⟨fr,τ,s⟩) k:=m3 (by rw [h]; rfl)
theorem b96 (a b:Bool) (x:Opd) (w:Bool) (h:d9 as=false):b8 call (⟨d,.slS a b,as,none,some (x,w)⟩::os) ⟨fr,τ,s⟩ k=obind (gv (x.read ⟨fr,τ,s⟩) w (p1 (P8 a b call (as.map (·.read ⟨fr,τ,s⟩)) .undef s))) fun r=>b8 call os (d.put r ⟨fr,τ,s⟩) k:=m3 (by rw [h]; rfl)
theorem b82 (n:Nat) (a b:Bool) (x:Opd) (w:Bool) (h:d9 as=false):b8 call (⟨d,.slL n a b,as,none,some (x,w)⟩::os) ⟨fr,τ,s⟩ k=obind (gv (x.read ⟨fr,τ,s⟩) w (p1 (P2 n a b call (as.map (·.read ⟨fr,τ,s⟩)) .undef s))) fun r=>b8 call os (d.put r ⟨fr,τ,s⟩) k:=m3 (by rw [h]; rfl)
theorem b9o (l n:Nat) (a b:Bool) (x:Opd) (w:Bool) (h:d9 as=false):b8 call (⟨d,.slA l n a b,as,none,some (x,w)⟩::os) ⟨fr,τ,s⟩ k=obind (gv (x.read ⟨fr,τ,s⟩) w (p1 (S8 l n a b call (as.map (·.read ⟨fr,τ,s⟩)) .undef s))) fun r=>b8 call os (d.put r ⟨fr,τ,s⟩) k:=m3 (by rw [h]; rfl)
theorem c0o (o:BinOp) (x:Opd) (w:Bool) (h:d9 as=false):b8 call (⟨d,.bin o,as,none,some (x,w)⟩::os) ⟨fr,τ,s⟩ k=obind (gv (x.read ⟨fr,τ,s⟩) w (p1 (t6 o call (as.map (·.read ⟨fr,τ,s⟩)) .undef s))) fun r=>b8 call os (d.put r ⟨fr,τ,s⟩) k:=m3 (by rw [h]; rfl)
theorem b4O (o:BinOp) (x:Opd) (w:Bool) (h:d9 as=false):b8 call (⟨d,.binB o,as,none,some (x,w)⟩::os) ⟨fr,τ,s⟩ k=obind (gv (x.read ⟨fr,τ,s⟩) w (p1 (N3 o call (as.map (·.read ⟨fr,τ,s⟩)) .undef s))) fun r=>b8 call os (d.put r ⟨fr,τ,s⟩) k:=m3 (by rw [h]; rfl)
theorem b46 (o:BinOp) (x:Opd) (w:Bool) (h:d9 as=false):b8 call (⟨d,.binP o,as,none,some (x,w)⟩::os) ⟨fr,τ,s⟩ k=obind (gv (x.read ⟨fr,τ,s⟩) w (p1 (O0 o call (as.map (·.read ⟨fr,τ,s⟩)) .undef s))) fun r=>b8 call os (d.put r ⟨fr,τ,s⟩) k:=m3 (by rw [h]; rfl)
theorem c4M (o:UnOp) (x:Opd) (w:Bool) (h:d9 as=false):b8 call (⟨d,.un o,as,none,some (x,w)⟩::os) ⟨fr,τ,s⟩ k=obind (gv (x.read ⟨fr,τ,s⟩) w (p1 (W5 o call (as.map (·.read ⟨fr,τ,s⟩)) .undef s))) fun r=>b8 call os (d.put r ⟨fr,τ,s⟩) k:=m3 (by rw [h]; rfl)
theorem b45 (t:IntKind) (x:Opd) (w:Bool) (h:d9 as=false):b8 call (⟨d,.conv t,as,none,some (x,w)⟩::os) ⟨fr,τ,s⟩ k=obind (gv (x.read ⟨fr,τ,s⟩) w (p1 (N6 t call (as.map (·.read ⟨fr,τ,s⟩)) .undef s))) fun r=>b8 call os (d.put r ⟨fr,τ,s⟩) k:=m3 (by rw [h]; rfl)
theorem c0c (f n:Nat) (x:Opd) (w:Bool) (h:d9 as=false):b8 call (⟨d,.mkF f n,as,none,some (x,w)⟩::os) ⟨fr,τ,s⟩ k=obind (gv (x.read ⟨fr,τ,s⟩) w (p1 (S5 f n call (as.map (·.read ⟨fr,τ,s⟩)) .undef s))) fun r=>b8 call os (d.put r ⟨fr,τ,s⟩) k:=m3 (by rw [h]; rfl)
theorem b6Q (a:Nat) (z:List AV) (b c:Bool) (x:Opd) (w:Bool) (h:d9 as=false):b8 call (⟨d,.mget a z b c,as,none,some (x,w)⟩::os) ⟨fr,τ,s⟩ k=obind (gv (x.read ⟨fr,τ,s⟩) w (p1 (L3 a z b c call (as.map (·.read ⟨fr,τ,s⟩)) .undef s))) fun r=>b8 call os (d.put r ⟨fr,τ,s⟩) k:=m3 (by rw [h]; rfl)
theorem b9D (n:Nat) (x:Opd) (w:Bool) (h:d9 as=false):b8 call (⟨d,.ext n,as,none,some (x,w)⟩::os) ⟨fr,τ,s⟩ k=obind (gv (x.read ⟨fr,τ,s⟩) w (p1 (P6 n call (as.map (·.read ⟨fr,τ,s⟩)) .undef s))) fun r=>b8 call os (d.put r ⟨fr,τ,s⟩) k:=m3 (by rw [h]; rfl)
theorem c0k (n b:Nat) (x:Opd) (w:Bool) (h:d9 as=false):b8 call (⟨d,.app n b,as,none,some (x,w)⟩::os) ⟨fr,τ,s⟩ k=obind (gv (x.read ⟨fr,τ,s⟩) w (p1 (T5 n b call (as.map (·.read ⟨fr,τ,s⟩)) .undef s))) fun r=>b8 call os (d.put r ⟨fr,τ,s⟩) k:=m3 (by rw [h]; rfl)
theorem b54 (i:Nat) (g:Bool) (n:Nat) (j:Nat) (h:d9 as=false):b8 call (⟨d,.ldLc i g n,as,some j,none⟩::os) ⟨fr,τ,s⟩ k=obind (p1 (I6 i g n call (as.map (·.read ⟨fr,τ,s⟩)) (fr.getD j .undef) s)) fun r=>b8 call os (d.put r ⟨fr,τ,s⟩) k:=c5Y (by rw [h]; rfl)
theorem b2B (i:Nat) (g:Bool) (n:Nat) (j:Nat) (x:Opd) (w:Bool) (h:d9 as=false):b8 call (⟨d,.ldLc i g n,as,some j,some (x,w)⟩::os) ⟨fr,τ,s⟩ k=obind (gv (x.read ⟨fr,τ,s⟩) w (p1 (I6 i g n call (as.map (·.read ⟨fr,τ,s⟩)) (fr.getD j .undef) s))) fun r=>b8 call os (d.put r ⟨fr,τ,s⟩) k:=m3 (by rw [h]; rfl)
theorem a9F (z:List AV):b8 call (⟨d,.allocO z,as,none,none⟩::os) ⟨fr,τ,s⟩ k=obind (p2 (J6 z call (as.map (·.read ⟨fr,τ,s⟩)) .undef s)) fun x=>b8 call os (d.put x.1 { b7 as ⟨fr,τ,s⟩ with st:=x.2 }) k:=O6 call d as os ⟨fr,τ,s⟩ k
theorem a7B (z:List AV) (x:Opd) (w:Bool) (h:d9 as=false):b8 call (⟨d,.allocO z,as,none,some (x,w)⟩::os) ⟨fr,τ,s⟩ k=obind (gv2 (x.read ⟨fr,τ,s⟩) w s (p2 (J6 z call (as.map (·.read ⟨fr,τ,s⟩)) .undef s))) fun r=>b8 call os (d.put r.1 ⟨fr,τ,r.2⟩) k:=J0 rfl rfl h
theorem b48:b8 call (⟨d,.boxO,as,none,none⟩::os) ⟨fr,τ,s⟩ k=obind (p2 (Q8 call (as.map (·.read ⟨fr,τ,s⟩)) .undef s)) fun x=>b8 call os (d.put x.1 { b7 as ⟨fr,τ,s⟩ with st:=x.2 }) k:=O6 call d as os ⟨fr,τ,s⟩ k
theorem b3b (x:Opd) (w:Bool) (h:d9 as=false):b8 call (⟨d,.boxO,as,none,some (x,w)⟩::os) ⟨fr,τ,s⟩ k=obind (gv2 (x.read ⟨fr,τ,s⟩) w s (p2 (Q8 call (as.map (·.read ⟨fr,τ,s⟩)) .undef s))) fun r=>b8 call os (d.put r.1 ⟨fr,τ,r.2⟩) k:=J0 rfl rfl h
theorem a8e (q:Nat) (z:List (List AV)) (t:List Nat):b8 call (⟨d,.bsliceO q z t,as,none,none⟩::os) ⟨fr,τ,s⟩ k=obind (p2 (H3 q z t call (as.map (·.read ⟨fr,τ,s⟩)) .undef s)) fun x=>b8 call os (d.put x.1 { b7 as ⟨fr,τ,s⟩ with st:=x.2 }) k:=O6 call d as os ⟨fr,τ,s⟩ k
theorem a5G (q:Nat) (z:List (List AV)) (t:List Nat) (x:Opd) (w:Bool) (h:d9 as=false):b8 call (⟨d,.bsliceO q z t,as,none,some (x,w)⟩::os) ⟨fr,τ,s⟩ k=obind (gv2 (x.read ⟨fr,τ,s⟩) w s (p2 (H3 q z t call (as.map (·.read ⟨fr,τ,s⟩)) .undef s))) fun r=>b8 call os (d.put r.1 ⟨fr,τ,r.2⟩) k:=J0 rfl rfl h
theorem b5J (n b:Nat):b8 call (⟨d,.appM n b,as,none,none⟩::os) ⟨fr,τ,s⟩ k=obind (p2 (G6 n b call (as.map (·.read ⟨fr,τ,s⟩)) .undef s)) fun x=>b8 call os (d.put x.1 { b7 as ⟨fr,τ,s⟩ with st:=x.2 }) k:=O6 call d as os ⟨fr,τ,s⟩ k
theorem b2J (n b:Nat) (x:Opd) (w:Bool) (h:d9 as=false):b8 call (⟨d,.appM n b,as,none,some (x,w)⟩::os) ⟨fr,τ,s⟩ k=obind (gv2 (x.read ⟨fr,τ,s⟩) w s (p2 (G6 n b call (as.map (·.read ⟨fr,τ,s⟩)) .undef s))) fun r=>b8 call os (d.put r.1 ⟨fr,τ,r.2⟩) k:=J0 rfl rfl h
theorem b0t (n:Nat):b8 call (⟨d,.ldStSR n,as,none,none⟩::os) ⟨fr,τ,s⟩ k=obind (p2 (B1 n call (as.map (·.read ⟨fr,τ,s⟩)) .undef s)) fun x=>b8 call os (d.put x.1 { b7 as ⟨fr,τ,s⟩ with st:=x.2 }) k:=O6 call d as os ⟨fr,τ,s⟩ k
theorem a7m (n:Nat) (x:Opd) (w:Bool) (h:d9 as=false):b8 call (⟨d,.ldStSR n,as,none,some (x,w)⟩::os) ⟨fr,τ,s⟩ k=obind (gv2 (x.read ⟨fr,τ,s⟩) w s (p2 (B1 n call (as.map (·.read ⟨fr,τ,s⟩)) .undef s))) fun r=>b8 call os (d.put r.1 ⟨fr,τ,r.2⟩) k:=J0 rfl rfl h
theorem b27 (n:Nat):b8 call (⟨d,.stStA n,as,none,none⟩::os) ⟨fr,τ,s⟩ k=obind (p2 (D8 n call (as.map (·.read ⟨fr,τ,s⟩)) .undef s)) fun x=>b8 call os (d.put x.1 { b7 as ⟨fr,τ,s⟩ with st:=x.2 }) k:=O6 call d as os ⟨fr,τ,s⟩ k
theorem b0k (n:Nat) (x:Opd) (w:Bool) (h:d9 as=false):b8 call (⟨d,.stStA n,as,none,some (x,w)⟩::os) ⟨fr,τ,s⟩ k=obind (gv2 (x.read ⟨fr,τ,s⟩) w s (p2 (D8 n call (as.map (·.read ⟨fr,τ,s⟩)) .undef s))) fun r=>b8 call os (d.put r.1 ⟨fr,τ,r.2⟩) k:=J0 rfl rfl h
theorem b14 (f m:Nat):b8 call (⟨d,.callA f m,as,none,none⟩::os) ⟨fr,τ,s⟩ k=obind (p2 (B8 f m call (as.map (·.read ⟨fr,τ,s⟩)) .undef s)) fun x=>b8 call os (d.put x.1 { b7 as ⟨fr,τ,s⟩ with st:=x.2 }) k:=O6 call d as os ⟨fr,τ,s⟩ k
theorem a9y (f m:Nat) (x:Opd) (w:Bool) (h:d9 as=false):b8 call (⟨d,.callA f m,as,none,some (x,w)⟩::os) ⟨fr,τ,s⟩ k=obind (gv2 (x.read ⟨fr,τ,s⟩) w s (p2 (B8 f m call (as.map (·.read ⟨fr,τ,s⟩)) .undef s))) fun r=>b8 call os (d.put r.1 ⟨fr,τ,r.2⟩) k:=J0 rfl rfl h
theorem b16:b8 call (⟨d,.ldStS,as,none,none⟩::os) ⟨fr,τ,s⟩ k=obind (p2 (z6 call (as.map (·.read ⟨fr,τ,s⟩)) .undef s)) fun x=>b8 call os (d.put x.1 { b7 as ⟨fr,τ,s⟩ with st:=x.2 }) k:=O6 call d as os ⟨fr,τ,s⟩ k
theorem b0s (x:Opd) (w:Bool) (h:d9 as=false):b8 call (⟨d,.ldStS,as,none,some (x,w)⟩::os) ⟨fr,τ,s⟩ k=obind (gv2 (x.read ⟨fr,τ,s⟩) w s (p2 (z6 call (as.map (·.read ⟨fr,τ,s⟩)) .undef s))) fun r=>b8 call os (d.put r.1 ⟨fr,τ,r.2⟩) k:=J0 rfl rfl h
theorem b5p (n:Nat):b8 call (⟨d,.stSt n,as,none,none⟩::os) ⟨fr,τ,s⟩ k=obind (p2 (D3 n call (as.map (·.read ⟨fr,τ,s⟩)) .undef s)) fun x=>b8 call os (d.put x.1 { b7 as ⟨fr,τ,s⟩ with st:=x.2 }) k:=O6 call d as os ⟨fr,τ,s⟩ k
theorem b15 (n:Nat) (x:Opd) (w:Bool) (h:d9 as=false):b8 call (⟨d,.stSt n,as,none,some (x,w)⟩::os) ⟨fr,τ,s⟩ k=obind (gv2 (x.read ⟨fr,τ,s⟩) w s (p2 (D3 n call (as.map (·.read ⟨fr,τ,s⟩)) .undef s))) fun r=>b8 call os (d.put r.1 ⟨fr,τ,r.2⟩) k:=J0 rfl rfl h
theorem b9n:b8 call (⟨d,.mkM,as,none,none⟩::os) ⟨fr,τ,s⟩ k=obind (p2 (X3 call (as.map (·.read ⟨fr,τ,s⟩)) .undef s)) fun x=>b8 call os (d.put x.1 { b7 as ⟨fr,τ,s⟩ with st:=x.2 }) k:=O6 call d as os ⟨fr,τ,s⟩ k
theorem b57 (x:Opd) (w:Bool) (h:d9 as=false):b8 call (⟨d,.mkM,as,none,some (x,w)⟩::os) ⟨fr,τ,s⟩ k=obind (gv2 (x.read ⟨fr,τ,s⟩) w s (p2 (X3 call (as.map (·.read ⟨fr,τ,s⟩)) .undef s))) fun r=>b8 call os (d.put r.1 ⟨fr,τ,r.2⟩) k:=J0 rfl rfl h
theorem b6U (n:Nat):b8 call (⟨d,.mset n,as,none,none⟩::os) ⟨fr,τ,s⟩ k=obind (p2 (W3 n call (as.map (·.read ⟨fr,τ,s⟩)) .undef s)) fun x=>b8 call os (d.put x.1 { b7 as ⟨fr,τ,s⟩ with st:=x.2 }) k:=O6 call d as os ⟨fr,τ,s⟩ k
theorem b2M (n:Nat) (x:Opd) (w:Bool) (h:d9 as=false):b8 call (⟨d,.mset n,as,none,some (x,w)⟩::os) ⟨fr,τ,s⟩ k=obind (gv2 (x.read ⟨fr,τ,s⟩) w s (p2 (W3 n call (as.map (·.read ⟨fr,τ,s⟩)) .undef s))) fun r=>b8 call os (d.put r.1 ⟨fr,τ,r.2⟩) k:=J0 rfl rfl h
theorem b6O (f:Nat):b8 call (⟨d,.call f,as,none,none⟩::os) ⟨fr,τ,s⟩ k=obind (p2 (s5 f call (as.map (·.read ⟨fr,τ,s⟩)) .undef s)) fun x=>b8 call os (d.put x.1 { b7 as ⟨fr,τ,s⟩ with st:=x.2 }) k:=O6 call d as os ⟨fr,τ,s⟩ k
theorem b1Y (f:Nat) (x:Opd) (w:Bool) (h:d9 as=false):b8 call (⟨d,.call f,as,none,some (x,w)⟩::os) ⟨fr,τ,s⟩ k=obind (gv2 (x.read ⟨fr,τ,s⟩) w s (p2 (s5 f call (as.map (·.read ⟨fr,τ,s⟩)) .undef s))) fun r=>b8 call os (d.put r.1 ⟨fr,τ,r.2⟩) k:=J0 rfl rfl h
theorem b2S:b8 call (⟨d,.callV,as,none,none⟩::os) ⟨fr,τ,s⟩ k=obind (p2 (H6 call (as.map (·.read ⟨fr,τ,s⟩)) .undef s)) fun x=>b8 call os (d.put x.1 { b7 as ⟨fr,τ,s⟩ with st:=x.2 }) k:=O6 call d as os ⟨fr,τ,s⟩ k
theorem b0I (x:Opd) (w:Bool) (h:d9 as=false):b8 call (⟨d,.callV,as,none,some (x,w)⟩::os) ⟨fr,τ,s⟩ k=obind (gv2 (x.read ⟨fr,τ,s⟩) w s (p2 (H6 call (as.map (·.read ⟨fr,τ,s⟩)) .undef s))) fun r=>b8 call os (d.put r.1 ⟨fr,τ,r.2⟩) k:=J0 rfl rfl h
theorem b2u (z:List AV) (j:Nat):b8 call (⟨d,.alloc z,as,some j,none⟩::os) ⟨fr,τ,s⟩ k=obind (Q4 z call (as.map (·.read ⟨fr,τ,s⟩)) (fr.getD j .undef) s) fun x=>b8 call os (d.put x.1 { b7 as ⟨fr,τ,s⟩ with fr:=(b7 as ⟨fr,τ,s⟩).fr.set j x.2.1,st:=x.2.2 }) k:=a8Y call d as os ⟨fr,τ,s⟩ k j
theorem b6A (j:Nat):b8 call (⟨d,.boxV,as,some j,none⟩::os) ⟨fr,τ,s⟩ k=obind (U5 call (as.map (·.read ⟨fr,τ,s⟩)) (fr.getD j .undef) s) fun x=>b8 call os (d.put x.1 { b7 as ⟨fr,τ,s⟩ with fr:=(b7 as ⟨fr,τ,s⟩).fr.set j x.2.1,st:=x.2.2 }) k:=a8Y call d as os ⟨fr,τ,s⟩ k j
theorem b2H (i:Nat) (j:Nat):b8 call (⟨d,.ldLcS i,as,some j,none⟩::os) ⟨fr,τ,s⟩ k=obind (N1 i call (as.map (·.read ⟨fr,τ,s⟩)) (fr.getD j .undef) s) fun x=>b8 call os (d.put x.1 { b7 as ⟨fr,τ,s⟩ with fr:=(b7 as ⟨fr,τ,s⟩).fr.set j x.2.1,st:=x.2.2 }) k:=a8Y call d as os ⟨fr,τ,s⟩ k j
theorem b64 (i n:Nat) (j:Nat):b8 call (⟨d,.stLc i n,as,some j,none⟩::os) ⟨fr,τ,s⟩ k=obind (O5 i n call (as.map (·.read ⟨fr,τ,s⟩)) (fr.getD j .undef) s) fun x=>b8 call os (d.put x.1 { b7 as ⟨fr,τ,s⟩ with fr:=(b7 as ⟨fr,τ,s⟩).fr.set j x.2.1,st:=x.2.2 }) k:=a8Y call d as os ⟨fr,τ,s⟩ k j
theorem c2w (x:Opd) (w:Bool) (h:d9 as=false):b8 call (⟨d,.mv,as,none,some (x,w)⟩::os) ⟨fr,τ,s⟩ k=obind (gv (x.read ⟨fr,τ,s⟩) w (p1 (a0T call (as.map (·.read ⟨fr,τ,s⟩)) .undef s))) fun r=>b8 call os (d.put r ⟨fr,τ,s⟩) k:=m3 (by rw [h]; rfl)
theorem b6T (x:Opd) (w:Bool) (h:d9 as=false):b8 call (⟨d,.pick,as,none,some (x,w)⟩::os) ⟨fr,τ,s⟩ k=obind (gv (x.read ⟨fr,τ,s⟩) w (p1 (A9 call (as.map (·.read ⟨fr,τ,s⟩)) .undef s))) fun r=>b8 call os (d.put r ⟨fr,τ,s⟩) k:=m3 (by rw [h]; rfl)
theorem a9N (x:Opd) (w:Bool) (h:d9 as=false):b8 call (⟨d,.nilchk,as,none,some (x,w)⟩::os) ⟨fr,τ,s⟩ k=obind (gv (x.read ⟨fr,τ,s⟩) w (p1 (B0 call (as.map (·.read ⟨fr,τ,s⟩)) .undef s))) fun r=>b8 call os (d.put r ⟨fr,τ,s⟩) k:=m3 (by rw [h]; rfl)
theorem b4G (x:Opd) (w:Bool) (h:d9 as=false):b8 call (⟨d,.idxS,as,none,some (x,w)⟩::os) ⟨fr,τ,s⟩ k=obind (gv (x.read ⟨fr,τ,s⟩) w (p1 (L8 call (as.map (·.read ⟨fr,τ,s⟩)) .undef s))) fun r=>b8 call os (d.put r ⟨fr,τ,s⟩) k:=m3 (by rw [h]; rfl)
theorem b9m (x:Opd) (w:Bool) (h:d9 as=false):b8 call (⟨d,.slZ,as,none,some (x,w)⟩::os) ⟨fr,τ,s⟩ k=obind (gv (x.read ⟨fr,τ,s⟩) w (p1 (R7 call (as.map (·.read ⟨fr,τ,s⟩)) .undef s))) fun r=>b8 call os (d.put r ⟨fr,τ,s⟩) k:=m3 (by rw [h]; rfl)
theorem b52 (x:Opd) (w:Bool) (h:d9 as=false):b8 call (⟨d,.lenS,as,none,some (x,w)⟩::os) ⟨fr,τ,s⟩ k=obind (gv (x.read ⟨fr,τ,s⟩) w (p1 (N5 call (as.map (·.read ⟨fr,τ,s⟩)) .undef s))) fun r=>b8 call os (d.put r ⟨fr,τ,s⟩) k:=m3 (by rw [h]; rfl)
theorem b6Y (x:Opd) (w:Bool) (h:d9 as=false):b8 call (⟨d,.lenL,as,none,some (x,w)⟩::os) ⟨fr,τ,s⟩ k=obind (gv (x.read ⟨fr,τ,s⟩) w (p1 (B9 call (as.map (·.read ⟨fr,τ,s⟩)) .undef s))) fun r=>b8 call os (d.put r ⟨fr,τ,s⟩) k:=m3 (by rw [h]; rfl)
theorem c0l (x:Opd) (w:Bool) (h:d9 as=false):b8 call (⟨d,.b2s,as,none,some (x,w)⟩::os) ⟨fr,τ,s⟩ k=obind (gv (x.read ⟨fr,τ,s⟩) w (p1 (R8 call (as.map (·.read ⟨fr,τ,s⟩)) .undef s))) fun r=>b8 call os (d.put r ⟨fr,τ,s⟩) k:=m3 (by rw [h]; rfl)
end
theorem VV:type_of% (And.intro (And.intro (And.intro (And.intro (And.intro (And.intro @b63 (And.intro @a7s @a4U)) (And.intro (And.intro @c3P @b8Y) (And.intro @c4g @b9p))) (And.intro (And.intro (And.intro @c5a @c4i) (And.intro @b9E @put_t)) (And.intro (And.intro @put_v @b8Z) (And.intro @b9L @c3D)))) (And.intro (And.intro (And.intro (And.intro @c3z @c31) (And.intro @c4B @c4t)) (And.intro (And.intro @c5i @c0v) (And.intro @c0i @c2B))) (And.intro (And.intro (And.intro @c3T @c2T) (And.intro @c2J @c5h)) (And.intro (And.intro @b6m @b0h) (And.intro @b2a @b00))))) (And.intro (And.intro (And.intro (And.intro @a8j (And.intro @b59 @b4P)) (And.intro (And.intro @b4X @b17) (And.intro @b9Q @b9O))) (And.intro (And.intro (And.intro @c0t @b6q) (And.intro @b5w @b9k)) (And.intro (And.intro @b9K @b9t) (And.intro @b84 @c0e)))) (And.intro (And.intro (And.intro (And.intro @b43 @b5h) (And.intro @c3g @b5D)) (And.intro (And.intro @b9Z @b4K) (And.intro @b89 @b6M))) (And.intro (And.intro (And.intro @b5e @b9M) (And.intro @b9u @b2Q)) (And.intro (And.intro @a9W @a8k) (And.intro @b5t @b6l)))))) (And.intro (And.intro (And.intro (And.intro (And.intro @b5G (And.intro @b12 @b94)) (And.intro (And.intro @b9s @c0r) (And.intro @b4L @b96))) (And.intro (And.intro (And.intro @b82 @b9o) (And.intro @c0o @b4O)) (And.intro (And.intro @b46 @c4M) (And.intro @b45 @c0c)))) (And.intro (And.intro (And.intro (And.intro @b6Q @b9D) (And.intro @c0k @b54)) (And.intro (And.intro @b2B @a9F) (And.intro @a7B @b48))) (And.intro (And.intro (And.intro @b3b @a8e) (And.intro @a5G @b5J)) (And.intro (And.intro @b2J @b0t) (And.intro @a7m @b27))))) (And.intro (And.intro (And.intro (And.intro (And.intro @b0k @b14) (And.intro @a9y @b16)) (And.intro (And.intro @b0s @b5p) (And.intro @b15 @b9n))) (And.intro (And.intro (And.intro @b57 @b6U) (And.intro @b2M @b6O)) (And.intro (And.intro @b1Y @b2S) (And.intro @b0I @b2u)))) (And.intro (And.intro (And.intro (And.intro @b6A @b2H) (And.intro @b64 @c5f)) (And.intro (And.intro @c2X @c32) (And.intro @c2o @c4D))) (And.intro (And.intro (And.intro @c2w @b6T) (And.intro @a9N @b4G)) (And.intro (And.intro @b9m @b52) (And.intro @b6Y @c0l))))))):=(And.intro (And.intro (And.intro (And.intro (And.intro (And.intro @b63 (And.intro @a7s @a4U)) (And.intro (And.intro @c3P @b8Y) (And.intro @c4g @b9p))) (And.intro (And.intro (And.intro @c5a @c4i) (And.intro @b9E @put_t)) (And.intro (And.intro @put_v @b8Z) (And.intro @b9L @c3D)))) (And.intro (And.intro (And.intro (And.intro @c3z @c31) (And.intro @c4B @c4t)) (And.intro (And.intro @c5i @c0v) (And.intro @c0i @c2B))) (And.intro (And.intro (And.intro @c3T @c2T) (And.intro @c2J @c5h)) (And.intro (And.intro @b6m @b0h) (And.intro @b2a @b00))))) (And.intro (And.intro (And.intro (And.intro @a8j (And.intro @b59 @b4P)) (And.intro (And.intro @b4X @b17) (And.intro @b9Q @b9O))) (And.intro (And.intro (And.intro @c0t @b6q) (And.intro @b5w @b9k)) (And.intro (And.intro @b9K @b9t) (And.intro @b84 @c0e)))) (And.intro (And.intro (And.intro (And.intro @b43 @b5h) (And.intro @c3g @b5D)) (And.intro (And.intro @b9Z @b4K) (And.intro @b89 @b6M))) (And.intro (And.intro (And.intro @b5e @b9M) (And.intro @b9u @b2Q)) (And.intro (And.intro @a9W @a8k) (And.intro @b5t @b6l)))))) (And.intro (And.intro (And.intro (And.intro (And.intro @b5G (And.intro @b12 @b94)) (And.intro (And.intro @b9s @c0r) (And.intro @b4L @b96))) (And.intro (And.intro (And.intro @b82 @b9o) (And.intro @c0o @b4O)) (And.intro (And.intro @b46 @c4M) (And.intro @b45 @c0c)))) (And.intro (And.intro (And.intro (And.intro @b6Q @b9D) (And.intro @c0k @b54)) (And.intro (And.intro @b2B @a9F) (And.intro @a7B @b48))) (And.intro (And.intro (And.intro @b3b @a8e) (And.intro @a5G @b5J)) (And.intro (And.intro @b2J @b0t) (And.intro @a7m @b27))))) (And.intro (And.intro (And.intro (And.intro (And.intro @b0k @b14) (And.intro @a9y @b16)) (And.intro (And.intro @b0s @b5p) (And.intro @b15 @b9n))) (And.intro (And.intro (And.intro @b57 @b6U) (And.intro @b2M @b6O)) (And.intro (And.intro @b1Y @b2S) (And.intro @b0I @b2u)))) (And.intro (And.intro (And.intro (And.intro @b6A @b2H) (And.intro @b64 @c5f)) (And.intro (And.intro @c2X @c32) (And.intro @c2o @c4D))) (And.intro (And.intro (And.intro @c2w @b6T) (And.intro @a9N @b4G)) (And.intro (And.intro @b9m @b52) (And.intro @b6Y @c0l)))))))
end Go.Cb.V
/-
 THE ABSTRACT MACHINE, part 42: the operations told so that the kernel reckons them quickly, at any kind of answer (printed out of parts 38 and 39).
-/
set_option maxRecDepth 4000
set_option linter.unusedVariables false
set_option linter.unusedSimpArgs false
namespace Go.Cb.G
open Go Go.Cb
variable {ρ:Type}
/-! taking values apart -/
section
noncomputable def onI (x:AV) (e:(Option ρ)) (k:IntKind→Int→(Option ρ)):(Option ρ):=AV.rec (motive_1:=fun _=>(Option ρ)) (motive_2:=fun _=>Unit) (motive_3:=fun _=>Unit)
 e (fun _=>e) (fun t n=>k t n) (fun _=>e) (fun _ _ _=>e) (fun _ _=>e) e (fun _ _=>e) (fun _ _=>e) (fun _ _=>e) (fun _=>e) e (fun _ _ _ _ _=>e) e (fun _ _=>e) (fun _ _=>e) (fun _ _ _=>e) e (fun _ _ _ _=>e) (fun _ _=>e) e
 () (fun _ _ _ _=>()) () (fun _ _ _ _=>()) x
noncomputable def b77 (x:AV) (e:(Option ρ)) (k:IntKind→Int→(Option ρ)) (l:List Nat→(Option ρ)):(Option ρ):=AV.rec (motive_1:=fun _=>(Option ρ)) (motive_2:=fun _=>Unit) (motive_3:=fun _=>Unit)
 e (fun _=>e) (fun t n=>k t n) (fun s=>l s) (fun _ _ _=>e) (fun _ _=>e) e (fun _ _=>e) (fun _ _=>e) (fun _ _=>e) (fun _=>e) e (fun _ _ _ _ _=>e) e (fun _ _=>e) (fun _ _=>e) (fun _ _ _=>e) e (fun _ _ _ _=>e) (fun _ _=>e) e
 () (fun _ _ _ _=>()) () (fun _ _ _ _=>()) x
noncomputable def onS (x:AV) (e:(Option ρ)) (k:List Nat→(Option ρ)):(Option ρ):=AV.rec (motive_1:=fun _=>(Option ρ)) (motive_2:=fun _=>Unit) (motive_3:=fun _=>Unit)
 e (fun _=>e) (fun t n=>e) (fun s=>k s) (fun _ _ _=>e) (fun _ _=>e) e (fun _ _=>e) (fun _ _=>e) (fun _ _=>e) (fun _=>e) e (fun _ _ _ _ _=>e) e (fun _ _=>e) (fun _ _=>e) (fun _ _ _=>e) e (fun _ _ _ _=>e) (fun _ _=>e) e
 () (fun _ _ _ _=>()) () (fun _ _ _ _=>()) x
noncomputable def onB (x:AV) (e:(Option ρ)) (k:Bool→(Option ρ)):(Option ρ):=AV.rec (motive_1:=fun _=>(Option ρ)) (motive_2:=fun _=>Unit) (motive_3:=fun _=>Unit)
 e (fun b=>k b) (fun t n=>e) (fun s=>e) (fun _ _ _=>e) (fun _ _=>e) e (fun _ _=>e) (fun _ _=>e) (fun _ _=>e) (fun _=>e) e (fun _ _ _ _ _=>e) e (fun _ _=>e) (fun _ _=>e) (fun _ _ _=>e) e (fun _ _ _ _=>e) (fun _ _=>e) e
 () (fun _ _ _ _=>()) () (fun _ _ _ _=>()) x
noncomputable def c5r (x:AV) (e:(Option ρ)) (k:Bool→(Option ρ)) (t:List AV→(Option ρ)):(Option ρ):=AV.rec (motive_1:=fun _=>(Option ρ)) (motive_2:=fun _=>Unit) (motive_3:=fun _=>Unit)
 e (fun b=>k b) (fun t n=>e) (fun s=>e) (fun _ _ _=>e) (fun _ _=>e) e (fun _ _=>e) (fun _ _=>e) (fun _ _=>e) (fun _=>e) e (fun _ _ _ _ _=>e) e (fun _ _=>e) (fun vs _=>t vs) (fun _ _ _=>e) e (fun _ _ _ _=>e) (fun _ _=>e) e
 () (fun _ _ _ _=>()) () (fun _ _ _ _=>()) x
noncomputable def onL (x:AV) (e:(Option ρ)) (k:List (List AV)→(Option ρ)):(Option ρ):=AV.rec (motive_1:=fun _=>(Option ρ)) (motive_2:=fun _=>Unit) (motive_3:=fun _=>Unit)
 e (fun b=>e) (fun t n=>e) (fun s=>e) (fun _ xs _=>k xs) (fun _ _=>e) e (fun _ _=>e) (fun _ _=>e) (fun _ _=>e) (fun _=>e) e (fun _ _ _ _ _=>e) e (fun _ _=>e) (fun _ _=>e) (fun _ _ _=>e) e (fun _ _ _ _=>e) (fun _ _=>e) e
 () (fun _ _ _ _=>()) () (fun _ _ _ _=>()) x
noncomputable def onP (x:AV) (e:(Option ρ)) (k:Nat→Nat→(Option ρ)):(Option ρ):=AV.rec (motive_1:=fun _=>(Option ρ)) (motive_2:=fun _=>Unit) (motive_3:=fun _=>Unit)
 e (fun b=>e) (fun t n=>e) (fun s=>e) (fun _ xs _=>e) (fun o f=>k o f) e (fun _ _=>e) (fun _ _=>e) (fun _ _=>e) (fun _=>e) e (fun _ _ _ _ _=>e) e (fun _ _=>e) (fun _ _=>e) (fun _ _ _=>e) e (fun _ _ _ _=>e) (fun _ _=>e) e
 () (fun _ _ _ _=>()) () (fun _ _ _ _=>()) x
noncomputable def a8V (x:AV) (e:(Option ρ)) (k:Nat→Nat→(Option ρ)) (l:List AV→(Option ρ)) (m:Nat→Nat→(Option ρ)):(Option ρ):=AV.rec (motive_1:=fun _=>(Option ρ)) (motive_2:=fun _=>Unit) (motive_3:=fun _=>Unit)
 e (fun b=>e) (fun t n=>e) (fun s=>e) (fun _ xs _=>e) (fun o f=>k o f) e (fun cs _=>l cs) (fun i f=>m i f) (fun _ _=>e) (fun _=>e) e (fun _ _ _ _ _=>e) e (fun _ _=>e) (fun _ _=>e) (fun _ _ _=>e) e (fun _ _ _ _=>e) (fun _ _=>e) e
 () (fun _ _ _ _=>()) () (fun _ _ _ _=>()) x
noncomputable def onR (x:AV) (e:(Option ρ)) (l:List AV→(Option ρ)):(Option ρ):=AV.rec (motive_1:=fun _=>(Option ρ)) (motive_2:=fun _=>Unit) (motive_3:=fun _=>Unit)
 e (fun b=>e) (fun t n=>e) (fun s=>e) (fun _ xs _=>e) (fun o f=>e) e (fun cs _=>l cs) (fun _ _=>e) (fun _ _=>e) (fun _=>e) e (fun _ _ _ _ _=>e) e (fun _ _=>e) (fun _ _=>e) (fun _ _ _=>e) e (fun _ _ _ _=>e) (fun _ _=>e) e
 () (fun _ _ _ _=>()) () (fun _ _ _ _=>()) x
noncomputable def b39 (x:AV) (e:(Option ρ)) (l:List AV→(Option ρ)):(Option ρ):=AV.rec (motive_1:=fun _=>(Option ρ)) (motive_2:=fun _=>Unit) (motive_3:=fun _=>Unit)
 e (fun b=>e) (fun t n=>e) (fun s=>e) (fun _ xs _=>e) (fun o f=>e) e (fun cs _=>e) (fun _ _=>e) (fun cs _=>l cs) (fun _=>e) e (fun _ _ _ _ _=>e) e (fun _ _=>e) (fun _ _=>e) (fun _ _ _=>e) e (fun _ _ _ _=>e) (fun _ _=>e) e
 () (fun _ _ _ _=>()) () (fun _ _ _ _=>()) x
noncomputable def b8Q (x:AV) (e:(Option ρ)) (l:Nat→Nat→(Option ρ)):(Option ρ):=AV.rec (motive_1:=fun _=>(Option ρ)) (motive_2:=fun _=>Unit) (motive_3:=fun _=>Unit)
 e (fun b=>e) (fun t n=>e) (fun s=>e) (fun _ xs _=>e) (fun o f=>e) e (fun cs _=>e) (fun i f=>l i f) (fun cs _=>e) (fun _=>e) e (fun _ _ _ _ _=>e) e (fun _ _=>e) (fun _ _=>e) (fun _ _ _=>e) e (fun _ _ _ _=>e) (fun _ _=>e) e
 () (fun _ _ _ _=>()) () (fun _ _ _ _=>()) x

theorem X7 (x:AV) (e:(Option ρ)) (k:IntKind→Int→(Option ρ)):onI x e k=match x with|.int t n=>k t n|_=>e:=by cases x <;> rfl
theorem b3c (x:AV) (e:(Option ρ)) (k:IntKind→Int→(Option ρ)) (l:List Nat→(Option ρ)):b77 x e k l=match x with|.int t n=>k t n|.str s=>l s|_=>e:=by cases x <;> rfl
theorem a15 (x:AV) (e:(Option ρ)) (k:List Nat→(Option ρ)):onS x e k=match x with|.str s=>k s|_=>e:=by cases x <;> rfl
theorem a9j (x:AV) (e:(Option ρ)) (k:Bool→(Option ρ)):onB x e k=match x with|.bool b=>k b|_=>e:=by cases x <;> rfl
theorem c0N (x:AV) (e:(Option ρ)) (k:Bool→(Option ρ)) (t:List AV→(Option ρ)):c5r x e k t=match x with|.bool b=>k b|.tuple vs=>t vs|_=>e:=by cases x <;> rfl
theorem b0c (x:AV) (e:(Option ρ)) (k:List (List AV)→(Option ρ)):onL x e k=match x with|.list _ xs=>k xs|_=>e:=by cases x <;> rfl
theorem b6p (x:AV) (e:(Option ρ)) (k:Nat→Nat→(Option ρ)):onP x e k=match x with|.ptr o f=>k o f|_=>e:=by cases x <;> rfl
theorem a4i (x:AV) (e:(Option ρ)) (k:Nat→Nat→(Option ρ)) (l:List AV→(Option ρ)) (m:Nat→Nat→(Option ρ)):a8V x e k l m=match x with|.ptr o f=>k o f|.ro cs=>l cs|.loc i f=>m i f|_=>e:=by cases x <;> rfl
theorem c4O (x:AV) (e:(Option ρ)) (l:List AV→(Option ρ)):onR x e l=match x with|.ro cs=>l cs|_=>e:=by cases x <;> rfl
theorem a7e (x:AV) (e:(Option ρ)) (l:List AV→(Option ρ)):b39 x e l=match x with|.box cs=>l cs|_=>e:=by cases x <;> rfl
theorem b2Z (x:AV) (e:(Option ρ)) (l:Nat→Nat→(Option ρ)):b8Q x e l=match x with|.loc i f=>l i f|_=>e:=by cases x <;> rfl
end

noncomputable def kIx (k:IntKind):Nat:=IntKind.rec (motive:=fun _=>Nat) 0 1 2 3 4 5 6 7 k
noncomputable def cB (b:Bool) (x y:(Option ρ)):(Option ρ):=Bool.rec (motive:=fun _=>(Option ρ)) y x b
theorem M0 (b:Bool) (x y:(Option ρ)):cB b x y=if b=true then x else y:=by cases b <;> rfl
theorem a2B (a b:IntKind):Nat.beq (kIx a) (kIx b)=decide (a=b):=by cases a <;> cases b <;> rfl
noncomputable def bo (b:Bool) (k:AV→(Option ρ)):(Option ρ):=cB b (k (.bool true)) (k (.bool false))
theorem a4H (b:Bool) (k:AV→(Option ρ)):bo b k=k (.bool b):=by cases b <;> rfl
noncomputable def a4d (n:Nat) (k:Nat→(Option ρ)):(Option ρ):=Nat.rec (motive:=fun _=>(Option ρ)) (k 0) (fun m _=>k (Nat.succ m)) n
theorem a1p (n:Nat) (k:Nat→(Option ρ)):a4d n k=k n:=by cases n <;> rfl
noncomputable def nn (a b:Int) (e:(Option ρ)) (k:Nat→Nat→(Option ρ)):(Option ρ):=Int.rec (motive:=fun _=>(Option ρ)) (fun a=>Int.rec (motive:=fun _=>(Option ρ)) (fun b=>k a b) (fun _=>e) b) (fun _=>e) a
theorem a2Z (a b:Int) (e:(Option ρ)) (k:Nat→Nat→(Option ρ)):nn a b e k=match a,b with|.ofNat a,.ofNat b=>k a b|_,_=>e:=by cases a <;> cases b <;> rfl
noncomputable def eqF (x:List Nat):List Nat→Bool:=List.rec (motive:=fun _=>List Nat→Bool) (fun y=>List.rec (motive:=fun _=>Bool) true (fun _ _ _=>false) y)
 (fun a _ ih y=>List.rec (motive:=fun _=>Bool) false (fun b t _=>Bool.rec (motive:=fun _=>Bool) false (ih t) (Nat.beq a b)) y) x
theorem a9T:∀ x y:List Nat,eqF x y=eqN x y
 | [],[]=>rfl
 | [],_::_=>rfl
 | _::_,[]=>rfl
 | a::x,b::y=>by
  have ih:=a9T x y
  show (Bool.rec (motive:=fun _=>Bool) false (eqF x y) (Nat.beq a b))=(Nat.beq a b && eqN x y)
  rw [ih]
  cases Nat.beq a b <;> rfl
noncomputable def a2f {β:Type} (l:List β) (e:(Option ρ)) (k:β→(Option ρ)):Nat→(Option ρ):=List.rec (motive:=fun _=>Nat→(Option ρ)) (fun _=>e) (fun a _ ih i=>Nat.rec (motive:=fun _=>(Option ρ)) (k a) (fun j _=>ih j) i) l
theorem a09 {β:Type}:∀ (l:List β) (e:(Option ρ)) (k:β→(Option ρ)) (i:Nat),a2f l e k i=match l[i]? with|some a=>k a|none=>e
 | [],e,k,i=>by cases i <;> rfl
 | a::l,e,k,0=>rfl
 | a::l,e,k,i+1=>by
  have:=a09 l e k i
  show a2f l e k i=_
  rw [this]
  simp
noncomputable def L0 {β:Type} (l:List β):Nat:=List.rec (motive:=fun _=>Nat) 0 (fun _ _ n=>Nat.add n 1) l
theorem G5 {β:Type}:∀ l:List β,L0 l=l.length
 | []=>rfl
 | a::l=>by
  show Nat.add (L0 l) 1=_
  rw [G5 l]
  rfl
noncomputable def a5H (n:Nat):List AV→List AV:=Nat.rec (motive:=fun _=>List AV→List AV) (fun l=>l) (fun _ ih l=>List.rec (motive:=fun _=>List AV) [] (fun _ t _=>ih t) l) n
theorem a0x:∀ (n:Nat) (l:List AV),a5H n l=l.drop n
 | 0,l=>rfl
 | n+1,[]=>rfl
 | n+1,a::l=>a0x n l
noncomputable def a9d {β:Type} (i:Nat) (l:List β):List β:=Nat.rec (motive:=fun _=>List β) l (fun _ ih=>List.rec (motive:=fun _=>List β) [] (fun _ t _=>t) ih) i
theorem a30 {β:Type}:∀ (i:Nat) (l:List β),a9d i l=l.drop i
 | 0,l=>rfl
 | i+1,l=>by
  have:=a30 i l
  show List.rec (motive:=fun _=>List β) [] (fun _ t _=>t) (a9d i l)=_
  rw [this,show l.drop (i+1)=(l.drop i).drop 1 by rw [List.drop_drop]]
  cases l.drop i <;> rfl
noncomputable def atO {β:Type} (l:List β) (e:(Option ρ)) (k:β→(Option ρ)) (i:Nat):(Option ρ):=List.rec (motive:=fun _=>(Option ρ)) e (fun a _ _=>k a) (a9d i l)
theorem b4D {β:Type} (l:List β) (e:(Option ρ)) (k:β→(Option ρ)) (i:Nat):atO l e k i=match l[i]? with|some a=>k a|none=>e:=by
 unfold atO
 rw [a30]
 have h:l[i]?=(l.drop i)[0]?:=by simp
 rw [h]
 cases l.drop i <;> rfl
noncomputable def a8W {β:Type} (n:Nat) (l:List β) (k:List β→(Option ρ)):(Option ρ):=Nat.rec (motive:=fun _=>List β→(List β→(Option ρ))→(Option ρ)) (fun _ k=>k []) (fun _ ih l k=>List.rec (motive:=fun _=>(Option ρ)) (k []) (fun a t _=>ih t fun r=>k (a::r)) l) n l k
theorem a1S {β:Type}:∀ (n:Nat) (l:List β) (k:List β→(Option ρ)),a8W n l k=k (l.take n)
 | 0,l,k=>by show k []=_; rw [List.take_zero]
 | n+1,[],k=>rfl
 | n+1,a::l,k=>a1S n l fun r=>k (a::r)
noncomputable def b3U {β:Type} (l r:List β) (k:List β→(Option ρ)):(Option ρ):=List.rec (motive:=fun _=>(List β→(Option ρ))→(Option ρ)) (fun k=>k r) (fun a _ ih k=>ih fun t=>k (a::t)) l k
theorem a6H {β:Type} (r:List β):∀ (l:List β) (k:List β→(Option ρ)),b3U l r k=k (l++r)
 | [],k=>rfl
 | a::l,k=>a6H r l fun t=>k (a::t)
noncomputable def b9F (l:List AV) (e:(Option ρ)) (k:AV→(Option ρ)):(Option ρ):=List.rec (motive:=fun _=>(Option ρ)) e (fun a _ _=>k a) l
theorem b8L (l:List AV) (e:(Option ρ)) (k:AV→(Option ρ)):b9F l e k=match l with|a::_=>k a|[]=>e:=by cases l <;> rfl

noncomputable def w1K (x:AV) (k:AV→(Option ρ)):(Option ρ):=AV.rec (motive_1:=fun _=>(Option ρ)) (motive_2:=fun _=>Unit) (motive_3:=fun _=>Unit)
 (k .undef) (fun b=>k (.bool b)) (fun t n=>k (.int t n)) (fun s=>k (.str s)) (fun _ xs _=>k (.list false xs)) (fun o f=>k (.ptr o f)) (k .nilp) (fun cs _=>k (.ro cs)) (fun i f=>k (.loc i f)) (fun cs _=>k (.box cs)) (fun o=>k (.map o)) (k .nilm) (fun f a c _ _=>k (.func f a c)) (k .nilf) (fun cs _=>k (.agg cs)) (fun vs _=>k (.tuple vs)) (fun t v _=>k (.iface t v)) (k .nili) (fun o f n s=>k (.sl o f n s)) (fun xs _=>k (.fresh xs)) (k .nils)
 () (fun _ _ _ _=>()) () (fun _ _ _ _=>()) x
theorem b5x (x:AV) (k:AV→(Option ρ)):w1K x k=k x.weak1:=by cases x <;> rfl
noncomputable def b7O (l:List AV) (k:List AV→(Option ρ)):(Option ρ):=List.rec (motive:=fun _=>(List AV→(Option ρ))→(Option ρ)) (fun k=>k []) (fun a _ ih k=>w1K a fun w=>ih fun r=>k (w::r)) l k
theorem b2R:∀ (l:List AV) (k:List AV→(Option ρ)),b7O l k=k (l.map AV.weak1)
 | [],k=>rfl
 | a::l,k=>by
  show w1K a (fun w=>b7O l fun r=>k (w::r))=_
  rw [b5x,b2R l]
  rfl

noncomputable def a4M {β:Type} (l:List β) (e:(Option ρ)) (k:List β→(Option ρ)):(Option ρ):=List.rec (motive:=fun _=>(Option ρ)) e (fun _ l _=>List.rec (motive:=fun _=>(Option ρ)) e (fun _ l _=>List.rec (motive:=fun _=>(Option ρ)) e (fun _ l _=>List.rec (motive:=fun _=>(Option ρ)) e (fun _ l _=>List.rec (motive:=fun _=>(Option ρ)) e (fun _ l _=>List.rec (motive:=fun _=>(Option ρ)) e (fun _ l _=>List.rec (motive:=fun _=>(Option ρ)) e (fun _ l _=>List.rec (motive:=fun _=>(Option ρ)) e (fun _ l _=>k l) l) l) l) l) l) l) l) l
theorem b7C {β:Type} (l:List β) (e:(Option ρ)) (k:List β→(Option ρ)):a4M l e k=if 8≤l.length then k (l.drop 8) else e:=by
 match l with
 | []=>rfl
 | [_]=>rfl
 | [_,_]=>rfl
 | [_,_,_]=>rfl
 | [_,_,_,_]=>rfl
 | [_,_,_,_,_]=>rfl
 | [_,_,_,_,_,_]=>rfl
 | [_,_,_,_,_,_,_]=>rfl
 | _::_::_::_::_::_::_::_::t=>rw [if_pos (by simp)]; rfl
noncomputable def b4e {β:Type} (l:List β) (e:(Option ρ)) (k:β→(Option ρ)) (i:Nat):(Option ρ):=Nat.rec (motive:=fun _=>List β→(Option ρ)) (fun l=>a2f l e k (Nat.mod i 8)) (fun _ ih l=>a4M l e ih) (Nat.div i 8) l
theorem b3e {β:Type} (e:(Option ρ)) (k:β→(Option ρ)) (r:Nat):∀ (q:Nat) (l:List β),Nat.rec (motive:=fun _=>List β→(Option ρ)) (fun l=>a2f l e k r) (fun _ ih l=>a4M l e ih) q l=a2f l e k (8*q+r)
 | 0,l=>by show a2f l e k r=_; rw [Nat.mul_zero,Nat.zero_add]
 | q+1,l=>by
  show a4M l e (fun l=>Nat.rec (motive:=fun _=>List β→(Option ρ)) (fun l=>a2f l e k r) (fun _ ih l=>a4M l e ih) q l)=_
  rw [b7C,b3e e k r q (l.drop 8),a09,a09]
  split
  · rw [List.getElem?_drop,show 8+(8*q+r)=8*(q+1)+r by omega]
  · rw [List.getElem?_eq_none (by omega)]
theorem b3a {β:Type} (l:List β) (e:(Option ρ)) (k:β→(Option ρ)) (i:Nat):b4e l e k i=match l[i]? with|some a=>k a|none=>e:=by
 unfold b4e
 rw [b3e e k (Nat.mod i 8) (Nat.div i 8) l,a09,show 8*Nat.div i 8+Nat.mod i 8=i from Nat.div_add_mod i 8]
noncomputable def b0b {β:Type} (l:List β) (e:(Option ρ)) (ih:List β→(List β→(Option ρ))→(Option ρ)) (k:List β→(Option ρ)):(Option ρ):=List.rec (motive:=fun _=>(Option ρ)) e (fun a0 l _=>List.rec (motive:=fun _=>(Option ρ)) e (fun a1 l _=>List.rec (motive:=fun _=>(Option ρ)) e (fun a2 l _=>List.rec (motive:=fun _=>(Option ρ)) e (fun a3 l _=>List.rec (motive:=fun _=>(Option ρ)) e (fun a4 l _=>List.rec (motive:=fun _=>(Option ρ)) e (fun a5 l _=>List.rec (motive:=fun _=>(Option ρ)) e (fun a6 l _=>List.rec (motive:=fun _=>(Option ρ)) e (fun a7 l _=>ih l (fun r=>k (a0::a1::a2::a3::a4::a5::a6::a7::r))) l) l) l) l) l) l) l) l
theorem c0R {β:Type} (l:List β) (e:(Option ρ)) (ih:List β→(List β→(Option ρ))→(Option ρ)) (k:List β→(Option ρ)):b0b l e ih k=if 8≤l.length then ih (l.drop 8) (fun r=>k (l.take 8++r)) else e:=by
 match l with
 | []=>rfl
 | [_]=>rfl
 | [_,_]=>rfl
 | [_,_,_]=>rfl
 | [_,_,_,_]=>rfl
 | [_,_,_,_,_]=>rfl
 | [_,_,_,_,_,_]=>rfl
 | [_,_,_,_,_,_,_]=>rfl
 | _::_::_::_::_::_::_::_::t=>rw [if_pos (by simp)]; rfl
/-! the operations -/
section
variable (c:b6) (b:AV) (s:St) (f:AV→(Option ρ))
noncomputable def b7l (x y:AV):(Option ρ):=b77 x none (fun t m=>onI y none fun u n=>cB (Nat.beq (kIx t) (kIx u)) (nn m n (bo (eqI m n) f) fun a b=>bo (Nat.beq a b) f) none) (fun l=>onS y none fun r=>bo (eqF l r) f)
noncomputable def b7u (x y:AV):(Option ρ):=b77 x none (fun t m=>onI y none fun u n=>cB (Nat.beq (kIx t) (kIx u)) (nn m n (bo (!eqI m n) f) fun a b=>cB (Nat.beq a b) (f (.bool false)) (f (.bool true))) none) (fun l=>onS y none fun r=>cB (eqF l r) (f (.bool false)) (f (.bool true)))
noncomputable def a07 (op:BinOp) (g:Nat→Nat→Bool) (x y:AV):(Option ρ):=onI x (obind (p1 (sem (.bin op) c [x,y] b s)) f) (fun t m=>onI y none fun u n=>cB (Nat.beq (kIx t) (kIx u)) (nn m n (obind (p1 (sem (.bin op) c [.int t m,.int u n] b s)) f) fun a b=>bo (g a b) f) none)
noncomputable def b73 (x y:AV):(Option ρ):=onI x (obind (p1 (sem (.bin .add) c [x,y] b s)) f) (fun t m=>onI y none fun u n=>cB (Nat.beq (kIx t) (kIx u)) (nn m n (obind (p1 (sem (.bin .add) c [.int t m,.int u n] b s)) f)
 fun i j=>a4d (Nat.add i j) fun r=>cB (Nat.blt r 128) (f (.int t (.ofNat r))) (cB (Nat.beq (kIx t) 3) (cB (Nat.blt r 9223372036854775808) (f (.int t (.ofNat r))) (obind (p1 (sem (.bin .add) c [.int t m,.int u n] b s)) f)) (obind (p1 (sem (.bin .add) c [.int t m,.int u n] b s)) f))) none)
noncomputable def b8E (x y:AV):(Option ρ):=onI x (obind (p1 (sem (.bin .sub) c [x,y] b s)) f) (fun t m=>onI y none fun u n=>cB (Nat.beq (kIx t) (kIx u)) (nn m n (obind (p1 (sem (.bin .sub) c [.int t m,.int u n] b s)) f)
 fun i j=>cB (Nat.ble j i) (a4d (Nat.sub i j) fun r=>cB (Nat.blt r 128) (f (.int t (.ofNat r))) (cB (Nat.beq (kIx t) 3) (cB (Nat.blt r 9223372036854775808) (f (.int t (.ofNat r))) (obind (p1 (sem (.bin .sub) c [.int t m,.int u n] b s)) f)) (obind (p1 (sem (.bin .sub) c [.int t m,.int u n] b s)) f))) (obind (p1 (sem (.bin .sub) c [.int t m,.int u n] b s)) f)) none)
noncomputable def b8z (x:AV):(Option ρ):=onB x none fun y=>cB y (f (.bool false)) (f (.bool true))
noncomputable def a9u (x:AV):(Option ρ):=cB x.plain (f x) none
noncomputable def b3H (x y z:AV):(Option ρ):=onB x none fun v=>cB v (a9u f y) (a9u f z)
noncomputable def b8v (x:AV):(Option ρ):=a8V x (obind (p1 (sem .nilchk c [x] b s)) f) (fun o i=>f (.ptr o i)) (fun cs=>f (.ro cs)) (fun i j=>f (.loc i j))
noncomputable def b8b (d:Nat) (x:AV):(Option ρ):=a8V x none (fun o i=>a4d (Nat.add i d) fun i=>f (.ptr o i)) (fun cs=>f (.ro (a5H d cs))) (fun o i=>a4d (Nat.add i d) fun i=>f (.loc o i))
noncomputable def a2X (ag:Bool) (n:Nat) (cs:List AV):(Option ρ):=cB ag (cB (Nat.ble n (L0 cs)) (a8W n cs fun r=>b7O r fun r=>f (.agg r)) none) (b9F cs none fun x=>w1K x f)
noncomputable def b1y (x:Obj) (k:List AV→(Option ρ)):(Option ρ):=Obj.rec (motive:=fun _=>(Option ρ)) k (fun _=>none) none x
noncomputable def a6i (ag:Bool) (n:Nat) (x:AV):(Option ρ):=onP x none fun o i=>b4e s none (fun ob=>b1y ob fun cs=>a2X f ag n (a5H i cs)) o
noncomputable def a5i (ag:Bool) (n:Nat) (x:AV):(Option ρ):=onR x none fun cs=>a2X f ag n cs
noncomputable def b3t (i:Nat) (ag:Bool) (n:Nat) (x:AV):(Option ρ):=b8Q x none fun j off=>b39 b none fun cs=>cB (Nat.beq i j) (a2X f ag n (a5H off cs)) none
noncomputable def b3T (x:AV):(Option ρ):=onS x none fun l=>a4d (L0 l) fun n=>f (.int .i64 (.ofNat n))
noncomputable def b3G (x:AV):(Option ρ):=onL x (obind (p1 (sem .lenL c [x] b s)) f) fun l=>a4d (L0 l) fun n=>f (.int .i64 (.ofNat n))
noncomputable def b8P (x y:AV):(Option ρ):=onS x none fun l=>onI y none fun _ n=>Int.rec (motive:=fun _=>(Option ρ)) (fun i=>atO l none (fun m=>f (.int .u8 (.ofNat m))) i) (fun _=>none) n
noncomputable def b7n (sz:Nat) (x y:AV):(Option ρ):=onL x (obind (p1 (sem (.iad sz) c [x,y] b s)) f) fun l=>onI y none fun _ n=>Int.rec (motive:=fun _=>(Option ρ)) (fun i=>atO l none (fun r=>cB (Nat.beq (L0 r) sz) (f (.ro r)) none) i) (fun _=>none) n
end

section
variable (c:b6) (b:AV) (s:St) (f:AV→(Option ρ))
theorem c1m (x y:AV):b7l f x y=obind (p1 (sem (.bin .eql) c [x,y] b s)) f:=by
 simp only [b7l,b3c,X7,a15,M0,a4H,a2Z,a9T,a2B,sem,t6]
 cases x <;> cases y <;> try rfl
 · rename_i t m u n
   by_cases h:t=u
   · subst h
     cases m <;> cases n <;> simp [l7,p1,obind,eqI]
   · simp [l7,h,p1,obind]
theorem c1G (x y:AV):b7u f x y=obind (p1 (sem (.bin .neq) c [x,y] b s)) f:=by
 simp only [b7u,b3c,X7,a15,M0,a4H,a2Z,a9T,a2B,sem,t6]
 cases x <;> cases y <;> try rfl
 · rename_i t m u n
   by_cases h:t=u
   · subst h
     cases m <;> cases n <;> simp [l7,p1,obind,eqI]
     rename_i m n
     by_cases h:m=n
     · subst h; simp
     · have e:Nat.beq m n=false:=Bool.eq_false_iff.mpr (fun q=>h (Nat.eq_of_beq_eq_true q))
       simp [e,h]
   · simp [l7,h,p1,obind]
 · rename_i l r
   simp only [l7,Option.map_some,p1,obind]
   cases eqN l r <;> rfl
theorem b7P {op:BinOp} (ho:op=.lss∨op=.leq∨op=.gtr∨op=.geq) (t:IntKind) (m:Int) (y:AV) (hy:∀ u n,y≠.int u n):l7 op (.int t m) y=none:=by
 cases y <;> first|(exfalso; exact hy _ _ rfl)|(rcases ho with rfl|rfl|rfl|rfl <;> rfl)
theorem c3o {op:BinOp} (ho:op=.lss∨op=.leq∨op=.gtr∨op=.geq) {t u:IntKind} (h:t≠u) (m n:Int):l7 op (.int t m) (.int u n)=none:=by
 rcases ho with rfl|rfl|rfl|rfl <;> simp [l7,h]
theorem a2Y (op:BinOp) (g:Nat→Nat→Bool) (ho:op=.lss∨op=.leq∨op=.gtr∨op=.geq) (hg:∀ (t:IntKind) (i j:Nat),l7 op (.int t (.ofNat i)) (.int t (.ofNat j))=some (.bool (g i j))) (x y:AV):a07 c b s f op g x y=obind (p1 (sem (.bin op) c [x,y] b s)) f:=by
 simp only [a07,X7,M0,a4H,a2Z,a2B]
 cases x <;> try rfl
 rename_i t m
 cases y
 case int u n =>
  simp only
  by_cases h:t=u
  · subst h
    simp only [decide_true,if_true]
    cases m <;> cases n <;> try rfl
    rename_i i j
    simp only [sem,t6,hg,Option.map_some,p1,obind]
  · simp only [h,decide_false,Bool.false_eq_true,if_false,sem,t6,c3o ho h,Option.map_none,p1,obind]
 all_goals (simp only [sem,t6]; rw [b7P ho _ _ _ (by simp)]; rfl)
theorem a5a (t:IntKind) {r:Nat} (h:r < 128):i6 t (Int.ofNat r)=Int.ofNat r:=by
 rw [M8]
 cases t <;> simp [IntKind.wrap,IntKind.signed,IntKind.bits] <;> omega
theorem a7v {r:Nat} (h:r < 9223372036854775808):i6 .i64 (Int.ofNat r)=Int.ofNat r:=by
 simp only [i6]
 rw [if_pos (by simpa using h)]
theorem b9d (t:IntKind):Nat.beq (kIx t) 3=true→t=.i64:=by cases t <;> decide
theorem a6y {op:BinOp} (ho:op=.add∨op=.sub) (t:IntKind) (m:Int) (y:AV) (hy:∀ u n,y≠.int u n):l7 op (.int t m) y=none:=by
 cases y <;> first|(exfalso; exact hy _ _ rfl)|(rcases ho with rfl|rfl <;> rfl)
theorem c1f (x y:AV):b73 c b s f x y=obind (p1 (sem (.bin .add) c [x,y] b s)) f:=by
 simp only [b73,X7,M0,a4H,a2Z,a2B,a1p]
 cases x <;> try rfl
 rename_i t m
 cases y
 case int u n =>
  simp only
  by_cases h:t=u
  · subst h
    simp only [decide_true,if_true]
    cases m <;> cases n <;> try rfl
    rename_i i j
    dsimp only
    have e:∀ r,Nat.add i j=r→i6 t (Int.ofNat r)=Int.ofNat r→f (.int t (.ofNat r))=obind (p1 (sem (.bin .add) c [.int t (.ofNat i),.int t (.ofNat j)] b s)) f:=fun r hr hw=>by
     subst hr
     simp only [sem,t6,l7,if_true,F4,hw,Option.map_some,p1,obind]
    split
    · rename_i hl
      exact e _ rfl (a5a t (by simpa using hl))
    · split
      · rename_i hk
        have:=b9d t hk
        subst this
        split
        · rename_i hl
          exact e _ rfl (a7v (by simpa using hl))
        · rfl
      · rfl
  · simp only [h,decide_false,Bool.false_eq_true,if_false,sem,t6,l7,Option.map_none,p1,obind]
 all_goals (simp only [sem,t6]; rw [a6y (.inl rfl) _ _ _ (by simp)]; rfl)
theorem c0M (x y:AV):b8E c b s f x y=obind (p1 (sem (.bin .sub) c [x,y] b s)) f:=by
 simp only [b8E,X7,M0,a4H,a2Z,a2B,a1p]
 cases x <;> try rfl
 rename_i t m
 cases y
 case int u n =>
  simp only
  by_cases h:t=u
  · subst h
    simp only [decide_true,if_true]
    cases m <;> cases n <;> try rfl
    rename_i i j
    dsimp only
    split
    · rename_i hle
      have e:∀ r,Nat.sub i j=r→i6 t (Int.ofNat r)=Int.ofNat r→f (.int t (.ofNat r))=obind (p1 (sem (.bin .sub) c [.int t (.ofNat i),.int t (.ofNat j)] b s)) f:=fun r hr hw=>by
       subst hr
       simp only [sem,t6,l7,if_true,a4k,hle,hw,Option.map_some,p1,obind]
      split
      · rename_i hl
        exact e _ rfl (a5a t (by simpa using hl))
      · split
        · rename_i hk
          have:=b9d t hk
          subst this
          split
          · rename_i hl
            exact e _ rfl (a7v (by simpa using hl))
          · rfl
        · rfl
    · rfl
  · simp only [h,decide_false,Bool.false_eq_true,if_false,sem,t6,l7,Option.map_none,p1,obind]
 all_goals (simp only [sem,t6]; rw [a6y (.inr rfl) _ _ _ (by simp)]; rfl)
theorem c0x (x:AV):b8z f x=obind (p1 (sem (.un .not) c [x] b s)) f:=by
 simp only [b8z,a9j,M0,sem]
 cases x <;> try rfl
 rename_i y; cases y <;> rfl
theorem b8n (x y z:AV):b3H f x y z=obind (p1 (sem .pick c [x,y,z] b s)) f:=by
 simp only [b3H,a9u,a9j,M0,sem]
 cases x <;> try rfl
 rename_i v
 cases v
 · simp only [A9,Bool.false_eq_true,if_false]; split <;> rfl
 · simp only [A9,if_true]; split <;> rfl
theorem c1B (x:AV):b8v c b s f x=obind (p1 (sem .nilchk c [x] b s)) f:=by
 simp only [b8v,a4i]
 cases x <;> rfl
theorem c1N (d:Nat) (x:AV):b8b f d x=obind (p1 (sem (.fad d) c [x] b s)) f:=by
 simp only [b8b,a4i,a1p,a0x]
 cases x <;> rfl
theorem a1G (ag:Bool) (n:Nat) (cs:List AV):a2X f ag n cs=match j3 ag n cs with|some v=>f v|none=>none:=by
 simp only [a2X,M0,b8L,G5,a1S,b2R,b5x]
 cases ag
 · cases cs <;> rfl
 · simp only [j3,if_true]
   by_cases h:n≤cs.length
   · have e:Nat.ble n cs.length=true:=by simpa using h
     simp only [e,h,if_true]
   · have e:Nat.ble n cs.length=false:=Bool.eq_false_iff.mpr (fun q=>h (Nat.le_of_ble_eq_true q))
     simp only [e,h,Bool.false_eq_true,if_false]
theorem a8D (x:Obj) (k:List AV→(Option ρ)):b1y x k=match x with|.cells cs=>k cs|_=>none:=by cases x <;> rfl
theorem a9q {x:Option AV}:obind (p1 (x.map fun v=>(v,b,s))) f=match x with|some v=>f v|none=>none:=by cases x <;> rfl
theorem a9x (ag:Bool) (n:Nat) (x:AV):a6i s f ag n x=obind (p1 (sem (.ldSt ag n) c [x] b s)) f:=by
 simp only [a6i,b6p,b3a,a8D,a1G,a0x]
 cases x <;> try rfl
 rename_i o i
 simp only [sem,A0]
 cases s[o]? with
 | none=>rfl
 | some ob=>cases ob <;> first|rfl|exact (a9q b s f).symm
theorem b0p (ag:Bool) (n:Nat) (x:AV):a5i f ag n x=obind (p1 (sem (.ldRo ag n) c [x] b s)) f:=by
 simp only [a5i,c4O,a1G]
 cases x <;> try rfl
 exact (a9q b s f).symm
theorem b8K (i:Nat) (ag:Bool) (n:Nat) (x:AV):b3t b f i ag n x=obind (p1 (sem (.ldLc i ag n) c [x] b s)) f:=by
 simp only [b3t,b2Z,a7e,a1G,a0x,M0]
 cases x <;> try rfl
 rename_i j off
 cases b <;> try rfl
 rename_i cs
 simp only [sem,I6]
 by_cases h:i=j
 · simp only [h,Nat.beq_refl,if_true]
   exact (a9q _ s f).symm
 · have:Nat.beq i j=false:=Bool.eq_false_iff.mpr (fun q=>h (Nat.eq_of_beq_eq_true q))
   simp only [this,h,Bool.false_eq_true,if_false]
   rfl
theorem b7h (x:AV):b3T f x=obind (p1 (sem .lenS c [x] b s)) f:=by
 simp only [b3T,a15,a1p,G5]
 cases x <;> rfl
theorem b75 (x:AV):b3G c b s f x=obind (p1 (sem .lenL c [x] b s)) f:=by
 simp only [b3G,b0c,a1p,G5]
 cases x <;> rfl
theorem c0z (x y:AV):b8P f x y=obind (p1 (sem .idxS c [x,y] b s)) f:=by
 simp only [b8P,a15,X7,b4D]
 cases x <;> try rfl
 cases y <;> try rfl
 rename_i l k n
 simp only [sem,L8]
 cases n with
 | ofNat i =>
  have e:(Int.ofNat i).toNat=i:=rfl
  simp only [Int.ofNat_eq_natCast,Int.natCast_nonneg,if_true,Int.toNat_natCast]
  cases l[i]? <;> rfl
 | negSucc i=>rfl
theorem c1n (sz:Nat) (x y:AV):b7n c b s f sz x y=obind (p1 (sem (.iad sz) c [x,y] b s)) f:=by
 simp only [b7n,b0c,X7,b4D,M0,G5]
 cases x <;> try rfl
 cases y <;> try rfl
 rename_i w l k n
 simp only [sem,F9]
 cases n with
 | ofNat i =>
  simp only [Int.ofNat_eq_natCast,Int.natCast_nonneg,if_true,Int.toNat_natCast]
  cases l[i]? with
  | none=>rfl
  | some r =>
   by_cases h:r.length=sz
   · have:Nat.beq r.length sz=true:=by rw [h]; exact Nat.beq_refl sz
     simp only [this,if_true,if_pos h]
     rfl
   · have:Nat.beq r.length sz=false:=Bool.eq_false_iff.mpr (fun q=>h (Nat.eq_of_beq_eq_true q))
     simp only [this,h,Bool.false_eq_true,if_false]
     rfl
 | negSucc i=>rfl
end
noncomputable def qSb (x:AV) (k:AV→AV→(Option ρ)):(Option ρ):=AV.rec (motive_1:=fun _=>(Option ρ)) (motive_2:=fun _=>Unit) (motive_3:=fun _=>Unit)
 (k .undef .undef)
 (fun b=>k (.bool b) (.bool b))
 (fun t n=>k (.int t n) (.int t n))
 (fun s=>k (.str s) (.str s))
 (fun o xs _=>k (.list o xs) (.list false xs))
 (fun o f=>k (.ptr o f) (.ptr o f))
 (k .nilp .nilp)
 (fun cs _=>k (.ro cs) (.ro cs))
 (fun i f=>k (.loc i f) (.loc i f))
 (fun cs _=>k .undef .undef)
 (fun o=>k (.map o) (.map o))
 (k .nilm .nilm)
 (fun f a c _ _=>k (.func f a c) (.func f a c))
 (k .nilf .nilf)
 (fun cs _=>k (.agg cs) (.agg (cs.map AV.weak1)))
 (fun vs _=>k (.tuple vs) (.tuple vs))
 (fun t v _=>k (.iface t v) (.iface t v))
 (k .nili .nili)
 (fun o f n s=>k (.sl o f n s) (.sl o f n s))
 (fun xs _=>k (.fresh xs) (.fresh xs))
 (k .nils .nils)
 () (fun _ _ _ _=>()) () (fun _ _ _ _=>()) x
noncomputable def qSv (x:AV) (k:AV→AV→(Option ρ)):(Option ρ):=AV.rec (motive_1:=fun _=>(Option ρ)) (motive_2:=fun _=>Unit) (motive_3:=fun _=>Unit)
 (k .undef .undef)
 (fun b=>k (.bool b) (.bool b))
 (fun t n=>k (.int t n) (.int t n))
 (fun s=>k (.str s) (.str s))
 (fun o xs _=>k (.list o xs) (.list false xs))
 (fun o f=>k (.ptr o f) (.ptr o f))
 (k .nilp .nilp)
 (fun cs _=>k (.ro cs) (.ro cs))
 (fun i f=>k .undef .undef)
 (fun cs _=>k .undef .undef)
 (fun o=>k (.map o) (.map o))
 (k .nilm .nilm)
 (fun f a c _ _=>k (.func f a c) (.func f a c))
 (k .nilf .nilf)
 (fun cs _=>k (.agg cs) (.agg (cs.map AV.weak1)))
 (fun vs _=>k (.tuple vs) (.tuple vs))
 (fun t v _=>k (.iface t v) (.iface t v))
 (k .nili .nili)
 (fun o f n s=>k (.sl o f n s) (.sl o f n s))
 (fun xs _=>k (.fresh xs) (.fresh xs))
 (k .nils .nils)
 () (fun _ _ _ _=>()) () (fun _ _ _ _=>()) x
noncomputable def qWk (x:AV) (k:AV→(Option ρ)):(Option ρ):=AV.rec (motive_1:=fun _=>(Option ρ)) (motive_2:=fun _=>Unit) (motive_3:=fun _=>Unit)
 (k .undef)
 (fun b=>k (.bool b))
 (fun t n=>k (.int t n))
 (fun s=>k (.str s))
 (fun o xs _=>k (.list false xs))
 (fun o f=>k (.ptr o f))
 (k .nilp)
 (fun cs _=>k (.ro cs))
 (fun i f=>k (.loc i f))
 (fun cs _=>k (.box cs))
 (fun o=>k (.map o))
 (k .nilm)
 (fun f a c _ _=>k (.func f a c))
 (k .nilf)
 (fun cs _=>k (.agg (cs.map AV.weak1)))
 (fun vs _=>k (.tuple vs))
 (fun t v _=>k (.iface t v))
 (k .nili)
 (fun o f n s=>k (.sl o f n s))
 (fun xs _=>k (.fresh xs))
 (k .nils)
 () (fun _ _ _ _=>()) () (fun _ _ _ _=>()) x
theorem b6i (x:AV) (k:AV→AV→(Option ρ)):qSb x k=k (AV.stripB x) (AV.weak (AV.stripB x)):=by cases x <;> rfl
theorem c4l (x:AV) (k:AV→AV→(Option ρ)):qSv x k=k (AV.strip x) (AV.weak (AV.strip x)):=by cases x <;> rfl
theorem a0A (x:AV) (k:AV→(Option ρ)):qWk x k=k (AV.weak x):=by cases x <;> rfl
noncomputable def onT (x:AV) (k:List AV→(Option ρ)):(Option ρ):=AV.rec (motive_1:=fun _=>(Option ρ)) (motive_2:=fun _=>Unit) (motive_3:=fun _=>Unit)
 (none)
 (fun b=>none)
 (fun t n=>none)
 (fun s=>none)
 (fun o xs _=>none)
 (fun o f=>none)
 (none)
 (fun cs _=>none)
 (fun i f=>none)
 (fun cs _=>none)
 (fun o=>none)
 (none)
 (fun f a c _ _=>none)
 (none)
 (fun cs _=>none)
 (fun vs _=>k vs)
 (fun t v _=>none)
 (none)
 (fun o f n s=>none)
 (fun xs _=>none)
 (none)
 () (fun _ _ _ _=>()) () (fun _ _ _ _=>()) x
theorem c4j (x:AV) (k:List AV→(Option ρ)):onT x k=match x with|.tuple vs=>k vs|_=>none:=by cases x <;> rfl
noncomputable def c3U (x:AV) (e:(Option ρ)) (k:Bool→List (List AV)→(Option ρ)):(Option ρ):=AV.rec (motive_1:=fun _=>(Option ρ)) (motive_2:=fun _=>Unit) (motive_3:=fun _=>Unit)
 (e)
 (fun b=>e)
 (fun t n=>e)
 (fun s=>e)
 (fun o xs _=>k o xs)
 (fun o f=>e)
 (e)
 (fun cs _=>e)
 (fun i f=>e)
 (fun cs _=>e)
 (fun o=>e)
 (e)
 (fun f a c _ _=>e)
 (e)
 (fun cs _=>e)
 (fun vs _=>e)
 (fun t v _=>e)
 (e)
 (fun o f n s=>e)
 (fun xs _=>e)
 (e)
 () (fun _ _ _ _=>()) () (fun _ _ _ _=>()) x
theorem c1S (x:AV) (e:(Option ρ)) (k:Bool→List (List AV)→(Option ρ)):c3U x e k=match x with|.list o xs=>k o xs|_=>e:=by cases x <;> rfl
noncomputable def onU (x:AV) (k:(Option ρ)):(Option ρ):=AV.rec (motive_1:=fun _=>(Option ρ)) (motive_2:=fun _=>Unit) (motive_3:=fun _=>Unit)
 (k)
 (fun b=>none)
 (fun t n=>none)
 (fun s=>none)
 (fun o xs _=>none)
 (fun o f=>none)
 (none)
 (fun cs _=>none)
 (fun i f=>none)
 (fun cs _=>none)
 (fun o=>none)
 (none)
 (fun f a c _ _=>none)
 (none)
 (fun cs _=>none)
 (fun vs _=>none)
 (fun t v _=>none)
 (none)
 (fun o f n s=>none)
 (fun xs _=>none)
 (none)
 () (fun _ _ _ _=>()) () (fun _ _ _ _=>()) x
theorem c3w (x:AV) (k:(Option ρ)):onU x k=match x with|.undef=>k|_=>none:=by cases x <;> rfl
noncomputable def onC (x:AV) (k:List AV→(Option ρ)):(Option ρ):=AV.rec (motive_1:=fun _=>(Option ρ)) (motive_2:=fun _=>Unit) (motive_3:=fun _=>Unit)
 (k [.undef])
 (fun b=>k [(.bool b)])
 (fun t n=>k [(.int t n)])
 (fun s=>k [(.str s)])
 (fun o xs _=>k [(.list o xs)])
 (fun o f=>k [(.ptr o f)])
 (k [.nilp])
 (fun cs _=>k [(.ro cs)])
 (fun i f=>k [(.loc i f)])
 (fun cs _=>k [(.box cs)])
 (fun o=>k [(.map o)])
 (k [.nilm])
 (fun f a c _ _=>k [(.func f a c)])
 (k [.nilf])
 (fun cs _=>k cs)
 (fun vs _=>k [(.tuple vs)])
 (fun t v _=>k [(.iface t v)])
 (k [.nili])
 (fun o f n s=>k [(.sl o f n s)])
 (fun xs _=>k [(.fresh xs)])
 (k [.nils])
 () (fun _ _ _ _=>()) () (fun _ _ _ _=>()) x
theorem b4u (x:AV) (k:List AV→(Option ρ)):onC x k=k x.cells:=by cases x <;> rfl
noncomputable def plB (x:AV) (k:(Option ρ)):(Option ρ):=AV.rec (motive_1:=fun _=>(Option ρ)) (motive_2:=fun _=>Unit) (motive_3:=fun _=>Unit)
 (none)
 (fun b=>k)
 (fun t n=>k)
 (fun s=>k)
 (fun o xs _=>k)
 (fun o f=>k)
 (k)
 (fun cs _=>k)
 (fun i f=>none)
 (fun cs _=>none)
 (fun o=>k)
 (k)
 (fun f a c _ _=>k)
 (k)
 (fun cs _=>k)
 (fun vs _=>none)
 (fun t v _=>k)
 (k)
 (fun o f n s=>k)
 (fun xs _=>none)
 (k)
 () (fun _ _ _ _=>()) () (fun _ _ _ _=>()) x
theorem b01 (x:AV) (k:(Option ρ)):plB x k=if x.plain then k else none:=by cases x <;> rfl
noncomputable def b8F (f:AV→(Option ρ)) (d:Nat) (x:AV):(Option ρ):=onT x fun vs=>a2f vs none (fun v=>qWk v f) d
theorem c1k (c:b6) (b:AV) (s:St) (f:AV→(Option ρ)) (d:Nat) (x:AV):b8F f d x=obind (p1 (sem (.ext d) c [x] b s)) f:=by
 simp only [b8F,c4j,a09,a0A]
 cases x <;> try rfl
 rename_i vs
 simp only [sem,P6]
 cases vs[d]? <;> rfl
noncomputable def b0Y (xs:List AV) (k:List AV→(Option ρ)):(Option ρ):=List.rec (motive:=fun _=>(List AV→(Option ρ))→(Option ρ)) (fun k=>k []) (fun a _ ih k=>plB a (qWk a fun w=>ih fun ws=>k (w::ws))) xs k
theorem a8H:∀ (xs:List AV) (k:List AV→(Option ρ)),b0Y xs k=if r8 xs then k (xs.map AV.weak) else none
 | [],k=>rfl
 | a::xs,k=>by
  show plB a (qWk a fun w=>b0Y xs fun ws=>k (w::ws))=_
  rw [b01,a0A,a8H xs]
  simp only [r8,Bool.and_eq_true,List.map_cons]
  by_cases h1:a.plain=true <;> by_cases h2:r8 xs=true <;> simp [h1,h2]
noncomputable def c4Z (x:Option (AV×St)) (k:AV→St→(Option ρ)):(Option ρ):=Option.rec (motive:=fun _=>(Option ρ)) none (fun p=>Prod.rec (motive:=fun _=>(Option ρ)) (fun v s=>k v s) p) x
theorem c0S (x:Option (AV×St)) (k:AV→St→(Option ρ)):c4Z x k=match x with|some (v,s)=>k v s|none=>none:=by cases x <;> rfl
noncomputable def b7G (c:b6) (b:AV) (s:St) (f:AV→(Option ρ)) (x y z:AV):(Option ρ):=onS x none fun l=>onI z none fun _ m=>onI y (obind (p1 (sem (.slS true true) c [x,y,z] b s)) f) fun _ i=>nn i m (obind (p1 (sem (.slS true true) c [x,y,z] b s)) f) fun i m =>
 cB (Nat.ble m (L0 l)) (cB (Nat.ble i m) (a8W (Nat.sub m i) (a9d i l) fun r=>f (.str r)) none) none
theorem c0L (c:b6) (b:AV) (s:St) (f:AV→(Option ρ)) (x y z:AV):b7G c b s f x y z=obind (p1 (sem (.slS true true) c [x,y,z] b s)) f:=by
 simp only [b7G,a15,X7,a2Z,M0,a1S,a30,G5]
 cases x <;> try rfl
 cases z <;> try rfl
 cases y <;> try rfl
 rename_i l _ m _ i
 cases i <;> cases m <;> try rfl
 rename_i i m
 simp only [sem,P8,C6,M2,Int.ofNat_eq_natCast,Int.natCast_nonneg,true_and,Int.toNat_natCast,Int.ofNat_le,Nat.ble_eq]
 by_cases h1:m≤l.length
 · simp only [h1,if_true]
   by_cases h2:i≤m
   · simp only [h2,if_true,Option.map_some,p1,obind]
     rw [List.drop_take]
     rfl
   · simp only [h2,if_false]
     rfl
 · simp only [h1,if_false]
   rfl
noncomputable def b3M (sz:Nat) (l:List (List AV)):Bool:=List.rec (motive:=fun _=>Bool) true (fun r _ _=>Nat.beq (L0 r) sz) l
theorem b65 (sz:Nat) (l:List (List AV)):b3M sz l=k8 sz l:=by
 cases l with
 | nil=>rfl
 | cons r l =>
  show Nat.beq (L0 r) sz=(r.length == sz)
  rw [G5,Bool.eq_iff_iff]
  simp
noncomputable def b74 (b:AV) (s:St) (f:AV×AV×St→(Option ρ)) (d e:Nat) (x y:AV):(Option ρ):=c3U x none fun o xs=>onL y none fun ys=>cB o (cB (b3M d xs) (cB (b3M d ys) (cB (Nat.ble (Nat.mul (Nat.add (L0 xs) (L0 ys)) e) 140737488355328) (b3U xs ys fun r=>f (.list true r,b,s)) none) none) none) none
theorem c1C (c:b6) (b:AV) (s:St) (f:AV×AV×St→(Option ρ)) (d e:Nat) (x y:AV):b74 b s f d e x y=obind (sem (.app d e) c [x,y] b s) f:=by
 simp only [b74,c1S,b0c,M0,b65,G5,a6H]
 cases x <;> try rfl
 rename_i o xs
 cases y <;> try (cases o <;> rfl)
 rename_i o2 ys
 cases o <;> try rfl
 simp only [sem,T5,if_true]
 have e1:(Nat.ble (Nat.mul (Nat.add xs.length ys.length) e) 140737488355328)=decide ((xs.length+ys.length)*e≤2 ^ 47):=by
  rw [Bool.eq_iff_iff]
  simp
 rw [e1]
 cases k8 d xs <;> cases k8 d ys <;> try rfl
 simp only [Bool.true_and,if_true]
 split <;> rfl
noncomputable def a9H (b:AV) (s:St) (f:AV×AV×St→(Option ρ)) (d:List AV):(Option ρ):=onU b (f (.undef,.box d,s))
theorem b4J (c:b6) (b:AV) (s:St) (f:AV×AV×St→(Option ρ)) (d:List AV):a9H b s f d=obind (sem (.alloc d) c [] b s) f:=by
 simp only [a9H,c3w]
 cases b <;> rfl
noncomputable def b3g (cs:List AV) (off:Nat) (new:List AV) (k:List AV→(Option ρ)):(Option ρ):=a8W off cs fun a=>b3U new (a5H (Nat.add off (L0 new)) cs) fun t=>b3U a t k
theorem b2q (cs:List AV) (off:Nat) (new:List AV) (k:List AV→(Option ρ)):b3g cs off new k=k (n7 cs off new):=by
 simp only [b3g,a1S,a6H,a0x,G5,n7,List.append_assoc]
 rfl
noncomputable def b38 (b:AV) (s:St) (f:AV×AV×St→(Option ρ)) (i d:Nat) (x y:AV):(Option ρ):=b8Q x none fun j off=>b39 b none fun cs=>cB (Nat.beq i j) (plB y (onC y fun new=>cB (Nat.beq (L0 new) d) (cB (Nat.ble (Nat.add off d) (L0 cs)) (b3g cs off new fun r=>f (.tuple [],.box r,s)) none) none)) none
theorem c0m (a b:Nat):(Nat.beq a b=true)=(a=b):=by simp
theorem c0h (a b:Nat):(Nat.ble a b=true)=(a≤b):=by simp
theorem b8u (c:b6) (b:AV) (s:St) (f:AV×AV×St→(Option ρ)) (i d:Nat) (x y:AV):b38 b s f i d x y=obind (sem (.stLc i d) c [x,y] b s) f:=by
 simp only [b38,b2Z,a7e,M0,b01,b4u,G5,b2q,c0m,c0h]
 cases x <;> try rfl
 rename_i j off
 cases b <;> try rfl
 rename_i cs
 simp only [sem,O5]
 by_cases h1:i=j <;> by_cases h2:y.plain=true <;> by_cases h3:y.cells.length=d <;> by_cases h4:off+d≤cs.length <;> simp [h1,h2,h3,h4,obind]
noncomputable def b1a {β:Type} (l:List β) (i:Nat) (x:β) (k:List β→(Option ρ)):(Option ρ):=List.rec (motive:=fun _=>Nat→(List β→(Option ρ))→(Option ρ)) (fun _ k=>k []) (fun a t ih i k=>Nat.rec (motive:=fun _=>(Option ρ)) (k (x::t)) (fun j _=>ih j fun r=>k (a::r)) i) l i k
theorem b2T {β:Type} (x:β):∀ (l:List β) (i:Nat) (k:List β→(Option ρ)),b1a l i x k=k (l.set i x)
 | [],_,_=>rfl
 | a::l,0,k=>rfl
 | a::l,i+1,k=>b2T x l i fun r=>k (a::r)
noncomputable def b7Q {β:Type} (l:List β) (i:Nat) (x:β) (k:List β→(Option ρ)):(Option ρ):=Nat.rec (motive:=fun _=>List β→(List β→(Option ρ))→(Option ρ)) (fun l k=>b1a l (Nat.mod i 8) x k) (fun _ ih l k=>b0b l (k l) ih k) (Nat.div i 8) l k
theorem b21 {β:Type} (x:β) (r:Nat):∀ (q:Nat) (l:List β) (k:List β→(Option ρ)),Nat.rec (motive:=fun _=>List β→(List β→(Option ρ))→(Option ρ)) (fun l k=>b1a l r x k) (fun _ ih l k=>b0b l (k l) ih k) q l k=k (l.set (8*q+r) x)
 | 0,l,k=>by show b1a l r x k=_; rw [b2T,Nat.mul_zero,Nat.zero_add]
 | q+1,l,k=>by
  show b0b l (k l) (fun l k=>Nat.rec (motive:=fun _=>List β→(List β→(Option ρ))→(Option ρ)) (fun l k=>b1a l r x k) (fun _ ih l k=>b0b l (k l) ih k) q l k) k=_
  rw [c0R]
  split
  · rename_i h
    rw [b21 x r q (l.drop 8)]
    congr 1
    rw [show 8*(q+1)+r=8+(8*q+r) by omega]
    conv=>rhs; rw [← List.take_append_drop 8 l]
    rw [List.set_append_right _ _ (by rw [List.length_take]; omega),List.length_take,Nat.min_eq_left h,Nat.add_sub_cancel_left]
  · rename_i h
    rw [List.set_eq_of_length_le (by omega)]
theorem c0w {β:Type} (x:β) (l:List β) (i:Nat) (k:List β→(Option ρ)):b7Q l i x k=k (l.set i x):=by
 unfold b7Q
 rw [b21 x (Nat.mod i 8) (Nat.div i 8) l k,show 8*Nat.div i 8+Nat.mod i 8=i from Nat.div_add_mod i 8]
noncomputable def b4n (s:St) (f:AV×St→(Option ρ)) (d:Nat) (x y:AV):(Option ρ):=onP x none fun o off=>b4e s none (fun ob=>b1y ob fun cs=>plB y (onC y fun new=>cB (Nat.beq (L0 new) d) (cB (Nat.ble (Nat.add off d) (L0 cs)) (b3g cs off new fun r=>b7Q s o (.cells r) fun s=>f (.tuple [],s)) none) none)) o
theorem b7V (c:b6) (b:AV) (s:St) (f:AV×St→(Option ρ)) (d:Nat) (x y:AV):b4n s f d x y=obind (p2 (sem (.stSt d) c [x,y] b s)) f:=by
 simp only [b4n,b6p,b3a,a8D,M0,b01,b4u,G5,b2q,c0w,c0m,c0h]
 cases x <;> try rfl
 rename_i o off
 simp only [sem,D3,fL_eq]
 cases s[o]? with
 | none=>rfl
 | some ob =>
  cases ob <;> try rfl
  rename_i cs
  by_cases h2:y.plain=true <;> by_cases h3:y.cells.length=d <;> by_cases h4:off+d≤cs.length <;> simp [h2,h3,h4,obind,p2]
noncomputable def bW (v w:Bool) (x y:(Option ρ)):(Option ρ):=Bool.rec (motive:=fun _=>(Option ρ)) (Bool.rec (motive:=fun _=>(Option ρ)) x y w) (Bool.rec (motive:=fun _=>(Option ρ)) y x w) v
theorem c5N (v w:Bool) (x y:(Option ρ)):bW v w x y=if v == w then x else y:=by cases v <;> cases w <;> rfl
theorem nb (i j:Nat):(!Nat.blt j i)=Nat.ble i j:=by
 have h1:(Nat.blt j i=true) ↔ j < i:=by simp
 have h2:(Nat.ble i j=true) ↔ i≤j:=by simp
 cases hb:Nat.blt j i <;> cases hc:Nat.ble i j <;> simp only [hb,hc,true_iff,false_iff,Bool.false_eq_true] at h1 h2 <;> first|rfl|omega
theorem c4R (c:b6) (b:AV) (s:St) (f:AV→(Option ρ)) (x y:AV):a07 c b s f .lss Nat.blt x y=obind (p1 (sem (.bin .lss) c [x,y] b s)) f:=a2Y c b s f .lss _ (by simp) (fun t i j=>by simp [l7,ltI]) x y
theorem c2N (c:b6) (b:AV) (s:St) (f:AV→(Option ρ)) (x y:AV):a07 c b s f .leq Nat.ble x y=obind (p1 (sem (.bin .leq) c [x,y] b s)) f:=a2Y c b s f .leq _ (by simp) (fun t i j=>by simp only [l7,if_true,Int.ofNat_eq_natCast]; rw [show ∀ a b:Nat,ltI (a:Int) (b:Int)=Nat.blt a b from fun _ _=>rfl,nb]) x y
theorem c29 (c:b6) (b:AV) (s:St) (f:AV→(Option ρ)) (x y:AV):a07 c b s f .gtr (fun i j=>Nat.blt j i) x y=obind (p1 (sem (.bin .gtr) c [x,y] b s)) f:=a2Y c b s f .gtr _ (by simp) (fun t i j=>by simp [l7,ltI]) x y
theorem c2O (c:b6) (b:AV) (s:St) (f:AV→(Option ρ)) (x y:AV):a07 c b s f .geq (fun i j=>Nat.ble j i) x y=obind (p1 (sem (.bin .geq) c [x,y] b s)) f:=a2Y c b s f .geq _ (by simp) (fun t i j=>by simp only [l7,if_true,Int.ofNat_eq_natCast]; rw [show ∀ a b:Nat,ltI (a:Int) (b:Int)=Nat.blt a b from fun _ _=>rfl,nb]) x y

end Go.Cb.G
/-
 THE ABSTRACT MACHINE, part 43: frames of eight times eight, whose places are found at once.
-/
set_option maxRecDepth 4000
set_option linter.unusedVariables false
namespace Go.Cb.G
open Go Go.Cb
inductive W8 (α:Type) where
 | mk (x0 x1 x2 x3 x4 x5 x6 x7:α)
abbrev Fr:=W8 (W8 AV)
def pk8 {α:Type} (i:Nat) (w:W8 α):α:=match w with
 | .mk x0 x1 x2 x3 x4 x5 x6 x7=>match i with
  | 0=>x0
  | 1=>x1
  | 2=>x2
  | 3=>x3
  | 4=>x4
  | 5=>x5
  | 6=>x6
  | _=>x7
def st8 {α:Type} (i:Nat) (x:α) (w:W8 α):W8 α:=match w with
 | .mk x0 x1 x2 x3 x4 x5 x6 x7=>match i with
  | 0=>.mk x x1 x2 x3 x4 x5 x6 x7
  | 1=>.mk x0 x x2 x3 x4 x5 x6 x7
  | 2=>.mk x0 x1 x x3 x4 x5 x6 x7
  | 3=>.mk x0 x1 x2 x x4 x5 x6 x7
  | 4=>.mk x0 x1 x2 x3 x x5 x6 x7
  | 5=>.mk x0 x1 x2 x3 x4 x x6 x7
  | 6=>.mk x0 x1 x2 x3 x4 x5 x x7
  | _=>.mk x0 x1 x2 x3 x4 x5 x6 x
theorem lt8 {i:Nat} (h:i < 8):i=0∨i=1∨i=2∨i=3∨i=4∨i=5∨i=6∨i=7:=by omega
theorem b5m {α:Type} {i j:Nat} (hi:i < 8) (hj:j < 8) (x:α) (w:W8 α):pk8 j (st8 i x w)=if j=i then x else pk8 j w:=by
 cases w
 rcases lt8 hi with rfl|rfl|rfl|rfl|rfl|rfl|rfl|rfl <;> rcases lt8 hj with rfl|rfl|rfl|rfl|rfl|rfl|rfl|rfl <;> rfl
def S9 (i:Nat) (fr:Fr):AV:=pk8 (i % 8) (pk8 (i / 8) fr)
def a0M (i:Nat) (x:AV) (fr:Fr):Fr:=st8 (i / 8) (st8 (i % 8) x (pk8 (i / 8) fr)) fr
theorem c0X {i j:Nat} (hi:i < 64) (hj:j < 64) (x:AV) (fr:Fr):S9 j (a0M i x fr)=if j=i then x else S9 j fr:=by
 unfold S9 a0M
 rw [b5m (by omega) (by omega)]
 by_cases h:j / 8=i / 8
 · rw [if_pos h,b5m (by omega) (by omega),← h]
   by_cases h2:j % 8=i % 8
   · rw [if_pos h2,if_pos (by omega)]
   · rw [if_neg h2,if_neg (by omega)]
 · rw [if_neg h,if_neg (by intro e; exact h (by rw [e]))]
def toL (nv:Nat) (fr:Fr):List AV:=(List.range nv).map fun i=>S9 i fr
theorem c1t (nv:Nat) (fr:Fr):(toL nv fr).length=nv:=by simp [toL]
theorem L6 {i nv:Nat} (h:i < nv) (fr:Fr):(toL nv fr).getD i .undef=S9 i fr:=by simp [toL,List.getD,h]
theorem a1l {i nv:Nat} (h:i < nv) (hn:nv≤64) (x:AV) (fr:Fr):(toL nv fr).set i x=toL nv (a0M i x fr):=by
 apply List.ext_getElem
 · simp [toL]
 · intro j h1 h2
   have hj:j < nv:=by simpa [toL] using h1
   rw [List.getElem_set]
   simp only [toL,List.getElem_map,List.getElem_range]
   rw [c0X (by omega) (by omega)]
   by_cases e:i=j
   · rw [if_pos e,if_pos e.symm]
   · rw [if_neg e,if_neg (fun q=>e q.symm)]
theorem a3n {i nv:Nat} (h:¬ i < nv) (x:AV) (fr:Fr):(toL nv fr).set i x=toL nv fr:=List.set_eq_of_length_le (by rw [c1t]; omega)

noncomputable def a9U {α β:Type} (i:Nat) (e:β) (Q:α→β) (x0 x1 x2 x3 x4 x5 x6 x7:α):β :=
 Nat.rec (motive:=fun _=>β) (Q x0) (fun i _=>Nat.rec (motive:=fun _=>β) (Q x1) (fun i _=>Nat.rec (motive:=fun _=>β) (Q x2) (fun i _=>Nat.rec (motive:=fun _=>β) (Q x3) (fun i _=>Nat.rec (motive:=fun _=>β) (Q x4) (fun i _=>Nat.rec (motive:=fun _=>β) (Q x5) (fun i _=>Nat.rec (motive:=fun _=>β) (Q x6) (fun i _=>Nat.rec (motive:=fun _=>β) (Q x7) (fun i _=>e) i) i) i) i) i) i) i) i
theorem a0F {α β:Type} {G:β→Prop} {i:Nat} {e:β} {Q:α→β} {x0 x1 x2 x3 x4 x5 x6 x7:α} (he:G e) (h0:i=0→G (Q x0)) (h1:i=1→G (Q x1)) (h2:i=2→G (Q x2)) (h3:i=3→G (Q x3)) (h4:i=4→G (Q x4)) (h5:i=5→G (Q x5)) (h6:i=6→G (Q x6)) (h7:i=7→G (Q x7)):G (a9U i e Q x0 x1 x2 x3 x4 x5 x6 x7):=by
 match i,h0,h1,h2,h3,h4,h5,h6,h7 with
 | 0,h,_,_,_,_,_,_,_=>exact h rfl
 | 1,_,h,_,_,_,_,_,_=>exact h rfl
 | 2,_,_,h,_,_,_,_,_=>exact h rfl
 | 3,_,_,_,h,_,_,_,_=>exact h rfl
 | 4,_,_,_,_,h,_,_,_=>exact h rfl
 | 5,_,_,_,_,_,h,_,_=>exact h rfl
 | 6,_,_,_,_,_,_,h,_=>exact h rfl
 | 7,_,_,_,_,_,_,_,h=>exact h rfl
 | _+8,_,_,_,_,_,_,_,_=>exact he
abbrev Gt (ρ:Type):=Fr→(AV→Option ρ)→Option ρ
abbrev Wr (ρ:Type):=AV→Fr→(Fr→Option ρ)→Option ρ
section
variable {ρ β:Type}
noncomputable def a1Q (i:Nat) (e:β) (Q:Gt ρ→β):β:=a9U (i / 8) e (fun o:Fr→(W8 AV→Option ρ)→Option ρ=>a9U (i % 8) e (fun n:W8 AV→(AV→Option ρ)→Option ρ=>Q fun fr k=>o fr fun w=>n w k)
 (fun w k=>W8.rec (motive:=fun _=>Option ρ) (fun x0 x1 x2 x3 x4 x5 x6 x7=>k x0) w)
 (fun w k=>W8.rec (motive:=fun _=>Option ρ) (fun x0 x1 x2 x3 x4 x5 x6 x7=>k x1) w)
 (fun w k=>W8.rec (motive:=fun _=>Option ρ) (fun x0 x1 x2 x3 x4 x5 x6 x7=>k x2) w)
 (fun w k=>W8.rec (motive:=fun _=>Option ρ) (fun x0 x1 x2 x3 x4 x5 x6 x7=>k x3) w)
 (fun w k=>W8.rec (motive:=fun _=>Option ρ) (fun x0 x1 x2 x3 x4 x5 x6 x7=>k x4) w)
 (fun w k=>W8.rec (motive:=fun _=>Option ρ) (fun x0 x1 x2 x3 x4 x5 x6 x7=>k x5) w)
 (fun w k=>W8.rec (motive:=fun _=>Option ρ) (fun x0 x1 x2 x3 x4 x5 x6 x7=>k x6) w)
 (fun w k=>W8.rec (motive:=fun _=>Option ρ) (fun x0 x1 x2 x3 x4 x5 x6 x7=>k x7) w))
 (fun w k=>W8.rec (motive:=fun _=>Option ρ) (fun x0 x1 x2 x3 x4 x5 x6 x7=>k x0) w)
 (fun w k=>W8.rec (motive:=fun _=>Option ρ) (fun x0 x1 x2 x3 x4 x5 x6 x7=>k x1) w)
 (fun w k=>W8.rec (motive:=fun _=>Option ρ) (fun x0 x1 x2 x3 x4 x5 x6 x7=>k x2) w)
 (fun w k=>W8.rec (motive:=fun _=>Option ρ) (fun x0 x1 x2 x3 x4 x5 x6 x7=>k x3) w)
 (fun w k=>W8.rec (motive:=fun _=>Option ρ) (fun x0 x1 x2 x3 x4 x5 x6 x7=>k x4) w)
 (fun w k=>W8.rec (motive:=fun _=>Option ρ) (fun x0 x1 x2 x3 x4 x5 x6 x7=>k x5) w)
 (fun w k=>W8.rec (motive:=fun _=>Option ρ) (fun x0 x1 x2 x3 x4 x5 x6 x7=>k x6) w)
 (fun w k=>W8.rec (motive:=fun _=>Option ρ) (fun x0 x1 x2 x3 x4 x5 x6 x7=>k x7) w)
theorem J4 {G:β→Prop} {i:Nat} {e:β} {Q:Gt ρ→β} (hi:i < 64) (he:G e) (h:∀ g:Gt ρ,(∀ fr k,g fr k=k (S9 i fr))→G (Q g)):G (a1Q i e Q):=by
 refine a0F he ?_ ?_ ?_ ?_ ?_ ?_ ?_ ?_ <;> intro h1 <;> refine a0F he ?_ ?_ ?_ ?_ ?_ ?_ ?_ ?_ <;> intro h2 <;> refine h _ (fun fr k=>?_) <;> unfold S9 <;> rw [h1,h2] <;> cases fr with
  | mk w0 w1 w2 w3 w4 w5 w6 w7=>first|(cases w0; rfl)|(cases w1; rfl)|(cases w2; rfl)|(cases w3; rfl)|(cases w4; rfl)|(cases w5; rfl)|(cases w6; rfl)|(cases w7; rfl)
noncomputable def a7f (i:Nat) (e:β) (Q:Wr ρ→β):β:=a9U (i / 8) e (fun o:Fr→(W8 AV→(W8 AV→Option ρ)→Option ρ)→(Fr→Option ρ)→Option ρ=>a9U (i % 8) e (fun n:AV→W8 AV→(W8 AV→Option ρ)→Option ρ=>Q fun x fr k=>o fr (n x) k)
 (fun y w k=>W8.rec (motive:=fun _=>Option ρ) (fun x0 x1 x2 x3 x4 x5 x6 x7=>k (.mk y x1 x2 x3 x4 x5 x6 x7)) w)
 (fun y w k=>W8.rec (motive:=fun _=>Option ρ) (fun x0 x1 x2 x3 x4 x5 x6 x7=>k (.mk x0 y x2 x3 x4 x5 x6 x7)) w)
 (fun y w k=>W8.rec (motive:=fun _=>Option ρ) (fun x0 x1 x2 x3 x4 x5 x6 x7=>k (.mk x0 x1 y x3 x4 x5 x6 x7)) w)
 (fun y w k=>W8.rec (motive:=fun _=>Option ρ) (fun x0 x1 x2 x3 x4 x5 x6 x7=>k (.mk x0 x1 x2 y x4 x5 x6 x7)) w)
 (fun y w k=>W8.rec (motive:=fun _=>Option ρ) (fun x0 x1 x2 x3 x4 x5 x6 x7=>k (.mk x0 x1 x2 x3 y x5 x6 x7)) w)
 (fun y w k=>W8.rec (motive:=fun _=>Option ρ) (fun x0 x1 x2 x3 x4 x5 x6 x7=>k (.mk x0 x1 x2 x3 x4 y x6 x7)) w)
 (fun y w k=>W8.rec (motive:=fun _=>Option ρ) (fun x0 x1 x2 x3 x4 x5 x6 x7=>k (.mk x0 x1 x2 x3 x4 x5 y x7)) w)
 (fun y w k=>W8.rec (motive:=fun _=>Option ρ) (fun x0 x1 x2 x3 x4 x5 x6 x7=>k (.mk x0 x1 x2 x3 x4 x5 x6 y)) w))
 (fun w u k=>W8.rec (motive:=fun _=>Option ρ) (fun x0 x1 x2 x3 x4 x5 x6 x7=>u x0 fun y=>k (.mk y x1 x2 x3 x4 x5 x6 x7)) w)
 (fun w u k=>W8.rec (motive:=fun _=>Option ρ) (fun x0 x1 x2 x3 x4 x5 x6 x7=>u x1 fun y=>k (.mk x0 y x2 x3 x4 x5 x6 x7)) w)
 (fun w u k=>W8.rec (motive:=fun _=>Option ρ) (fun x0 x1 x2 x3 x4 x5 x6 x7=>u x2 fun y=>k (.mk x0 x1 y x3 x4 x5 x6 x7)) w)
 (fun w u k=>W8.rec (motive:=fun _=>Option ρ) (fun x0 x1 x2 x3 x4 x5 x6 x7=>u x3 fun y=>k (.mk x0 x1 x2 y x4 x5 x6 x7)) w)
 (fun w u k=>W8.rec (motive:=fun _=>Option ρ) (fun x0 x1 x2 x3 x4 x5 x6 x7=>u x4 fun y=>k (.mk x0 x1 x2 x3 y x5 x6 x7)) w)
 (fun w u k=>W8.rec (motive:=fun _=>Option ρ) (fun x0 x1 x2 x3 x4 x5 x6 x7=>u x5 fun y=>k (.mk x0 x1 x2 x3 x4 y x6 x7)) w)
 (fun w u k=>W8.rec (motive:=fun _=>Option ρ) (fun x0 x1 x2 x3 x4 x5 x6 x7=>u x6 fun y=>k (.mk x0 x1 x2 x3 x4 x5 y x7)) w)
 (fun w u k=>W8.rec (motive:=fun _=>Option ρ) (fun x0 x1 x2 x3 x4 x5 x6 x7=>u x7 fun y=>k (.mk x0 x1 x2 x3 x4 x5 x6 y)) w)
theorem a0I {G:β→Prop} {i:Nat} {e:β} {Q:Wr ρ→β} (hi:i < 64) (he:G e) (h:∀ g:Wr ρ,(∀ x fr k,g x fr k=k (a0M i x fr))→G (Q g)):G (a7f i e Q):=by
 refine a0F he ?_ ?_ ?_ ?_ ?_ ?_ ?_ ?_ <;> intro h1 <;> refine a0F he ?_ ?_ ?_ ?_ ?_ ?_ ?_ ?_ <;> intro h2 <;> refine h _ (fun x fr k=>?_) <;> unfold a0M <;> rw [h1,h2] <;> cases fr with
  | mk w0 w1 w2 w3 w4 w5 w6 w7=>first|(cases w0; rfl)|(cases w1; rfl)|(cases w2; rfl)|(cases w3; rfl)|(cases w4; rfl)|(cases w5; rfl)|(cases w6; rfl)|(cases w7; rfl)
noncomputable def b35 (i:Nat) (Q:(List AV→(AV→Option ρ)→Option ρ)→β):β:=Nat.rec (motive:=fun _=>((List AV→(AV→Option ρ)→Option ρ)→β)→β)
 (fun Q=>Q fun l k=>List.rec (motive:=fun _=>Option ρ) none (fun a _ _=>k a) l)
 (fun _ ih Q=>ih fun r=>Q fun l k=>List.rec (motive:=fun _=>Option ρ) none (fun _ t _=>r t k) l) i Q
theorem X4 {G:β→Prop}:∀ (i:Nat) {Q:(List AV→(AV→Option ρ)→Option ρ)→β},(∀ r:List AV→(AV→Option ρ)→Option ρ,(∀ l k,r l k=match l[i]? with|some a=>k a|none=>none)→G (Q r))→G (b35 i Q)
 | 0,Q,h=>h _ fun l k=>by cases l <;> rfl
 | i+1,Q,h=>X4 i fun r hr=>h _ fun l k=>by
  cases l with
  | nil=>rfl
  | cons a t=>show r t k=_; rw [hr]; simp
end
abbrev U:AV:=.undef
def u8:W8 AV:=.mk U U U U U U U U
noncomputable def b8H {ρ:Type} (l:List AV) (k:W8 AV→Option ρ):Option ρ:=List.rec (motive:=fun _=>Option ρ) (k (.mk U U U U U U U U)) (fun y0 l _=>List.rec (motive:=fun _=>Option ρ) (k (.mk y0 U U U U U U U)) (fun y1 l _=>List.rec (motive:=fun _=>Option ρ) (k (.mk y0 y1 U U U U U U)) (fun y2 l _=>List.rec (motive:=fun _=>Option ρ) (k (.mk y0 y1 y2 U U U U U)) (fun y3 l _=>List.rec (motive:=fun _=>Option ρ) (k (.mk y0 y1 y2 y3 U U U U)) (fun y4 l _=>List.rec (motive:=fun _=>Option ρ) (k (.mk y0 y1 y2 y3 y4 U U U)) (fun y5 l _=>List.rec (motive:=fun _=>Option ρ) (k (.mk y0 y1 y2 y3 y4 y5 U U)) (fun y6 l _=>List.rec (motive:=fun _=>Option ρ) (k (.mk y0 y1 y2 y3 y4 y5 y6 U)) (fun y7 l _=>List.rec (motive:=fun _=>Option ρ) (k (.mk y0 y1 y2 y3 y4 y5 y6 y7)) (fun _ _ _=>none) l) l) l) l) l) l) l) l) l
theorem d05 (i:Nat):pk8 i u8=U:=by
 show (match i with|0=>U|1=>U|2=>U|3=>U|4=>U|5=>U|6=>U|_=>U)=U
 split <;> rfl
theorem c1y {ρ:Type} {l:List AV} {k:W8 AV→Option ρ} {r:ρ} (h:b8H l k=some r):∃ w:W8 AV,k w=some r∧l.length≤8∧∀ i,i < 8→pk8 i w=l.getD i .undef:=by
 match l,h with
 | [],h=>exact ⟨_,h,by simp,fun i hi=>by rcases lt8 hi with rfl|rfl|rfl|rfl|rfl|rfl|rfl|rfl <;> rfl⟩
 | [y0],h=>exact ⟨_,h,by simp,fun i hi=>by rcases lt8 hi with rfl|rfl|rfl|rfl|rfl|rfl|rfl|rfl <;> rfl⟩
 | [y0,y1],h=>exact ⟨_,h,by simp,fun i hi=>by rcases lt8 hi with rfl|rfl|rfl|rfl|rfl|rfl|rfl|rfl <;> rfl⟩
 | [y0,y1,y2],h=>exact ⟨_,h,by simp,fun i hi=>by rcases lt8 hi with rfl|rfl|rfl|rfl|rfl|rfl|rfl|rfl <;> rfl⟩
 | [y0,y1,y2,y3],h=>exact ⟨_,h,by simp,fun i hi=>by rcases lt8 hi with rfl|rfl|rfl|rfl|rfl|rfl|rfl|rfl <;> rfl⟩
 | [y0,y1,y2,y3,y4],h=>exact ⟨_,h,by simp,fun i hi=>by rcases lt8 hi with rfl|rfl|rfl|rfl|rfl|rfl|rfl|rfl <;> rfl⟩
 | [y0,y1,y2,y3,y4,y5],h=>exact ⟨_,h,by simp,fun i hi=>by rcases lt8 hi with rfl|rfl|rfl|rfl|rfl|rfl|rfl|rfl <;> rfl⟩
 | [y0,y1,y2,y3,y4,y5,y6],h=>exact ⟨_,h,by simp,fun i hi=>by rcases lt8 hi with rfl|rfl|rfl|rfl|rfl|rfl|rfl|rfl <;> rfl⟩
 | [y0,y1,y2,y3,y4,y5,y6,y7],h=>exact ⟨_,h,by simp,fun i hi=>by rcases lt8 hi with rfl|rfl|rfl|rfl|rfl|rfl|rfl|rfl <;> rfl⟩
 | _::_::_::_::_::_::_::_::_::_,h=>cases h
def fr0 (w:W8 AV):Fr:=.mk w u8 u8 u8 u8 u8 u8 u8
theorem c2l {w:W8 AV} {l:List AV} {np nv:Nat} (hw:∀ i,i < 8→pk8 i w=l.getD i .undef) (hl:l.length=np) (h8:l.length≤8) (hnp:np≤nv) (hn:nv≤64):toL nv (fr0 w)=l++List.replicate (nv - np) .undef:=by
 apply List.ext_getElem
 · simp [toL,hl]; omega
 · intro j h1 h2
   have hj:j < nv:=by simpa [toL] using h1
   have hg:S9 j (fr0 w)=l.getD j .undef:=by
    unfold S9
    rcases Nat.lt_or_ge j 8 with h|h
    · rw [show j / 8=0 by omega,show j % 8=j by omega]
      exact hw j h
    · have:pk8 (j / 8) (fr0 w)=u8:=by
       rcases lt8 (show j / 8 < 8 by omega) with e|e|e|e|e|e|e|e <;> rw [e] <;> first|(exfalso; omega)|rfl
      rw [this,d05,List.getD_eq_getElem?_getD,List.getElem?_eq_none (by omega)]
      rfl
   simp only [toL,List.getElem_map,List.getElem_range,hg]
   rw [List.getElem_append]
   split
   · rename_i h; simp [List.getD,h]
   · rename_i h; rw [List.getD_eq_getElem?_getD,List.getElem?_eq_none (by omega)]; simp
end Go.Cb.G
/-
 THE ABSTRACT MACHINE, part 44: operations, made ready once, run over fast frames.
-/
set_option maxRecDepth 4000
set_option linter.unusedVariables false
namespace Go.Cb.G
open Go Go.Cb
abbrev RO:=Option (AV×Fr×St)
abbrev Rd:=List AV→Fr→(AV→RO)→RO
inductive Src where
 | w (l:Nat)|s (l:Nat)|d (l:Nat)|k (a:AV)|q (a:AV)
abbrev Scope:=List (Nat×Src)
noncomputable def D4 (s:Nat) (sc:Scope):Option Src:=List.rec (motive:=fun _=>Option Src) none (fun p _ ih=>Prod.rec (motive:=fun _=>Option Src) (fun t x=>Bool.rec (motive:=fun _=>Option Src) ih (some x) (Nat.beq t s)) p) sc
theorem a1h (s t:Nat) (x:Src) (sc:Scope):D4 s ((t,x)::sc)=if t=s then some x else D4 s sc:=by
 show Bool.rec (motive:=fun _=>Option Src) (D4 s sc) (some x) (Nat.beq t s)=_
 by_cases h:t=s
 · rw [if_pos h,show Nat.beq t s=true by simpa using h]
 · rw [if_neg h,show Nat.beq t s=false from Bool.eq_false_iff.2 fun q=>h (Nat.eq_of_beq_eq_true q)]
def lv (env:List AV) (l:Nat):Option AV:=env.reverse[l]?
theorem d43 {env:List AV} {l:Nat} {a:AV} (x:AV) (h:lv env l=some a):lv (x::env) l=some a:=by
 unfold lv at *
 rw [List.reverse_cons,List.getElem?_append_left (by
  rcases Nat.lt_or_ge l env.reverse.length with q|q
  · exact q
  · rw [List.getElem?_eq_none q] at h; cases h)]
 exact h
theorem b4C (x:AV) (env:List AV):lv (x::env) env.length=some x:=by
 unfold lv
 rw [List.reverse_cons,List.getElem?_append_right (by simp)]
 simp
theorem a9e {env:List AV} {l d:Nat} {a:AV} (hd:env.length=d) (h:lv env l=some a):env[d - 1 - l]?=some a:=by
 unfold lv at h
 have hl:l < env.length:=by
  rcases Nat.lt_or_ge l env.reverse.length with q|q
  · simpa using q
  · rw [List.getElem?_eq_none q] at h; cases h
 rw [List.getElem?_reverse hl,hd] at h
 exact h
def SrcOK (env:List AV) (v:AV):Src→Prop
 | .w l=>∃ a,lv env l=some a∧v.weak=a
 | .s l=>∃ a,lv env l=some a∧v=a
 | .d l=>∃ a,lv env l=some a∧v.weak=a.weak
 | .k a=>v=a
 | .q a=>v.weak=a
theorem SrcOK.push {env:List AV} {v:AV} {x:Src} (y:AV) (h:SrcOK env v x):SrcOK (y::env) v x:=by
 cases x <;> simp only [SrcOK] at*<;> first|exact h|(obtain ⟨a,h1,h2⟩:=h; exact ⟨a,d43 y h1,h2⟩)
structure Ag (nv dep:Nat) (sc:Scope) (env:List AV) (fr:Fr) (σ:Sig):Prop where
 f:σ.fr=toL nv fr
 d:env.length=dep
 nb:∀ s,(σ.τ s).stripB=σ.τ s
 t:∀ s x,D4 s sc=some x→SrcOK env (σ.τ s) x

noncomputable def c81 (x:AV) (y z:RO):RO:=AV.rec (motive_1:=fun _=>RO) (motive_2:=fun _=>Unit) (motive_3:=fun _=>Unit)
 z (fun _=>z) (fun _ _=>z) (fun _=>z) (fun _ _ _=>z) (fun _ _=>z) z (fun _ _=>z) (fun _ _=>z) (fun _ _=>y) (fun _=>z) z (fun _ _ _ _ _=>z) z (fun _ _=>z) (fun _ _=>z) (fun _ _ _=>z) z (fun _ _ _ _=>z) (fun _ _=>z) z
 () (fun _ _ _ _=>()) () (fun _ _ _ _=>()) x
noncomputable def b7o (i:Nat) (x:AV) (k:AV→RO):RO:=c81 x (k (.loc i 0)) (k .undef)
theorem c0E (i:Nat) (x:AV) (k:AV→RO):b7o i x k=k (match x with|.box _=>.loc i 0|_=>.undef):=by cases x <;> rfl

section
variable {β:Type}
noncomputable def rdK (nv dep:Nat) (sc:Scope) (x:Opd) (e:β) (Q:Rd→β):β :=
 match x with
 | .t s=>match D4 s sc with
  | some (.w l)=>b35 (dep - 1 - l) fun r=>Q fun env _ k=>r env k
  | some (.s l)|some (.d l)=>b35 (dep - 1 - l) fun r=>Q fun env _ k=>r env fun x=>qWk x k
  | some (.k a)=>Q fun _ _ k=>k a.weak
  | some (.q a)=>Q fun _ _ k=>k a
  | none=>e
 | .ts s=>match D4 s sc with
  | some (.s l)=>b35 (dep - 1 - l) fun r=>Q fun env _ k=>r env k
  | some (.k a)=>Q fun _ _ k=>k a
  | _=>e
 | .v i=>match Nat.blt i nv with
  | true=>a1Q i e fun g=>Q fun _ fr k=>g fr fun x=>qWk x k
  | false=>e
 | .vs i=>match Nat.blt i nv with
  | true=>a1Q i e fun g=>Q fun _ fr k=>g fr k
  | false=>e
 | .l i=>match Nat.blt i nv with
  | true=>a1Q i e fun g=>Q fun _ fr k=>g fr fun x=>b7o i x k
  | false=>e
 | .c a=>Q fun _ _ k=>k a
def c2I (nv dep:Nat) (sc:Scope) (x:Opd) (r:Rd):Prop:=∀ env fr σ,Ag nv dep sc env fr σ→∀ k,r env fr k=k (x.read σ)
theorem P5 {i n:Nat} (h:Nat.blt i n=true):i < n:=by simpa using h
theorem a4j {G:β→Prop} {nv dep:Nat} {sc:Scope} {x:Opd} {e:β} {Q:Rd→β} (hn:nv≤64) (he:G e) (h:∀ r,c2I nv dep sc x r→G (Q r)):G (rdK nv dep sc x e Q):=by
 unfold rdK
 cases x with
 | t s =>
  dsimp only
  cases hs:D4 s sc with
  | none=>exact he
  | some y =>
   cases y with
   | w l =>
    refine X4 _ fun r hr=>h _ fun env fr σ ha k=>?_
    obtain ⟨a,h1,h2⟩:=ha.t _ _ hs
    show r env k=_
    rw [hr,a9e ha.d h1,← h2]; rfl
   | s l =>
    refine X4 _ fun r hr=>h _ fun env fr σ ha k=>?_
    obtain ⟨a,h1,h2⟩:=ha.t _ _ hs
    show r env _=_
    rw [hr,a9e ha.d h1]
    show qWk a k=_
    rw [a0A,← h2]; rfl
   | d l =>
    refine X4 _ fun r hr=>h _ fun env fr σ ha k=>?_
    obtain ⟨a,h1,h2⟩:=ha.t _ _ hs
    show r env _=_
    rw [hr,a9e ha.d h1]
    show qWk a k=_
    rw [a0A,← h2]; rfl
   | k a =>
    refine h _ fun env fr σ ha k=>?_
    have:=ha.t _ _ hs
    show k a.weak=k (σ.τ s).weak
    rw [show σ.τ s=a from this]
   | q a =>
    refine h _ fun env fr σ ha k=>?_
    have:=ha.t _ _ hs
    show k a=k (σ.τ s).weak
    rw [show (σ.τ s).weak=a from this]
 | ts s =>
  dsimp only
  cases hs:D4 s sc with
  | none=>exact he
  | some y =>
   cases y with
   | s l =>
    refine X4 _ fun r hr=>h _ fun env fr σ ha k=>?_
    obtain ⟨a,h1,h2⟩:=ha.t _ _ hs
    show r env k=_
    rw [hr,a9e ha.d h1,← h2]; rfl
   | k a =>
    refine h _ fun env fr σ ha k=>?_
    have:=ha.t _ _ hs
    show k a=k (σ.τ s)
    rw [show σ.τ s=a from this]
   | _=>exact he
 | v i =>
  dsimp only
  cases hb:Nat.blt i nv with
  | false=>exact he
  | true =>
   have hi:=P5 hb
   refine J4 (by omega) he fun g hg=>h _ fun env fr σ ha k=>?_
   show g fr (fun x=>qWk x k)=k (σ.fr.getD i .undef).weak
   rw [hg,a0A,ha.f,L6 hi]
 | vs i =>
  dsimp only
  cases hb:Nat.blt i nv with
  | false=>exact he
  | true =>
   have hi:=P5 hb
   refine J4 (by omega) he fun g hg=>h _ fun env fr σ ha k=>?_
   show g fr k=k (σ.fr.getD i .undef)
   rw [hg,ha.f,L6 hi]
 | l i =>
  dsimp only
  cases hb:Nat.blt i nv with
  | false=>exact he
  | true =>
   have hi:=P5 hb
   refine J4 (by omega) he fun g hg=>h _ fun env fr σ ha k=>?_
   show g fr (fun x=>b7o i x k)=_
   rw [hg,c0E]
   show _=k (match σ.fr.getD i .undef with|.box _=>.loc i 0|_=>.undef)
   rw [ha.f,L6 hi]
 | c a=>exact h _ fun _ _ _ _ _=>rfl

def rdL (nv dep:Nat) (sc:Scope) (rd:Opd→β→(Rd→β)→β):List Opd→β→(List Rd→β)→β
 | [],_,Q=>Q []
 | x::xs,e,Q=>rd x e fun r=>rdL nv dep sc rd xs e fun rs=>Q (r::rs)
def a8Z (nv dep:Nat) (sc:Scope):List Opd→List Rd→Prop
 | [],[]=>True
 | x::xs,r::rs=>c2I nv dep sc x r∧a8Z nv dep sc xs rs
 | _,_=>False
theorem b1r {G:β→Prop} {nv dep:Nat} {sc:Scope} (hn:nv≤64):∀ {xs:List Opd} {e:β} {Q:List Rd→β},G e→(∀ rs,a8Z nv dep sc xs rs→G (Q rs))→G (rdL nv dep sc (fun x e Q=>rdK nv dep sc x e Q) xs e Q)
 | [],e,Q,he,h=>h [] trivial
 | x::xs,e,Q,he,h=>by
  unfold rdL
  exact a4j hn he fun r hr=>b1r hn he fun rs hrs=>h _ ⟨hr,hrs⟩
end
def a0W:List Rd→List AV→Fr→(List AV→RO)→RO
 | [],_,_,k=>k []
 | r::rs,env,fr,k=>r env fr fun x=>a0W rs env fr fun xs=>k (x::xs)
theorem a0u {nv dep:Nat} {sc:Scope} {env:List AV} {fr:Fr} {σ:Sig} (ha:Ag nv dep sc env fr σ):∀ {xs:List Opd} {rs:List Rd} {k:List AV→RO},a8Z nv dep sc xs rs→a0W rs env fr k=k (xs.map (·.read σ))
 | [],[],k,_=>rfl
 | x::xs,r::rs,k,h=>by
  show r env fr _=_
  rw [h.1 env fr σ ha,a0u ha h.2]
  rfl
 | [],_::_,_,h=>h.elim
 | _::_,[],_,h=>h.elim
section
variable {β:Type}
abbrev RdA:=List AV→Fr→(List AV→RO)→RO
noncomputable def b7b (rs:List Rd) (Q:RdA→β):β:=List.rec (motive:=fun _=>(RdA→β)→β) (fun Q=>Q fun _ _ k=>k []) (fun r _ ih Q=>ih fun ra=>Q fun env fr k=>r env fr fun x=>ra env fr fun xs=>k (x::xs)) rs Q
theorem a14 {G:β→Prop}:∀ {rs:List Rd} {Q:RdA→β},(∀ ra:RdA,(∀ env fr k,ra env fr k=a0W rs env fr k)→G (Q ra))→G (b7b rs Q)
 | [],Q,h=>h _ fun _ _ _=>rfl
 | r::rs,Q,h=>a14 (rs:=rs) fun ra hra=>h _ fun env fr k=>by
  show r env fr _=r env fr _
  congr
  funext x
  exact hra _ _ _

/-! kinds -/
abbrev KF:=b6→List AV→Fr→AV→St→(AV→AV→St→RO)→RO
def b7E (kd:Kind) (rs:List Rd) (kf:KF):Prop:=∀ c env fr b s K,kf c env fr b s K=a0W rs env fr fun as=>obind (sem kd c as b s) fun p=>K p.1 p.2.1 p.2.2
theorem n9 {kd:Kind} (h1:kd.setSt=false) (h2:kd.alters=false) (c:b6) (as:List AV) (b:AV) (s:St) (K:AV→AV→St→RO):obind (p1 (sem kd c as b s)) (fun r=>K r b s)=obind (sem kd c as b s) fun p=>K p.1 p.2.1 p.2.2:=by
 cases hs:sem kd c as b s with
 | none=>rfl
 | some p =>
  obtain ⟨r,b',s'⟩:=p
  have e1:=a2G h1 hs
  have e2:=a1k h2 hs
  subst e1 e2
  rfl
theorem b0D {kd:Kind} (h2:kd.alters=false) (c:b6) (as:List AV) (b:AV) (s:St) (K:AV→AV→St→RO):obind (p2 (sem kd c as b s)) (fun r=>K r.1 b r.2)=obind (sem kd c as b s) fun p=>K p.1 p.2.1 p.2.2:=by
 cases hs:sem kd c as b s with
 | none=>rfl
 | some p =>
  obtain ⟨r,b',s'⟩:=p
  have e2:=a1k h2 hs
  subst e2
  rfl
noncomputable def a9V (c:b6) (s:St) (K:AV→St→RO) (i:Nat) (xs:List AV):RO:=b0Y xs fun ws=>c4Z (c i ws s) fun v s=>K v s
noncomputable def b3o (c:b6) (b:AV) (s:St) (f:AV→RO) (g:Bool) (d:Nat) (x:AV):RO:=a8V x (obind (p1 (sem (.ldAn g d) c [x] b s)) f) (fun o i=>a6i s f g d (.ptr o i)) (fun cs=>a5i f g d (.ro cs)) (fun _ _=>obind (p1 (sem (.ldAn g d) c [x] b s)) f)
theorem b66 (c:b6) (b:AV) (s:St) (f:AV→RO) (g:Bool) (d:Nat) (x:AV):b3o c b s f g d x=obind (p1 (sem (.ldAn g d) c [x] b s)) f:=by
 unfold b3o
 rw [a4i]
 cases x <;> try rfl
 · rename_i o i
   show a6i s f g d (.ptr o i)=_
   rw [a9x c b s]; rfl
 · rename_i cs
   show a5i f g d (.ro cs)=_
   rw [b0p c b s]; rfl
noncomputable def b7H (kd:Kind) (ra:RdA) (Q:KF→β):β:=match kd.alters with
 | true=>Q fun c env fr b s K=>ra env fr fun as=>obind (sem kd c as b s) fun p=>a01 p.1 fun r=>a01 p.2.1 fun b=>fL p.2.2 fun s=>K r b s
 | false=>match kd.setSt with
  | true=>Q fun c env fr b s K=>ra env fr fun as=>obind (p2 (sem kd c as b s)) fun p=>a01 p.1 fun r=>fL p.2 fun s=>K r b s
  | false=>Q fun c env fr b s K=>ra env fr fun as=>obind (p1 (sem kd c as b s)) fun x=>a01 x fun r=>K r b s
noncomputable def b4m (kd:Kind) (rs:List Rd) (Q:KF→β):β :=
 match kd,rs with
 | .mv,[x]=>Q fun c env fr b s K=>x env fr fun x=>K x b s
 | .bin .eql,[x,y]=>Q fun c env fr b s K=>x env fr fun x=>y env fr fun y=>b7l (fun r=>K r b s) x y
 | .bin .neq,[x,y]=>Q fun c env fr b s K=>x env fr fun x=>y env fr fun y=>b7u (fun r=>K r b s) x y
 | .bin .lss,[x,y]=>Q fun c env fr b s K=>x env fr fun x=>y env fr fun y=>a07 c b s (fun r=>K r b s) .lss Nat.blt x y
 | .bin .leq,[x,y]=>Q fun c env fr b s K=>x env fr fun x=>y env fr fun y=>a07 c b s (fun r=>K r b s) .leq Nat.ble x y
 | .bin .gtr,[x,y]=>Q fun c env fr b s K=>x env fr fun x=>y env fr fun y=>a07 c b s (fun r=>K r b s) .gtr (fun i j=>Nat.blt j i) x y
 | .bin .geq,[x,y]=>Q fun c env fr b s K=>x env fr fun x=>y env fr fun y=>a07 c b s (fun r=>K r b s) .geq (fun i j=>Nat.ble j i) x y
 | .bin .add,[x,y]=>Q fun c env fr b s K=>x env fr fun x=>y env fr fun y=>b73 c b s (fun r=>K r b s) x y
 | .bin .sub,[x,y]=>Q fun c env fr b s K=>x env fr fun x=>y env fr fun y=>b8E c b s (fun r=>K r b s) x y
 | .un .not,[x]=>Q fun c env fr b s K=>x env fr fun x=>b8z (fun r=>K r b s) x
 | .nilchk,[x]=>Q fun c env fr b s K=>x env fr fun x=>b8v c b s (fun r=>K r b s) x
 | .lenS,[x]=>Q fun c env fr b s K=>x env fr fun x=>b3T (fun r=>K r b s) x
 | .lenL,[x]=>Q fun c env fr b s K=>x env fr fun x=>b3G c b s (fun r=>K r b s) x
 | .idxS,[x,y]=>Q fun c env fr b s K=>x env fr fun x=>y env fr fun y=>b8P (fun r=>K r b s) x y
 | .pick,[x,y,z]=>Q fun c env fr b s K=>x env fr fun x=>y env fr fun y=>z env fr fun z=>b3H (fun r=>K r b s) x y z
 | .fad d,[x]=>Q fun c env fr b s K=>x env fr fun x=>b8b (fun r=>K r b s) d x
 | .iad d,[x,y]=>Q fun c env fr b s K=>x env fr fun x=>y env fr fun y=>b7n c b s (fun r=>K r b s) d x y
 | .ldSt g d,[x]=>Q fun c env fr b s K=>x env fr fun x=>a6i s (fun r=>K r b s) g d x
 | .ldRo g d,[x]=>Q fun c env fr b s K=>x env fr fun x=>a5i (fun r=>K r b s) g d x
 | .ldAn g d,[x]=>Q fun c env fr b s K=>x env fr fun x=>b3o c b s (fun r=>K r b s) g d x
 | .ldLc i g d,[x]=>Q fun c env fr b s K=>x env fr fun x=>b3t b (fun r=>K r b s) i g d x
 | .ext d,[x]=>Q fun c env fr b s K=>x env fr fun x=>b8F (fun r=>K r b s) d x
 | .slS true true,[x,y,z]=>Q fun c env fr b s K=>x env fr fun x=>y env fr fun y=>z env fr fun z=>b7G c b s (fun r=>K r b s) x y z
 | .app d e,[x,y]=>Q fun c env fr b s K=>x env fr fun x=>y env fr fun y=>b74 b s (fun p=>K p.1 p.2.1 p.2.2) d e x y
 | .alloc d,[]=>Q fun c env fr b s K=>a9H b s (fun p=>K p.1 p.2.1 p.2.2) d
 | .stLc i d,[x,y]=>Q fun c env fr b s K=>x env fr fun x=>y env fr fun y=>b38 b s (fun p=>K p.1 p.2.1 p.2.2) i d x y
 | .stSt d,[x,y]=>Q fun c env fr b s K=>x env fr fun x=>y env fr fun y=>b4n s (fun p=>K p.1 b p.2) d x y
 | .call f,rs=>b7b rs fun ra=>Q fun c env fr b s K=>ra env fr fun as=>a9V c s (fun v s=>K v b s) f as
 | kd,rs=>b7b rs fun ra=>b7H kd ra Q
theorem b5v {G:β→Prop} {kd:Kind} {rs:List Rd} {ra:RdA} {Q:KF→β} (hra:∀ env fr k,ra env fr k=a0W rs env fr k) (h:∀ kf,b7E kd rs kf→G (Q kf)):G (b7H kd ra Q):=by
 unfold b7H
 cases h2:kd.alters with
 | true=>exact h _ fun c env fr b s K=>by rw [hra]; simp only [fNew_eq,fL_eq]
 | false =>
  cases h1:kd.setSt with
  | true =>
   refine h _ fun c env fr b s K=>?_
   rw [hra]; simp only [fNew_eq,fL_eq]
   congr; funext as
   exact b0D h2 c as b s K
  | false =>
   refine h _ fun c env fr b s K=>?_
   rw [hra]; simp only [fNew_eq]
   congr; funext as
   exact n9 h1 h2 c as b s K
theorem P3 (x:Rd) (env:List AV) (fr:Fr) (k:List AV→RO):a0W [x] env fr k=x env fr fun x=>k [x]:=rfl
theorem I4 (x y:Rd) (env:List AV) (fr:Fr) (k:List AV→RO):a0W [x,y] env fr k=x env fr fun x=>y env fr fun y=>k [x,y]:=rfl
theorem b5Q (x y z:Rd) (env:List AV) (fr:Fr) (k:List AV→RO):a0W [x,y,z] env fr k=x env fr fun x=>y env fr fun y=>z env fr fun z=>k [x,y,z]:=rfl
theorem b3Z {G:β→Prop} {kd:Kind} {rs:List Rd} {Q:KF→β} (h:∀ kf,b7E kd rs kf→G (Q kf)):G (b4m kd rs Q):=by
 unfold b4m
 split
 · exact h _ fun c env fr b s K=>rfl
 · exact h _ fun c env fr b s K=>by rw [I4]; congr; funext x; congr; funext y; rw [c1m c b s]; exact n9 rfl rfl ..
 · exact h _ fun c env fr b s K=>by rw [I4]; congr; funext x; congr; funext y; rw [c1G c b s]; exact n9 rfl rfl ..
 · exact h _ fun c env fr b s K=>by rw [I4]; congr; funext x; congr; funext y; rw [c4R c b s]; exact n9 rfl rfl ..
 · exact h _ fun c env fr b s K=>by rw [I4]; congr; funext x; congr; funext y; rw [c2N c b s]; exact n9 rfl rfl ..
 · exact h _ fun c env fr b s K=>by rw [I4]; congr; funext x; congr; funext y; rw [c29 c b s]; exact n9 rfl rfl ..
 · exact h _ fun c env fr b s K=>by rw [I4]; congr; funext x; congr; funext y; rw [c2O c b s]; exact n9 rfl rfl ..
 · exact h _ fun c env fr b s K=>by rw [I4]; congr; funext x; congr; funext y; rw [c1f c b s]; exact n9 rfl rfl ..
 · exact h _ fun c env fr b s K=>by rw [I4]; congr; funext x; congr; funext y; rw [c0M c b s]; exact n9 rfl rfl ..
 · exact h _ fun c env fr b s K=>by rw [P3]; congr; funext x; rw [c0x c b s]; exact n9 rfl rfl ..
 · exact h _ fun c env fr b s K=>by rw [P3]; congr; funext x; rw [c1B c b s]; exact n9 rfl rfl ..
 · exact h _ fun c env fr b s K=>by rw [P3]; congr; funext x; rw [b7h c b s]; exact n9 rfl rfl ..
 · exact h _ fun c env fr b s K=>by rw [P3]; congr; funext x; rw [b75 c b s]; exact n9 rfl rfl ..
 · exact h _ fun c env fr b s K=>by rw [I4]; congr; funext x; congr; funext y; rw [c0z c b s]; exact n9 rfl rfl ..
 · exact h _ fun c env fr b s K=>by rw [b5Q]; congr; funext x; congr; funext y; congr; funext z; rw [b8n c b s]; exact n9 rfl rfl ..
 · exact h _ fun c env fr b s K=>by rw [P3]; congr; funext x; rw [c1N c b s]; exact n9 rfl rfl ..
 · exact h _ fun c env fr b s K=>by rw [I4]; congr; funext x; congr; funext y; rw [c1n c b s]; exact n9 rfl rfl ..
 · exact h _ fun c env fr b s K=>by rw [P3]; congr; funext x; rw [a9x c b s]; exact n9 rfl rfl ..
 · exact h _ fun c env fr b s K=>by rw [P3]; congr; funext x; rw [b0p c b s]; exact n9 rfl rfl ..
 · exact h _ fun c env fr b s K=>by rw [P3]; congr; funext x; rw [b66 c b s]; exact n9 rfl rfl ..
 · exact h _ fun c env fr b s K=>by rw [P3]; congr; funext x; rw [b8K c b s]; exact n9 rfl rfl ..
 · exact h _ fun c env fr b s K=>by rw [P3]; congr; funext x; rw [c1k c b s]; exact n9 rfl rfl ..
 · exact h _ fun c env fr b s K=>by rw [b5Q]; congr; funext x; congr; funext y; congr; funext z; rw [c0L c b s]; exact n9 rfl rfl ..
 · exact h _ fun c env fr b s K=>by rw [I4]; congr; funext x; congr; funext y; exact c1C c b s ..
 · exact h _ fun c env fr b s K=>b4J c b s ..
 · exact h _ fun c env fr b s K=>by rw [I4]; congr; funext x; congr; funext y; exact b8u c b s ..
 · exact h _ fun c env fr b s K=>by rw [I4]; congr; funext x; congr; funext y; rw [b7V c b s]; exact b0D rfl ..
 · refine a14 fun ra hra=>h _ fun c env fr b s K=>?_
   rw [hra]
   congr; funext as
   show a9V c s (fun v s=>K v b s) _ as=_
   unfold a9V
   rw [a8H]
   simp only [sem,s5]
   split
   · rw [c0S]
     cases c _ (as.map AV.weak) s <;> rfl
   · rfl
 · exact a14 fun ra hra=>b5v hra h
end
end Go.Cb.G
