import Derived.Test.YtbibkdncfclnbaaGreatDoorXAms2
import Derived.Laws.CopyRow
import Derived.Laws.Externs
import Derived.Test.YtbibkdncfclnbaaGreatDoorXAms1
/-
 THE ABSTRACT MACHINE, part 29: slices.Clone.
-/
set_option maxRecDepth 4000
set_option linter.unusedSimpArgs false
set_option linter.unusedVariables false
namespace Go.Cb
open Classical

section
variable {c:Cx} {g:Gh} {w:World} {pr:Nat→Option Pl} {bx:Nat→Nat} {σ:Sig} {a:Act} {o:Oper}

theorem c56 (fx:Fx c) (h:S c g w pr bx σ a) {t e:TypeId} {i:TypeInfo} {d:Dst} (ho:o.op=.buildSlice t 0 #[]) (hu:c.P.underlying t=some (.slice e)) (hi:c.P.info? e=some i) (hd:p9 c o.dst d=true)
 {next:Act→World→Prop} {Q:Exit→Act→World→Prop} (hnext:Post c g w a (d.put (.list true []) σ) next):o.wp c.P a w next Q:=by
 have hrun:(execOp a.eval o).run c.P w=.ok (.value (.slice (some (ad w.heap.size 0)) 0 0)) (w.alloc (.cells #[] e)):=by
  have e0:(Array.map (fun _:Nat=>(default:Value)) (Array.range 0))=#[]:=by apply Array.ext'; simp
  simp [execOp,ho,Instr.buildSlice,run_underlying hu,sizeOf,typeInfo,hi,Instr.fill,newRow,e0]
 unfold Oper.wp
 rw [hrun]
 refine hnext _ _ g pr bx (r9 _ _ _) (S8 fx (h.alloc _ _) hd (mine:=No) (r:=.list true []) ?_ fun _ x=>x.elim) (Tr.alloc _ h.st.cli _)
 refine (show ValOK g _ No (.list true []) _ from ⟨?_,fun _ _=>.inl ⟨_,_,rfl⟩,fun _ e=>(by cases e)⟩)
 simp only [Rel]
 exact ⟨_,0,0,rfl,rfl,Nat.le_refl _,fun _=>rfl,fun h=>absurd rfl h⟩

theorem c4G (fx:Fx c) (h:S c g w pr bx σ a) {t t' e:TypeId} {x:Operand} {d:Dst} {ad0:Option Addr} {n cap:Nat} (ho:o.op=.binOp .eql t x (.const (.slice none 0 0)) t') (hu:c.P.underlying t=some (.slice e))
 (hx:a.eval x=.slice ad0 n cap) (hd:p9 c o.dst d=true) {next:Act→World→Prop} {Q:Exit→Act→World→Prop} (hnext:Post c g w a (d.put (.bool ad0.isNone) σ) next):o.wp c.P a w next Q:=by
 have hrun:(execOp a.eval o).run c.P w=.ok (.value (.bool ad0.isNone)) w:=by
  have hg:∀ v:Value,(eqGuard .eql t x (.const (.slice none 0 0)) (.slice ad0 n cap) (.slice none 0 0)).run c.P w=.ok () w:=fun _=>rfl
  have hy:a.eval (.const (.slice none 0 0))=.slice none 0 0:=rfl
  have heq:(Op.equal t (.slice ad0 n cap) (.slice none 0 0)).run c.P w=.ok ad0.isNone w:=by
   rw [W7,Op.equalIn,Sem.run_bind,run_underlying hu,Result.andThen_ok]
   cases ad0 <;> rfl
  simp only [execOp,ho,hx,hy,hg (.bool true),binOp,Sem.run_bind,heq,Result.andThen_ok,Sem.run_pure]
 exact b3n fx h hd (r:=.bool ad0.isNone) hrun (show ValOK g w No (.bool ad0.isNone) (.bool ad0.isNone) from ValOK.mk' (by simp [Rel]) (by simp) (by simp)) hnext

def b0D (P:Program) (t sz bytes:Nat):Bool:=match P.underlying t with
 | some (.slice e)=>match P.info? e with
  | some ie=>ie.size == sz && ie.bytes == bytes && decide (0 < bytes) && (match ie.zero with|some z=>z.cells.size == sz|none=>false)
  | none=>false
 | _=>false

structure CloneShape (P:Program) (fn:Func) (t sz bytes:Nat) where
 i0:Nat
 i1:Nat
 i2:Nat
 i3:Nat
 o0:Oper
 o1:Oper
 o2:Oper
 o3:Oper
 o4:Oper
 o5:Oper
 o6:Oper
 o7:Oper
 ty:TypeId
 body:fn.body=some (.seq (.region i0 #[o0] false) (.seq (.seq (.region i1 #[o1,o2] false) (.cond (.tmp 4) (.seq (.region i2 #[o3] false) .ret) .skip)) (.seq (.region i3 #[o4,o5,o6,o7] false) .ret)))
 nt:fn.ntmps=8
 res:fn.results=#[.tmp 2]
 d0:o0.dst=some 2∧o0.op=.assign (.const (.slice none 0 0))∧o0.guard=none
 d1:o1.dst=some 3∧o1.op=.move (.tmp 0)∧o1.guard=none
 d2:o2.dst=some 4∧o2.op=.binOp .eql t (.tmp 3) (.const (.slice none 0 0)) ty∧o2.guard=none
 d3:o3.dst=some 2∧o3.op=.assign (.const (.slice none 0 0))∧o3.guard=none
 d4:o4.dst=some 5∧o4.op=.buildSlice t 0 #[]∧o4.guard=none
 d5:o5.dst=some 6∧o5.op=.move (.tmp 0)∧o5.guard=none
 d6:o6.dst=some 7∧o6.op=.call { callee:=.builtin .append,args:=#[.tmp 5,.tmp 6],argTypes:=#[t,t] }∧o6.guard=none
 d7:o7.dst=some 2∧o7.op=.assign (.tmp 7)∧o7.guard=none
 tb:b0D P t sz bytes=true

theorem b2g {P:Program} {t sz bytes:Nat} (h:b0D P t sz bytes=true):∃ e ie z,P.underlying t=some (.slice e)∧P.info? e=some ie∧ie.zero=some z∧ie.size=sz∧ie.bytes=bytes∧z.cells.size=sz∧0 < bytes:=by
 unfold b0D at h
 split at h
 case h_2=>cases h
 rename_i e hu
 split at h
 case h_2=>cases h
 rename_i ie hi
 simp only [Bool.and_eq_true,beq_iff_eq,decide_eq_true_eq] at h
 obtain ⟨⟨⟨h1,h2⟩,h3⟩,h4⟩:=h
 split at h4
 case h_2=>cases h4
 rename_i z hz
 exact ⟨e,ie,z,hu,hi,hz,h1,h2,by simpa using h4,h3⟩

theorem b08 {P:Program} {gt:List (Nat×List AV)} {f t sz bytes:Nat} {fn:Func} (hf:P.funcs[f]?=some fn) (C:CloneShape P fn t sz bytes):R1 P gt f (X9 sz bytes):=by
 intro args st res st' h hweak g w vs hst _ hrel
 obtain ⟨e,ie,z,tu,ti,tz,tsz,tby,tzs,tb1⟩:=b2g C.tb
 unfold X9 at h
 split at h
 case h_2=>cases h
 rename_i own xs
 split at h
 case isFalse=>cases h
 rename_i hcond
 simp only [Bool.and_eq_true,decide_eq_true_eq] at hcond
 obtain ⟨hrows,hbytes⟩:=hcond
 simp only [Option.some.injEq,Prod.mk.injEq] at h
 obtain ⟨rfl,rfl⟩:=h
 simp only [RelL] at hrel
 obtain ⟨v,_,rfl,hv,rfl⟩:=hrel
 have hvs:=hv
 simp only [Rel] at hvs
 obtain ⟨ad0,n,cap,rfl,rfl,hcap,hnil,hne⟩:=hvs
 let A:Nat→Prop:=fun b=>w.heap.size≤b∨g.sr b≠none
 let c:Cx:=⟨P,[0,2],[],8,[],A⟩
 have fx:Fx c:=⟨show ([0,2]:List Nat).Nodup by decide,show ∀ s∈([0,2]:List Nat),s < 8 by decide⟩
 have hown:own=false:=by
  have:=hweak (.list own xs) (by simp)
  simpa [AV.weak] using this.symm
 subst hown
 refine calls_of_wp hf C.body ?_
 have hS:S c g w (fun _=>none) (fun _=>0) ⟨[.list false xs,.undef],fun _=>.undef,st⟩ { tmps:=#[Value.slice ad0 xs.length cap]++Array.replicate (fn.ntmps - 1) undef,defers:=[] }:=by
  refine ⟨⟨by simp [c,C.nt],rfl,fun i s hs=>?_,fun s _=>ValOK.undef,fun b p hb=>(by cases hb),fun i cs hi=>?_⟩,hst,fun e he=>(by cases he),fun b hb=>.inl hb,fun b p hb=>.inr (by rw [hb]; simp)⟩
  · match i,hs with
    | 0,hs =>
     simp only [c,List.getElem?_cons_zero,Option.some.injEq] at hs
     subst hs
     have hval:ValOK g w (fun b=>(fun _=>none:Nat→Option Pl) b=some (.var 0)) (AV.list false xs).weak (.slice ad0 xs.length cap):=ValOK.of_weak hv
     have e0:(#[Value.slice ad0 xs.length cap]++Array.replicate (fn.ntmps - 1) undef).getD 0 undef=.slice ad0 xs.length cap:=by rw [C.nt]; rfl
     show VarOK g w (fun _=>none) (fun _=>0) 0 (.list false xs) ((#[Value.slice ad0 xs.length cap]++Array.replicate (fn.ntmps - 1) undef).getD 0 undef)
     rw [e0]
     exact hval
    | 1,hs=>exact VarOK.undef
    | i+2,hs=>simp [c] at hs
  · match i,hi with
    | 0,hi=>simp at hi
    | 1,hi=>simp at hi
    | i+2,hi=>simp at hi
 -- the end
 have fin:∀ (x:AV) (a':Act) (w':World) (g':Gh) (pr':Nat→Option Pl) (bx':Nat→Nat) (τ':Nat→AV),a'.defers=[]→S c g' w' pr' bx' ⟨[x,.list true xs],τ',st⟩ a'→Tr c.A g w g' w' →
  bodyPost P fn (CallPost g w st (.list true xs)) .ret a' w':=by
  intro x a' w' g' pr' bx' τ' hd hS' ht
  refine ⟨hd,?_⟩
  obtain ⟨us,hus,hul,hall⟩:=a9V (c:=c) hS' (rs:=fn.results.toList) (ks:=[.vs 1]) (vs:=[.list true xs]) (by rw [C.res]; rfl) rfl
  refine ⟨_,a3B hus,_,g',rfl,hS'.st,⟨ht.ext,ht.size,ht.env,fun b hb hs _=>ht.keep b hb hs fun hA=>?_⟩,?_⟩
  · rcases hA with hA|hA
    · omega
    · exact hA hs
  · match us,hul,hall with
    | [u],_,hall =>
     refine (hall 0 (.list true xs) u rfl rfl).mono (Ext.refl _ _) fun b hb=>⟨?_,rfl,fun _ x=>x⟩
     obtain ⟨p,hp⟩:=hb
     obtain ⟨q1,q2,q3⟩:=hS'.fr.prv b p hp
     exact ⟨q1,q2,q3⟩
 refine wp_seq (wp_region ?_)
 show wpOps P #[C.o0] _ [0] _ _
 rw [wpOps_cons]
 refine U4 rfl C.d0.2.2 (a3l (c:=c) fx hS (.inr C.d0.2.1) (p:=.c (.list true [])) (d:=.v 1) rfl (by rw [C.d0.1]; rfl) fun a1 w1 g1 pr1 bx1 hd1 hS1 ht1=>?_)
 show (Code.seq _ _).wp P _ a1 w1
 refine wp_seq (wp_seq (wp_region ?_))
 show wpOps P #[C.o1,C.o2] _ [0,1] _ _
 rw [wpOps_cons]
 refine U4 rfl C.d1.2.2 (a3l (c:=c) fx hS1 (.inl C.d1.2.1) (p:=.v 0) (d:=.t 3) rfl (by rw [C.d1.1]; rfl) fun a2 w2 g2 pr2 bx2 hd2 hS2 ht2=>?_)
 rw [wpOps_cons]
 have hA2:=P3 hS2 (x:=.tmp 3) (p:=.t 3) rfl
 have hr2:Rel g2 w2 (.list false xs) (a2.eval (.tmp 3)):=ValOK.rel hA2
 have hr2':=hr2
 simp only [Rel] at hr2'
 obtain ⟨ad2,n2,cap2,hev2,hn2,hcap2,hnil2,hne2⟩:=hr2'
 refine U4 rfl C.d2.2.2 (c4G (c:=c) fx hS2 C.d2.2.1 tu hev2 (d:=.t 4) (by rw [C.d2.1]; rfl) fun a3 w3 g3 pr3 bx3 hd3 hS3 ht3=>?_)
 show (Code.cond _ _ _).wp P _ a3 w3
 have ht03:=(ht1.trans ht2).trans ht3
 have hd03:a3.defers=[]:=hd3.trans (hd2.trans hd1)
 have hb:=a1q hS3 (x:=.tmp 4) (y:=.t 4) rfl (b:=ad2.isNone) rfl
 refine wp_cond hb ?_
 cases ad2 with
 | none =>
  have hx0:xs=[]:=by
   have:=hnil2 rfl
   exact List.eq_nil_of_length_eq_zero (by omega)
  refine wp_seq (wp_region ?_)
  show wpOps P #[C.o3] _ [0] _ _
  rw [wpOps_cons]
  refine U4 rfl C.d3.2.2 (a3l (c:=c) fx hS3 (.inr C.d3.2.1) (p:=.c (.list true [])) (d:=.v 1) rfl (by rw [C.d3.1]; rfl) fun a4 w4 g4 pr4 bx4 hd4 hS4 ht4=>?_)
  show Code.ret.wp P _ a4 w4
  refine wp_ret ?_
  show bodyPost P fn _ .ret a4 w4
  subst hx0
  exact fin _ a4 w4 g4 pr4 bx4 _ (hd4.trans hd03) hS4 (ht03.trans ht4)
 | some ad3 =>
  refine wp_skip ?_
  show (Code.seq _ _).wp P _ a3 w3
  refine wp_seq (wp_region ?_)
  show wpOps P #[C.o4,C.o5,C.o6,C.o7] _ [0,1,2,3] _ _
  rw [wpOps_cons]
  refine U4 rfl C.d4.2.2 (c56 (c:=c) fx hS3 C.d4.2.1 tu ti (d:=.t 5) (by rw [C.d4.1]; rfl) fun a4 w4 g4 pr4 bx4 hd4 hS4 ht4=>?_)
  rw [wpOps_cons]
  refine U4 rfl C.d5.2.2 (a3l (c:=c) fx hS4 (.inl C.d5.2.1) (p:=.v 0) (d:=.t 6) rfl (by rw [C.d5.1]; rfl) fun a5 w5 g5 pr5 bx5 hd5 hS5 ht5=>?_)
  rw [wpOps_cons]
  refine U4 rfl C.d6.2.2 (b5y (c:=c) fx hS5 C.d6.2.1 rfl tu ti tz tsz tby tzs tb1 (p0:=.ts 5) (p1:=.t 6) (d:=.t 7) rfl rfl (by rw [C.d6.1]; rfl) (by rw [C.d6.1]; rfl) (xs:=[]) (ys:=xs) (own:=false) rfl rfl rfl hrows (by simpa using hbytes) fun a6 w6 g6 pr6 bx6 hd6 hS6 ht6=>?_)
  rw [wpOps_cons]
  refine U4 rfl C.d7.2.2 (a3l (c:=c) fx hS6 (.inr C.d7.2.1) (p:=.ts 7) (d:=.v 1) rfl (by rw [C.d7.1]; rfl) fun a7 w7 g7 pr7 bx7 hd7 hS7 ht7=>?_)
  show Code.ret.wp P _ a7 w7
  refine wp_ret ?_
  show bodyPost P fn _ .ret a7 w7
  exact fin _ a7 w7 g7 pr7 bx7 _ (hd7.trans (hd6.trans (hd5.trans (hd4.trans hd03)))) hS7 ((((ht03.trans ht4).trans ht5).trans ht6).trans ht7)
end
end Go.Cb
/-
 THE ABSTRACT MACHINE, part 49: rows that are objects of their own: a copy, one row more, one row less: answers of their own.
-/
set_option maxRecDepth 4000
set_option linter.unusedVariables false
namespace Go.Cb
open Classical

def a0n (sz bytes:Nat):List AV→St→Option (AV×St)
 | [.nils],st=>some (.nils,st)
 | [.sl o f n s],st=>match st[o]? with
  | some (.cells cs)=>if s=sz∧f+n*sz≤cs.length∧n*bytes≤70368744177664 then some (.sl st.length 0 n sz,st++[.cells (((cs.drop f).take (n*sz)).map AV.weak1)]) else none
  | _=>none
 | _,_=>none
def J3 (sz i:Nat) (cs row:List AV):List AV:=(cs.take (i*sz)++row++cs.drop (i*sz)).map AV.weak1
def R7 (sz bytes:Nat):List AV→St→Option (AV×St)
 | [.nils,.int .i64 i,.list _ [row]],st=>if i=0∧row.length=sz then some (.sl st.length 0 1 sz,st++[.cells (J3 sz 0 [] row)]) else none
 | [.sl o 0 n s,.int .i64 i,.list _ [row]],st=>match st[o]? with
  | some (.cells cs)=>if s=sz∧0≤i∧i≤n∧cs.length=n*sz∧row.length=sz∧(n+1)*bytes≤70368744177664 then some (.sl st.length 0 (n+1) sz,st.set o .dead++[.cells (J3 sz i.toNat cs row)]) else none
  | _=>none
 | _,_=>none
def a1y (sz i:Nat) (cs:List AV):List AV:=(cs.take (i*sz)++cs.drop ((i+1)*sz)).map AV.weak1
def b3h (sz bytes:Nat):List AV→St→Option (AV×St)
 | [.sl o 0 n s,.int .i64 i,.int .i64 j],st=>match st[o]? with
  | some (.cells cs)=>if s=sz∧0≤i∧i < n∧j=i+1∧cs.length=n*sz∧n*bytes≤70368744177664 then some (.sl st.length 0 (n - 1) sz,st.set o .dead++[.cells (a1y sz i.toNat cs)]) else none
  | _=>none
 | _,_=>none
end Go.Cb
/-
 THE ABSTRACT MACHINE, part 50: a copy of rows of several cells; two slices that lie apart; what a new object in the store comes to.
-/
set_option maxRecDepth 4000
set_option linter.unusedVariables false
set_option linter.unusedSimpArgs false
namespace Go.Cb
open Classical

theorem Q9 {P:Program} (w:World) (dT sT ty elem:TypeId) (sz g o dLen dCap:Nat) (a:Addr) (sLen sCap:Nat) (cur:Array Value) (t:TypeId) (cs:List Value)
 (hu:P.underlying dT=some (.slice elem)) (hs:(P.info? elem).map (·.size)=some sz)
 (hg:w.heap[g]?=some (.cells cur t (0,0))) (hn:cs.length=Nat.min sLen dLen*sz)
 (hsrc:∀ j v,cs[j]?=some v→w.cell? (a.add j)=some v) (hfit:o+cs.length≤cur.size) (h1:∀ v∈cs,v.oneCell'=true) :
 (Builtin.copy_ #[dT,sT] ty #[.slice (some ⟨g,o,none⟩) dLen dCap,.slice (some a) sLen sCap]).run P w =
  .ok (goInt (Nat.min sLen dLen)) (w.setRow g (cur.toList.take o++cs++cur.toList.drop (o+cs.length)).toArray):=by
 have hl:=run_loadCells_list (P:=P) w a cs hsrc
 have hst:=run_storeCells_at P g o t cs 0 cur w hg (by simpa using hfit) h1
 cases hq:P.info? elem with
 | none=>simp [hq] at hs
 | some i =>
  have hi:i.size=sz:=by simpa [hq] using hs
  simp [Builtin.copy_,run_underlying hu,Builtin.lenOf,Builtin.firstCells,sizeOf,typeInfo,hq,hi,← hn,hl,hst]

theorem a2q {P:Program} (w:World) (tS tR e:TypeId) (ht:P.underlying tS=some (.slice e)) (size:Nat) (hz:∀ w,(Go.sizeOf e).run P w=.ok size w)
 (a b:Addr) (la ca lb cb:Nat) (hne:a.block≠b.block) {arrA arrB:Array Value} {TA TB:TypeId} {zA:Nat×Nat}
 (hA:w.heap[a.block]?=some (.cells arrA TA zA)) (hB:w.heap[b.block]?=some (.cells arrB TB (0,0))) (hkA:arrA.size≠0) (hkB:arrB.size≠0) :
 (Extern.SlicesOverlaps.overlaps #[tS,tS] #[tR] #[.slice (some a) la ca,.slice (some b) lb cb]).run P w=.ok (.bool false) w:=by
 have hnb:(a.block != b.block)=true:=by simpa using hne
 have hnb':(a.block == b.block)=false:=by simpa using hne
 have hsa:w.shape? a.block=some (TA,arrA.size):=by simp [World.shape?,hA]
 have hsb:w.shape? b.block=some (TB,arrB.size):=by simp [World.shape?,hB]
 have hfb:∀ x:Addr,x.block=b.block→w.frozen? x=false:=fun x hx=>by simp [World.frozen?,hx,hB]
 have hf1:=hfb b rfl
 have hf2:=hfb { block:=b.block,off:=arrB.size } rfl
 delta Extern.SlicesOverlaps.overlaps
 dsimp only
 delta Extern.SlicesOverlaps.overlaps.match_4
 dsimp only [Array.size,List.length]
 simp only [dif_pos,Nat.reduceAdd,Nat.zero_add]
 dsimp only [Array.getLit,getElem,Array.getInternal,List.get]
 by_cases h0:la=0∨lb=0∨size=0
 · simp [run_underlying ht,hz,h0]
 · cases hn:arrB.size with
   | zero=>exact absurd hn hkB
   | succ kB =>
    rw [hn] at hsb hf2
    cases hm:arrA.size with
    | zero=>exact absurd hm hkA
    | succ kA =>
    rw [hm] at hsa
    cases hfa:w.frozen? a with
    | true=>simp [run_underlying ht,hz,h0,hnb,hnb',frozen,noView,viewAt,mayBeOne,stringish,shape,Sem.run,hsa,hsb,hfa,hf1,hf2]
    | false =>
     cases hfe:w.frozen? { block:=a.block,off:=kA+1 } <;>
     simp [run_underlying ht,hz,h0,hnb,hnb',frozen,noView,viewAt,mayBeOne,stringish,shape,Sem.run,hsa,hsb,hfa,hf1,hf2,hfe]
end Go.Cb
/-
 THE ABSTRACT MACHINE, part 30: from an abstract answer to the model's call.
-/
set_option maxRecDepth 4000
set_option linter.unusedVariables false
namespace Go.Cb
open Classical

def gh0 (W:World):Gh:={ n:=0,m:=fun _=>0,cl:=fun b _=>b < W.heap.size,sr:=fun _=>none,cp:=fun _=>0 }

theorem c9q (W:World):SRel (gh0 W) W []:=⟨rfl,fun o ob h=>by simp at h,fun b p h=>(by cases h),fun b f h=>h⟩

structure Kept (W W':World):Prop where
 kept:W.keptBut W' (fun _=>False)
 fz:∀ a:Addr,a.block < W.heap.size→W'.frozen? a=W.frozen? a
 size:W.heap.size≤W'.heap.size
 old:∀ b,b < W.heap.size→W'.heap[b]?=W.heap[b]?

theorem B7 {P:Program} {gt:List (Nat×List AV)} {tbl:Nat→Option AFn} (hP:ProgOK P gt tbl) {n f:Nat} {args:List AV} {b:Bool} {st':St} (h:l6 tbl n f args []=some (.bool b,st')) (hw:∀ x∈args,x.weak=x)
 {W:World} {vs:List Value} (hg:Globs gt (gh0 W) W) (hr:RelL (gh0 W) W args vs):Calls P f vs.toArray W (fun e W'=>e=.returned (.bool b)∧Kept W W'):=by
 refine ((b9B hP n f args [] _ _ h hw).2 (gh0 W) W vs (c9q W) hg hr).mono fun e W' he=>?_
 obtain ⟨v,g',rfl,_,ht,hv⟩:=he
 have hv:=hv.rel
 simp only [Rel] at hv
 subst hv
 have hold:∀ b,b < W.heap.size→W'.heap[b]?=W.heap[b]?:=fun b hb=>(ht.keep b hb rfl fun x=>x).1.1
 refine ⟨rfl,⟨ht.env.os,ht.env.out,fun i hi=>?_⟩,ht.env.fz,ht.size,hold⟩
 rw [hold i hi]
 cases hq:W.heap[i]? with
 | none=>simp
 | some o=>cases o <;> simp
end Go.Cb
/-
 THE ABSTRACT MACHINE, part 28: running told as a chain, for reckoning with unknowns.
-/
set_option maxRecDepth 4000
set_option linter.unusedSimpArgs false
set_option linter.unusedVariables false
namespace Go.Cb
open Classical

theorem a8 {α:Sort _} {a b:α} (h:a=b):a=b:=by
 cases h
 rfl

def obind {α β:Type} (x:Option α) (f:α→Option β):Option β:=match x with
 | some a=>f a
 | none=>none
theorem n8 {α β:Type} (a:α) (f:α→Option β):obind (some a) f=f a:=a8 rfl
theorem g9 {α β:Type} {x x':Option α} {f:α→Option β} (h:x=x'):obind x f=obind x' f:=by rw [h]

def p1 (x:Option (AV×AV×St)):Option AV:=match x with
 | some (r,_,_)=>some r
 | none=>none
theorem b2A (r b:AV) (st:St):p1 (some (r,b,st))=some r:=a8 rfl
def p2 (x:Option (AV×AV×St)):Option (AV×St):=match x with
 | some (r,_,st)=>some (r,st)
 | none=>none
theorem a1I (r b:AV) (st:St):p2 (some (r,b,st))=some (r,st):=a8 rfl

def gv (x:AV) (want:Bool) (e:Option AV):Option AV:=match x with
 | .bool b=>if b == want then e else some (.tuple [])
 | .tuple []=>some (.tuple [])
 | _=>none
def gv2 (x:AV) (want:Bool) (st:St) (e:Option (AV×St)):Option (AV×St):=match x with
 | .bool b=>if b == want then e else some (.tuple [],st)
 | .tuple []=>some (.tuple [],st)
 | _=>none
theorem a7G (want:Bool) (e:Option AV):gv (.tuple []) want e=some (.tuple []):=a8 rfl

theorem c09 (e:Option AV):gv (.bool true) true e=e:=a8 rfl
theorem c0T (e:Option AV):gv (.bool true) false e=some (.tuple []):=a8 rfl
theorem b92 (e:Option AV):gv (.bool false) false e=e:=a8 rfl
theorem c0b (e:Option AV):gv (.bool false) true e=some (.tuple []):=a8 rfl
theorem b7N (st:St) (e:Option (AV×St)):gv2 (.bool true) true st e=e:=a8 rfl
theorem b62 (st:St) (e:Option (AV×St)):gv2 (.bool true) false st e=some (.tuple [],st):=a8 rfl
theorem b6i (st:St) (e:Option (AV×St)):gv2 (.bool false) false st e=e:=a8 rfl
theorem b7B (st:St) (e:Option (AV×St)):gv2 (.bool false) true st e=some (.tuple [],st):=a8 rfl
theorem b0t (want:Bool) (st:St) (e:Option (AV×St)):gv2 (.tuple []) want st e=some (.tuple [],st):=a8 rfl
theorem j3 {x:AV} {want:Bool} {st:St} {e:Option (AV×St)} {x':AV} (h:x=x'):gv2 x want st e=gv2 x' want st e:=by rw [h]

def e9 (xs:List Opd):Bool:=xs.any Opd.steals

theorem R3:∀ {xs:List Opd} {σ:Sig},e9 xs=false→d8 xs σ=σ
 | [],_,_=>rfl
 | x::xs,σ,h=>by
  simp only [e9,List.any_cons,Bool.or_eq_false_iff] at h
  have e:x.spend σ=σ:=by cases x <;> simp_all [Opd.spend,Opd.steals]
  rw [d8,e]
  exact R3 (xs:=xs) h.2

def goK (call:b9) {α:Type} (o:AOper) (σ:Sig) (k:Sig→Option α):Option α :=
 match o.kind.setSt || o.kind.alters || e9 o.args with
 | false=>obind (p1 (sem o.kind call (o.args.map (·.read σ)) (boxOf' o.box σ) σ.st)) fun r=>k (o.dst.put r σ)
 | true=>match o.kind.alters || e9 o.args with
  | false=>obind (p2 (sem o.kind call (o.args.map (·.read σ)) (boxOf' o.box σ) σ.st)) fun r=>k (o.dst.put r.1 { σ with st:=r.2 })
  | true=>obind (sem o.kind call (o.args.map (·.read σ)) (boxOf' o.box σ) σ.st) fun r =>
   let σ:=d8 o.args σ
   match o.box with
   | some i=>k (o.dst.put r.1 { σ with fr:=σ.fr.set i r.2.1,st:=r.2.2 })
   | none=>k (o.dst.put r.1 { σ with st:=r.2.2 })
where boxOf' (b:Option Nat) (σ:Sig):AV:=match b with|some i=>σ.fr.getD i .undef|none=>.undef

def a28 (call:b9) {α:Type} (o:AOper) (σ:Sig) (k:Sig→Option α):Option α :=
 match o.guard with
 | none=>goK call o σ k
 | some (x,want)=>match o.kind.setSt || o.kind.alters || e9 o.args with
  | false=>obind (gv (x.read σ) want (p1 (sem o.kind call (o.args.map (·.read σ)) (goK.boxOf' o.box σ) σ.st))) fun r=>k (o.dst.put r σ)
  | true=>match o.kind.alters || e9 o.args with
   | false=>obind (gv2 (x.read σ) want σ.st (p2 (sem o.kind call (o.args.map (·.read σ)) (goK.boxOf' o.box σ) σ.st))) fun r=>k (o.dst.put r.1 { σ with st:=r.2 })
   | true=>match x.read σ with
    | .bool b=>if b == want then goK call o σ k else k (o.dst.put (.tuple []) σ)
    | .tuple []=>k (o.dst.put (.tuple []) σ)
    | _=>none

def a7s (call:b9) {α:Type}:List AOper→Sig→(Sig→Option α)→Option α
 | [],σ,k=>k σ
 | o::os,σ,k=>a28 call o σ fun σ=>a7s call os σ k

theorem a2P (fr:List AV) (i:Nat):fr.set i (fr.getD i .undef)=fr:=by
 apply List.ext_getElem?
 intro j
 rw [List.getElem?_set]
 by_cases e:i=j
 · subst e
   rw [if_pos rfl]
   split
   · rename_i h; simp [h]
   · rename_i h; rw [List.getElem?_eq_none (by omega)]
 · rw [if_neg e]

theorem a6N {call:b9} {α:Type} {o:AOper} {σ:Sig} {k:Sig→Option α}:goK call o σ k=obind (E2 call o σ) k:=by
 have hb:goK.boxOf' o.box σ=(match o.box with|some i=>σ.fr.getD i .undef|none=>.undef):=rfl
 unfold goK
 rw [M1,hb]
 split
 · rename_i hp
   simp only [Bool.or_eq_false_iff] at hp
   obtain ⟨⟨h1,h2⟩,h3⟩:=hp
   cases hs:sem o.kind call (o.args.map (·.read σ)) (match o.box with|some i=>σ.fr.getD i .undef|none=>.undef) σ.st with
   | none=>rfl
   | some x =>
    obtain ⟨r,b',st'⟩:=x
    have e1:=a2B h1 hs
    have e2:=a1D h2 hs
    subst e1
    simp only [p1,n8,R3 h3]
    cases hbx:o.box with
    | none=>rfl
    | some i =>
     simp only [hbx] at e2
     rw [e2]
     simp only [a2P,n8]
 · rename_i hp
   split
   · rename_i hq
     simp only [Bool.or_eq_false_iff] at hq
     obtain ⟨h2,h3⟩:=hq
     cases hs:sem o.kind call (o.args.map (·.read σ)) (match o.box with|some i=>σ.fr.getD i .undef|none=>.undef) σ.st with
     | none=>rfl
     | some x =>
      obtain ⟨r,b',st'⟩:=x
      have e2:=a1D h2 hs
      simp only [p2,n8,R3 h3]
      cases hbx:o.box with
      | none=>rfl
      | some i =>
       simp only [hbx] at e2
       rw [e2]
       simp only [a2P,n8]
   · cases hs:sem o.kind call (o.args.map (·.read σ)) (match o.box with|some i=>σ.fr.getD i .undef|none=>.undef) σ.st with
     | none=>rfl
     | some x =>
      obtain ⟨r,b',st'⟩:=x
      simp only [n8]
      cases hbx:o.box with
      | none=>rfl
      | some i=>rfl

theorem c2e {α:Type} {x:AV} {want:Bool} {e:Option AV} {f:AV→Option α}:obind (gv x want e) f =
 (match x with|.bool b=>if b == want then obind e f else f (.tuple [])|.tuple []=>f (.tuple [])|_=>none):=by
 unfold gv
 split
 · split <;> rfl
 · rfl
 · rfl

theorem b9O {α:Type} {x:AV} {want:Bool} {st:St} {e:Option (AV×St)} {f:AV×St→Option α}:obind (gv2 x want st e) f =
 (match x with|.bool b=>if b == want then obind e f else f (.tuple [],st)|.tuple []=>f (.tuple [],st)|_=>none):=by
 unfold gv2
 split
 · split <;> rfl
 · rfl
 · rfl

theorem a1T {call:b9} {α:Type} {o:AOper} {σ:Sig} {k:Sig→Option α}:a28 call o σ k=obind (j1 call o σ) k:=by
 unfold a28 j1
 cases hg:o.guard with
 | none=>exact a6N
 | some xw =>
  obtain ⟨x,want⟩:=xw
  simp only
  split
  · rename_i hp
    have hgo:obind (p1 (sem o.kind call (o.args.map (·.read σ)) (goK.boxOf' o.box σ) σ.st)) (fun r=>k (o.dst.put r σ))=obind (E2 call o σ) k:=by
     have:=a6N (call:=call) (o:=o) (σ:=σ) (k:=k)
     unfold goK at this
     rw [hp] at this
     exact this
    rw [c2e]
    cases hx:x.read σ <;> try rfl
    · dsimp only
      split
      · exact hgo
      · rfl
    · rename_i vs
      cases vs <;> rfl
  · rename_i hp
    split
    · rename_i hq
      have hgo:obind (p2 (sem o.kind call (o.args.map (·.read σ)) (goK.boxOf' o.box σ) σ.st)) (fun r=>k (o.dst.put r.1 { σ with st:=r.2 }))=obind (E2 call o σ) k:=by
       have:=a6N (call:=call) (o:=o) (σ:=σ) (k:=k)
       unfold goK at this
       rw [hp,hq] at this
       exact this
      rw [b9O]
      cases hx:x.read σ <;> try rfl
      · dsimp only
        split
        · exact hgo
        · rfl
      · rename_i vs
        cases vs <;> rfl
    · cases hx:x.read σ <;> try rfl
      · dsimp only
        split
        · exact a6N
        · rfl
      · rename_i vs
        cases vs <;> rfl

theorem a0o {call:b9} {α:Type} {k:Sig→Option α}:∀ {ops:List AOper} {σ:Sig},a7s call ops σ k=obind (m4 call ops σ) k
 | [],σ=>rfl
 | o::os,σ=>by
  simp only [a7s,m4,a1T]
  cases hs:j1 call o σ with
  | none=>rfl
  | some σ1=>exact a0o

def br (c:AV) (a b:Option Out):Option Out:=match c with
 | .bool true=>a
 | .bool false=>b
 | _=>none
theorem b8D (call:b9) (n:Nat) (kill:List Nat) (ps:List AOper) (fr:List AV) (st:St) :
 g8 call n (.reg kill ps) fr st=a7s call ps ⟨k8 kill fr,fun _=>.undef,st⟩ fun σ=>some (.normal,σ.fr,σ.st):=by
 rw [a0o]
 simp only [g8,fL_eq]
 cases m4 call ps ⟨k8 kill fr,fun _=>.undef,st⟩ <;> rfl
theorem a8p (call:b9) (n:Nat) (kill:List Nat) (ps:List AOper) (c:Opd) (a b:ACode) (fr:List AV) (st:St) :
 g8 call n (.test kill ps c a b) fr st=a7s call ps ⟨k8 kill fr,fun _=>.undef,st⟩ fun σ=>br (c.read σ) (g8 call n a σ.fr σ.st) (g8 call n b σ.fr σ.st):=by
 rw [a0o]
 simp only [g8,fL_eq]
 cases m4 call ps ⟨k8 kill fr,fun _=>.undef,st⟩ with
 | none=>rfl
 | some σ =>
  simp only [n8]
  generalize c.read σ=y
  cases y <;> rfl

def b9R (i:Nat) (x:AV):AV:=match x with
 | .box _=>.loc i 0
 | _=>.undef

def seqK (x:Option Out) (f:List AV→St→Option Out):Option Out:=match x with
 | some (.normal,fr,st)=>f fr st
 | r=>r
theorem a1h (fr:List AV) (st:St) (f:List AV→St→Option Out):seqK (some (.normal,fr,st)) f=f fr st:=a8 rfl
theorem a9t (id:Nat) (fr:List AV) (st:St) (f:List AV→St→Option Out):seqK (some (.exit id,fr,st)) f=some (.exit id,fr,st):=a8 rfl
theorem b13 (fr:List AV) (st:St) (f:List AV→St→Option Out):seqK (some (.ret,fr,st)) f=some (.ret,fr,st):=a8 rfl
theorem i7 {x x':Option Out} {f:List AV→St→Option Out} (h:x=x'):seqK x f=seqK x' f:=by rw [h]
theorem exec_seqK (call:b9) (n:Nat) (a b:ACode) (fr:List AV) (st:St):g8 call n (.seq a b) fr st=seqK (g8 call n a fr st) (g8 call n b):=by
 simp only [g8,seqK]
 split <;> rename_i h <;> simp only [h]

def finK (rs:List ResK) (x:Option Out):Option (AV×St):=match x with
 | some (.exit _,_,_)=>none
 | some (_,fr,st)=>match N4 rs fr with
  | some [v]=>some (v,st)
  | some vs=>some (.tuple vs,st)
  | none=>none
 | none=>none
theorem a4N (fn:AFn) (call:b9) (n:Nat) (args:List AV) (st:St) (h:args.length=fn.np) :
 fn.run call n args st=finK fn.results (g8 call n fn.code (args++List.replicate (fn.nv - fn.np) .undef) st):=by
 unfold AFn.run finK
 rw [if_pos h]
 cases g8 call n fn.code (args++List.replicate (fn.nv - fn.np) .undef) st with
 | none=>rfl
 | some x =>
  obtain ⟨e,fr,st'⟩:=x
  cases e <;> dsimp only <;> cases N4 fn.results fr with
  | none=>rfl
  | some vs =>
   match vs with
   | []=>rfl
   | [v]=>rfl
   | _::_::_=>rfl
theorem b0o (call:b9) (n:Nat) (fr:List AV) (st:St):g8 call n .ret fr st=some (.ret,fr,st):=by simp only [g8]
theorem a8T (call:b9) (n id:Nat) (fr:List AV) (st:St):g8 call n (.exit id) fr st=some (.exit id,fr,st):=by simp only [g8]
theorem a9p (call:b9) (n:Nat) (fr:List AV) (st:St):g8 call n .skip fr st=some (.normal,fr,st):=by simp only [g8]
end Go.Cb
/-
 THE ABSTRACT MACHINE, part 31: more fuel does no harm.
-/
set_option maxRecDepth 4000
set_option linter.unusedSimpArgs false
set_option linter.unusedVariables false
namespace Go.Cb
open Classical

def Y7 (c c':b9):Prop:=∀ f as st r,c f as st=some r→c' f as st=some r

theorem c3G {c c':b9} (h:Y7 c c') {k:Kind} {as:List AV} {b:AV} {st:St} {r:AV×AV×St} (hs:sem k c as b st=some r):sem k c' as b st=some r:=by
 cases k
 case call f =>
  simp only [sem,y8] at hs ⊢
  split at hs
  · rename_i hp
    rw [if_pos hp]
    obtain ⟨x,hx,rfl⟩:=Option.map_eq_some_iff.1 hs
    rw [h _ _ _ _ hx]
    rfl
  · cases hs
 case callA f m =>
  simp only [sem,D3] at hs ⊢
  cases hc:y8 f c (as.take m) b st with
  | none=>rw [hc] at hs; cases hs
  | some x =>
   rw [hc] at hs
   have:y8 f c' (as.take m) b st=some x:=by
    unfold y8 at hc ⊢
    split at hc
    · rename_i hp
      rw [if_pos hp]
      obtain ⟨y,hy,rfl⟩:=Option.map_eq_some_iff.1 hc
      rw [h _ _ _ _ hy]
      rfl
    · cases hc
   rw [this]
   exact hs
 case callV =>
  simp only [sem] at hs ⊢
  unfold I7 at hs ⊢
  split at hs
  · split at hs
    · rename_i hp
      simp only [if_pos hp]
      obtain ⟨x,hx,rfl⟩:=Option.map_eq_some_iff.1 hs
      rw [h _ _ _ _ hx]
      rfl
    · cases hs
  · cases hs
 all_goals exact hs

theorem b3l {c c':b9} (h:Y7 c c') {o:AOper} {σ σ':Sig} (hs:E2 c o σ=some σ'):E2 c' o σ=some σ':=by
 obtain ⟨r,b',st',h1,rfl⟩:=k9 hs
 exact a3p (c3G h h1)
theorem b5Y {c c':b9} (h:Y7 c c') {o:AOper} {σ σ':Sig} (hs:j1 c o σ=some σ'):j1 c' o σ=some σ':=by
 unfold j1 at hs ⊢
 split at hs
 · exact b3l h hs
 · split at hs
   · split at hs
     · rename_i hc; rw [if_pos hc]; exact b3l h hs
     · rename_i hc; rw [if_neg hc]; exact hs
   · exact hs
   · cases hs
theorem a2E {c c':b9} (h:Y7 c c'):∀ {os:List AOper} {σ σ':Sig},m4 c os σ=some σ'→m4 c' os σ=some σ'
 | [],_,_,hs=>hs
 | o::os,σ,σ',hs=>by
  simp only [m4] at hs ⊢
  cases hq:j1 c o σ with
  | none=>simp [hq] at hs
  | some σ1 =>
   simp only [hq] at hs
   simp only [b5Y h hq]
   exact a2E h hs
theorem a3g {body body':List AV→St→Option Out} (h:∀ fr st r,body fr st=some r→body' fr st=some r):∀ {n m:Nat} {fr:List AV} {st:St} {r:Out},n≤m→T4 body n fr st=some r→T4 body' m fr st=some r
 | 0,_,_,_,_,_,hs=>by simp [T4] at hs
 | n+1,0,_,_,_,hle,_=>by omega
 | n+1,m+1,fr,st,r,hle,hs=>by
  simp only [T4] at hs ⊢
  cases hq:body fr st with
  | none=>simp [hq] at hs
  | some o =>
   rw [hq] at hs
   rw [h _ _ _ hq]
   obtain ⟨e,fr1,st1⟩:=o
   cases e with
   | normal=>exact a3g h (by omega) hs
   | exit id=>exact hs
   | ret=>exact hs
theorem C8 {c c':b9} (h:Y7 c c') {n m:Nat} (hle:n≤m):∀ {x:ACode} {fr:List AV} {st:St} {r:Out},g8 c n x fr st=some r→g8 c' m x fr st=some r
 | .skip,_,_,_,hs=>hs
 | .exit _,_,_,_,hs=>hs
 | .ret,_,_,_,hs=>hs
 | .reg kill ops,fr,st,r,hs=>by
  simp only [g8] at hs ⊢
  cases hq:m4 c ops ⟨k8 kill fr,fun _=>.undef,st⟩ with
  | none=>simp [hq] at hs
  | some σ=>rw [hq] at hs; rw [a2E h hq]; exact hs
 | .test kill ops x a b,fr,st,r,hs=>by
  rw [a8p] at hs ⊢
  rw [a0o] at hs ⊢
  cases hq:m4 c ops ⟨k8 kill fr,fun _=>.undef,st⟩ with
  | none=>rw [hq] at hs; cases hs
  | some σ =>
   rw [hq] at hs
   rw [a2E h hq]
   rw [n8] at hs ⊢
   unfold br at hs ⊢
   split at hs
   · exact C8 h hle hs
   · exact C8 h hle hs
   · cases hs
 | .either kill a b,fr,st,r,hs=>by
  simp only [g8] at hs ⊢
  obtain ⟨oa,ob,ea,eb,ka,kb⟩:=a5g hs
  rw [C8 h hle ea,C8 h hle eb,a2d (ka.trans kb.symm),ka]
 | .seq a b,fr,st,r,hs=>by
  rw [exec_seqK] at hs ⊢
  cases hq:g8 c n a fr st with
  | none=>rw [hq] at hs; cases hs
  | some o =>
   rw [hq] at hs
   rw [C8 h hle hq]
   obtain ⟨e,fr1,st1⟩:=o
   cases e with
   | normal=>exact C8 h hle hs
   | exit id=>exact hs
   | ret=>exact hs
 | .blk id a,fr,st,r,hs=>by
  simp only [g8] at hs ⊢
  cases hq:g8 c n a fr st with
  | none=>rw [hq] at hs; cases hs
  | some o=>rw [hq] at hs; rw [C8 h hle hq]; exact hs
 | .loop a,fr,st,r,hs=>by
  simp only [g8] at hs ⊢
  exact a3g (fun _ _ _ hb=>C8 h hle hb) hle hs
theorem b5s {c c':b9} (h:Y7 c c') {n m:Nat} (hle:n≤m) {fn:AFn} {args:List AV} {st:St} {r:AV×St} (hs:fn.run c n args st=some r):fn.run c' m args st=some r:=by
 have hl:args.length=fn.np:=by
  unfold AFn.run at hs
  split at hs
  · assumption
  · cases hs
 rw [a4N _ _ _ _ _ hl] at hs ⊢
 cases hq:g8 c n fn.code (args++List.replicate (fn.nv - fn.np) .undef) st with
 | none=>rw [hq] at hs; cases hs
 | some o=>rw [hq] at hs; rw [C8 h hle hq]; exact hs
theorem N8 {tbl:Nat→Option AFn}:∀ {n m:Nat},n≤m→Y7 (l6 tbl n) (l6 tbl m)
 | 0,_,_,_,_,_,_,hs=>by simp [l6] at hs
 | n+1,0,hle,_,_,_,_,_=>by omega
 | n+1,m+1,hle,f,as,st,r,hs=>by
  simp only [l6] at hs ⊢
  cases htb:tbl f with
  | none=>simp [htb] at hs
  | some fn =>
   simp only [htb] at hs ⊢
   cases he:fn.ext with
   | some e=>simp only [he] at hs ⊢; exact hs
   | none =>
    simp only [he] at hs ⊢
    exact b5s (N8 (by omega)) (by omega) hs

def Ev (tbl:Nat→Option AFn) (f:Nat) (as:List AV) (st:St) (r:AV) (st':St):Prop:=∃ n,l6 tbl n f as st=some (r,st')
theorem Ev.ge {tbl:Nat→Option AFn} {f:Nat} {as:List AV} {st:St} {r:AV} {st':St} (h:Ev tbl f as st r st'):∃ n0,∀ n,n0≤n→l6 tbl n f as st=some (r,st') :=
 let ⟨n,hn⟩:=h; ⟨n,fun m hm=>N8 hm _ _ _ _ hn⟩
end Go.Cb
/-
 THE ABSTRACT MACHINE, part 32: rules for what code comes to, with enough fuel.
-/
set_option maxRecDepth 4000
set_option linter.unusedVariables false
namespace Go.Cb
open Classical

section
variable {tbl:Nat→Option AFn}

def XC (tbl:Nat→Option AFn) (x:ACode) (fr:List AV) (st:St) (out:Out):Prop:=∃ n,g8 (l6 tbl n) n x fr st=some out
theorem XC.ge {x:ACode} {fr:List AV} {st:St} {out:Out} (h:XC tbl x fr st out):∃ n0,∀ n,n0≤n→g8 (l6 tbl n) n x fr st=some out :=
 let ⟨n,hn⟩:=h; ⟨n,fun m hm=>C8 (N8 hm) hm hn⟩

def LX (tbl:Nat→Option AFn) (x:ACode) (fr:List AV) (st:St) (out:Out):Prop:=∃ n k,T4 (g8 (l6 tbl n) n x) k fr st=some out

theorem LX.done {x:ACode} {fr:List AV} {st:St} {e:Ex} {fr':List AV} {st':St} (h:XC tbl x fr st (e,fr',st')) (he:e≠.normal):LX tbl x fr st (e,fr',st'):=by
 obtain ⟨n,hn⟩:=h
 refine ⟨n,1,?_⟩
 simp only [T4,hn]
 cases e with
 | normal=>exact absurd rfl he
 | exit id=>rfl
 | ret=>rfl
theorem LX.step {x:ACode} {fr fr1:List AV} {st st1:St} {out:Out} (h:XC tbl x fr st (.normal,fr1,st1)) (h':LX tbl x fr1 st1 out):LX tbl x fr st out:=by
 obtain ⟨n,hn⟩:=h
 obtain ⟨m,k,hm⟩:=h'
 refine ⟨max n m,k+1,?_⟩
 have h1:=C8 (N8 (tbl:=tbl) (Nat.le_max_left n m)) (Nat.le_max_left n m) hn
 simp only [T4,h1]
 exact a3g (fun _ _ _ hb=>C8 (N8 (Nat.le_max_right n m)) (Nat.le_max_right n m) hb) (Nat.le_refl k) hm
theorem XC.loop {x:ACode} {fr:List AV} {st:St} {out:Out} (h:LX tbl x fr st out):XC tbl (.loop x) fr st out:=by
 obtain ⟨n,k,h⟩:=h
 refine ⟨max n k,?_⟩
 simp only [g8]
 exact a3g (fun _ _ _ hb=>C8 (N8 (Nat.le_max_left n k)) (Nat.le_max_left n k) hb) (Nat.le_max_right n k) h
theorem XC.seq {a b:ACode} {fr fr1:List AV} {st st1:St} {out:Out} (h:XC tbl a fr st (.normal,fr1,st1)) (h':XC tbl b fr1 st1 out):XC tbl (.seq a b) fr st out:=by
 obtain ⟨n,hn⟩:=h
 obtain ⟨m,hm⟩:=h'
 refine ⟨max n m,?_⟩
 rw [exec_seqK,C8 (N8 (Nat.le_max_left n m)) (Nat.le_max_left n m) hn,a1h]
 exact C8 (N8 (Nat.le_max_right n m)) (Nat.le_max_right n m) hm
theorem XC.blk {id:Nat} {a:ACode} {fr fr1:List AV} {st st1:St} {e:Ex} (h:XC tbl a fr st (e,fr1,st1)):XC tbl (.blk id a) fr st (if e=.exit id then .normal else e,fr1,st1):=by
 obtain ⟨n,hn⟩:=h
 refine ⟨n,?_⟩
 simp only [g8,hn]
 cases e with
 | normal=>rfl
 | exit id' =>
  by_cases hid:id'=id
  · subst hid; simp
  · simp [hid]
 | ret=>rfl
theorem XC.skip {fr:List AV} {st:St}:XC tbl .skip fr st (.normal,fr,st):=⟨0,rfl⟩
theorem XC.exit {id:Nat} {fr:List AV} {st:St}:XC tbl (.exit id) fr st (.exit id,fr,st):=⟨0,rfl⟩
theorem XC.ret {fr:List AV} {st:St}:XC tbl .ret fr st (.ret,fr,st):=⟨0,rfl⟩

theorem XC.of {x:ACode} {fr:List AV} {st:St} {out:Out} (h:∃ n0,∀ n,n0≤n→g8 (l6 tbl n) n x fr st=some out):XC tbl x fr st out :=
 let ⟨n,hn⟩:=h; ⟨n,hn n (Nat.le_refl n)⟩
theorem XC.goes {x a:ACode} {fr fr1:List AV} {st st1:St} {out:Out} (h:∃ n0,∀ n,n0≤n→g8 (l6 tbl n) n x fr st=g8 (l6 tbl n) n a fr1 st1) (h':XC tbl a fr1 st1 out):XC tbl x fr st out:=by
 obtain ⟨n,hn⟩:=h
 obtain ⟨m,hm⟩:=h'.ge
 exact ⟨max n m,by rw [hn _ (Nat.le_max_left n m)]; exact hm _ (Nat.le_max_right n m)⟩

theorem Ev.of_body {f:Nat} {fn:AFn} {as:List AV} {st:St} {e:Ex} {fr':List AV} {st':St} {r:AV×St} (htb:tbl f=some fn) (he:fn.ext=none) (hl:as.length=fn.np)
 (h:XC tbl fn.code (as++List.replicate (fn.nv - fn.np) .undef) st (e,fr',st')) (hr:finK fn.results (some (e,fr',st'))=some r):Ev tbl f as st r.1 r.2:=by
 obtain ⟨n,hn⟩:=h
 refine ⟨n+1,?_⟩
 simp only [l6,htb,he]
 rw [a4N _ _ _ _ _ hl,hn,hr]
theorem Ev.of_ext {f:Nat} {fn:AFn} {as:List AV} {st:St} {e:List AV→St→Option (AV×St)} {r:AV×St} (htb:tbl f=some fn) (he:fn.ext=some e) (h:e as st=some r):Ev tbl f as st r.1 r.2 :=
 ⟨1,by simp only [l6,htb,he]; exact h⟩
end
end Go.Cb
/-
 THE ABSTRACT MACHINE, part 33: with enough fuel it comes to something of that sort.
-/
set_option maxRecDepth 4000
set_option linter.unusedVariables false
namespace Go.Cb
open Classical

def WC {α:Type} (c:Nat→Option α) (Q:α→Prop):Prop:=∃ n0 a,(∀ n,n0≤n→c n=some a)∧Q a
def EvQ (tbl:Nat→Option AFn) (f:Nat) (as:List AV) (st:St) (Q:AV→St→Prop):Prop:=∃ r st',Ev tbl f as st r st'∧Q r st'

theorem WC.ret {α:Type} {a:α} {Q:α→Prop} (h:Q a):WC (fun _=>some a) Q:=⟨0,a,fun _ _=>rfl,h⟩
theorem WC.mono {α:Type} {c:Nat→Option α} {P Q:α→Prop} (h:WC c P) (hq:∀ a,P a→Q a):WC c Q :=
 let ⟨n,a,ha,hp⟩:=h; ⟨n,a,ha,hq a hp⟩
theorem WC.obind {α β:Type} {c:Nat→Option α} {k:Nat→α→Option β} {P:α→Prop} {Q:β→Prop} (h:WC c P) (hk:∀ a,P a→WC (fun n=>k n a) Q):WC (fun n=>Go.Cb.obind (c n) (k n)) Q:=by
 obtain ⟨n,a,ha,hp⟩:=h
 obtain ⟨m,b,hb,hq⟩:=hk a hp
 refine ⟨max n m,b,fun j hj=>?_,hq⟩
 show Go.Cb.obind (c j) (k j)=some b
 rw [ha j (by omega),n8]
 exact hb j (Nat.le_trans (Nat.le_max_right n m) hj)
theorem EvQ.mono {tbl:Nat→Option AFn} {f:Nat} {as:List AV} {st:St} {P Q:AV→St→Prop} (h:EvQ tbl f as st P) (hq:∀ r st',P r st'→Q r st'):EvQ tbl f as st Q :=
 let ⟨r,st',he,hp⟩:=h; ⟨r,st',he,hq r st' hp⟩

section
variable {tbl:Nat→Option AFn}
theorem WC.call {β:Type} {f:Nat} {as as':List AV} {bx:AV} {st:St} {k:Nat→AV×St→Option β} {P:AV→St→Prop} {Q:β→Prop}
 (h:EvQ tbl f as' st P) (hp:t8 as=true) (hw:as.map AV.weak=as') (hk:∀ r st',P r st'→WC (fun n=>k n (r,st')) Q):WC (fun n=>Go.Cb.obind (p2 (y8 f (l6 tbl n) as bx st)) (k n)) Q:=by
 obtain ⟨r,st',he,hq⟩:=h
 obtain ⟨n0,h0⟩:=he.ge
 refine WC.obind (P:=fun x=>x=(r,st')) ⟨n0,(r,st'),fun n hn=>?_,rfl⟩ (fun a ha=>ha ▸ hk r st' hq)
 simp only [y8,hp,if_true,hw,h0 n hn,Option.map_some,a1I]
theorem WC.callV {β:Type} {f:Nat} {first caps as as':List AV} {bx:AV} {st:St} {k:Nat→AV×St→Option β} {P:AV→St→Prop} {Q:β→Prop}
 (h:EvQ tbl f as' st P) (hp:t8 as=true) (hw:(first++as++caps).map AV.weak=as') (hk:∀ r st',P r st'→WC (fun n=>k n (r,st')) Q):WC (fun n=>Go.Cb.obind (p2 (I7 (l6 tbl n) (.func f first caps::as) bx st)) (k n)) Q:=by
 obtain ⟨r,st',he,hq⟩:=h
 obtain ⟨n0,h0⟩:=he.ge
 refine WC.obind (P:=fun x=>x=(r,st')) ⟨n0,(r,st'),fun n hn=>?_,rfl⟩ (fun a ha=>ha ▸ hk r st' hq)
 simp only [I7,hp,if_true,hw,h0 n hn,Option.map_some,a1I]

def a0G (id:Nat) (o:Out):Out:=match o with
 | (.exit id',fr,st)=>if id'=id then (.normal,fr,st) else (.exit id',fr,st)
 | o=>o
def blkK (id:Nat) (x:Option Out):Option Out:=match x with
 | some o=>some (a0G id o)
 | none=>none
theorem a2S (id:Nat) (o:Out):blkK id (some o)=some (a0G id o):=a8 rfl
theorem a2h (id:Nat) (fr:List AV) (st:St):a0G id (.normal,fr,st)=(.normal,fr,st):=a8 rfl
theorem a6i (id:Nat) (fr:List AV) (st:St):a0G id (.ret,fr,st)=(.ret,fr,st):=a8 rfl
theorem a3u (id id':Nat) (fr:List AV) (st:St):a0G id (.exit id',fr,st)=if id'=id then (.normal,fr,st) else (.exit id',fr,st):=a8 rfl
theorem i6 {id:Nat} {x x':Option Out} (h:x=x'):blkK id x=blkK id x':=by rw [h]
theorem a8M (call:b9) (n id:Nat) (a:ACode) (fr:List AV) (st:St):g8 call n (.blk id a) fr st=blkK id (g8 call n a fr st):=by
 simp only [g8,blkK]
 cases g8 call n a fr st with
 | none=>rfl
 | some o =>
  obtain ⟨e,fr',st'⟩:=o
  cases e with
  | normal=>rfl
  | ret=>rfl
  | exit id'=>by_cases h:id'=id <;> simp [a0G,h]
theorem WC.seqK {c:Nat→Option Out} {g:Nat→List AV→St→Option Out} {P Q:Out→Prop} (h:WC c P) (hk:∀ o,P o→WC (fun n=>Go.Cb.seqK (some o) (g n)) Q):WC (fun n=>Go.Cb.seqK (c n) (g n)) Q:=by
 obtain ⟨n,a,ha,hp⟩:=h
 obtain ⟨m,b,hb,hq⟩:=hk a hp
 exact ⟨max n m,b,fun j hj=>by dsimp only; rw [ha j (by omega)]; exact hb j (by omega),hq⟩
theorem WC.blkK {id:Nat} {c:Nat→Option Out} {Q:Out→Prop} (h:WC c (fun o=>Q (a0G id o))):WC (fun n=>Go.Cb.blkK id (c n)) Q:=by
 obtain ⟨n,a,ha,hp⟩:=h
 exact ⟨n,_,fun j hj=>by dsimp only; rw [ha j hj,a2S],hp⟩
theorem WC.finK {rs:List ResK} {c:Nat→Option Out} {P:Out→Prop} {Q:AV×St→Prop} (h:WC c P) (hk:∀ o,P o→WC (fun n=>Go.Cb.finK rs (some o)) Q):WC (fun n=>Go.Cb.finK rs (c n)) Q:=by
 obtain ⟨n,a,ha,hp⟩:=h
 obtain ⟨m,b,hb,hq⟩:=hk a hp
 exact ⟨max n m,b,fun j hj=>by dsimp only; rw [ha j (by omega)]; exact hb j (by omega),hq⟩

theorem WC.of_xc {x:ACode} {fr:List AV} {st:St} {out:Out} {Q:Out→Prop} (h:XC tbl x fr st out) (hq:Q out):WC (fun n=>g8 (l6 tbl n) n x fr st) Q:=by
 obtain ⟨n,hn⟩:=h.ge
 exact ⟨n,out,hn,hq⟩
theorem WC.xc {x:ACode} {fr:List AV} {st:St} {Q:Out→Prop} (h:WC (fun n=>g8 (l6 tbl n) n x fr st) Q):∃ out,XC tbl x fr st out∧Q out:=by
 obtain ⟨n,a,ha,hq⟩:=h
 exact ⟨a,⟨n,ha n (Nat.le_refl n)⟩,hq⟩

theorem WC.loop {x:ACode} {Q:Out→Prop} (I:Nat→List AV→St→Prop) {m:Nat} {fr:List AV} {st:St} (h0:I m fr st)
 (hI:∀ m fr st,I m fr st→WC (fun n=>g8 (l6 tbl n) n x fr st) (fun o=>(∃ m' fr' st',o=(.normal,fr',st')∧m' < m∧I m' fr' st')∨(o.1≠.normal∧Q o))) :
 WC (fun n=>g8 (l6 tbl n) n (.loop x) fr st) Q:=by
 have key:∀ m fr st,I m fr st→∃ out,LX tbl x fr st out∧Q out:=by
  intro m
  induction m using Nat.strongRecOn with
  | ind m ih =>
   intro fr st h
   obtain ⟨out,hx,hc⟩:=(hI m fr st h).xc
   rcases hc with ⟨m',fr',st',rfl,hlt,hi⟩|⟨hne,hq⟩
   · obtain ⟨out,hl,hq⟩:=ih m' hlt fr' st' hi
     exact ⟨out,LX.step hx hl,hq⟩
   · obtain ⟨e,fr',st'⟩:=out
     exact ⟨_,LX.done hx hne,hq⟩
 obtain ⟨out,hl,hq⟩:=key m fr st h0
 exact WC.of_xc (XC.loop hl) hq

theorem EvQ.of_body {f:Nat} {fn:AFn} {as:List AV} {st:St} {Q:AV→St→Prop} (htb:tbl f=some fn) (he:fn.ext=none) (hl:as.length=fn.np)
 (h:WC (fun n=>Go.Cb.finK fn.results (g8 (l6 tbl n) n fn.code (as++List.replicate (fn.nv - fn.np) .undef) st)) (fun r=>Q r.1 r.2)):EvQ tbl f as st Q:=by
 obtain ⟨n,a,ha,hq⟩:=h
 refine ⟨a.1,a.2,⟨n+1,?_⟩,hq⟩
 simp only [l6,htb,he]
 rw [a4N _ _ _ _ _ hl]
 exact ha n (Nat.le_refl n)
theorem EvQ.of_ext {f:Nat} {fn:AFn} {as:List AV} {st:St} {e:List AV→St→Option (AV×St)} {r:AV×St} {Q:AV→St→Prop} (htb:tbl f=some fn) (he:fn.ext=some e) (h:e as st=some r) (hq:Q r.1 r.2):EvQ tbl f as st Q :=
 ⟨_,_,Ev.of_ext htb he h,hq⟩
end
end Go.Cb
/-
 THE ABSTRACT MACHINE, part 34: rules for loops within blocks, and for a body's end.
-/
set_option maxRecDepth 4000
set_option linter.unusedVariables false
namespace Go.Cb
open Classical
section
variable {tbl:Nat→Option AFn}

theorem WC.next {I:Nat→List AV→St→Prop} {m m':Nat} {fr':List AV} {st':St} {R:Out→Prop} (hm:m' < m) (hi:I m' fr' st') :
 WC (fun _=>some (Ex.normal,fr',st')) (fun o=>(∃ m' fr' st',o=(.normal,fr',st')∧m' < m∧I m' fr' st')∨(o.1≠.normal∧R o)):=WC.ret (Or.inl ⟨m',fr',st',rfl,hm,hi⟩)
theorem WC.leave {I:Nat→List AV→St→Prop} {m id:Nat} {fr':List AV} {st':St} {R:Out→Prop} (h:R (.exit id,fr',st')) :
 WC (fun _=>some (Ex.exit id,fr',st')) (fun o=>(∃ m' fr' st',o=(.normal,fr',st')∧m' < m∧I m' fr' st')∨(o.1≠.normal∧R o)):=WC.ret (Or.inr ⟨fun h=>by simp at h,h⟩)
theorem WC.leaveR {I:Nat→List AV→St→Prop} {m:Nat} {fr':List AV} {st':St} {R:Out→Prop} (h:R (.ret,fr',st')) :
 WC (fun _=>some (Ex.ret,fr',st')) (fun o=>(∃ m' fr' st',o=(.normal,fr',st')∧m' < m∧I m' fr' st')∨(o.1≠.normal∧R o)):=WC.ret (Or.inr ⟨fun h=>by simp at h,h⟩)

theorem EvQ.body {f:Nat} {fn:AFn} {as:List AV} {st:St} {Q:AV→St→Prop} (htb:tbl f=some fn) (he:fn.ext=none) (hl:as.length=fn.np)
 (h:WC (fun n=>g8 (l6 tbl n) n fn.code (as++List.replicate (fn.nv - fn.np) .undef) st) (fun o=>∃ r st',Go.Cb.finK fn.results (some o)=some (r,st')∧Q r st')):EvQ tbl f as st Q :=
 EvQ.of_body htb he hl (WC.finK h fun o ⟨r,st',hr,hq⟩=>⟨0,(r,st'),fun _ _=>hr,hq⟩)
end
end Go.Cb
/-
 THE ABSTRACT MACHINE, part 35: small laws on numbers and rows, for walks with unknowns.
-/
set_option maxRecDepth 4000
set_option linter.unusedVariables false
namespace Go.Cb
open Classical

theorem a2p {n:Int} (h1:-9223372036854775808≤n) (h2:n < 9223372036854775808):p8 .i64 n=n:=by
 rw [N6]
 simp only [IntKind.wrap,IntKind.signed,IntKind.bits,Bool.true_and]
 split
 · rename_i h; have h:=of_decide_eq_true h; omega
 · rename_i h; have h:¬ (n % 2 ^ 64 ≥ 2 ^ (64 - 1)):=fun x=>h (decide_eq_true x); omega
theorem u9 {i:Nat} (h:i+1 < 2 ^ 63):p8 .i64 (a7a (i:Int) 1)=((i+1:Nat):Int):=by
 rw [addI_eq,a2p (by omega) (by omega)]
 omega
theorem ltN (i j:Nat):ltI (i:Int) (j:Int)=decide (i < j):=by
 rw [ltI_eq]
 by_cases h:i < j
 · simp [h]
 · simp [h]
theorem c45 (i j:Nat):eqI (i:Int) (j:Int)=decide (i=j):=by
 rw [eqI_eq]
 by_cases h:i=j
 · simp [h]
 · simp [h]; omega
theorem e8 (b:Bool):b=true∨b=false:=by cases b <;> simp
theorem T8 {sz:Nat} {xs:List (List AV)} (h:∀ r∈xs,r.length=sz):k7 sz xs=true:=by
 cases xs with
 | nil=>rfl
 | cons r rs=>simp [k7,h r (by simp)]
end Go.Cb
/-
 THE ABSTRACT MACHINE, part 36: guarded values, reckoned without splitting; copies, form by form; tests as rules.
-/
set_option maxRecDepth 4000
set_option linter.unusedVariables false
namespace Go.Cb
open Classical

def gV (x:AV) (want:Bool) (v:AV):AV:=match x with
 | .bool b=>if b == want then v else .tuple []
 | _=>.tuple []
theorem c0g (v:AV):gV (.bool true) true v=v:=a8 rfl
theorem c08 (v:AV):gV (.bool false) false v=v:=a8 rfl
theorem c0D (v:AV):gV (.bool true) false v=.tuple []:=a8 rfl
theorem b93 (v:AV):gV (.bool false) true v=.tuple []:=a8 rfl
theorem b26 (want:Bool) (v:AV):gV (.tuple []) want v=.tuple []:=a8 rfl
theorem a7r (c want:Bool) (v:AV):gv (.bool c) want (some v)=some (gV (.bool c) want v):=by
 cases c <;> cases want <;> rfl
theorem a4w (x:AV) (w b want:Bool) (v:AV):gv (gV x w (.bool b)) want (some v)=some (gV (gV x w (.bool b)) want v):=by
 unfold gV
 cases x with
 | bool c=>cases c <;> cases w <;> cases b <;> cases want <;> rfl
 | _=>rfl
theorem j0 {x x':AV} {want:Bool} {e e':Option AV} (h1:x=x') (h2:x'=.bool want→e=e'):gv x want e=gv x' want e':=by
 subst h1
 unfold gv
 split
 · rename_i b
   by_cases hb:b=want
   · rw [h2 (by rw [hb])]
   · simp [hb]
 · rfl
 · rfl
theorem b2S (x:AV) (w:Bool) (v:AV):(gV x w v).weak=gV x w v.weak:=by
 unfold gV
 cases x with
 | bool c=>dsimp only; split <;> rfl
 | _=>rfl
theorem b0d (x:AV) (w:Bool) (v:AV):(gV x w v).strip=gV x w v.strip:=by
 unfold gV
 cases x with
 | bool c=>dsimp only; split <;> rfl
 | _=>rfl
theorem a8u (x:AV) (w:Bool) (v:AV):(gV x w v).stripB=gV x w v.stripB:=by
 unfold gV
 cases x with
 | bool c=>dsimp only; split <;> rfl
 | _=>rfl
theorem b59 (call:b9) (a b bx:AV) (st:St):p1 (C1 call [.bool true,a,b] bx st)=if a.plain then some a else none:=by
 unfold C1; dsimp only; by_cases h:a.plain=true <;> simp [h,p1]
theorem b7u (call:b9) (a b bx:AV) (st:St):p1 (C1 call [.bool false,a,b] bx st)=if b.plain then some b else none:=by
 unfold C1; dsimp only; by_cases h:b.plain=true <;> simp [h,p1]
theorem b3D (call:b9) (c d:Bool) (bx:AV) (st:St):p1 (C1 call [.bool c,.bool true,gV (.bool c) false (.bool d)] bx st)=some (.bool (c || d)):=by
 cases c <;> rfl
theorem b1y (call:b9) (c d:Bool) (bx:AV) (st:St):p1 (C1 call [.bool c,gV (.bool c) true (.bool d),.bool false] bx st)=some (.bool (c && d)):=by
 cases c <;> rfl

theorem a7H (b:Bool):(AV.bool b).weak=.bool b:=a8 rfl
theorem b0O (k:IntKind) (n:Int):(AV.int k n).weak=.int k n:=a8 rfl
theorem b0s (s:List Nat):(AV.str s).weak=.str s:=a8 rfl
theorem a9m (o:Bool) (xs:List (List AV)):(AV.list o xs).weak=.list false xs:=a8 rfl
theorem b0b (o f:Nat):(AV.ptr o f).weak=.ptr o f:=a8 rfl
theorem a8D:AV.nilp.weak=.nilp:=a8 rfl
theorem a8i:AV.nils.weak=.nils:=a8 rfl
theorem b28 (cs:List AV):(AV.ro cs).weak=.ro cs:=a8 rfl
theorem b0Q (i f:Nat):(AV.loc i f).weak=.loc i f:=a8 rfl
theorem b0a (o:Nat):(AV.map o).weak=.map o:=a8 rfl
theorem a7I:AV.nilm.weak=.nilm:=a8 rfl
theorem a8r (f:Nat) (a b:List AV):(AV.func f a b).weak=.func f a b:=a8 rfl
theorem a9n:AV.nilf.weak=.nilf:=a8 rfl
theorem R5 (cs:List AV):(AV.agg cs).weak=.agg (cs.map AV.weak1):=a8 rfl
theorem b24 (o f n s:Nat):(AV.sl o f n s).weak=.sl o f n s:=a8 rfl
theorem a5M (t:Nat) (v:AV):(AV.iface t v).weak=.iface t v:=a8 rfl
theorem a7L:AV.nili.weak=.nili:=a8 rfl
theorem a4Z (vs:List AV):(AV.tuple vs).weak=.tuple vs:=a8 rfl
theorem a5J:AV.undef.weak=.undef:=a8 rfl
theorem a9T (cs:List AV):(AV.box cs).weak=.box cs:=a8 rfl
theorem a5l (b:Bool):(AV.bool b).weak1=.bool b:=a8 rfl
theorem a9b (k:IntKind) (n:Int):(AV.int k n).weak1=.int k n:=a8 rfl
theorem a9r (s:List Nat):(AV.str s).weak1=.str s:=a8 rfl
theorem a5L (o:Bool) (xs:List (List AV)):(AV.list o xs).weak1=.list false xs:=a8 rfl
theorem b0S (o f n s:Nat):(AV.sl o f n s).weak1=.sl o f n s:=a8 rfl
theorem a6s (f:Nat) (a b:List AV):(AV.func f a b).weak1=.func f a b:=a8 rfl
theorem a8C (o f:Nat):(AV.ptr o f).weak1=.ptr o f:=a8 rfl
theorem a6m:AV.nilp.weak1=.nilp:=a8 rfl
theorem a6w:AV.nils.weak1=.nils:=a8 rfl
theorem N7 (o:Nat):(AV.map o).weak1=.map o:=a8 rfl
theorem a6b:AV.nilm.weak1=.nilm:=a8 rfl
theorem a5R (b:Bool):(AV.bool b).strip=.bool b:=a8 rfl
theorem a8s (k:IntKind) (n:Int):(AV.int k n).strip=.int k n:=a8 rfl
theorem a8X (s:List Nat):(AV.str s).strip=.str s:=a8 rfl
theorem a6j (o:Bool) (xs:List (List AV)):(AV.list o xs).strip=.list o xs:=a8 rfl
theorem a8a (o f:Nat):(AV.ptr o f).strip=.ptr o f:=a8 rfl
theorem a6R:AV.nilp.strip=.nilp:=a8 rfl
theorem a5S:AV.nils.strip=.nils:=a8 rfl
theorem b1f (cs:List AV):(AV.ro cs).strip=.ro cs:=a8 rfl
theorem a8Z (i f:Nat):(AV.loc i f).strip=.undef:=a8 rfl
theorem a9d (o:Nat):(AV.map o).strip=.map o:=a8 rfl
theorem a6J:AV.nilm.strip=.nilm:=a8 rfl
theorem a6p (f:Nat) (a b:List AV):(AV.func f a b).strip=.func f a b:=a8 rfl
theorem a5n:AV.nilf.strip=.nilf:=a8 rfl
theorem a8E (cs:List AV):(AV.agg cs).strip=.agg cs:=a8 rfl
theorem b0p (o f n s:Nat):(AV.sl o f n s).strip=.sl o f n s:=a8 rfl
theorem a4f (vs:List AV):(AV.tuple vs).strip=.tuple vs:=a8 rfl
theorem a3y:AV.undef.strip=.undef:=a8 rfl
theorem a3R (b:Bool):(AV.bool b).stripB=.bool b:=a8 rfl
theorem a5A (k:IntKind) (n:Int):(AV.int k n).stripB=.int k n:=a8 rfl
theorem a5s (s:List Nat):(AV.str s).stripB=.str s:=a8 rfl
theorem a3A (o:Bool) (xs:List (List AV)):(AV.list o xs).stripB=.list o xs:=a8 rfl
theorem a5q (o f:Nat):(AV.ptr o f).stripB=.ptr o f:=a8 rfl
theorem a4b:AV.nilp.stripB=.nilp:=a8 rfl
theorem a3H:AV.nils.stripB=.nils:=a8 rfl
theorem a8m (cs:List AV):(AV.ro cs).stripB=.ro cs:=a8 rfl
theorem a4S (i f:Nat):(AV.loc i f).stripB=.loc i f:=a8 rfl
theorem a6P (o:Nat):(AV.map o).stripB=.map o:=a8 rfl
theorem a3t:AV.nilm.stripB=.nilm:=a8 rfl
theorem a3U (f:Nat) (a b:List AV):(AV.func f a b).stripB=.func f a b:=a8 rfl
theorem a3K:AV.nilf.stripB=.nilf:=a8 rfl
theorem a49 (cs:List AV):(AV.agg cs).stripB=.agg cs:=a8 rfl
theorem a6t (xs:List (List AV)):(AV.fresh xs).weak=.fresh xs:=a8 rfl
theorem a3G (xs:List (List AV)):(AV.fresh xs).strip=.fresh xs:=a8 rfl
theorem a2w (xs:List (List AV)):(AV.fresh xs).stripB=.fresh xs:=a8 rfl
theorem a8d (o f n s:Nat):(AV.sl o f n s).stripB=.sl o f n s:=a8 rfl
theorem a2J (vs:List AV):(AV.tuple vs).stripB=.tuple vs:=a8 rfl
theorem a2o:AV.undef.stripB=.undef:=a8 rfl

/-! what comes behind, as constants that wait: nothing of it is reckoned ahead of its time -/
def b38 {α:Type} (K:α→Option Out) (g:List AV→St→Option Out) (a:α):Option Out:=Go.Cb.seqK (K a) g
def b4y {α:Type} (id:Nat) (K:α→Option Out) (a:α):Option Out:=Go.Cb.blkK id (K a)
theorem b6F {α:Type} (K:α→Option Out) (g:List AV→St→Option Out) (a:α):b38 K g a=Go.Cb.seqK (K a) g:=a8 rfl
theorem b6I {α:Type} (id:Nat) (K:α→Option Out) (a:α):b4y id K a=Go.Cb.blkK id (K a):=a8 rfl
theorem a4a {α:Type} (x:Option α) (f:α→Option Out) (g:List AV→St→Option Out):Go.Cb.seqK (Go.Cb.obind x f) g=Go.Cb.obind x (b38 f g):=by cases x <;> rfl
theorem a3T {α:Type} (id:Nat) (x:Option α) (f:α→Option Out):Go.Cb.blkK id (Go.Cb.obind x f)=Go.Cb.obind x (b4y id f):=by cases x <;> rfl

def a14 (call:b9) (n:Nat) (a:ACode) (fr:List AV) (st:St) (_:Unit):Option Out:=g8 call n a fr st
def b9y (A:Unit→Option Out) (g:List AV→St→Option Out) (u:Unit):Option Out:=Go.Cb.seqK (A u) g
def b7Z (id:Nat) (A:Unit→Option Out) (u:Unit):Option Out:=Go.Cb.blkK id (A u)
theorem b7y (call:b9) (n:Nat) (a:ACode) (fr:List AV) (st:St) (u:Unit):a14 call n a fr st u=g8 call n a fr st:=a8 rfl
theorem b7x (A:Unit→Option Out) (g:List AV→St→Option Out) (u:Unit):b9y A g u=Go.Cb.seqK (A u) g:=a8 rfl
theorem b7K (id:Nat) (A:Unit→Option Out) (u:Unit):b7Z id A u=Go.Cb.blkK id (A u):=a8 rfl
def brT (c:AV) (A B:Unit→Option Out):Option Out:=match c with
 | .bool true=>A ()
 | .bool false=>B ()
 | _=>none
theorem b0g (A B:Unit→Option Out):brT (.bool true) A B=A ():=a8 rfl
theorem a8q (A B:Unit→Option Out):brT (.bool false) A B=B ():=a8 rfl
theorem j2 {c c':AV} {A B:Unit→Option Out} (h:c=c'):brT c A B=brT c' A B:=by rw [h]
theorem b1V (c:AV) (A B:Unit→Option Out) (g:List AV→St→Option Out):Go.Cb.seqK (brT c A B) g=brT c (b9y A g) (b9y B g):=by
 cases c <;> try rfl
 rename_i b; cases b <;> rfl
theorem b1C (id:Nat) (c:AV) (A B:Unit→Option Out):Go.Cb.blkK id (brT c A B)=brT c (b7Z id A) (b7Z id B):=by
 cases c <;> try rfl
 rename_i b; cases b <;> rfl
theorem c3n (call:b9) (n:Nat) (c:AV) (a b:ACode) (fr:List AV) (st:St):Go.Cb.br c (g8 call n a fr st) (g8 call n b fr st)=brT c (a14 call n a fr st) (a14 call n b fr st):=by
 cases c <;> try rfl
theorem b44 (call:b9) (n:Nat) (kill:List Nat) (ps:List AOper) (c:Opd) (a b:ACode) (fr:List AV) (st:St) :
 g8 call n (.test kill ps c a b) fr st=a7s call ps ⟨k8 kill fr,fun _=>.undef,st⟩ fun σ=>brT (c.read σ) (a14 call n a σ.fr σ.st) (a14 call n b σ.fr σ.st):=by
 rw [a8p]
 simp only [c3n]
def a9x (call:b9) (n:Nat) (x:ACode) (fr:List AV) (st:St):Option Out:=g8 call n (.loop x) fr st
theorem a6a (call:b9) (n:Nat) (x:ACode) (fr:List AV) (st:St):g8 call n (.loop x) fr st=Go.Cb.obind (a9x call n x fr st) some:=by
 unfold a9x; cases g8 call n (.loop x) fr st <;> rfl

theorem WC.br {c:Bool} {A B:Nat→Unit→Option Out} {Q:Out→Prop} (ht:c=true→WC (fun n=>A n ()) Q) (hf:c=false→WC (fun n=>B n ()) Q):WC (fun n=>brT (.bool c) (A n) (B n)) Q:=by
 cases c with
 | true=>exact ht rfl
 | false=>exact hf rfl
theorem WC.loopR {tbl:Nat→Option AFn} {β:Type} {x:ACode} {K:Nat→Out→Option β} {Q:β→Prop} (I:Nat→List AV→St→Prop) {m:Nat} {fr:List AV} {st:St} (h0:I m fr st)
 (hI:∀ m fr st,I m fr st→WC (fun n=>g8 (l6 tbl n) n x fr st) (fun o=>(∃ m' fr' st',o=(.normal,fr',st')∧m' < m∧I m' fr' st')∨(o.1≠.normal∧WC (fun n=>K n o) Q))) :
 WC (fun n=>Go.Cb.obind (a9x (l6 tbl n) n x fr st) (K n)) Q:=WC.obind (WC.loop I h0 hI) fun _ ho=>ho
theorem WC.g2 {β:Type} {c want:Bool} {st:St} {E:Nat→Option (AV×St)} {k:Nat→AV×St→Option β} {Q:β→Prop} (ht:c=want→WC (fun n=>Go.Cb.obind (E n) (k n)) Q) (hf:c=!want→WC (fun n=>k n (.tuple [],st)) Q) :
 WC (fun n=>Go.Cb.obind (gv2 (.bool c) want st (E n)) (k n)) Q:=by
 by_cases h:c=want
 · subst h
   have e:∀ n,gv2 (.bool c) c st (E n)=E n:=fun n=>by cases c <;> rfl
   simp only [e]
   exact ht rfl
 · have h':c=!want:=by cases c <;> cases want <;> simp_all
   have e:∀ n,gv2 (.bool c) want st (E n)=some (.tuple [],st):=fun n=>by subst h'; cases want <;> rfl
   simp only [e,n8]
   exact hf h'
end Go.Cb
/-
 THE ABSTRACT MACHINE, part 37: what operations come to, form by form; all of it under one name.
-/
set_option maxRecDepth 4000
set_option linter.unusedVariables false
set_option linter.unusedSimpArgs false
namespace Go.Cb
def W (a:AV):AV:=AV.weak (AV.stripB a)
def brE (c:AV) (call:b9) (n:Nat) (a b:ACode) (fr:List AV) (st:St):Option Out:=brT c (a14 call n a fr st) (a14 call n b fr st)
def m1 {β:Type} (a:AV) (f:AV→Option β):Option β:=obind (p1 (some (a,AV.undef,([]:St)))) f
def gm {β:Type} (x:AV) (w:Bool) (a:AV) (f:AV→Option β):Option β:=obind (gv x w (some a)) f
theorem j7 {β:Type} {a a':AV} {f:AV→Option β} (h:a=a'):m1 a f=m1 a' f:=by rw [h]
theorem j6 {β:Type} {x x' a a':AV} {w:Bool} {f:AV→Option β} (h1:x=x') (h2:x'=.bool w→a=a'):gm x w a f=gm x' w a' f:=by
 unfold gm
 rw [j0 (e:=some a) (e':=some a') h1 (fun h=>by rw [h2 h])]
end Go.Cb
namespace Go.Cb.R
open Go.Cb
theorem c3X (call:b9) (bx:AV) (st:St) (a:AV):a0Z call [a] bx st=some (a,bx,st):=a8 rfl
theorem a4U (call:b9) (bx:AV) (st:St) (o f:Nat):C4 call [.ptr o f] bx st=some (.ptr o f,bx,st):=a8 rfl
theorem a5P (call:b9) (bx:AV) (st:St) (o f:Nat):C4 call [.loc o f] bx st=some (.loc o f,bx,st):=a8 rfl
theorem a9h (call:b9) (bx:AV) (st:St) (cs:List AV):C4 call [.ro cs] bx st=some (.ro cs,bx,st):=a8 rfl
theorem a4k (call:b9) (bx:AV) (st:St) (f:Nat) (a b:List AV):C4 call [.func f a b] bx st=some (.func f a b,bx,st):=a8 rfl
theorem b2y (call:b9) (st:St) (zero:List AV):R4 zero call [] .undef st=some (.undef,.box zero,st):=a8 rfl
theorem b5S (call:b9) (st:St) (a:AV):X0 call [a] .undef st=if a.plain then some (.undef,.box a.cellsW,st) else none:=a8 rfl
theorem b0c (call:b9) (bx:AV) (st:St) (zero:List AV):K6 zero call [] bx st=some (.ptr st.length 0,bx,st++[.cells zero]):=a8 rfl
theorem b5P (call:b9) (bx:AV) (st:St) (a:AV):S1 call [a] bx st=if a.plain then some (.ptr st.length 0,bx,st++[.cells a.cellsW]) else none:=a8 rfl
theorem b3t (call:b9) (bx:AV) (st:St) (zero:List AV) (offs:List (Nat×Nat)) (as:List AV):L3 zero offs call as bx st=(H1 offs as zero).map fun cs=>(.agg cs,bx,st):=a8 rfl
theorem b0L (call:b9) (bx:AV) (st:St) (sz:Nat) (zero:List (List AV)) (at_:List Nat) (as:List AV):K7 sz zero at_ call as bx st=(F4 sz at_ as zero).map fun rs=>(.list true rs,bx,st):=a8 rfl
theorem b5T (call:b9) (st:St) (i off n:Nat) (agg:Bool) (cs:List AV):J8 i agg n call [.loc i off] (.box cs) st=(j4 agg n (cs.drop off)).map (fun v=>(v,.box cs,st)):=by unfold J8; simp only [if_true]
theorem b6B (call:b9) (bx:AV) (st:St) (o off n:Nat) (agg:Bool):C2 agg n call [.ptr o off] bx st=match st[o]? with|some (.cells cs)=>(j4 agg n (cs.drop off)).map (fun v=>(v,bx,st))|_=>none:=a8 rfl
theorem b6N (call:b9) (bx:AV) (st:St) (n:Nat) (agg:Bool) (cs:List AV):P4 agg n call [.ro cs] bx st=(j4 agg n cs).map (fun v=>(v,bx,st)):=a8 rfl
theorem b3c (call:b9) (bx:AV) (st:St) (n:Nat) (agg:Bool) (cs:List AV):E7 agg n call [.ro cs] bx st=(j4 agg n cs).map (fun v=>(v,bx,st)):=a8 rfl
theorem ldAn_ptr (call:b9) (bx:AV) (st:St) (o off n:Nat) (agg:Bool):E7 agg n call [.ptr o off] bx st=match st[o]? with|some (.cells cs)=>(j4 agg n (cs.drop off)).map (fun v=>(v,bx,st))|_=>none:=a8 rfl
theorem b2w (call:b9) (st:St) (i off:Nat) (cs:List AV):O1 i call [.loc i off] (.box cs) st=match cs[off]? with|some c=>some (c,.box (cs.set off c.weak1),st)|none=>none:=by unfold O1; simp only [if_true]; rfl
theorem b2N (call:b9) (bx:AV) (st:St) (o off:Nat):B8 call [.ptr o off] bx st=match st[o]? with|some (.cells cs)=>(match cs[off]? with|some c=>some (c,bx,st.set o (.cells (cs.set off c.weak1)))|none=>none)|_=>none:=a8 rfl
theorem b6n (call:b9) (st:St) (i n off:Nat) (x:AV) (cs:List AV):O7 i n call [.loc i off,x] (.box cs) st=if x.plain=true∧x.cells.length=n∧off+n≤cs.length then some (.tuple [],.box (p7 cs off x.cells),st) else none:=by unfold O7; simp only [true_and]
theorem b5h (call:b9) (bx:AV) (st:St) (o off n:Nat) (x:AV):E6 n call [.ptr o off,x] bx st=match st[o]? with|some (.cells cs)=>(if x.plain=true∧x.cells.length=n∧off+n≤cs.length then some (.tuple [],bx,st.set o (.cells (p7 cs off x.cells))) else none)|_=>none:=by unfold E6; simp only [fL_eq]; rfl
theorem b3F (call:b9) (bx:AV) (st:St) (off o f:Nat):O2 off call [.ptr o f] bx st=some (.ptr o (f+off),bx,st):=a8 rfl
theorem b3u (call:b9) (bx:AV) (st:St) (off o f:Nat):O2 off call [.loc o f] bx st=some (.loc o (f+off),bx,st):=a8 rfl
theorem b6s (call:b9) (bx:AV) (st:St) (off:Nat) (cs:List AV):O2 off call [.ro cs] bx st=some (.ro (cs.drop off),bx,st):=a8 rfl
theorem c00 (call:b9) (bx:AV) (st:St) (off n:Nat) (agg:Bool) (cs:List AV):S4 off n agg call [.agg cs] bx st=if off+n≤cs.length then (j4 agg n (cs.drop off)).map (fun v=>(v,bx,st)) else none:=a8 rfl
theorem c1j (call:b9) (bx:AV) (st:St) (sz:Nat) (w:Bool) (xs:List (List AV)) (k:IntKind) (i:Int):G8 sz call [.list w xs,.int k i] bx st=if 0≤i then (match xs[i.toNat]? with|some r=>if r.length=sz then some (.ro r,bx,st) else none|none=>none) else none:=a8 rfl
theorem b6o (call:b9) (bx:AV) (st:St) (sz o f n s:Nat) (k:IntKind) (i:Int):G8 sz call [.sl o f n s,.int k i] bx st=if 0≤i∧i < (n:Int)∧s=sz then some (.ptr o (f+i.toNat*sz),bx,st) else none:=a8 rfl
theorem a8U (call:b9) (bx:AV) (st:St):D2 call [.nils] bx st=some (.int .i64 0,bx,st):=a8 rfl
theorem b3r (call:b9) (bx:AV) (st:St) (o f n s:Nat):D2 call [.sl o f n s] bx st=some (.int .i64 n,bx,st):=a8 rfl
theorem a9j (call:b9) (bx:AV) (st:St) (sz:Nat) (zero:List (List AV)) (at_:List Nat) (as:List AV):I2 sz zero at_ call as bx st=(t7 sz at_ as zero).map fun rs=>(.fresh rs,bx,st):=a8 rfl
theorem a7R (call:b9) (bx:AV) (st:St) (sz:Nat) (zero:List (List AV)) (at_:List Nat) (as:List AV):I3 sz zero at_ call as bx st=(t7 sz at_ as zero).map fun rs=>(.sl st.length 0 zero.length sz,bx,st++[.cells rs.flatten]):=a8 rfl
theorem b6U (call:b9) (bx:AV) (st:St) (k k':IntKind) (a b:Int):X1 call [.int k a,.int k' b] bx st=if k=k' then some (.int k (b4N a b),bx,st) else none:=a8 rfl
theorem b5C (call:b9) (bx:AV) (st:St) (neg:Bool) (k k':IntKind) (a b:Int) (s t:List Nat):V4 neg call [.agg [.int k a,.str s],.agg [.int k' b,.str t]] bx st=if k=k' then some (.bool (a5u neg a b s t),bx,st) else none:=a8 rfl
theorem a3w (sz:Nat) (rs:List (List AV)):t7 sz [] [] rs=some rs:=a8 rfl
theorem a3V (sz i:Nat) (is:List Nat) (p:AV) (ps:List AV) (rs:List (List AV)):t7 sz (i::is) (p::ps) rs=if p.plain=true∧p.cells.length=sz∧i < rs.length then t7 sz is ps (rs.set i (p.cells.map AV.cellW1)) else none:=a8 rfl
theorem b0m (call:b9) (bx:AV) (st:St) (sz bytes:Nat) (ys:List (List AV)) (gs:List AV):H6 sz bytes call (.list true []::.fresh ys::gs) bx st=if ys.isEmpty=false∧k7 sz ys=true∧ys.length*bytes≤2 ^ 47∧N3 none st.length gs=true then some (.sl st.length 0 ys.length sz,bx,st++[.cells ys.flatten]) else none:=a8 rfl
theorem a8o (call:b9) (bx:AV) (st:St) (sz bytes:Nat) (ys:List (List AV)) (gs:List AV):H6 sz bytes call (.nils::.fresh ys::gs) bx st=if ys.isEmpty=false∧k7 sz ys=true∧ys.length*bytes≤2 ^ 47∧N3 none st.length gs=true then some (.sl st.length 0 ys.length sz,bx,st++[.cells ys.flatten]) else none:=a8 rfl
theorem b2B (call:b9) (bx:AV) (st:St) (sz bytes o n s:Nat) (ys:List (List AV)) (gs:List AV):H6 sz bytes call (.sl o 0 n s::.fresh ys::gs) bx st=match st[o]? with|some (.cells xs)=>(if s=sz∧ys.isEmpty=false∧k7 sz ys=true∧xs.length=n*sz∧(n+ys.length)*bytes≤2 ^ 47∧N3 (some o) st.length gs=true then some (.sl st.length 0 (n+ys.length) sz,bx,st.set o .dead++[.cells (xs++ys.flatten)]) else none)|_=>none:=a8 rfl
theorem b27 (o:Option Nat) (n:Nat):N3 o n []=true:=a8 rfl
theorem b2Y (o:Option Nat) (n p f:Nat) (gs:List AV):N3 o n (.ptr p f::gs)=(Nat.blt p n && (match o with|some o=>!Nat.beq p o|none=>true) && N3 o n gs):=a8 rfl
theorem b6P {α:Type}:([]:List (List α)).flatten=[]:=a8 rfl
theorem b6H {α:Type} (a:List α) (l:List (List α)):(a::l).flatten=a++l.flatten:=a8 rfl
theorem b98 (call:b9) (bx:AV) (st:St) (w:Bool) (xs:List (List AV)):S9 call [.list w xs] bx st=(M6 xs).map fun s=>(.str s,bx,st):=a8 rfl
theorem a7P:M6 []=some []:=a8 rfl
theorem a8B (n:Int) (rs:List (List AV)):M6 ([.int .u8 n]::rs)=if 0≤n∧n < 256 then (M6 rs).map (n.toNat::·) else none:=a8 rfl
theorem b3x (call:b9) (bx:AV) (st:St) (len sz:Nat) (cs:List AV) (k:IntKind) (i:Int):J1 len sz call [.ro cs,.int k i] bx st=if 0≤i∧i < (len:Int) then some (.ro (cs.drop (i.toNat*sz)),bx,st) else none:=a8 rfl
theorem b1F (call:b9) (bx:AV) (st:St) (len sz o f:Nat) (k:IntKind) (i:Int):J1 len sz call [.ptr o f,.int k i] bx st=if 0≤i∧i < (len:Int) then some (.ptr o (f+i.toNat*sz),bx,st) else none:=a8 rfl
theorem b1v (call:b9) (bx:AV) (st:St) (len sz o f:Nat) (k:IntKind) (i:Int):J1 len sz call [.loc o f,.int k i] bx st=if 0≤i∧i < (len:Int) then some (.loc o (f+i.toNat*sz),bx,st) else none:=a8 rfl
theorem b7e (call:b9) (bx:AV) (st:St) (s:List Nat) (k:IntKind) (i:Int):M7 call [.str s,.int k i] bx st=if 0≤i then (match s[i.toNat]? with|some b=>some (.int .u8 b,bx,st)|none=>none) else none:=a8 rfl
theorem c02 (call:b9) (bx:AV) (st:St) (lo hi:Bool) (s:List Nat) (r:List AV):Q6 lo hi call (.str s::r) bx st=(E3 lo hi r s.length).map fun p=>(.str ((s.take p.2).drop p.1),bx,st):=a8 rfl
theorem b5t (call:b9) (bx:AV) (st:St) (sz:Nat) (lo hi:Bool) (o f n s:Nat) (r:List AV):Q4 sz lo hi call (.sl o f n s::r) bx st=if s=sz then (slB lo hi r n).map fun p=>(.sl o (f+p.1*sz) (p.2 - p.1) s,bx,st) else none:=a8 rfl
theorem c0P (call:b9) (bx:AV) (st:St) (sz:Nat) (lo hi:Bool) (w:Bool) (xs:List (List AV)) (r:List AV):Q4 sz lo hi call (.list w xs::r) bx st=if k7 sz xs then (E3 lo hi r xs.length).map fun p=>(.list false ((xs.take p.2).drop p.1),bx,st) else none:=a8 rfl
theorem c0L (call:b9) (bx:AV) (st:St) (w:Bool) (xs:List (List AV)):U3 call [.list w xs] bx st=some (.list true [],bx,st):=a8 rfl
theorem c0k (call:b9) (bx:AV) (st:St) (len sz:Nat) (lo hi:Bool) (cs r:List AV):T5 len sz lo hi call (.ro cs::r) bx st=if cs.length=len*sz then (E3 lo hi r len).map fun p=>(.list false (((Y8 sz len cs).take p.2).drop p.1),bx,st) else none:=a8 rfl
theorem b9V (call:b9) (bx:AV) (st:St) (op:BinOp) (a b:AV):B0 op call [a,b] bx st=(l8 op a b).map (fun v=>(v,bx,st)):=a8 rfl
theorem b58 (call:b9) (bx:AV) (st:St) (op:BinOp) (a b:AV):O8 op call [a,b] bx st=(a5k op a b).map (fun v=>(v,bx,st)):=a8 rfl
theorem b6q (call:b9) (bx:AV) (st:St) (op:BinOp) (a b:AV):P0 op call [a,b] bx st=(a0c op a b).map (fun v=>(v,bx,st)):=a8 rfl
theorem b7a (k:IntKind) (a b:Int):l8 .add (.int k a) (.int k b)=some (.int k (p8 k (a7a a b))):=by simp only [l8,if_true]
theorem b5L (k:IntKind) (a b:Int):l8 .sub (.int k a) (.int k b)=some (.int k (p8 k (a4t a b))):=by simp only [l8,if_true]
theorem b5E (k:IntKind) (a b:Int):l8 .mul (.int k a) (.int k b)=some (.int k (p8 k (a*b))):=by simp only [l8,if_true]
theorem b5u (k:IntKind) (a b:Int):l8 .quo (.int k a) (.int k b)=if b=0 then none else some (.int k (k.wrap (a.tdiv b))):=by simp only [l8,if_true]
theorem b6W (k:IntKind) (a b:Int):l8 .rem (.int k a) (.int k b)=if b=0 then none else some (.int k (a.tmod b)):=by simp only [l8,if_true]
theorem b7q (k:IntKind) (a b:Int):l8 .eql (.int k a) (.int k b)=some (.bool (eqI a b)):=by simp only [l8,if_true]
theorem b6j (k:IntKind) (a b:Int):l8 .neq (.int k a) (.int k b)=some (.bool !(eqI a b)):=by simp only [l8,if_true]
theorem b63 (k:IntKind) (a b:Int):l8 .lss (.int k a) (.int k b)=some (.bool (ltI a b)):=by simp only [l8,if_true]
theorem b5f (k:IntKind) (a b:Int):l8 .leq (.int k a) (.int k b)=some (.bool !(ltI b a)):=by simp only [l8,if_true]
theorem b6k (k:IntKind) (a b:Int):l8 .gtr (.int k a) (.int k b)=some (.bool (ltI b a)):=by simp only [l8,if_true]
theorem b7R (k:IntKind) (a b:Int):l8 .geq (.int k a) (.int k b)=some (.bool !(ltI a b)):=by simp only [l8,if_true]
theorem b5i (a b:List Nat):l8 .add (.str a) (.str b)=if a.length+b.length≤2 ^ 62 then some (.str (a++b)) else none:=a8 rfl
theorem b5z (a b:List Nat):l8 .eql (.str a) (.str b)=some (.bool (eqN a b)):=a8 rfl
theorem b5p (a b:List Nat):l8 .neq (.str a) (.str b)=some (.bool !(eqN a b)):=a8 rfl
theorem b6w (a b:List Nat):l8 .lss (.str a) (.str b)=some (.bool (l9 a b)):=a8 rfl
theorem b5O (a b:Bool):a5k .eql (.bool a) (.bool b)=some (.bool (a == b)):=a8 rfl
theorem b51 (a b:Bool):a5k .neq (.bool a) (.bool b)=some (.bool !(a == b)):=a8 rfl
theorem b3O (o f:Nat):a0c .eql (.ptr o f) .nilp=some (.bool false):=a8 rfl
theorem b2x (o f:Nat):a0c .eql .nilp (.ptr o f)=some (.bool false):=a8 rfl
theorem b2E:a0c .eql .nilp .nilp=some (.bool true):=a8 rfl
theorem b3i (o f:Nat):a0c .neq (.ptr o f) .nilp=some (.bool true):=a8 rfl
theorem b2R (o f:Nat):a0c .neq .nilp (.ptr o f)=some (.bool true):=a8 rfl
theorem b2G:a0c .neq .nilp .nilp=some (.bool false):=a8 rfl
theorem b6M (call:b9) (bx:AV) (st:St) (b:Bool):X5 .not call [.bool b] bx st=some (.bool !b,bx,st):=a8 rfl
theorem b6J (call:b9) (bx:AV) (st:St) (k:IntKind) (n:Int):X5 .neg call [.int k n] bx st=some (.int k (p8 k (0 - n)),bx,st):=a8 rfl
theorem b7J (call:b9) (bx:AV) (st:St) (k k':IntKind) (n:Int):P9 k call [.int k' n] bx st=some (.int k (p8 k n),bx,st):=a8 rfl
theorem c0H (call:b9) (bx:AV) (st:St) (f n:Nat) (as:List AV):U1 f n call as bx st=if t8 as then some (.func f ((as.map AV.weak).take n) ((as.map AV.weak).drop n),bx,st) else none:=a8 rfl
theorem c06 (call:b9) (bx:AV) (st:St):Y9 call [] bx st=some (.map st.length,bx,st++[.map []]):=a8 rfl
theorem c0Y (call:b9) (bx:AV) (st:St) (i:Nat) (vs:List AV):Q5 i call [.tuple vs] bx st=match vs[i]? with|some v=>some (v.weak,bx,st)|none=>none:=a8 rfl
theorem b6V (call:b9) (bx:AV) (st:St) (s:List Nat):P7 call [.str s] bx st=some (.int .i64 s.length,bx,st):=a8 rfl
theorem b7c (call:b9) (bx:AV) (st:St) (w:Bool) (xs:List (List AV)):D2 call [.list w xs] bx st=some (.int .i64 xs.length,bx,st):=a8 rfl
theorem c0K (call:b9) (bx:AV) (st:St) (sz bytes:Nat) (w:Bool) (xs ys:List (List AV)):T9 sz bytes call [.list true xs,.list w ys] bx st=if k7 sz xs && k7 sz ys && decide ((xs.length+ys.length)*bytes≤2 ^ 47) then some (.list true (xs++ys),bx,st) else none:=a8 rfl
theorem takeVal_t (n:Nat) (cs:List AV):j4 true n cs=if n≤cs.length then some (.agg ((cs.take n).map AV.weak1)) else none:=a8 rfl
theorem a8H (n:Nat) (c:AV) (cs:List AV):j4 false n (c::cs)=some c.weak1:=a8 rfl
theorem a6d (cs:List AV):H1 [] [] cs=some cs:=a8 rfl
theorem a6z (off n:Nat) (offs:List (Nat×Nat)) (p:AV) (ps cs:List AV):H1 ((off,n)::offs) (p::ps) cs=if p.plain=true∧p.cells.length=n∧off+n≤cs.length then H1 offs ps (p7 cs off p.cells) else none:=a8 rfl
theorem a6W (sz:Nat) (rs:List (List AV)):F4 sz [] [] rs=some rs:=a8 rfl
theorem a5p (sz i:Nat) (is:List Nat) (p:AV) (ps:List AV) (rs:List (List AV)):F4 sz (i::is) (p::ps) rs=if p.plain=true∧p.cells.length=sz∧i < rs.length then F4 sz is ps (rs.set i (p.cells.map AV.weak1)) else none:=a8 rfl
theorem b11 (cs:List AV) (off:Nat) (new:List AV):p7 cs off new=cs.take off++new++cs.drop (off+new.length):=a8 rfl
theorem a8S (n:Nat):E3 false false [] n=some (0,n):=a8 rfl
theorem a9f (l:AV) (n:Nat):E3 true false [l] n=(N1 l n).map fun l=>(l,n):=a8 rfl
theorem a7O (h:AV) (n:Nat):E3 false true [h] n=(N1 h n).map fun h=>(0,h):=a8 rfl
theorem a8x (l h:AV) (n:Nat):E3 true true [l,h] n=match N1 h n with|some h=>(N1 l h).map (fun l=>(l,h))|none=>none:=a8 rfl
theorem b3P (k:IntKind) (i:Int) (top:Nat):N1 (.int k i) top=if 0≤i∧i≤(top:Int) then some i.toNat else none:=a8 rfl
theorem b17 (sz:Nat):k7 sz []=true:=a8 rfl
theorem b0U (sz:Nat) (r:List AV) (rs:List (List AV)):k7 sz (r::rs)=(r.length == sz):=a8 rfl
theorem b2T (i:Nat) (cs:List AV):b9R i (.box cs)=.loc i 0:=a8 rfl
theorem a6U (b:Bool):AV.plain (.bool b)=true:=a8 rfl
theorem a6M (b:Bool):AV.cells (.bool b)=[.bool b]:=a8 rfl
theorem a4j (b:Bool):AV.cellW1 (.bool b)=.bool b:=a8 rfl
theorem a4i (b:Bool):AV.cellsW (.bool b)=[.bool b]:=a8 rfl
theorem a8t (k:IntKind) (n:Int):AV.plain (.int k n)=true:=a8 rfl
theorem a9c (k:IntKind) (n:Int):AV.cells (.int k n)=[.int k n]:=a8 rfl
theorem a5r (k:IntKind) (n:Int):AV.cellW1 (.int k n)=.int k n:=a8 rfl
theorem a6Q (k:IntKind) (n:Int):AV.cellsW (.int k n)=[.int k n]:=a8 rfl
theorem a8A (s:List Nat):AV.plain (.str s)=true:=a8 rfl
theorem a8j (s:List Nat):AV.cells (.str s)=[.str s]:=a8 rfl
theorem a5K (s:List Nat):AV.cellW1 (.str s)=.str s:=a8 rfl
theorem a6n (s:List Nat):AV.cellsW (.str s)=[.str s]:=a8 rfl
theorem a6h (w:Bool) (xs:List (List AV)):AV.plain (.list w xs)=true:=a8 rfl
theorem a5Y (w:Bool) (xs:List (List AV)):AV.cells (.list w xs)=[.list w xs]:=a8 rfl
theorem a9s (o f:Nat):AV.plain (.ptr o f)=true:=a8 rfl
theorem a8n (o f:Nat):AV.cells (.ptr o f)=[.ptr o f]:=a8 rfl
theorem a5N (o f:Nat):AV.cellW1 (.ptr o f)=.ptr o f:=a8 rfl
theorem a6D (o f:Nat):AV.cellsW (.ptr o f)=[.ptr o f]:=a8 rfl
theorem a5Q :AV.plain (.nilp)=true:=a8 rfl
theorem a5x :AV.cells (.nilp)=[.nilp]:=a8 rfl
theorem a3S :AV.cellW1 (.nilp)=.nilp:=a8 rfl
theorem a3X :AV.cellsW (.nilp)=[.nilp]:=a8 rfl
theorem b1D (cs:List AV):AV.plain (.ro cs)=true:=a8 rfl
theorem b0u (cs:List AV):AV.cells (.ro cs)=[.ro cs]:=a8 rfl
theorem a8R (cs:List AV):AV.cellW1 (.ro cs)=.ro cs:=a8 rfl
theorem a8V (cs:List AV):AV.cellsW (.ro cs)=[.ro cs]:=a8 rfl
theorem a8z (o:Nat):AV.plain (.map o)=true:=a8 rfl
theorem a7K (o:Nat):AV.cells (.map o)=[.map o]:=a8 rfl
theorem a5h (o:Nat):AV.cellW1 (.map o)=.map o:=a8 rfl
theorem a5Z (o:Nat):AV.cellsW (.map o)=[.map o]:=a8 rfl
theorem a6e :AV.plain (.nilm)=true:=a8 rfl
theorem a5e :AV.cells (.nilm)=[.nilm]:=a8 rfl
theorem a3M :AV.cellW1 (.nilm)=.nilm:=a8 rfl
theorem a3D :AV.cellsW (.nilm)=[.nilm]:=a8 rfl
theorem a6k (f:Nat) (a b:List AV):AV.plain (.func f a b)=true:=a8 rfl
theorem a5V (f:Nat) (a b:List AV):AV.cells (.func f a b)=[.func f a b]:=a8 rfl
theorem a4g (f:Nat) (a b:List AV):AV.cellW1 (.func f a b)=.func f a b:=a8 rfl
theorem a3E (f:Nat) (a b:List AV):AV.cellsW (.func f a b)=[.func f a b]:=a8 rfl
theorem a6u :AV.plain (.nilf)=true:=a8 rfl
theorem a6A :AV.cells (.nilf)=[.nilf]:=a8 rfl
theorem a3v :AV.cellW1 (.nilf)=.nilf:=a8 rfl
theorem a4h :AV.cellsW (.nilf)=[.nilf]:=a8 rfl
theorem b1t (o f n s:Nat):AV.plain (.sl o f n s)=true:=a8 rfl
theorem b0Y (o f n s:Nat):AV.cells (.sl o f n s)=[.sl o f n s]:=a8 rfl
theorem a8c (o f n s:Nat):AV.cellW1 (.sl o f n s)=.sl o f n s:=a8 rfl
theorem a7X (o f n s:Nat):AV.cellsW (.sl o f n s)=[.sl o f n s]:=a8 rfl
theorem a3C (t:Nat) (v:AV):AV.plain (.iface t v)=true:=a8 rfl
theorem a3N (t:Nat) (v:AV):AV.cells (.iface t v)=[.iface t v]:=a8 rfl
theorem a2s (t:Nat) (v:AV):AV.cellW1 (.iface t v)=.iface t v:=a8 rfl
theorem a2k (t:Nat) (v:AV):AV.cellsW (.iface t v)=[.iface t v]:=a8 rfl
theorem a5T :AV.plain (.nili)=true:=a8 rfl
theorem a6F :AV.cells (.nili)=[.nili]:=a8 rfl
theorem a30 :AV.cellW1 (.nili)=.nili:=a8 rfl
theorem a3Z :AV.cellsW (.nili)=[.nili]:=a8 rfl
theorem a5t :AV.plain (.nils)=true:=a8 rfl
theorem a6L :AV.cells (.nils)=[.nils]:=a8 rfl
theorem a3W :AV.cellW1 (.nils)=.nils:=a8 rfl
theorem a3I :AV.cellsW (.nils)=[.nils]:=a8 rfl
theorem a3O (w:Bool) (xs:List (List AV)):AV.cellW1 (.list w xs)=.list (w && xs.isEmpty) xs:=a8 rfl
theorem plain_agg (cs:List AV):AV.plain (.agg cs)=true:=a8 rfl
theorem a9g (cs:List AV):AV.cells (.agg cs)=cs:=a8 rfl
theorem a5W (cs:List AV):AV.cellsW (.agg cs)=cs:=a8 rfl
theorem a3z (w:Bool) (xs:List (List AV)):AV.cellsW (.list w xs)=[.list (w && xs.isEmpty) xs]:=a8 rfl
theorem allPlain_n:t8 []=true:=a8 rfl
theorem allPlain_c (a:AV) (as:List AV):t8 (a::as)=(a.plain && t8 as):=a8 rfl
theorem c0n {α β:Type} (f:α→β):List.map f []=[]:=a8 rfl
theorem c0l {α β:Type} (f:α→β) (a:α) (l:List α):List.map f (a::l)=f a::l.map f:=a8 rfl
theorem b6C {α:Type} (l:List α):List.drop 0 l=l:=a8 rfl
theorem b5Z {α:Type} (n:Nat) (a:α) (l:List α):List.drop (n+1) (a::l)=l.drop n:=a8 rfl
theorem b6y {α:Type} (n:Nat):List.drop n ([]:List α)=[]:=by cases n <;> rfl
theorem b6g {α:Type} (l:List α):List.take 0 l=[]:=a8 rfl
theorem b5F {α:Type} (n:Nat) (a:α) (l:List α):List.take (n+1) (a::l)=a::l.take n:=a8 rfl
theorem b6A {α:Type} (n:Nat):List.take n ([]:List α)=[]:=by cases n <;> rfl
theorem c1g {α:Type}:([]:List α).length=0:=a8 rfl
theorem b97 {α:Type} (a:α) (l:List α):(a::l).length=l.length+1:=a8 rfl
theorem c0z {α:Type} (a:α) (l m:List α):(a::l)++m=a::(l++m):=a8 rfl
theorem c0N {α:Type} (l:List α):[]++l=l:=a8 rfl
theorem b3S {α:Type} (l:List α):l++[]=l:=List.append_nil l
theorem c04 {α:Type} (a:α) (l:List α):(a::l)[0]?=some a:=a8 rfl
theorem b9Y {α:Type} (n:Nat) (a:α) (l:List α):(a::l)[n+1]?=l[n]?:=a8 rfl
theorem c07 {α:Type} (a b:α) (l:List α):(a::l).set 0 b=b::l:=a8 rfl
theorem c0B {α:Type} (n:Nat) (a b:α) (l:List α):(a::l).set (n+1) b=a::l.set n b:=a8 rfl
theorem c03 {α:Type} (a:α):List.replicate 0 a=[]:=a8 rfl
theorem c0I {α:Type} (n:Nat) (a:α):List.replicate (n+1) a=a::List.replicate n a:=a8 rfl
theorem b6u {α β:Type} (f:α→β) (a:α):Option.map f (some a)=some (f a):=a8 rfl
theorem b5X {α β:Type} (f:α→β):Option.map f none=none:=a8 rfl
theorem c05 {α:Type}:([]:List α).isEmpty=true:=a8 rfl
theorem b96 {α:Type} (a:α) (l:List α):(a::l).isEmpty=false:=a8 rfl
theorem c0F {α:Type} (a b:α):(if True then a else b)=a:=if_pos trivial
theorem c1i {α:Type} (a b:α):(if False then a else b)=b:=if_neg (fun h=>h)
theorem c0v {α:Type} (a b:α):(if true=true then a else b)=a:=if_pos rfl
theorem b9P {α:Type} (a b:α):(if false=true then a else b)=b:=if_neg (fun h=>by cases h)
theorem b64:(true=false)=False:=by simp
theorem b5J:(false=true)=False:=by simp
theorem c1c:(!true)=false:=a8 rfl
theorem b9W:(!false)=true:=a8 rfl
theorem c0O (b:Bool):(true && b)=b:=a8 rfl
theorem b9U (b:Bool):(b && true)=b:=by cases b <;> rfl
theorem c0w (b:Bool):(false && b)=false:=a8 rfl
theorem c0i (b:Bool):(b && false)=false:=by cases b <;> rfl
theorem c5V (b:Bool):(true || b)=true:=a8 rfl
theorem c4D (b:Bool):(b || true)=true:=by cases b <;> rfl
theorem c3s (b:Bool):(false || b)=b:=a8 rfl
theorem c6n (b:Bool):(b || false)=b:=by cases b <;> rfl
theorem b90 (p:Prop):(p∧True)=p:=by simp
theorem c1b (p:Prop):(True∧p)=p:=by simp
theorem c1f:decide True=true:=a8 rfl
theorem c0d:decide False=false:=a8 rfl
theorem eqs {α:Type} (a:α):(a=a)=True:=by simp
theorem nn (n:Nat):(0≤(n:Int))=True:=by simp
theorem tn (n:Nat):(n:Int).toNat=n:=Int.toNat_natCast n
theorem b7p (m n:Nat):((m:Int)≤(n:Int))=(m≤n):=by simp
theorem b6K (n:Nat):(n≤n)=True:=by simp
theorem c5B (i j:Nat):ltI (i:Int) (j:Int)=decide (i < j):=ltN i j
theorem c50 (i j:Nat):eqI (i:Int) (j:Int)=decide (i=j):=c45 i j
theorem c0s (c:AV) (call:b9) (n:Nat) (a b:ACode) (fr:List AV) (st:St):brE c call n a b fr st=brT c (a14 call n a fr st) (a14 call n b fr st):=a8 rfl
theorem c49:(0 < (1:Nat))=True:=by simp
theorem c4x:(0 < (3:Nat))=True:=by simp
theorem c6i:(1 < (3:Nat))=True:=by simp
theorem c4d:(2 < (3:Nat))=True:=by simp
theorem il0:(0≤(0:Int))=True:=by simp
theorem it0:(0:Int).toNat=0:=a8 rfl
theorem il1:(0≤(1:Int))=True:=by simp
theorem it1:(1:Int).toNat=1:=a8 rfl
theorem il2:(0≤(2:Int))=True:=by simp
theorem it2:(2:Int).toNat=2:=a8 rfl
theorem m41:4*1=(4:Nat):=a8 rfl
theorem W_e (a:AV):W a=AV.weak (AV.stripB a):=a8 rfl
theorem c5C {β:Type} (a:AV) (f:AV→Option β):m1 a f=f a:=a8 rfl
theorem b2C {β:Type} (c w:Bool) (a:AV) (f:AV→Option β):gm (.bool c) w a f=f (gV (.bool c) w a):=by unfold gm; rw [a7r,n8]
theorem b1u {β:Type} (x:AV) (w b want:Bool) (a:AV) (f:AV→Option β):gm (gV x w (.bool b)) want a f=f (gV (gV x w (.bool b)) want a):=by unfold gm; rw [a4w,n8]
theorem b22 {β:Type} (w:Bool) (a:AV) (f:AV→Option β):gm (.tuple []) w a f=f (.tuple []):=by unfold gm; rw [a7G,n8]
theorem b9Q (n:Nat):0+n=n:=Nat.zero_add n
theorem c0V (n:Nat):n+0=n:=a8 rfl
theorem b4h (n:Nat):(n == n)=true:=by simp
end Go.Cb.R
namespace Go.Cb
open Go.Cb.R
theorem SS:type_of% (And.intro (And.intro (And.intro (And.intro (And.intro (And.intro (And.intro (And.intro (@exec_seqK) (@a8M)) (And.intro (@b0o) (And.intro (@a8T) (@a9p)))) (And.intro (And.intro (@a1h) (And.intro (@a9t) (@b13))) (And.intro (@a2S) (And.intro (@a2h) (@a6i))))) (And.intro (And.intro (And.intro (@a3u) (@b6F)) (And.intro (@b6I) (And.intro (@a4a) (@a3T)))) (And.intro (And.intro (@b7y) (And.intro (@b7x) (@b7K))) (And.intro (@b0g) (And.intro (@a8q) (@b1V)))))) (And.intro (And.intro (And.intro (And.intro (@b1C) (@a6a)) (And.intro (@b2A) (And.intro (@a1I) (@n8)))) (And.intro (And.intro (@c09) (And.intro (@c0T) (@b92))) (And.intro (@c0b) (And.intro (@a7G) (@b7N))))) (And.intro (And.intro (And.intro (@b62) (@b6i)) (And.intro (@b7B) (And.intro (@b0t) (@c0g)))) (And.intro (And.intro (@c08) (And.intro (@c0D) (@b93))) (And.intro (@b26) (And.intro (@a7r) (@a4w))))))) (And.intro (And.intro (And.intro (And.intro (And.intro (@b2S) (@b0d)) (And.intro (@a8u) (And.intro (@b59) (@b7u)))) (And.intro (And.intro (@b3D) (And.intro (@b1y) (@a7H))) (And.intro (@b0O) (And.intro (@b0s) (@a9m))))) (And.intro (And.intro (And.intro (@b0b) (@a8D)) (And.intro (@a8i) (And.intro (@b28) (@b0Q)))) (And.intro (And.intro (@b0a) (And.intro (@a7I) (@a8r))) (And.intro (@a9n) (And.intro (@R5) (@b24)))))) (And.intro (And.intro (And.intro (And.intro (@a5M) (@a7L)) (And.intro (@a4Z) (And.intro (@a5J) (@a9T)))) (And.intro (And.intro (@a5l) (And.intro (@a9b) (@a9r))) (And.intro (@a5L) (And.intro (@b0S) (@a6s))))) (And.intro (And.intro (And.intro (@a8C) (And.intro (@a6m) (@a6w))) (And.intro (@N7) (And.intro (@a6b) (@a5R)))) (And.intro (And.intro (@a8s) (And.intro (@a8X) (@a6j))) (And.intro (@a8a) (And.intro (@a6R) (@a5S)))))))) (And.intro (And.intro (And.intro (And.intro (And.intro (And.intro (@b1f) (@a8Z)) (And.intro (@a9d) (And.intro (@a6J) (@a6p)))) (And.intro (And.intro (@a5n) (And.intro (@a8E) (@b0p))) (And.intro (@a4f) (And.intro (@a3y) (@a3R))))) (And.intro (And.intro (And.intro (@a5A) (@a5s)) (And.intro (@a3A) (And.intro (@a5q) (@a4b)))) (And.intro (And.intro (@a3H) (And.intro (@a8m) (@a4S))) (And.intro (@a6P) (And.intro (@a3t) (@a3U)))))) (And.intro (And.intro (And.intro (And.intro (@a3K) (@a49)) (And.intro (@a6t) (And.intro (@a3G) (@a2w)))) (And.intro (And.intro (@a8d) (And.intro (@a2J) (@a2o))) (And.intro (@c3X) (And.intro (@a4U) (@a5P))))) (And.intro (And.intro (And.intro (@a9h) (@a4k)) (And.intro (@b2y) (And.intro (@b5S) (@b0c)))) (And.intro (And.intro (@b5P) (And.intro (@b3t) (@b0L))) (And.intro (@b5T) (And.intro (@b6B) (@b6N))))))) (And.intro (And.intro (And.intro (And.intro (And.intro (@b3c) (@ldAn_ptr)) (And.intro (@b2w) (And.intro (@b2N) (@b6n)))) (And.intro (And.intro (@b5h) (And.intro (@b3F) (@b3u))) (And.intro (@b6s) (And.intro (@c00) (@c1j))))) (And.intro (And.intro (And.intro (@b6o) (@a8U)) (And.intro (@b3r) (And.intro (@a9j) (@a7R)))) (And.intro (And.intro (@b6U) (And.intro (@b5C) (@a3w))) (And.intro (@a3V) (And.intro (@b0m) (@a8o)))))) (And.intro (And.intro (And.intro (And.intro (@b2B) (@b27)) (And.intro (@b2Y) (And.intro (@b6P) (@b6H)))) (And.intro (And.intro (@b98) (And.intro (@a7P) (@a8B))) (And.intro (@b3x) (And.intro (@b1F) (@b1v))))) (And.intro (And.intro (And.intro (@b7e) (And.intro (@c02) (@b5t))) (And.intro (@c0P) (And.intro (@c0L) (@c0k)))) (And.intro (And.intro (@b9V) (And.intro (@b58) (@b6q))) (And.intro (@b7a) (And.intro (@b5L) (@b5E))))))))) (And.intro (And.intro (And.intro (And.intro (And.intro (And.intro (And.intro (@b5u) (@b6W)) (And.intro (@b7q) (And.intro (@b6j) (@b63)))) (And.intro (And.intro (@b5f) (And.intro (@b6k) (@b7R))) (And.intro (@b5i) (And.intro (@b5z) (@b5p))))) (And.intro (And.intro (And.intro (@b6w) (@b5O)) (And.intro (@b51) (And.intro (@b3O) (@b2x)))) (And.intro (And.intro (@b2E) (And.intro (@b3i) (@b2R))) (And.intro (@b2G) (And.intro (@b6M) (@b6J)))))) (And.intro (And.intro (And.intro (And.intro (@b7J) (@c0H)) (And.intro (@c06) (And.intro (@c0Y) (@b6V)))) (And.intro (And.intro (@b7c) (And.intro (@c0K) (@takeVal_t))) (And.intro (@a8H) (And.intro (@a6d) (@a6z))))) (And.intro (And.intro (And.intro (@a6W) (@a5p)) (And.intro (@b11) (And.intro (@a8S) (@a9f)))) (And.intro (And.intro (@a7O) (And.intro (@a8x) (@b3P))) (And.intro (@b17) (And.intro (@b0U) (@b2T))))))) (And.intro (And.intro (And.intro (And.intro (And.intro (@a6U) (@a6M)) (And.intro (@a4j) (And.intro (@a4i) (@a8t)))) (And.intro (And.intro (@a9c) (And.intro (@a5r) (@a6Q))) (And.intro (@a8A) (And.intro (@a8j) (@a5K))))) (And.intro (And.intro (And.intro (@a6n) (@a6h)) (And.intro (@a5Y) (And.intro (@a9s) (@a8n)))) (And.intro (And.intro (@a5N) (And.intro (@a6D) (@a5Q))) (And.intro (@a5x) (And.intro (@a3S) (@a3X)))))) (And.intro (And.intro (And.intro (And.intro (@b1D) (@b0u)) (And.intro (@a8R) (And.intro (@a8V) (@a8z)))) (And.intro (And.intro (@a7K) (And.intro (@a5h) (@a5Z))) (And.intro (@a6e) (And.intro (@a5e) (@a3M))))) (And.intro (And.intro (And.intro (@a3D) (And.intro (@a6k) (@a5V))) (And.intro (@a4g) (And.intro (@a3E) (@a6u)))) (And.intro (And.intro (@a6A) (And.intro (@a3v) (@a4h))) (And.intro (@b1t) (And.intro (@b0Y) (@a8c)))))))) (And.intro (And.intro (And.intro (And.intro (And.intro (And.intro (@a7X) (@a3C)) (And.intro (@a3N) (And.intro (@a2s) (@a2k)))) (And.intro (And.intro (@a5T) (And.intro (@a6F) (@a30))) (And.intro (@a3Z) (And.intro (@a5t) (@a6L))))) (And.intro (And.intro (And.intro (@a3W) (@a3I)) (And.intro (@a3O) (And.intro (@plain_agg) (@a9g)))) (And.intro (And.intro (@a5W) (And.intro (@a3z) (@allPlain_n))) (And.intro (@allPlain_c) (And.intro (@c0n) (@c0l)))))) (And.intro (And.intro (And.intro (And.intro (@b6C) (@b5Z)) (And.intro (@b6y) (And.intro (@b6g) (@b5F)))) (And.intro (And.intro (@b6A) (And.intro (@c1g) (@b97))) (And.intro (@c0z) (And.intro (@c0N) (@b3S))))) (And.intro (And.intro (And.intro (@c04) (And.intro (@b9Y) (@c07))) (And.intro (@c0B) (And.intro (@c03) (@c0I)))) (And.intro (And.intro (@b6u) (And.intro (@b5X) (@c05))) (And.intro (@b96) (And.intro (@c0F) (@c1i))))))) (And.intro (And.intro (And.intro (And.intro (And.intro (@c0v) (@b9P)) (And.intro (@b64) (And.intro (@b5J) (@c1c)))) (And.intro (And.intro (@b9W) (And.intro (@c0O) (@b9U))) (And.intro (@c0w) (And.intro (@c0i) (@c5V))))) (And.intro (And.intro (And.intro (@c4D) (@c3s)) (And.intro (@c6n) (And.intro (@b90) (@c1b)))) (And.intro (And.intro (@c1f) (And.intro (@c0d) (@eqs))) (And.intro (@nn) (And.intro (@tn) (@b7p)))))) (And.intro (And.intro (And.intro (And.intro (@b6K) (@c5B)) (And.intro (@c50) (And.intro (@c0s) (@c49)))) (And.intro (And.intro (@c4x) (And.intro (@c6i) (@c4d))) (And.intro (@il0) (And.intro (@it0) (@il1))))) (And.intro (And.intro (And.intro (@it1) (And.intro (@il2) (@it2))) (And.intro (@m41) (And.intro (@W_e) (@c5C)))) (And.intro (And.intro (@b2C) (And.intro (@b1u) (@b22))) (And.intro (@b9Q) (And.intro (@c0V) (@b4h)))))))))):=And.intro (And.intro (And.intro (And.intro (And.intro (And.intro (And.intro (And.intro (@exec_seqK) (@a8M)) (And.intro (@b0o) (And.intro (@a8T) (@a9p)))) (And.intro (And.intro (@a1h) (And.intro (@a9t) (@b13))) (And.intro (@a2S) (And.intro (@a2h) (@a6i))))) (And.intro (And.intro (And.intro (@a3u) (@b6F)) (And.intro (@b6I) (And.intro (@a4a) (@a3T)))) (And.intro (And.intro (@b7y) (And.intro (@b7x) (@b7K))) (And.intro (@b0g) (And.intro (@a8q) (@b1V)))))) (And.intro (And.intro (And.intro (And.intro (@b1C) (@a6a)) (And.intro (@b2A) (And.intro (@a1I) (@n8)))) (And.intro (And.intro (@c09) (And.intro (@c0T) (@b92))) (And.intro (@c0b) (And.intro (@a7G) (@b7N))))) (And.intro (And.intro (And.intro (@b62) (@b6i)) (And.intro (@b7B) (And.intro (@b0t) (@c0g)))) (And.intro (And.intro (@c08) (And.intro (@c0D) (@b93))) (And.intro (@b26) (And.intro (@a7r) (@a4w))))))) (And.intro (And.intro (And.intro (And.intro (And.intro (@b2S) (@b0d)) (And.intro (@a8u) (And.intro (@b59) (@b7u)))) (And.intro (And.intro (@b3D) (And.intro (@b1y) (@a7H))) (And.intro (@b0O) (And.intro (@b0s) (@a9m))))) (And.intro (And.intro (And.intro (@b0b) (@a8D)) (And.intro (@a8i) (And.intro (@b28) (@b0Q)))) (And.intro (And.intro (@b0a) (And.intro (@a7I) (@a8r))) (And.intro (@a9n) (And.intro (@R5) (@b24)))))) (And.intro (And.intro (And.intro (And.intro (@a5M) (@a7L)) (And.intro (@a4Z) (And.intro (@a5J) (@a9T)))) (And.intro (And.intro (@a5l) (And.intro (@a9b) (@a9r))) (And.intro (@a5L) (And.intro (@b0S) (@a6s))))) (And.intro (And.intro (And.intro (@a8C) (And.intro (@a6m) (@a6w))) (And.intro (@N7) (And.intro (@a6b) (@a5R)))) (And.intro (And.intro (@a8s) (And.intro (@a8X) (@a6j))) (And.intro (@a8a) (And.intro (@a6R) (@a5S)))))))) (And.intro (And.intro (And.intro (And.intro (And.intro (And.intro (@b1f) (@a8Z)) (And.intro (@a9d) (And.intro (@a6J) (@a6p)))) (And.intro (And.intro (@a5n) (And.intro (@a8E) (@b0p))) (And.intro (@a4f) (And.intro (@a3y) (@a3R))))) (And.intro (And.intro (And.intro (@a5A) (@a5s)) (And.intro (@a3A) (And.intro (@a5q) (@a4b)))) (And.intro (And.intro (@a3H) (And.intro (@a8m) (@a4S))) (And.intro (@a6P) (And.intro (@a3t) (@a3U)))))) (And.intro (And.intro (And.intro (And.intro (@a3K) (@a49)) (And.intro (@a6t) (And.intro (@a3G) (@a2w)))) (And.intro (And.intro (@a8d) (And.intro (@a2J) (@a2o))) (And.intro (@c3X) (And.intro (@a4U) (@a5P))))) (And.intro (And.intro (And.intro (@a9h) (@a4k)) (And.intro (@b2y) (And.intro (@b5S) (@b0c)))) (And.intro (And.intro (@b5P) (And.intro (@b3t) (@b0L))) (And.intro (@b5T) (And.intro (@b6B) (@b6N))))))) (And.intro (And.intro (And.intro (And.intro (And.intro (@b3c) (@ldAn_ptr)) (And.intro (@b2w) (And.intro (@b2N) (@b6n)))) (And.intro (And.intro (@b5h) (And.intro (@b3F) (@b3u))) (And.intro (@b6s) (And.intro (@c00) (@c1j))))) (And.intro (And.intro (And.intro (@b6o) (@a8U)) (And.intro (@b3r) (And.intro (@a9j) (@a7R)))) (And.intro (And.intro (@b6U) (And.intro (@b5C) (@a3w))) (And.intro (@a3V) (And.intro (@b0m) (@a8o)))))) (And.intro (And.intro (And.intro (And.intro (@b2B) (@b27)) (And.intro (@b2Y) (And.intro (@b6P) (@b6H)))) (And.intro (And.intro (@b98) (And.intro (@a7P) (@a8B))) (And.intro (@b3x) (And.intro (@b1F) (@b1v))))) (And.intro (And.intro (And.intro (@b7e) (And.intro (@c02) (@b5t))) (And.intro (@c0P) (And.intro (@c0L) (@c0k)))) (And.intro (And.intro (@b9V) (And.intro (@b58) (@b6q))) (And.intro (@b7a) (And.intro (@b5L) (@b5E))))))))) (And.intro (And.intro (And.intro (And.intro (And.intro (And.intro (And.intro (@b5u) (@b6W)) (And.intro (@b7q) (And.intro (@b6j) (@b63)))) (And.intro (And.intro (@b5f) (And.intro (@b6k) (@b7R))) (And.intro (@b5i) (And.intro (@b5z) (@b5p))))) (And.intro (And.intro (And.intro (@b6w) (@b5O)) (And.intro (@b51) (And.intro (@b3O) (@b2x)))) (And.intro (And.intro (@b2E) (And.intro (@b3i) (@b2R))) (And.intro (@b2G) (And.intro (@b6M) (@b6J)))))) (And.intro (And.intro (And.intro (And.intro (@b7J) (@c0H)) (And.intro (@c06) (And.intro (@c0Y) (@b6V)))) (And.intro (And.intro (@b7c) (And.intro (@c0K) (@takeVal_t))) (And.intro (@a8H) (And.intro (@a6d) (@a6z))))) (And.intro (And.intro (And.intro (@a6W) (@a5p)) (And.intro (@b11) (And.intro (@a8S) (@a9f)))) (And.intro (And.intro (@a7O) (And.intro (@a8x) (@b3P))) (And.intro (@b17) (And.intro (@b0U) (@b2T))))))) (And.intro (And.intro (And.intro (And.intro (And.intro (@a6U) (@a6M)) (And.intro (@a4j) (And.intro (@a4i) (@a8t)))) (And.intro (And.intro (@a9c) (And.intro (@a5r) (@a6Q))) (And.intro (@a8A) (And.intro (@a8j) (@a5K))))) (And.intro (And.intro (And.intro (@a6n) (@a6h)) (And.intro (@a5Y) (And.intro (@a9s) (@a8n)))) (And.intro (And.intro (@a5N) (And.intro (@a6D) (@a5Q))) (And.intro (@a5x) (And.intro (@a3S) (@a3X)))))) (And.intro (And.intro (And.intro (And.intro (@b1D) (@b0u)) (And.intro (@a8R) (And.intro (@a8V) (@a8z)))) (And.intro (And.intro (@a7K) (And.intro (@a5h) (@a5Z))) (And.intro (@a6e) (And.intro (@a5e) (@a3M))))) (And.intro (And.intro (And.intro (@a3D) (And.intro (@a6k) (@a5V))) (And.intro (@a4g) (And.intro (@a3E) (@a6u)))) (And.intro (And.intro (@a6A) (And.intro (@a3v) (@a4h))) (And.intro (@b1t) (And.intro (@b0Y) (@a8c)))))))) (And.intro (And.intro (And.intro (And.intro (And.intro (And.intro (@a7X) (@a3C)) (And.intro (@a3N) (And.intro (@a2s) (@a2k)))) (And.intro (And.intro (@a5T) (And.intro (@a6F) (@a30))) (And.intro (@a3Z) (And.intro (@a5t) (@a6L))))) (And.intro (And.intro (And.intro (@a3W) (@a3I)) (And.intro (@a3O) (And.intro (@plain_agg) (@a9g)))) (And.intro (And.intro (@a5W) (And.intro (@a3z) (@allPlain_n))) (And.intro (@allPlain_c) (And.intro (@c0n) (@c0l)))))) (And.intro (And.intro (And.intro (And.intro (@b6C) (@b5Z)) (And.intro (@b6y) (And.intro (@b6g) (@b5F)))) (And.intro (And.intro (@b6A) (And.intro (@c1g) (@b97))) (And.intro (@c0z) (And.intro (@c0N) (@b3S))))) (And.intro (And.intro (And.intro (@c04) (And.intro (@b9Y) (@c07))) (And.intro (@c0B) (And.intro (@c03) (@c0I)))) (And.intro (And.intro (@b6u) (And.intro (@b5X) (@c05))) (And.intro (@b96) (And.intro (@c0F) (@c1i))))))) (And.intro (And.intro (And.intro (And.intro (And.intro (@c0v) (@b9P)) (And.intro (@b64) (And.intro (@b5J) (@c1c)))) (And.intro (And.intro (@b9W) (And.intro (@c0O) (@b9U))) (And.intro (@c0w) (And.intro (@c0i) (@c5V))))) (And.intro (And.intro (And.intro (@c4D) (@c3s)) (And.intro (@c6n) (And.intro (@b90) (@c1b)))) (And.intro (And.intro (@c1f) (And.intro (@c0d) (@eqs))) (And.intro (@nn) (And.intro (@tn) (@b7p)))))) (And.intro (And.intro (And.intro (And.intro (@b6K) (@c5B)) (And.intro (@c50) (And.intro (@c0s) (@c49)))) (And.intro (And.intro (@c4x) (And.intro (@c6i) (@c4d))) (And.intro (@il0) (And.intro (@it0) (@il1))))) (And.intro (And.intro (And.intro (@it1) (And.intro (@il2) (@it2))) (And.intro (@m41) (And.intro (@W_e) (@c5C)))) (And.intro (And.intro (@b2C) (And.intro (@b1u) (@b22))) (And.intro (@b9Q) (And.intro (@c0V) (@b4h)))))))))
end Go.Cb
/-
 THE ABSTRACT MACHINE, part 48: running told by rules, operation by operation, in place of printed chains.
-/
set_option maxRecDepth 4000
set_option linter.unusedSimpArgs false
set_option linter.unusedVariables false
namespace Go.Cb.V
open Go Go.Cb
def d9 (call:b9) (ops:List AOper) (σ:Sig) (k:Sig→Option Out):Option Out:=obind (m4 call ops σ) k
theorem runR_congr {call:b9} {ops:List AOper} {σ σ':Sig} {k:Sig→Option Out} (h:σ=σ'):d9 call ops σ k=d9 call ops σ' k:=by rw [h]
theorem b5n (call:b9) (σ:Sig) (k:Sig→Option Out):d9 call [] σ k=k σ:=a8 rfl
theorem a0q (call:b9) (o:AOper) (os:List AOper) (σ:Sig) (k:Sig→Option Out):d9 call (o::os) σ k=obind (j1 call o σ) fun σ=>d9 call os σ k:=by
 unfold d9
 simp only [m4]
 cases j1 call o σ <;> rfl
theorem X6:∀ (as:List Opd) (σ:Sig),(d8 as σ).st=σ.st
 | [],_=>rfl
 | x::xs,σ=>by rw [d8,X6 xs]; cases x <;> rfl
section
variable (call:b9) (d:Dst) (as:List Opd) (os:List AOper) (σ:Sig) (k:Sig→Option Out)
theorem n4 {K:Kind} (h1:K.setSt=false):d9 call (⟨d,K,as,none,none⟩::os) σ k=obind (p1 (sem K call (as.map (·.read σ)) .undef σ.st)) fun x=>d9 call os (d.put x (d8 as σ)) k:=by
 rw [a0q]
 simp only [j1]
 rw [M1]
 dsimp only
 cases hs:sem K call (as.map (·.read σ)) .undef σ.st with
 | none=>rfl
 | some x =>
  obtain ⟨r,b,st⟩:=x
  obtain rfl:=a2B h1 hs
  simp only [p1,n8]
  have e:({ d8 as σ with st:=σ.st }:Sig)=d8 as σ:=by
   have:=X6 as σ
   cases h:d8 as σ
   rw [h] at this
   simp only at this
   rw [this]
  rw [e]
theorem P5 {K:Kind}:d9 call (⟨d,K,as,none,none⟩::os) σ k=obind (p2 (sem K call (as.map (·.read σ)) .undef σ.st)) fun x=>d9 call os (d.put x.1 { d8 as σ with st:=x.2 }) k:=by
 rw [a0q]
 simp only [j1]
 rw [M1]
 dsimp only
 cases hs:sem K call (as.map (·.read σ)) .undef σ.st with
 | none=>rfl
 | some x =>
  obtain ⟨r,b,st⟩:=x
  simp only [p2,n8]
theorem a9C {K:Kind} (i:Nat):d9 call (⟨d,K,as,some i,none⟩::os) σ k=obind (sem K call (as.map (·.read σ)) (σ.fr.getD i .undef) σ.st) fun x=>d9 call os (d.put x.1 { d8 as σ with fr:=(d8 as σ).fr.set i x.2.1,st:=x.2.2 }) k:=by
 rw [a0q]
 simp only [j1]
 rw [M1]
 dsimp only
 cases hs:sem K call (as.map (·.read σ)) (σ.fr.getD i .undef) σ.st with
 | none=>rfl
 | some x =>
  obtain ⟨r,b,st⟩:=x
  simp only [n8]
end
theorem c6x {call:b9} {d:Dst} {as:List Opd} {os:List AOper} {σ:Sig} {k:Sig→Option Out} {K:Kind} {box:Option Nat} (h:(K.setSt || K.alters || e9 as)=false) :
 d9 call (⟨d,K,as,box,none⟩::os) σ k=obind (p1 (sem K call (as.map (·.read σ)) (goK.boxOf' box σ) σ.st)) fun r=>d9 call os (d.put r σ) k:=by
 rw [a0q,← a1T]
 simp only [a28,goK,h]
theorem m6 {call:b9} {d:Dst} {as:List Opd} {os:List AOper} {σ:Sig} {k:Sig→Option Out} {K:Kind} {box:Option Nat} {x:Opd} {w:Bool} (h:(K.setSt || K.alters || e9 as)=false) :
 d9 call (⟨d,K,as,box,some (x,w)⟩::os) σ k=obind (gv (x.read σ) w (p1 (sem K call (as.map (·.read σ)) (goK.boxOf' box σ) σ.st))) fun r=>d9 call os (d.put r σ) k:=by
 rw [a0q,← a1T]
 simp only [a28,h]
theorem K3 {call:b9} {d:Dst} {as:List Opd} {os:List AOper} {σ:Sig} {k:Sig→Option Out} {K:Kind} {box:Option Nat} {x:Opd} {w:Bool} (h1:K.setSt=true) (h2:K.alters=false) (h:e9 as=false) :
 d9 call (⟨d,K,as,box,some (x,w)⟩::os) σ k=obind (gv2 (x.read σ) w σ.st (p2 (sem K call (as.map (·.read σ)) (goK.boxOf' box σ) σ.st))) fun r=>d9 call os (d.put r.1 { σ with st:=r.2 }) k:=by
 rw [a0q,← a1T]
 simp only [a28,h1,h2,h,Bool.true_or,Bool.or_false]
theorem c52:e9 []=false:=a8 rfl
theorem c3o (s:Nat) (xs:List Opd):e9 (.t s::xs)=e9 xs:=a8 rfl
theorem c5A (s:Nat) (xs:List Opd):e9 (.v s::xs)=e9 xs:=a8 rfl
theorem c4M (s:Nat) (xs:List Opd):e9 (.l s::xs)=e9 xs:=a8 rfl
theorem c41 (a:AV) (xs:List Opd):e9 (.c a::xs)=e9 xs:=a8 rfl
theorem a9o (call:b9) (n:Nat) (kill:List Nat) (ps:List AOper) (fr:List AV) (st:St) :
 g8 call n (.reg kill ps) fr st=d9 call ps ⟨k8 kill fr,fun _=>.undef,st⟩ fun σ=>some (.normal,σ.fr,σ.st):=by
 rw [b8D,a0o]; rfl
theorem a4V (call:b9) (n:Nat) (kill:List Nat) (ps:List AOper) (c:Opd) (a b:ACode) (fr:List AV) (st:St) :
 g8 call n (.test kill ps c a b) fr st=d9 call ps ⟨k8 kill fr,fun _=>.undef,st⟩ fun σ=>brE (c.read σ) call n a b σ.fr σ.st:=by
 rw [b44,a0o]; rfl
theorem c4I (s:Nat) (fr:List AV) (τ:Nat→AV) (st:St):Opd.read (.t s) ⟨fr,τ,st⟩=(τ s).weak:=a8 rfl
theorem c0U (s:Nat) (fr:List AV) (τ:Nat→AV) (st:St):Opd.read (.ts s) ⟨fr,τ,st⟩=τ s:=a8 rfl
theorem c3T (s:Nat) (fr:List AV) (τ:Nat→AV) (st:St):Opd.read (.v s) ⟨fr,τ,st⟩=(fr.getD s .undef).weak:=a8 rfl
theorem c0G (s:Nat) (fr:List AV) (τ:Nat→AV) (st:St):Opd.read (.vs s) ⟨fr,τ,st⟩=fr.getD s .undef:=a8 rfl
theorem c4H (s:Nat) (fr:List AV) (τ:Nat→AV) (st:St):Opd.read (.l s) ⟨fr,τ,st⟩=b9R s (fr.getD s .undef):=a8 rfl
theorem c6g (a:AV) (σ:Sig):Opd.read (.c a) σ=a:=a8 rfl
theorem c0a (τ:Nat→AV) (s:Nat) (a:AV) (j:Nat):s7 τ s a j=if j=s then a else τ j:=by
 unfold s7
 by_cases h:j=s
 · subst h; simp
 · rw [if_neg h,if_neg]; intro e; exact h (Nat.eq_of_beq_eq_true e)
theorem put_t (s:Nat) (a:AV) (fr:List AV) (τ:Nat→AV) (st:St):Dst.put (.t s) a ⟨fr,τ,st⟩=⟨fr,s7 τ s a.stripB,st⟩:=a8 rfl
theorem put_v (s:Nat) (a:AV) (fr:List AV) (τ:Nat→AV) (st:St):Dst.put (.v s) a ⟨fr,τ,st⟩=⟨fr.set s a.strip,τ,st⟩:=a8 rfl
theorem c1k (a:AV) (σ:Sig):Dst.put .none a σ=σ:=a8 rfl
theorem c1h (a:AV) (σ:Sig):Dst.put .bx a σ=σ:=a8 rfl
theorem c5K (σ:Sig):d8 [] σ=σ:=a8 rfl
theorem c5p (x:Opd) (xs:List Opd) (σ:Sig):d8 (x::xs) σ=d8 xs (x.spend σ):=a8 rfl
theorem c5X (s:Nat) (σ:Sig):Opd.spend (.t s) σ=σ:=a8 rfl
theorem c5R (s:Nat) (σ:Sig):Opd.spend (.v s) σ=σ:=a8 rfl
theorem c5s (s:Nat) (σ:Sig):Opd.spend (.l s) σ=σ:=a8 rfl
theorem c4y (a:AV) (σ:Sig):Opd.spend (.c a) σ=σ:=a8 rfl
theorem c0r (s:Nat) (fr:List AV) (τ:Nat→AV) (st:St):Opd.spend (.ts s) ⟨fr,τ,st⟩=⟨fr,s7 τ s (τ s).weak,st⟩:=a8 rfl
theorem c0E (s:Nat) (fr:List AV) (τ:Nat→AV) (st:St):Opd.spend (.vs s) ⟨fr,τ,st⟩=⟨fr.set s (fr.getD s .undef).weak,τ,st⟩:=a8 rfl
theorem c5i (a d:AV) (l:List AV):(a::l).getD 0 d=a:=a8 rfl
theorem c3Y (a d:AV) (l:List AV) (n:Nat):(a::l).getD (n+1) d=l.getD n d:=a8 rfl
theorem c4t (fr:List AV):k8 [] fr=fr:=a8 rfl
theorem c4X (i:Nat) (is:List Nat) (fr:List AV):k8 (i::is) fr=k8 is (fr.set i .undef):=a8 rfl
section
variable (call:b9) (d:Dst) (as:List Opd) (os:List AOper) (fr:List AV) (τ:Nat→AV) (s:St) (k:Sig→Option Out)
theorem c6m :d9 call (⟨d,.mv,as,none,none⟩::os) ⟨fr,τ,s⟩ k=obind (p1 (a0Z call (as.map (·.read ⟨fr,τ,s⟩)) .undef s)) fun x=>d9 call os (d.put x (d8 as ⟨fr,τ,s⟩)) k:=n4 call d as os ⟨fr,τ,s⟩ k rfl
theorem b7d :d9 call (⟨d,.pick,as,none,none⟩::os) ⟨fr,τ,s⟩ k=obind (p1 (C1 call (as.map (·.read ⟨fr,τ,s⟩)) .undef s)) fun x=>d9 call os (d.put x (d8 as ⟨fr,τ,s⟩)) k:=n4 call d as os ⟨fr,τ,s⟩ k rfl
theorem b0k :d9 call (⟨d,.nilchk,as,none,none⟩::os) ⟨fr,τ,s⟩ k=obind (p1 (C4 call (as.map (·.read ⟨fr,τ,s⟩)) .undef s)) fun x=>d9 call os (d.put x (d8 as ⟨fr,τ,s⟩)) k:=n4 call d as os ⟨fr,τ,s⟩ k rfl
theorem b2H (z:List AV) (o:List (Nat×Nat)):d9 call (⟨d,.build z o,as,none,none⟩::os) ⟨fr,τ,s⟩ k=obind (p1 (L3 z o call (as.map (·.read ⟨fr,τ,s⟩)) .undef s)) fun x=>d9 call os (d.put x (d8 as ⟨fr,τ,s⟩)) k:=n4 call d as os ⟨fr,τ,s⟩ k rfl
theorem b1B (q:Nat) (z:List (List AV)) (t:List Nat):d9 call (⟨d,.bslice q z t,as,none,none⟩::os) ⟨fr,τ,s⟩ k=obind (p1 (K7 q z t call (as.map (·.read ⟨fr,τ,s⟩)) .undef s)) fun x=>d9 call os (d.put x (d8 as ⟨fr,τ,s⟩)) k:=n4 call d as os ⟨fr,τ,s⟩ k rfl
theorem a8I (q:Nat) (z:List (List AV)) (t:List Nat):d9 call (⟨d,.bsliceM q z t,as,none,none⟩::os) ⟨fr,τ,s⟩ k=obind (p1 (I2 q z t call (as.map (·.read ⟨fr,τ,s⟩)) .undef s)) fun x=>d9 call os (d.put x (d8 as ⟨fr,τ,s⟩)) k:=n4 call d as os ⟨fr,τ,s⟩ k rfl
theorem b7o (g:Bool) (n:Nat):d9 call (⟨d,.ldSt g n,as,none,none⟩::os) ⟨fr,τ,s⟩ k=obind (p1 (C2 g n call (as.map (·.read ⟨fr,τ,s⟩)) .undef s)) fun x=>d9 call os (d.put x (d8 as ⟨fr,τ,s⟩)) k:=n4 call d as os ⟨fr,τ,s⟩ k rfl
theorem b6G (g:Bool) (n:Nat):d9 call (⟨d,.ldRo g n,as,none,none⟩::os) ⟨fr,τ,s⟩ k=obind (p1 (P4 g n call (as.map (·.read ⟨fr,τ,s⟩)) .undef s)) fun x=>d9 call os (d.put x (d8 as ⟨fr,τ,s⟩)) k:=n4 call d as os ⟨fr,τ,s⟩ k rfl
theorem b5e (g:Bool) (n:Nat):d9 call (⟨d,.ldAn g n,as,none,none⟩::os) ⟨fr,τ,s⟩ k=obind (p1 (E7 g n call (as.map (·.read ⟨fr,τ,s⟩)) .undef s)) fun x=>d9 call os (d.put x (d8 as ⟨fr,τ,s⟩)) k:=n4 call d as os ⟨fr,τ,s⟩ k rfl
theorem b2X (g:Bool) (n:Nat):d9 call (⟨d,.ldStR g n,as,none,none⟩::os) ⟨fr,τ,s⟩ k=obind (p1 (G9 g n call (as.map (·.read ⟨fr,τ,s⟩)) .undef s)) fun x=>d9 call os (d.put x (d8 as ⟨fr,τ,s⟩)) k:=n4 call d as os ⟨fr,τ,s⟩ k rfl
theorem c0u (n:Nat):d9 call (⟨d,.fad n,as,none,none⟩::os) ⟨fr,τ,s⟩ k=obind (p1 (O2 n call (as.map (·.read ⟨fr,τ,s⟩)) .undef s)) fun x=>d9 call os (d.put x (d8 as ⟨fr,τ,s⟩)) k:=n4 call d as os ⟨fr,τ,s⟩ k rfl
theorem c0q (o n:Nat) (g:Bool):d9 call (⟨d,.fld o n g,as,none,none⟩::os) ⟨fr,τ,s⟩ k=obind (p1 (S4 o n g call (as.map (·.read ⟨fr,τ,s⟩)) .undef s)) fun x=>d9 call os (d.put x (d8 as ⟨fr,τ,s⟩)) k:=n4 call d as os ⟨fr,τ,s⟩ k rfl
theorem b9S (n:Nat):d9 call (⟨d,.iad n,as,none,none⟩::os) ⟨fr,τ,s⟩ k=obind (p1 (G8 n call (as.map (·.read ⟨fr,τ,s⟩)) .undef s)) fun x=>d9 call os (d.put x (d8 as ⟨fr,τ,s⟩)) k:=n4 call d as os ⟨fr,τ,s⟩ k rfl
theorem b7G (l n:Nat):d9 call (⟨d,.iadA l n,as,none,none⟩::os) ⟨fr,τ,s⟩ k=obind (p1 (J1 l n call (as.map (·.read ⟨fr,τ,s⟩)) .undef s)) fun x=>d9 call os (d.put x (d8 as ⟨fr,τ,s⟩)) k:=n4 call d as os ⟨fr,τ,s⟩ k rfl
theorem b5I :d9 call (⟨d,.idxS,as,none,none⟩::os) ⟨fr,τ,s⟩ k=obind (p1 (M7 call (as.map (·.read ⟨fr,τ,s⟩)) .undef s)) fun x=>d9 call os (d.put x (d8 as ⟨fr,τ,s⟩)) k:=n4 call d as os ⟨fr,τ,s⟩ k rfl
theorem c0o (a b:Bool):d9 call (⟨d,.slS a b,as,none,none⟩::os) ⟨fr,τ,s⟩ k=obind (p1 (Q6 a b call (as.map (·.read ⟨fr,τ,s⟩)) .undef s)) fun x=>d9 call os (d.put x (d8 as ⟨fr,τ,s⟩)) k:=n4 call d as os ⟨fr,τ,s⟩ k rfl
theorem c0C (n:Nat) (a b:Bool):d9 call (⟨d,.slL n a b,as,none,none⟩::os) ⟨fr,τ,s⟩ k=obind (p1 (Q4 n a b call (as.map (·.read ⟨fr,τ,s⟩)) .undef s)) fun x=>d9 call os (d.put x (d8 as ⟨fr,τ,s⟩)) k:=n4 call d as os ⟨fr,τ,s⟩ k rfl
theorem c0p :d9 call (⟨d,.slZ,as,none,none⟩::os) ⟨fr,τ,s⟩ k=obind (p1 (U3 call (as.map (·.read ⟨fr,τ,s⟩)) .undef s)) fun x=>d9 call os (d.put x (d8 as ⟨fr,τ,s⟩)) k:=n4 call d as os ⟨fr,τ,s⟩ k rfl
theorem c1a (l n:Nat) (a b:Bool):d9 call (⟨d,.slA l n a b,as,none,none⟩::os) ⟨fr,τ,s⟩ k=obind (p1 (T5 l n a b call (as.map (·.read ⟨fr,τ,s⟩)) .undef s)) fun x=>d9 call os (d.put x (d8 as ⟨fr,τ,s⟩)) k:=n4 call d as os ⟨fr,τ,s⟩ k rfl
theorem c1m (o:BinOp):d9 call (⟨d,.bin o,as,none,none⟩::os) ⟨fr,τ,s⟩ k=obind (p1 (B0 o call (as.map (·.read ⟨fr,τ,s⟩)) .undef s)) fun x=>d9 call os (d.put x (d8 as ⟨fr,τ,s⟩)) k:=n4 call d as os ⟨fr,τ,s⟩ k rfl
theorem b7H (o:BinOp):d9 call (⟨d,.binB o,as,none,none⟩::os) ⟨fr,τ,s⟩ k=obind (p1 (O8 o call (as.map (·.read ⟨fr,τ,s⟩)) .undef s)) fun x=>d9 call os (d.put x (d8 as ⟨fr,τ,s⟩)) k:=n4 call d as os ⟨fr,τ,s⟩ k rfl
theorem b6l (o:BinOp):d9 call (⟨d,.binP o,as,none,none⟩::os) ⟨fr,τ,s⟩ k=obind (p1 (P0 o call (as.map (·.read ⟨fr,τ,s⟩)) .undef s)) fun x=>d9 call os (d.put x (d8 as ⟨fr,τ,s⟩)) k:=n4 call d as os ⟨fr,τ,s⟩ k rfl
theorem c30 (o:UnOp):d9 call (⟨d,.un o,as,none,none⟩::os) ⟨fr,τ,s⟩ k=obind (p1 (X5 o call (as.map (·.read ⟨fr,τ,s⟩)) .undef s)) fun x=>d9 call os (d.put x (d8 as ⟨fr,τ,s⟩)) k:=n4 call d as os ⟨fr,τ,s⟩ k rfl
theorem b6f (t:IntKind):d9 call (⟨d,.conv t,as,none,none⟩::os) ⟨fr,τ,s⟩ k=obind (p1 (P9 t call (as.map (·.read ⟨fr,τ,s⟩)) .undef s)) fun x=>d9 call os (d.put x (d8 as ⟨fr,τ,s⟩)) k:=n4 call d as os ⟨fr,τ,s⟩ k rfl
theorem c0M (f n:Nat):d9 call (⟨d,.mkF f n,as,none,none⟩::os) ⟨fr,τ,s⟩ k=obind (p1 (U1 f n call (as.map (·.read ⟨fr,τ,s⟩)) .undef s)) fun x=>d9 call os (d.put x (d8 as ⟨fr,τ,s⟩)) k:=n4 call d as os ⟨fr,τ,s⟩ k rfl
theorem b6c (a:Nat) (z:List AV) (b c:Bool):d9 call (⟨d,.mget a z b c,as,none,none⟩::os) ⟨fr,τ,s⟩ k=obind (p1 (M2 a z b c call (as.map (·.read ⟨fr,τ,s⟩)) .undef s)) fun x=>d9 call os (d.put x (d8 as ⟨fr,τ,s⟩)) k:=n4 call d as os ⟨fr,τ,s⟩ k rfl
theorem c0R (n:Nat):d9 call (⟨d,.ext n,as,none,none⟩::os) ⟨fr,τ,s⟩ k=obind (p1 (Q5 n call (as.map (·.read ⟨fr,τ,s⟩)) .undef s)) fun x=>d9 call os (d.put x (d8 as ⟨fr,τ,s⟩)) k:=n4 call d as os ⟨fr,τ,s⟩ k rfl
theorem b5N :d9 call (⟨d,.lenS,as,none,none⟩::os) ⟨fr,τ,s⟩ k=obind (p1 (P7 call (as.map (·.read ⟨fr,τ,s⟩)) .undef s)) fun x=>d9 call os (d.put x (d8 as ⟨fr,τ,s⟩)) k:=n4 call d as os ⟨fr,τ,s⟩ k rfl
theorem b5m :d9 call (⟨d,.lenL,as,none,none⟩::os) ⟨fr,τ,s⟩ k=obind (p1 (D2 call (as.map (·.read ⟨fr,τ,s⟩)) .undef s)) fun x=>d9 call os (d.put x (d8 as ⟨fr,τ,s⟩)) k:=n4 call d as os ⟨fr,τ,s⟩ k rfl
theorem c0m (n b:Nat):d9 call (⟨d,.app n b,as,none,none⟩::os) ⟨fr,τ,s⟩ k=obind (p1 (T9 n b call (as.map (·.read ⟨fr,τ,s⟩)) .undef s)) fun x=>d9 call os (d.put x (d8 as ⟨fr,τ,s⟩)) k:=n4 call d as os ⟨fr,τ,s⟩ k rfl
theorem b91 :d9 call (⟨d,.b2s,as,none,none⟩::os) ⟨fr,τ,s⟩ k=obind (p1 (S9 call (as.map (·.read ⟨fr,τ,s⟩)) .undef s)) fun x=>d9 call os (d.put x (d8 as ⟨fr,τ,s⟩)) k:=n4 call d as os ⟨fr,τ,s⟩ k rfl
theorem b2I (z:List AV) (o:List (Nat×Nat)) (x:Opd) (w:Bool) (h:e9 as=false):d9 call (⟨d,.build z o,as,none,some (x,w)⟩::os) ⟨fr,τ,s⟩ k=obind (gv (x.read ⟨fr,τ,s⟩) w (p1 (L3 z o call (as.map (·.read ⟨fr,τ,s⟩)) .undef s))) fun r=>d9 call os (d.put r ⟨fr,τ,s⟩) k:=m6 (by rw [h]; rfl)
theorem b0V (q:Nat) (z:List (List AV)) (t:List Nat) (x:Opd) (w:Bool) (h:e9 as=false):d9 call (⟨d,.bslice q z t,as,none,some (x,w)⟩::os) ⟨fr,τ,s⟩ k=obind (gv (x.read ⟨fr,τ,s⟩) w (p1 (K7 q z t call (as.map (·.read ⟨fr,τ,s⟩)) .undef s))) fun r=>d9 call os (d.put r ⟨fr,τ,s⟩) k:=m6 (by rw [h]; rfl)
theorem a8F (q:Nat) (z:List (List AV)) (t:List Nat) (x:Opd) (w:Bool) (h:e9 as=false):d9 call (⟨d,.bsliceM q z t,as,none,some (x,w)⟩::os) ⟨fr,τ,s⟩ k=obind (gv (x.read ⟨fr,τ,s⟩) w (p1 (I2 q z t call (as.map (·.read ⟨fr,τ,s⟩)) .undef s))) fun r=>d9 call os (d.put r ⟨fr,τ,s⟩) k:=m6 (by rw [h]; rfl)
theorem b6a (g:Bool) (n:Nat) (x:Opd) (w:Bool) (h:e9 as=false):d9 call (⟨d,.ldSt g n,as,none,some (x,w)⟩::os) ⟨fr,τ,s⟩ k=obind (gv (x.read ⟨fr,τ,s⟩) w (p1 (C2 g n call (as.map (·.read ⟨fr,τ,s⟩)) .undef s))) fun r=>d9 call os (d.put r ⟨fr,τ,s⟩) k:=m6 (by rw [h]; rfl)
theorem b7z (g:Bool) (n:Nat) (x:Opd) (w:Bool) (h:e9 as=false):d9 call (⟨d,.ldRo g n,as,none,some (x,w)⟩::os) ⟨fr,τ,s⟩ k=obind (gv (x.read ⟨fr,τ,s⟩) w (p1 (P4 g n call (as.map (·.read ⟨fr,τ,s⟩)) .undef s))) fun r=>d9 call os (d.put r ⟨fr,τ,s⟩) k:=m6 (by rw [h]; rfl)
theorem b6Z (g:Bool) (n:Nat) (x:Opd) (w:Bool) (h:e9 as=false):d9 call (⟨d,.ldAn g n,as,none,some (x,w)⟩::os) ⟨fr,τ,s⟩ k=obind (gv (x.read ⟨fr,τ,s⟩) w (p1 (E7 g n call (as.map (·.read ⟨fr,τ,s⟩)) .undef s))) fun r=>d9 call os (d.put r ⟨fr,τ,s⟩) k:=m6 (by rw [h]; rfl)
theorem b2F (g:Bool) (n:Nat) (x:Opd) (w:Bool) (h:e9 as=false):d9 call (⟨d,.ldStR g n,as,none,some (x,w)⟩::os) ⟨fr,τ,s⟩ k=obind (gv (x.read ⟨fr,τ,s⟩) w (p1 (G9 g n call (as.map (·.read ⟨fr,τ,s⟩)) .undef s))) fun r=>d9 call os (d.put r ⟨fr,τ,s⟩) k:=m6 (by rw [h]; rfl)
theorem c0A (n:Nat) (x:Opd) (w:Bool) (h:e9 as=false):d9 call (⟨d,.fad n,as,none,some (x,w)⟩::os) ⟨fr,τ,s⟩ k=obind (gv (x.read ⟨fr,τ,s⟩) w (p1 (O2 n call (as.map (·.read ⟨fr,τ,s⟩)) .undef s))) fun r=>d9 call os (d.put r ⟨fr,τ,s⟩) k:=m6 (by rw [h]; rfl)
theorem c1e (o n:Nat) (g:Bool) (x:Opd) (w:Bool) (h:e9 as=false):d9 call (⟨d,.fld o n g,as,none,some (x,w)⟩::os) ⟨fr,τ,s⟩ k=obind (gv (x.read ⟨fr,τ,s⟩) w (p1 (S4 o n g call (as.map (·.read ⟨fr,τ,s⟩)) .undef s))) fun r=>d9 call os (d.put r ⟨fr,τ,s⟩) k:=m6 (by rw [h]; rfl)
theorem c0x (n:Nat) (x:Opd) (w:Bool) (h:e9 as=false):d9 call (⟨d,.iad n,as,none,some (x,w)⟩::os) ⟨fr,τ,s⟩ k=obind (gv (x.read ⟨fr,τ,s⟩) w (p1 (G8 n call (as.map (·.read ⟨fr,τ,s⟩)) .undef s))) fun r=>d9 call os (d.put r ⟨fr,τ,s⟩) k:=m6 (by rw [h]; rfl)
theorem b6r (l n:Nat) (x:Opd) (w:Bool) (h:e9 as=false):d9 call (⟨d,.iadA l n,as,none,some (x,w)⟩::os) ⟨fr,τ,s⟩ k=obind (gv (x.read ⟨fr,τ,s⟩) w (p1 (J1 l n call (as.map (·.read ⟨fr,τ,s⟩)) .undef s))) fun r=>d9 call os (d.put r ⟨fr,τ,s⟩) k:=m6 (by rw [h]; rfl)
theorem c0t (a b:Bool) (x:Opd) (w:Bool) (h:e9 as=false):d9 call (⟨d,.slS a b,as,none,some (x,w)⟩::os) ⟨fr,τ,s⟩ k=obind (gv (x.read ⟨fr,τ,s⟩) w (p1 (Q6 a b call (as.map (·.read ⟨fr,τ,s⟩)) .undef s))) fun r=>d9 call os (d.put r ⟨fr,τ,s⟩) k:=m6 (by rw [h]; rfl)
theorem b99 (n:Nat) (a b:Bool) (x:Opd) (w:Bool) (h:e9 as=false):d9 call (⟨d,.slL n a b,as,none,some (x,w)⟩::os) ⟨fr,τ,s⟩ k=obind (gv (x.read ⟨fr,τ,s⟩) w (p1 (Q4 n a b call (as.map (·.read ⟨fr,τ,s⟩)) .undef s))) fun r=>d9 call os (d.put r ⟨fr,τ,s⟩) k:=m6 (by rw [h]; rfl)
theorem c0W (l n:Nat) (a b:Bool) (x:Opd) (w:Bool) (h:e9 as=false):d9 call (⟨d,.slA l n a b,as,none,some (x,w)⟩::os) ⟨fr,τ,s⟩ k=obind (gv (x.read ⟨fr,τ,s⟩) w (p1 (T5 l n a b call (as.map (·.read ⟨fr,τ,s⟩)) .undef s))) fun r=>d9 call os (d.put r ⟨fr,τ,s⟩) k:=m6 (by rw [h]; rfl)
theorem c0f (o:BinOp) (x:Opd) (w:Bool) (h:e9 as=false):d9 call (⟨d,.bin o,as,none,some (x,w)⟩::os) ⟨fr,τ,s⟩ k=obind (gv (x.read ⟨fr,τ,s⟩) w (p1 (B0 o call (as.map (·.read ⟨fr,τ,s⟩)) .undef s))) fun r=>d9 call os (d.put r ⟨fr,τ,s⟩) k:=m6 (by rw [h]; rfl)
theorem b6t (o:BinOp) (x:Opd) (w:Bool) (h:e9 as=false):d9 call (⟨d,.binB o,as,none,some (x,w)⟩::os) ⟨fr,τ,s⟩ k=obind (gv (x.read ⟨fr,τ,s⟩) w (p1 (O8 o call (as.map (·.read ⟨fr,τ,s⟩)) .undef s))) fun r=>d9 call os (d.put r ⟨fr,τ,s⟩) k:=m6 (by rw [h]; rfl)
theorem b6z (o:BinOp) (x:Opd) (w:Bool) (h:e9 as=false):d9 call (⟨d,.binP o,as,none,some (x,w)⟩::os) ⟨fr,τ,s⟩ k=obind (gv (x.read ⟨fr,τ,s⟩) w (p1 (P0 o call (as.map (·.read ⟨fr,τ,s⟩)) .undef s))) fun r=>d9 call os (d.put r ⟨fr,τ,s⟩) k:=m6 (by rw [h]; rfl)
theorem c5E (o:UnOp) (x:Opd) (w:Bool) (h:e9 as=false):d9 call (⟨d,.un o,as,none,some (x,w)⟩::os) ⟨fr,τ,s⟩ k=obind (gv (x.read ⟨fr,τ,s⟩) w (p1 (X5 o call (as.map (·.read ⟨fr,τ,s⟩)) .undef s))) fun r=>d9 call os (d.put r ⟨fr,τ,s⟩) k:=m6 (by rw [h]; rfl)
theorem b7l (t:IntKind) (x:Opd) (w:Bool) (h:e9 as=false):d9 call (⟨d,.conv t,as,none,some (x,w)⟩::os) ⟨fr,τ,s⟩ k=obind (gv (x.read ⟨fr,τ,s⟩) w (p1 (P9 t call (as.map (·.read ⟨fr,τ,s⟩)) .undef s))) fun r=>d9 call os (d.put r ⟨fr,τ,s⟩) k:=m6 (by rw [h]; rfl)
theorem c0Z (f n:Nat) (x:Opd) (w:Bool) (h:e9 as=false):d9 call (⟨d,.mkF f n,as,none,some (x,w)⟩::os) ⟨fr,τ,s⟩ k=obind (gv (x.read ⟨fr,τ,s⟩) w (p1 (U1 f n call (as.map (·.read ⟨fr,τ,s⟩)) .undef s))) fun r=>d9 call os (d.put r ⟨fr,τ,s⟩) k:=m6 (by rw [h]; rfl)
theorem b5A (a:Nat) (z:List AV) (b c:Bool) (x:Opd) (w:Bool) (h:e9 as=false):d9 call (⟨d,.mget a z b c,as,none,some (x,w)⟩::os) ⟨fr,τ,s⟩ k=obind (gv (x.read ⟨fr,τ,s⟩) w (p1 (M2 a z b c call (as.map (·.read ⟨fr,τ,s⟩)) .undef s))) fun r=>d9 call os (d.put r ⟨fr,τ,s⟩) k:=m6 (by rw [h]; rfl)
theorem b95 (n:Nat) (x:Opd) (w:Bool) (h:e9 as=false):d9 call (⟨d,.ext n,as,none,some (x,w)⟩::os) ⟨fr,τ,s⟩ k=obind (gv (x.read ⟨fr,τ,s⟩) w (p1 (Q5 n call (as.map (·.read ⟨fr,τ,s⟩)) .undef s))) fun r=>d9 call os (d.put r ⟨fr,τ,s⟩) k:=m6 (by rw [h]; rfl)
theorem c0h (n b:Nat) (x:Opd) (w:Bool) (h:e9 as=false):d9 call (⟨d,.app n b,as,none,some (x,w)⟩::os) ⟨fr,τ,s⟩ k=obind (gv (x.read ⟨fr,τ,s⟩) w (p1 (T9 n b call (as.map (·.read ⟨fr,τ,s⟩)) .undef s))) fun r=>d9 call os (d.put r ⟨fr,τ,s⟩) k:=m6 (by rw [h]; rfl)
theorem b7Q (i:Nat) (g:Bool) (n:Nat) (j:Nat) (h:e9 as=false):d9 call (⟨d,.ldLc i g n,as,some j,none⟩::os) ⟨fr,τ,s⟩ k=obind (p1 (J8 i g n call (as.map (·.read ⟨fr,τ,s⟩)) (fr.getD j .undef) s)) fun r=>d9 call os (d.put r ⟨fr,τ,s⟩) k:=c6x (by rw [h]; rfl)
theorem b3J (i:Nat) (g:Bool) (n:Nat) (j:Nat) (x:Opd) (w:Bool) (h:e9 as=false):d9 call (⟨d,.ldLc i g n,as,some j,some (x,w)⟩::os) ⟨fr,τ,s⟩ k=obind (gv (x.read ⟨fr,τ,s⟩) w (p1 (J8 i g n call (as.map (·.read ⟨fr,τ,s⟩)) (fr.getD j .undef) s))) fun r=>d9 call os (d.put r ⟨fr,τ,s⟩) k:=m6 (by rw [h]; rfl)
theorem b0e (z:List AV):d9 call (⟨d,.allocO z,as,none,none⟩::os) ⟨fr,τ,s⟩ k=obind (p2 (K6 z call (as.map (·.read ⟨fr,τ,s⟩)) .undef s)) fun x=>d9 call os (d.put x.1 { d8 as ⟨fr,τ,s⟩ with st:=x.2 }) k:=P5 call d as os ⟨fr,τ,s⟩ k
theorem a8N (z:List AV) (x:Opd) (w:Bool) (h:e9 as=false):d9 call (⟨d,.allocO z,as,none,some (x,w)⟩::os) ⟨fr,τ,s⟩ k=obind (gv2 (x.read ⟨fr,τ,s⟩) w s (p2 (K6 z call (as.map (·.read ⟨fr,τ,s⟩)) .undef s))) fun r=>d9 call os (d.put r.1 ⟨fr,τ,r.2⟩) k:=K3 rfl rfl h
theorem b6e:d9 call (⟨d,.boxO,as,none,none⟩::os) ⟨fr,τ,s⟩ k=obind (p2 (S1 call (as.map (·.read ⟨fr,τ,s⟩)) .undef s)) fun x=>d9 call os (d.put x.1 { d8 as ⟨fr,τ,s⟩ with st:=x.2 }) k:=P5 call d as os ⟨fr,τ,s⟩ k
theorem b3k (x:Opd) (w:Bool) (h:e9 as=false):d9 call (⟨d,.boxO,as,none,some (x,w)⟩::os) ⟨fr,τ,s⟩ k=obind (gv2 (x.read ⟨fr,τ,s⟩) w s (p2 (S1 call (as.map (·.read ⟨fr,τ,s⟩)) .undef s))) fun r=>d9 call os (d.put r.1 ⟨fr,τ,r.2⟩) k:=K3 rfl rfl h
theorem a7U (q:Nat) (z:List (List AV)) (t:List Nat):d9 call (⟨d,.bsliceO q z t,as,none,none⟩::os) ⟨fr,τ,s⟩ k=obind (p2 (I3 q z t call (as.map (·.read ⟨fr,τ,s⟩)) .undef s)) fun x=>d9 call os (d.put x.1 { d8 as ⟨fr,τ,s⟩ with st:=x.2 }) k:=P5 call d as os ⟨fr,τ,s⟩ k
theorem a6q (q:Nat) (z:List (List AV)) (t:List Nat) (x:Opd) (w:Bool) (h:e9 as=false):d9 call (⟨d,.bsliceO q z t,as,none,some (x,w)⟩::os) ⟨fr,τ,s⟩ k=obind (gv2 (x.read ⟨fr,τ,s⟩) w s (p2 (I3 q z t call (as.map (·.read ⟨fr,τ,s⟩)) .undef s))) fun r=>d9 call os (d.put r.1 ⟨fr,τ,r.2⟩) k:=K3 rfl rfl h
theorem b5c (n b:Nat):d9 call (⟨d,.appM n b,as,none,none⟩::os) ⟨fr,τ,s⟩ k=obind (p2 (H6 n b call (as.map (·.read ⟨fr,τ,s⟩)) .undef s)) fun x=>d9 call os (d.put x.1 { d8 as ⟨fr,τ,s⟩ with st:=x.2 }) k:=P5 call d as os ⟨fr,τ,s⟩ k
theorem b3f (n b:Nat) (x:Opd) (w:Bool) (h:e9 as=false):d9 call (⟨d,.appM n b,as,none,some (x,w)⟩::os) ⟨fr,τ,s⟩ k=obind (gv2 (x.read ⟨fr,τ,s⟩) w s (p2 (H6 n b call (as.map (·.read ⟨fr,τ,s⟩)) .undef s))) fun r=>d9 call os (d.put r.1 ⟨fr,τ,r.2⟩) k:=K3 rfl rfl h
theorem b1E (n:Nat):d9 call (⟨d,.ldStSR n,as,none,none⟩::os) ⟨fr,τ,s⟩ k=obind (p2 (C3 n call (as.map (·.read ⟨fr,τ,s⟩)) .undef s)) fun x=>d9 call os (d.put x.1 { d8 as ⟨fr,τ,s⟩ with st:=x.2 }) k:=P5 call d as os ⟨fr,τ,s⟩ k
theorem a8W (n:Nat) (x:Opd) (w:Bool) (h:e9 as=false):d9 call (⟨d,.ldStSR n,as,none,some (x,w)⟩::os) ⟨fr,τ,s⟩ k=obind (gv2 (x.read ⟨fr,τ,s⟩) w s (p2 (C3 n call (as.map (·.read ⟨fr,τ,s⟩)) .undef s))) fun r=>d9 call os (d.put r.1 ⟨fr,τ,r.2⟩) k:=K3 rfl rfl h
theorem b3o (n:Nat):d9 call (⟨d,.stStA n,as,none,none⟩::os) ⟨fr,τ,s⟩ k=obind (p2 (E9 n call (as.map (·.read ⟨fr,τ,s⟩)) .undef s)) fun x=>d9 call os (d.put x.1 { d8 as ⟨fr,τ,s⟩ with st:=x.2 }) k:=P5 call d as os ⟨fr,τ,s⟩ k
theorem b1a (n:Nat) (x:Opd) (w:Bool) (h:e9 as=false):d9 call (⟨d,.stStA n,as,none,some (x,w)⟩::os) ⟨fr,τ,s⟩ k=obind (gv2 (x.read ⟨fr,τ,s⟩) w s (p2 (E9 n call (as.map (·.read ⟨fr,τ,s⟩)) .undef s))) fun r=>d9 call os (d.put r.1 ⟨fr,τ,r.2⟩) k:=K3 rfl rfl h
theorem b2J (f m:Nat):d9 call (⟨d,.callA f m,as,none,none⟩::os) ⟨fr,τ,s⟩ k=obind (p2 (D3 f m call (as.map (·.read ⟨fr,τ,s⟩)) .undef s)) fun x=>d9 call os (d.put x.1 { d8 as ⟨fr,τ,s⟩ with st:=x.2 }) k:=P5 call d as os ⟨fr,τ,s⟩ k
theorem b1X (f m:Nat) (x:Opd) (w:Bool) (h:e9 as=false):d9 call (⟨d,.callA f m,as,none,some (x,w)⟩::os) ⟨fr,τ,s⟩ k=obind (gv2 (x.read ⟨fr,τ,s⟩) w s (p2 (D3 f m call (as.map (·.read ⟨fr,τ,s⟩)) .undef s))) fun r=>d9 call os (d.put r.1 ⟨fr,τ,r.2⟩) k:=K3 rfl rfl h
theorem b25:d9 call (⟨d,.ldStS,as,none,none⟩::os) ⟨fr,τ,s⟩ k=obind (p2 (B8 call (as.map (·.read ⟨fr,τ,s⟩)) .undef s)) fun x=>d9 call os (d.put x.1 { d8 as ⟨fr,τ,s⟩ with st:=x.2 }) k:=P5 call d as os ⟨fr,τ,s⟩ k
theorem b1w (x:Opd) (w:Bool) (h:e9 as=false):d9 call (⟨d,.ldStS,as,none,some (x,w)⟩::os) ⟨fr,τ,s⟩ k=obind (gv2 (x.read ⟨fr,τ,s⟩) w s (p2 (B8 call (as.map (·.read ⟨fr,τ,s⟩)) .undef s))) fun r=>d9 call os (d.put r.1 ⟨fr,τ,r.2⟩) k:=K3 rfl rfl h
theorem b69 (n:Nat):d9 call (⟨d,.stSt n,as,none,none⟩::os) ⟨fr,τ,s⟩ k=obind (p2 (E6 n call (as.map (·.read ⟨fr,τ,s⟩)) .undef s)) fun x=>d9 call os (d.put x.1 { d8 as ⟨fr,τ,s⟩ with st:=x.2 }) k:=P5 call d as os ⟨fr,τ,s⟩ k
theorem b3H (n:Nat) (x:Opd) (w:Bool) (h:e9 as=false):d9 call (⟨d,.stSt n,as,none,some (x,w)⟩::os) ⟨fr,τ,s⟩ k=obind (gv2 (x.read ⟨fr,τ,s⟩) w s (p2 (E6 n call (as.map (·.read ⟨fr,τ,s⟩)) .undef s))) fun r=>d9 call os (d.put r.1 ⟨fr,τ,r.2⟩) k:=K3 rfl rfl h
theorem c1d:d9 call (⟨d,.mkM,as,none,none⟩::os) ⟨fr,τ,s⟩ k=obind (p2 (Y9 call (as.map (·.read ⟨fr,τ,s⟩)) .undef s)) fun x=>d9 call os (d.put x.1 { d8 as ⟨fr,τ,s⟩ with st:=x.2 }) k:=P5 call d as os ⟨fr,τ,s⟩ k
theorem b56 (x:Opd) (w:Bool) (h:e9 as=false):d9 call (⟨d,.mkM,as,none,some (x,w)⟩::os) ⟨fr,τ,s⟩ k=obind (gv2 (x.read ⟨fr,τ,s⟩) w s (p2 (Y9 call (as.map (·.read ⟨fr,τ,s⟩)) .undef s))) fun r=>d9 call os (d.put r.1 ⟨fr,τ,r.2⟩) k:=K3 rfl rfl h
theorem b5M (n:Nat):d9 call (⟨d,.mset n,as,none,none⟩::os) ⟨fr,τ,s⟩ k=obind (p2 (W2 n call (as.map (·.read ⟨fr,τ,s⟩)) .undef s)) fun x=>d9 call os (d.put x.1 { d8 as ⟨fr,τ,s⟩ with st:=x.2 }) k:=P5 call d as os ⟨fr,τ,s⟩ k
theorem b3g (n:Nat) (x:Opd) (w:Bool) (h:e9 as=false):d9 call (⟨d,.mset n,as,none,some (x,w)⟩::os) ⟨fr,τ,s⟩ k=obind (gv2 (x.read ⟨fr,τ,s⟩) w s (p2 (W2 n call (as.map (·.read ⟨fr,τ,s⟩)) .undef s))) fun r=>d9 call os (d.put r.1 ⟨fr,τ,r.2⟩) k:=K3 rfl rfl h
theorem b6L (f:Nat):d9 call (⟨d,.call f,as,none,none⟩::os) ⟨fr,τ,s⟩ k=obind (p2 (y8 f call (as.map (·.read ⟨fr,τ,s⟩)) .undef s)) fun x=>d9 call os (d.put x.1 { d8 as ⟨fr,τ,s⟩ with st:=x.2 }) k:=P5 call d as os ⟨fr,τ,s⟩ k
theorem b2Q (f:Nat) (x:Opd) (w:Bool) (h:e9 as=false):d9 call (⟨d,.call f,as,none,some (x,w)⟩::os) ⟨fr,τ,s⟩ k=obind (gv2 (x.read ⟨fr,τ,s⟩) w s (p2 (y8 f call (as.map (·.read ⟨fr,τ,s⟩)) .undef s))) fun r=>d9 call os (d.put r.1 ⟨fr,τ,r.2⟩) k:=K3 rfl rfl h
theorem b2O:d9 call (⟨d,.callV,as,none,none⟩::os) ⟨fr,τ,s⟩ k=obind (p2 (I7 call (as.map (·.read ⟨fr,τ,s⟩)) .undef s)) fun x=>d9 call os (d.put x.1 { d8 as ⟨fr,τ,s⟩ with st:=x.2 }) k:=P5 call d as os ⟨fr,τ,s⟩ k
theorem b0y (x:Opd) (w:Bool) (h:e9 as=false):d9 call (⟨d,.callV,as,none,some (x,w)⟩::os) ⟨fr,τ,s⟩ k=obind (gv2 (x.read ⟨fr,τ,s⟩) w s (p2 (I7 call (as.map (·.read ⟨fr,τ,s⟩)) .undef s))) fun r=>d9 call os (d.put r.1 ⟨fr,τ,r.2⟩) k:=K3 rfl rfl h
theorem b3p (z:List AV) (j:Nat):d9 call (⟨d,.alloc z,as,some j,none⟩::os) ⟨fr,τ,s⟩ k=obind (R4 z call (as.map (·.read ⟨fr,τ,s⟩)) (fr.getD j .undef) s) fun x=>d9 call os (d.put x.1 { d8 as ⟨fr,τ,s⟩ with fr:=(d8 as ⟨fr,τ,s⟩).fr.set j x.2.1,st:=x.2.2 }) k:=a9C call d as os ⟨fr,τ,s⟩ k j
theorem b6v (j:Nat):d9 call (⟨d,.boxV,as,some j,none⟩::os) ⟨fr,τ,s⟩ k=obind (X0 call (as.map (·.read ⟨fr,τ,s⟩)) (fr.getD j .undef) s) fun x=>d9 call os (d.put x.1 { d8 as ⟨fr,τ,s⟩ with fr:=(d8 as ⟨fr,τ,s⟩).fr.set j x.2.1,st:=x.2.2 }) k:=a9C call d as os ⟨fr,τ,s⟩ k j
theorem b3A (i:Nat) (j:Nat):d9 call (⟨d,.ldLcS i,as,some j,none⟩::os) ⟨fr,τ,s⟩ k=obind (O1 i call (as.map (·.read ⟨fr,τ,s⟩)) (fr.getD j .undef) s) fun x=>d9 call os (d.put x.1 { d8 as ⟨fr,τ,s⟩ with fr:=(d8 as ⟨fr,τ,s⟩).fr.set j x.2.1,st:=x.2.2 }) k:=a9C call d as os ⟨fr,τ,s⟩ k j
theorem b7F (i n:Nat) (j:Nat):d9 call (⟨d,.stLc i n,as,some j,none⟩::os) ⟨fr,τ,s⟩ k=obind (O7 i n call (as.map (·.read ⟨fr,τ,s⟩)) (fr.getD j .undef) s) fun x=>d9 call os (d.put x.1 { d8 as ⟨fr,τ,s⟩ with fr:=(d8 as ⟨fr,τ,s⟩).fr.set j x.2.1,st:=x.2.2 }) k:=a9C call d as os ⟨fr,τ,s⟩ k j
theorem c3P (x:Opd) (w:Bool) (h:e9 as=false):d9 call (⟨d,.mv,as,none,some (x,w)⟩::os) ⟨fr,τ,s⟩ k=obind (gv (x.read ⟨fr,τ,s⟩) w (p1 (a0Z call (as.map (·.read ⟨fr,τ,s⟩)) .undef s))) fun r=>d9 call os (d.put r ⟨fr,τ,s⟩) k:=m6 (by rw [h]; rfl)
theorem b6S (x:Opd) (w:Bool) (h:e9 as=false):d9 call (⟨d,.pick,as,none,some (x,w)⟩::os) ⟨fr,τ,s⟩ k=obind (gv (x.read ⟨fr,τ,s⟩) w (p1 (C1 call (as.map (·.read ⟨fr,τ,s⟩)) .undef s))) fun r=>d9 call os (d.put r ⟨fr,τ,s⟩) k:=m6 (by rw [h]; rfl)
theorem b1b (x:Opd) (w:Bool) (h:e9 as=false):d9 call (⟨d,.nilchk,as,none,some (x,w)⟩::os) ⟨fr,τ,s⟩ k=obind (gv (x.read ⟨fr,τ,s⟩) w (p1 (C4 call (as.map (·.read ⟨fr,τ,s⟩)) .undef s))) fun r=>d9 call os (d.put r ⟨fr,τ,s⟩) k:=m6 (by rw [h]; rfl)
theorem b7h (x:Opd) (w:Bool) (h:e9 as=false):d9 call (⟨d,.idxS,as,none,some (x,w)⟩::os) ⟨fr,τ,s⟩ k=obind (gv (x.read ⟨fr,τ,s⟩) w (p1 (M7 call (as.map (·.read ⟨fr,τ,s⟩)) .undef s))) fun r=>d9 call os (d.put r ⟨fr,τ,s⟩) k:=m6 (by rw [h]; rfl)
theorem c01 (x:Opd) (w:Bool) (h:e9 as=false):d9 call (⟨d,.slZ,as,none,some (x,w)⟩::os) ⟨fr,τ,s⟩ k=obind (gv (x.read ⟨fr,τ,s⟩) w (p1 (U3 call (as.map (·.read ⟨fr,τ,s⟩)) .undef s))) fun r=>d9 call os (d.put r ⟨fr,τ,s⟩) k:=m6 (by rw [h]; rfl)
theorem b54 (x:Opd) (w:Bool) (h:e9 as=false):d9 call (⟨d,.lenS,as,none,some (x,w)⟩::os) ⟨fr,τ,s⟩ k=obind (gv (x.read ⟨fr,τ,s⟩) w (p1 (P7 call (as.map (·.read ⟨fr,τ,s⟩)) .undef s))) fun r=>d9 call os (d.put r ⟨fr,τ,s⟩) k:=m6 (by rw [h]; rfl)
theorem b6Y (x:Opd) (w:Bool) (h:e9 as=false):d9 call (⟨d,.lenL,as,none,some (x,w)⟩::os) ⟨fr,τ,s⟩ k=obind (gv (x.read ⟨fr,τ,s⟩) w (p1 (D2 call (as.map (·.read ⟨fr,τ,s⟩)) .undef s))) fun r=>d9 call os (d.put r ⟨fr,τ,s⟩) k:=m6 (by rw [h]; rfl)
theorem c0c (x:Opd) (w:Bool) (h:e9 as=false):d9 call (⟨d,.b2s,as,none,some (x,w)⟩::os) ⟨fr,τ,s⟩ k=obind (gv (x.read ⟨fr,τ,s⟩) w (p1 (S9 call (as.map (·.read ⟨fr,τ,s⟩)) .undef s))) fun r=>d9 call os (d.put r ⟨fr,τ,s⟩) k:=m6 (by rw [h]; rfl)
end
theorem VV:type_of% (And.intro (And.intro (And.intro (And.intro (And.intro (And.intro @b5n (And.intro @a9o @a4V)) (And.intro (And.intro @c4I @c0U) (And.intro @c3T @c0G))) (And.intro (And.intro (And.intro @c4H @c6g) (And.intro @c0a @put_t)) (And.intro (And.intro @put_v @c1k) (And.intro @c1h @c5K)))) (And.intro (And.intro (And.intro (And.intro @c5p @c5X) (And.intro @c5R @c5s)) (And.intro (And.intro @c4y @c0r) (And.intro @c0E @c5i))) (And.intro (And.intro (And.intro @c3Y @c4t) (And.intro @c4X @c6m)) (And.intro (And.intro @b7d @b0k) (And.intro @b2H @b1B))))) (And.intro (And.intro (And.intro (And.intro @a8I (And.intro @b7o @b6G)) (And.intro (And.intro @b5e @b2X) (And.intro @c0u @c0q))) (And.intro (And.intro (And.intro @b9S @b7G) (And.intro @b5I @c0o)) (And.intro (And.intro @c0C @c0p) (And.intro @c1a @c1m)))) (And.intro (And.intro (And.intro (And.intro @b7H @b6l) (And.intro @c30 @b6f)) (And.intro (And.intro @c0M @b6c) (And.intro @c0R @b5N))) (And.intro (And.intro (And.intro @b5m @c0m) (And.intro @b91 @b2I)) (And.intro (And.intro @b0V @a8F) (And.intro @b6a @b7z)))))) (And.intro (And.intro (And.intro (And.intro (And.intro @b6Z (And.intro @b2F @c0A)) (And.intro (And.intro @c1e @c0x) (And.intro @b6r @c0t))) (And.intro (And.intro (And.intro @b99 @c0W) (And.intro @c0f @b6t)) (And.intro (And.intro @b6z @c5E) (And.intro @b7l @c0Z)))) (And.intro (And.intro (And.intro (And.intro @b5A @b95) (And.intro @c0h @b7Q)) (And.intro (And.intro @b3J @b0e) (And.intro @a8N @b6e))) (And.intro (And.intro (And.intro @b3k @a7U) (And.intro @a6q @b5c)) (And.intro (And.intro @b3f @b1E) (And.intro @a8W @b3o))))) (And.intro (And.intro (And.intro (And.intro (And.intro @b1a @b2J) (And.intro @b1X @b25)) (And.intro (And.intro @b1w @b69) (And.intro @b3H @c1d))) (And.intro (And.intro (And.intro @b56 @b5M) (And.intro @b3g @b6L)) (And.intro (And.intro @b2Q @b2O) (And.intro @b0y @b3p)))) (And.intro (And.intro (And.intro (And.intro @b6v @b3A) (And.intro @b7F @c52)) (And.intro (And.intro @c3o @c5A) (And.intro @c4M @c41))) (And.intro (And.intro (And.intro @c3P @b6S) (And.intro @b1b @b7h)) (And.intro (And.intro @c01 @b54) (And.intro @b6Y @c0c))))))):=(And.intro (And.intro (And.intro (And.intro (And.intro (And.intro @b5n (And.intro @a9o @a4V)) (And.intro (And.intro @c4I @c0U) (And.intro @c3T @c0G))) (And.intro (And.intro (And.intro @c4H @c6g) (And.intro @c0a @put_t)) (And.intro (And.intro @put_v @c1k) (And.intro @c1h @c5K)))) (And.intro (And.intro (And.intro (And.intro @c5p @c5X) (And.intro @c5R @c5s)) (And.intro (And.intro @c4y @c0r) (And.intro @c0E @c5i))) (And.intro (And.intro (And.intro @c3Y @c4t) (And.intro @c4X @c6m)) (And.intro (And.intro @b7d @b0k) (And.intro @b2H @b1B))))) (And.intro (And.intro (And.intro (And.intro @a8I (And.intro @b7o @b6G)) (And.intro (And.intro @b5e @b2X) (And.intro @c0u @c0q))) (And.intro (And.intro (And.intro @b9S @b7G) (And.intro @b5I @c0o)) (And.intro (And.intro @c0C @c0p) (And.intro @c1a @c1m)))) (And.intro (And.intro (And.intro (And.intro @b7H @b6l) (And.intro @c30 @b6f)) (And.intro (And.intro @c0M @b6c) (And.intro @c0R @b5N))) (And.intro (And.intro (And.intro @b5m @c0m) (And.intro @b91 @b2I)) (And.intro (And.intro @b0V @a8F) (And.intro @b6a @b7z)))))) (And.intro (And.intro (And.intro (And.intro (And.intro @b6Z (And.intro @b2F @c0A)) (And.intro (And.intro @c1e @c0x) (And.intro @b6r @c0t))) (And.intro (And.intro (And.intro @b99 @c0W) (And.intro @c0f @b6t)) (And.intro (And.intro @b6z @c5E) (And.intro @b7l @c0Z)))) (And.intro (And.intro (And.intro (And.intro @b5A @b95) (And.intro @c0h @b7Q)) (And.intro (And.intro @b3J @b0e) (And.intro @a8N @b6e))) (And.intro (And.intro (And.intro @b3k @a7U) (And.intro @a6q @b5c)) (And.intro (And.intro @b3f @b1E) (And.intro @a8W @b3o))))) (And.intro (And.intro (And.intro (And.intro (And.intro @b1a @b2J) (And.intro @b1X @b25)) (And.intro (And.intro @b1w @b69) (And.intro @b3H @c1d))) (And.intro (And.intro (And.intro @b56 @b5M) (And.intro @b3g @b6L)) (And.intro (And.intro @b2Q @b2O) (And.intro @b0y @b3p)))) (And.intro (And.intro (And.intro (And.intro @b6v @b3A) (And.intro @b7F @c52)) (And.intro (And.intro @c3o @c5A) (And.intro @c4M @c41))) (And.intro (And.intro (And.intro @c3P @b6S) (And.intro @b1b @b7h)) (And.intro (And.intro @c01 @b54) (And.intro @b6Y @c0c)))))))
end Go.Cb.V
/-
 THE ABSTRACT MACHINE, part 42: the operations told so that the kernel reckons them quickly, at any kind of answer (printed out of parts 38 and 39).
-/
set_option maxRecDepth 4000
set_option linter.unusedVariables false
set_option linter.unusedSimpArgs false
namespace Go.Cb.G
open Go Go.Cb
variable {ρ:Type}
/-! taking values apart -/
section
noncomputable def onI (x:AV) (e:(Option ρ)) (k:IntKind→Int→(Option ρ)):(Option ρ):=AV.rec (motive_1:=fun _=>(Option ρ)) (motive_2:=fun _=>Unit) (motive_3:=fun _=>Unit)
 e (fun _=>e) (fun t n=>k t n) (fun _=>e) (fun _ _ _=>e) (fun _ _=>e) e (fun _ _=>e) (fun _ _=>e) (fun _ _=>e) (fun _=>e) e (fun _ _ _ _ _=>e) e (fun _ _=>e) (fun _ _=>e) (fun _ _ _=>e) e (fun _ _ _ _=>e) (fun _ _=>e) e
 () (fun _ _ _ _=>()) () (fun _ _ _ _=>()) x
noncomputable def b9j (x:AV) (e:(Option ρ)) (k:IntKind→Int→(Option ρ)) (l:List Nat→(Option ρ)):(Option ρ):=AV.rec (motive_1:=fun _=>(Option ρ)) (motive_2:=fun _=>Unit) (motive_3:=fun _=>Unit)
 e (fun _=>e) (fun t n=>k t n) (fun s=>l s) (fun _ _ _=>e) (fun _ _=>e) e (fun _ _=>e) (fun _ _=>e) (fun _ _=>e) (fun _=>e) e (fun _ _ _ _ _=>e) e (fun _ _=>e) (fun _ _=>e) (fun _ _ _=>e) e (fun _ _ _ _=>e) (fun _ _=>e) e
 () (fun _ _ _ _=>()) () (fun _ _ _ _=>()) x
noncomputable def onS (x:AV) (e:(Option ρ)) (k:List Nat→(Option ρ)):(Option ρ):=AV.rec (motive_1:=fun _=>(Option ρ)) (motive_2:=fun _=>Unit) (motive_3:=fun _=>Unit)
 e (fun _=>e) (fun t n=>e) (fun s=>k s) (fun _ _ _=>e) (fun _ _=>e) e (fun _ _=>e) (fun _ _=>e) (fun _ _=>e) (fun _=>e) e (fun _ _ _ _ _=>e) e (fun _ _=>e) (fun _ _=>e) (fun _ _ _=>e) e (fun _ _ _ _=>e) (fun _ _=>e) e
 () (fun _ _ _ _=>()) () (fun _ _ _ _=>()) x
noncomputable def onB (x:AV) (e:(Option ρ)) (k:Bool→(Option ρ)):(Option ρ):=AV.rec (motive_1:=fun _=>(Option ρ)) (motive_2:=fun _=>Unit) (motive_3:=fun _=>Unit)
 e (fun b=>k b) (fun t n=>e) (fun s=>e) (fun _ _ _=>e) (fun _ _=>e) e (fun _ _=>e) (fun _ _=>e) (fun _ _=>e) (fun _=>e) e (fun _ _ _ _ _=>e) e (fun _ _=>e) (fun _ _=>e) (fun _ _ _=>e) e (fun _ _ _ _=>e) (fun _ _=>e) e
 () (fun _ _ _ _=>()) () (fun _ _ _ _=>()) x
noncomputable def c3v (x:AV) (e:(Option ρ)) (k:Bool→(Option ρ)) (t:List AV→(Option ρ)):(Option ρ):=AV.rec (motive_1:=fun _=>(Option ρ)) (motive_2:=fun _=>Unit) (motive_3:=fun _=>Unit)
 e (fun b=>k b) (fun t n=>e) (fun s=>e) (fun _ _ _=>e) (fun _ _=>e) e (fun _ _=>e) (fun _ _=>e) (fun _ _=>e) (fun _=>e) e (fun _ _ _ _ _=>e) e (fun _ _=>e) (fun vs _=>t vs) (fun _ _ _=>e) e (fun _ _ _ _=>e) (fun _ _=>e) e
 () (fun _ _ _ _=>()) () (fun _ _ _ _=>()) x
noncomputable def onL (x:AV) (e:(Option ρ)) (k:List (List AV)→(Option ρ)):(Option ρ):=AV.rec (motive_1:=fun _=>(Option ρ)) (motive_2:=fun _=>Unit) (motive_3:=fun _=>Unit)
 e (fun b=>e) (fun t n=>e) (fun s=>e) (fun _ xs _=>k xs) (fun _ _=>e) e (fun _ _=>e) (fun _ _=>e) (fun _ _=>e) (fun _=>e) e (fun _ _ _ _ _=>e) e (fun _ _=>e) (fun _ _=>e) (fun _ _ _=>e) e (fun _ _ _ _=>e) (fun _ _=>e) e
 () (fun _ _ _ _=>()) () (fun _ _ _ _=>()) x
noncomputable def onP (x:AV) (e:(Option ρ)) (k:Nat→Nat→(Option ρ)):(Option ρ):=AV.rec (motive_1:=fun _=>(Option ρ)) (motive_2:=fun _=>Unit) (motive_3:=fun _=>Unit)
 e (fun b=>e) (fun t n=>e) (fun s=>e) (fun _ xs _=>e) (fun o f=>k o f) e (fun _ _=>e) (fun _ _=>e) (fun _ _=>e) (fun _=>e) e (fun _ _ _ _ _=>e) e (fun _ _=>e) (fun _ _=>e) (fun _ _ _=>e) e (fun _ _ _ _=>e) (fun _ _=>e) e
 () (fun _ _ _ _=>()) () (fun _ _ _ _=>()) x
noncomputable def a9B (x:AV) (e:(Option ρ)) (k:Nat→Nat→(Option ρ)) (l:List AV→(Option ρ)) (m:Nat→Nat→(Option ρ)):(Option ρ):=AV.rec (motive_1:=fun _=>(Option ρ)) (motive_2:=fun _=>Unit) (motive_3:=fun _=>Unit)
 e (fun b=>e) (fun t n=>e) (fun s=>e) (fun _ xs _=>e) (fun o f=>k o f) e (fun cs _=>l cs) (fun i f=>m i f) (fun _ _=>e) (fun _=>e) e (fun _ _ _ _ _=>e) e (fun _ _=>e) (fun _ _=>e) (fun _ _ _=>e) e (fun _ _ _ _=>e) (fun _ _=>e) e
 () (fun _ _ _ _=>()) () (fun _ _ _ _=>()) x
noncomputable def onR (x:AV) (e:(Option ρ)) (l:List AV→(Option ρ)):(Option ρ):=AV.rec (motive_1:=fun _=>(Option ρ)) (motive_2:=fun _=>Unit) (motive_3:=fun _=>Unit)
 e (fun b=>e) (fun t n=>e) (fun s=>e) (fun _ xs _=>e) (fun o f=>e) e (fun cs _=>l cs) (fun _ _=>e) (fun _ _=>e) (fun _=>e) e (fun _ _ _ _ _=>e) e (fun _ _=>e) (fun _ _=>e) (fun _ _ _=>e) e (fun _ _ _ _=>e) (fun _ _=>e) e
 () (fun _ _ _ _=>()) () (fun _ _ _ _=>()) x
noncomputable def b5a (x:AV) (e:(Option ρ)) (l:List AV→(Option ρ)):(Option ρ):=AV.rec (motive_1:=fun _=>(Option ρ)) (motive_2:=fun _=>Unit) (motive_3:=fun _=>Unit)
 e (fun b=>e) (fun t n=>e) (fun s=>e) (fun _ xs _=>e) (fun o f=>e) e (fun cs _=>e) (fun _ _=>e) (fun cs _=>l cs) (fun _=>e) e (fun _ _ _ _ _=>e) e (fun _ _=>e) (fun _ _=>e) (fun _ _ _=>e) e (fun _ _ _ _=>e) (fun _ _=>e) e
 () (fun _ _ _ _=>()) () (fun _ _ _ _=>()) x
noncomputable def b8B (x:AV) (e:(Option ρ)) (l:Nat→Nat→(Option ρ)):(Option ρ):=AV.rec (motive_1:=fun _=>(Option ρ)) (motive_2:=fun _=>Unit) (motive_3:=fun _=>Unit)
 e (fun b=>e) (fun t n=>e) (fun s=>e) (fun _ xs _=>e) (fun o f=>e) e (fun cs _=>e) (fun i f=>l i f) (fun cs _=>e) (fun _=>e) e (fun _ _ _ _ _=>e) e (fun _ _=>e) (fun _ _=>e) (fun _ _ _=>e) e (fun _ _ _ _=>e) (fun _ _=>e) e
 () (fun _ _ _ _=>()) () (fun _ _ _ _=>()) x

theorem X7 (x:AV) (e:(Option ρ)) (k:IntKind→Int→(Option ρ)):onI x e k=match x with|.int t n=>k t n|_=>e:=by cases x <;> rfl
theorem b3y (x:AV) (e:(Option ρ)) (k:IntKind→Int→(Option ρ)) (l:List Nat→(Option ρ)):b9j x e k l=match x with|.int t n=>k t n|.str s=>l s|_=>e:=by cases x <;> rfl
theorem a2v (x:AV) (e:(Option ρ)) (k:List Nat→(Option ρ)):onS x e k=match x with|.str s=>k s|_=>e:=by cases x <;> rfl
theorem b1c (x:AV) (e:(Option ρ)) (k:Bool→(Option ρ)):onB x e k=match x with|.bool b=>k b|_=>e:=by cases x <;> rfl
theorem c2I (x:AV) (e:(Option ρ)) (k:Bool→(Option ρ)) (t:List AV→(Option ρ)):c3v x e k t=match x with|.bool b=>k b|.tuple vs=>t vs|_=>e:=by cases x <;> rfl
theorem b0C (x:AV) (e:(Option ρ)) (k:List (List AV)→(Option ρ)):onL x e k=match x with|.list _ xs=>k xs|_=>e:=by cases x <;> rfl
theorem b5r (x:AV) (e:(Option ρ)) (k:Nat→Nat→(Option ρ)):onP x e k=match x with|.ptr o f=>k o f|_=>e:=by cases x <;> rfl
theorem a4Q (x:AV) (e:(Option ρ)) (k:Nat→Nat→(Option ρ)) (l:List AV→(Option ρ)) (m:Nat→Nat→(Option ρ)):a9B x e k l m=match x with|.ptr o f=>k o f|.ro cs=>l cs|.loc i f=>m i f|_=>e:=by cases x <;> rfl
theorem c4j (x:AV) (e:(Option ρ)) (l:List AV→(Option ρ)):onR x e l=match x with|.ro cs=>l cs|_=>e:=by cases x <;> rfl
theorem a7j (x:AV) (e:(Option ρ)) (l:List AV→(Option ρ)):b5a x e l=match x with|.box cs=>l cs|_=>e:=by cases x <;> rfl
theorem b2W (x:AV) (e:(Option ρ)) (l:Nat→Nat→(Option ρ)):b8B x e l=match x with|.loc i f=>l i f|_=>e:=by cases x <;> rfl
end

noncomputable def kIx (k:IntKind):Nat:=IntKind.rec (motive:=fun _=>Nat) 0 1 2 3 4 5 6 7 k
noncomputable def cB (b:Bool) (x y:(Option ρ)):(Option ρ):=Bool.rec (motive:=fun _=>(Option ρ)) y x b
theorem N0 (b:Bool) (x y:(Option ρ)):cB b x y=if b=true then x else y:=by cases b <;> rfl
theorem a2T (a b:IntKind):Nat.beq (kIx a) (kIx b)=decide (a=b):=by cases a <;> cases b <;> rfl
noncomputable def bo (b:Bool) (k:AV→(Option ρ)):(Option ρ):=cB b (k (.bool true)) (k (.bool false))
theorem a6K (b:Bool) (k:AV→(Option ρ)):bo b k=k (.bool b):=by cases b <;> rfl
noncomputable def a4v (n:Nat) (k:Nat→(Option ρ)):(Option ρ):=Nat.rec (motive:=fun _=>(Option ρ)) (k 0) (fun m _=>k (Nat.succ m)) n
theorem a1B (n:Nat) (k:Nat→(Option ρ)):a4v n k=k n:=by cases n <;> rfl
noncomputable def nn (a b:Int) (e:(Option ρ)) (k:Nat→Nat→(Option ρ)):(Option ρ):=Int.rec (motive:=fun _=>(Option ρ)) (fun a=>Int.rec (motive:=fun _=>(Option ρ)) (fun b=>k a b) (fun _=>e) b) (fun _=>e) a
theorem a27 (a b:Int) (e:(Option ρ)) (k:Nat→Nat→(Option ρ)):nn a b e k=match a,b with|.ofNat a,.ofNat b=>k a b|_,_=>e:=by cases a <;> cases b <;> rfl
noncomputable def eqF (x:List Nat):List Nat→Bool:=List.rec (motive:=fun _=>List Nat→Bool) (fun y=>List.rec (motive:=fun _=>Bool) true (fun _ _ _=>false) y)
 (fun a _ ih y=>List.rec (motive:=fun _=>Bool) false (fun b t _=>Bool.rec (motive:=fun _=>Bool) false (ih t) (Nat.beq a b)) y) x
theorem b04:∀ x y:List Nat,eqF x y=eqN x y
 | [],[]=>rfl
 | [],_::_=>rfl
 | _::_,[]=>rfl
 | a::x,b::y=>by
  have ih:=b04 x y
  show (Bool.rec (motive:=fun _=>Bool) false (eqF x y) (Nat.beq a b))=(Nat.beq a b && eqN x y)
  rw [ih]
  cases Nat.beq a b <;> rfl
noncomputable def a2y {β:Type} (l:List β) (e:(Option ρ)) (k:β→(Option ρ)):Nat→(Option ρ):=List.rec (motive:=fun _=>Nat→(Option ρ)) (fun _=>e) (fun a _ ih i=>Nat.rec (motive:=fun _=>(Option ρ)) (k a) (fun j _=>ih j) i) l
theorem a1p {β:Type}:∀ (l:List β) (e:(Option ρ)) (k:β→(Option ρ)) (i:Nat),a2y l e k i=match l[i]? with|some a=>k a|none=>e
 | [],e,k,i=>by cases i <;> rfl
 | a::l,e,k,0=>rfl
 | a::l,e,k,i+1=>by
  have:=a1p l e k i
  show a2y l e k i=_
  rw [this]
  simp
noncomputable def K9 {β:Type} (l:List β):Nat:=List.rec (motive:=fun _=>Nat) 0 (fun _ _ n=>Nat.add n 1) l
theorem H5 {β:Type}:∀ l:List β,K9 l=l.length
 | []=>rfl
 | a::l=>by
  show Nat.add (K9 l) 1=_
  rw [H5 l]
  rfl
noncomputable def a6G (n:Nat):List AV→List AV:=Nat.rec (motive:=fun _=>List AV→List AV) (fun l=>l) (fun _ ih l=>List.rec (motive:=fun _=>List AV) [] (fun _ t _=>ih t) l) n
theorem a0F:∀ (n:Nat) (l:List AV),a6G n l=l.drop n
 | 0,l=>rfl
 | n+1,[]=>rfl
 | n+1,a::l=>a0F n l
noncomputable def a9F {β:Type} (i:Nat) (l:List β):List β:=Nat.rec (motive:=fun _=>List β) l (fun _ ih=>List.rec (motive:=fun _=>List β) [] (fun _ t _=>t) ih) i
theorem a4o {β:Type}:∀ (i:Nat) (l:List β),a9F i l=l.drop i
 | 0,l=>rfl
 | i+1,l=>by
  have:=a4o i l
  show List.rec (motive:=fun _=>List β) [] (fun _ t _=>t) (a9F i l)=_
  rw [this,show l.drop (i+1)=(l.drop i).drop 1 by rw [List.drop_drop]]
  cases l.drop i <;> rfl
noncomputable def atO {β:Type} (l:List β) (e:(Option ρ)) (k:β→(Option ρ)) (i:Nat):(Option ρ):=List.rec (motive:=fun _=>(Option ρ)) e (fun a _ _=>k a) (a9F i l)
theorem b67 {β:Type} (l:List β) (e:(Option ρ)) (k:β→(Option ρ)) (i:Nat):atO l e k i=match l[i]? with|some a=>k a|none=>e:=by
 unfold atO
 rw [a4o]
 have h:l[i]?=(l.drop i)[0]?:=by simp
 rw [h]
 cases l.drop i <;> rfl
noncomputable def a9y {β:Type} (n:Nat) (l:List β) (k:List β→(Option ρ)):(Option ρ):=Nat.rec (motive:=fun _=>List β→(List β→(Option ρ))→(Option ρ)) (fun _ k=>k []) (fun _ ih l k=>List.rec (motive:=fun _=>(Option ρ)) (k []) (fun a t _=>ih t fun r=>k (a::r)) l) n l k
theorem a1X {β:Type}:∀ (n:Nat) (l:List β) (k:List β→(Option ρ)),a9y n l k=k (l.take n)
 | 0,l,k=>by show k []=_; rw [List.take_zero]
 | n+1,[],k=>rfl
 | n+1,a::l,k=>a1X n l fun r=>k (a::r)
noncomputable def b3T {β:Type} (l r:List β) (k:List β→(Option ρ)):(Option ρ):=List.rec (motive:=fun _=>(List β→(Option ρ))→(Option ρ)) (fun k=>k r) (fun a _ ih k=>ih fun t=>k (a::t)) l k
theorem a7g {β:Type} (r:List β):∀ (l:List β) (k:List β→(Option ρ)),b3T l r k=k (l++r)
 | [],k=>rfl
 | a::l,k=>a7g r l fun t=>k (a::t)
noncomputable def b94 (l:List AV) (e:(Option ρ)) (k:AV→(Option ρ)):(Option ρ):=List.rec (motive:=fun _=>(Option ρ)) e (fun a _ _=>k a) l
theorem b7T (l:List AV) (e:(Option ρ)) (k:AV→(Option ρ)):b94 l e k=match l with|a::_=>k a|[]=>e:=by cases l <;> rfl

noncomputable def w1K (x:AV) (k:AV→(Option ρ)):(Option ρ):=AV.rec (motive_1:=fun _=>(Option ρ)) (motive_2:=fun _=>Unit) (motive_3:=fun _=>Unit)
 (k .undef) (fun b=>k (.bool b)) (fun t n=>k (.int t n)) (fun s=>k (.str s)) (fun _ xs _=>k (.list false xs)) (fun o f=>k (.ptr o f)) (k .nilp) (fun cs _=>k (.ro cs)) (fun i f=>k (.loc i f)) (fun cs _=>k (.box cs)) (fun o=>k (.map o)) (k .nilm) (fun f a c _ _=>k (.func f a c)) (k .nilf) (fun cs _=>k (.agg cs)) (fun vs _=>k (.tuple vs)) (fun t v _=>k (.iface t v)) (k .nili) (fun o f n s=>k (.sl o f n s)) (fun xs _=>k (.fresh xs)) (k .nils)
 () (fun _ _ _ _=>()) () (fun _ _ _ _=>()) x
theorem b7i (x:AV) (k:AV→(Option ρ)):w1K x k=k x.weak1:=by cases x <;> rfl
noncomputable def b8N (l:List AV) (k:List AV→(Option ρ)):(Option ρ):=List.rec (motive:=fun _=>(List AV→(Option ρ))→(Option ρ)) (fun k=>k []) (fun a _ ih k=>w1K a fun w=>ih fun r=>k (w::r)) l k
theorem b3Q:∀ (l:List AV) (k:List AV→(Option ρ)),b8N l k=k (l.map AV.weak1)
 | [],k=>rfl
 | a::l,k=>by
  show w1K a (fun w=>b8N l fun r=>k (w::r))=_
  rw [b7i,b3Q l]
  rfl

noncomputable def a5m {β:Type} (l:List β) (e:(Option ρ)) (k:List β→(Option ρ)):(Option ρ):=List.rec (motive:=fun _=>(Option ρ)) e (fun _ l _=>List.rec (motive:=fun _=>(Option ρ)) e (fun _ l _=>List.rec (motive:=fun _=>(Option ρ)) e (fun _ l _=>List.rec (motive:=fun _=>(Option ρ)) e (fun _ l _=>List.rec (motive:=fun _=>(Option ρ)) e (fun _ l _=>List.rec (motive:=fun _=>(Option ρ)) e (fun _ l _=>List.rec (motive:=fun _=>(Option ρ)) e (fun _ l _=>List.rec (motive:=fun _=>(Option ρ)) e (fun _ l _=>k l) l) l) l) l) l) l) l) l
theorem b8h {β:Type} (l:List β) (e:(Option ρ)) (k:List β→(Option ρ)):a5m l e k=if 8≤l.length then k (l.drop 8) else e:=by
 match l with
 | []=>rfl
 | [_]=>rfl
 | [_,_]=>rfl
 | [_,_,_]=>rfl
 | [_,_,_,_]=>rfl
 | [_,_,_,_,_]=>rfl
 | [_,_,_,_,_,_]=>rfl
 | [_,_,_,_,_,_,_]=>rfl
 | _::_::_::_::_::_::_::_::t=>rw [if_pos (by simp)]; rfl
noncomputable def b4Z {β:Type} (l:List β) (e:(Option ρ)) (k:β→(Option ρ)) (i:Nat):(Option ρ):=Nat.rec (motive:=fun _=>List β→(Option ρ)) (fun l=>a2y l e k (Nat.mod i 8)) (fun _ ih l=>a5m l e ih) (Nat.div i 8) l
theorem b23 {β:Type} (e:(Option ρ)) (k:β→(Option ρ)) (r:Nat):∀ (q:Nat) (l:List β),Nat.rec (motive:=fun _=>List β→(Option ρ)) (fun l=>a2y l e k r) (fun _ ih l=>a5m l e ih) q l=a2y l e k (8*q+r)
 | 0,l=>by show a2y l e k r=_; rw [Nat.mul_zero,Nat.zero_add]
 | q+1,l=>by
  show a5m l e (fun l=>Nat.rec (motive:=fun _=>List β→(Option ρ)) (fun l=>a2y l e k r) (fun _ ih l=>a5m l e ih) q l)=_
  rw [b8h,b23 e k r q (l.drop 8),a1p,a1p]
  split
  · rw [List.getElem?_drop,show 8+(8*q+r)=8*(q+1)+r by omega]
  · rw [List.getElem?_eq_none (by omega)]
theorem b3m {β:Type} (l:List β) (e:(Option ρ)) (k:β→(Option ρ)) (i:Nat):b4Z l e k i=match l[i]? with|some a=>k a|none=>e:=by
 unfold b4Z
 rw [b23 e k (Nat.mod i 8) (Nat.div i 8) l,a1p,show 8*Nat.div i 8+Nat.mod i 8=i from Nat.div_add_mod i 8]
noncomputable def b0h {β:Type} (l:List β) (e:(Option ρ)) (ih:List β→(List β→(Option ρ))→(Option ρ)) (k:List β→(Option ρ)):(Option ρ):=List.rec (motive:=fun _=>(Option ρ)) e (fun a0 l _=>List.rec (motive:=fun _=>(Option ρ)) e (fun a1 l _=>List.rec (motive:=fun _=>(Option ρ)) e (fun a2 l _=>List.rec (motive:=fun _=>(Option ρ)) e (fun a3 l _=>List.rec (motive:=fun _=>(Option ρ)) e (fun a4 l _=>List.rec (motive:=fun _=>(Option ρ)) e (fun a5 l _=>List.rec (motive:=fun _=>(Option ρ)) e (fun a6 l _=>List.rec (motive:=fun _=>(Option ρ)) e (fun a7 l _=>ih l (fun r=>k (a0::a1::a2::a3::a4::a5::a6::a7::r))) l) l) l) l) l) l) l) l
theorem c2p {β:Type} (l:List β) (e:(Option ρ)) (ih:List β→(List β→(Option ρ))→(Option ρ)) (k:List β→(Option ρ)):b0h l e ih k=if 8≤l.length then ih (l.drop 8) (fun r=>k (l.take 8++r)) else e:=by
 match l with
 | []=>rfl
 | [_]=>rfl
 | [_,_]=>rfl
 | [_,_,_]=>rfl
 | [_,_,_,_]=>rfl
 | [_,_,_,_,_]=>rfl
 | [_,_,_,_,_,_]=>rfl
 | [_,_,_,_,_,_,_]=>rfl
 | _::_::_::_::_::_::_::_::t=>rw [if_pos (by simp)]; rfl
/-! the operations -/
section
variable (c:b9) (b:AV) (s:St) (f:AV→(Option ρ))
noncomputable def b76 (x y:AV):(Option ρ):=b9j x none (fun t m=>onI y none fun u n=>cB (Nat.beq (kIx t) (kIx u)) (nn m n (bo (eqI m n) f) fun a b=>bo (Nat.beq a b) f) none) (fun l=>onS y none fun r=>bo (eqF l r) f)
noncomputable def b8v (x y:AV):(Option ρ):=b9j x none (fun t m=>onI y none fun u n=>cB (Nat.beq (kIx t) (kIx u)) (nn m n (bo (!eqI m n) f) fun a b=>cB (Nat.beq a b) (f (.bool false)) (f (.bool true))) none) (fun l=>onS y none fun r=>cB (eqF l r) (f (.bool false)) (f (.bool true)))
noncomputable def a07 (op:BinOp) (g:Nat→Nat→Bool) (x y:AV):(Option ρ):=onI x (obind (p1 (sem (.bin op) c [x,y] b s)) f) (fun t m=>onI y none fun u n=>cB (Nat.beq (kIx t) (kIx u)) (nn m n (obind (p1 (sem (.bin op) c [.int t m,.int u n] b s)) f) fun a b=>bo (g a b) f) none)
noncomputable def b70 (x y:AV):(Option ρ):=onI x (obind (p1 (sem (.bin .add) c [x,y] b s)) f) (fun t m=>onI y none fun u n=>cB (Nat.beq (kIx t) (kIx u)) (nn m n (obind (p1 (sem (.bin .add) c [.int t m,.int u n] b s)) f)
 fun i j=>a4v (Nat.add i j) fun r=>cB (Nat.blt r 128) (f (.int t (.ofNat r))) (cB (Nat.beq (kIx t) 3) (cB (Nat.blt r 9223372036854775808) (f (.int t (.ofNat r))) (obind (p1 (sem (.bin .add) c [.int t m,.int u n] b s)) f)) (obind (p1 (sem (.bin .add) c [.int t m,.int u n] b s)) f))) none)
noncomputable def b9s (x y:AV):(Option ρ):=onI x (obind (p1 (sem (.bin .sub) c [x,y] b s)) f) (fun t m=>onI y none fun u n=>cB (Nat.beq (kIx t) (kIx u)) (nn m n (obind (p1 (sem (.bin .sub) c [.int t m,.int u n] b s)) f)
 fun i j=>cB (Nat.ble j i) (a4v (Nat.sub i j) fun r=>cB (Nat.blt r 128) (f (.int t (.ofNat r))) (cB (Nat.beq (kIx t) 3) (cB (Nat.blt r 9223372036854775808) (f (.int t (.ofNat r))) (obind (p1 (sem (.bin .sub) c [.int t m,.int u n] b s)) f)) (obind (p1 (sem (.bin .sub) c [.int t m,.int u n] b s)) f))) (obind (p1 (sem (.bin .sub) c [.int t m,.int u n] b s)) f)) none)
noncomputable def b87 (x:AV):(Option ρ):=onB x none fun y=>cB y (f (.bool false)) (f (.bool true))
noncomputable def b0w (x:AV):(Option ρ):=cB x.plain (f x) none
noncomputable def b4U (x y z:AV):(Option ρ):=onB x none fun v=>cB v (b0w f y) (b0w f z)
noncomputable def b8t (x:AV):(Option ρ):=a9B x (obind (p1 (sem .nilchk c [x] b s)) f) (fun o i=>f (.ptr o i)) (fun cs=>f (.ro cs)) (fun i j=>f (.loc i j))
noncomputable def b78 (d:Nat) (x:AV):(Option ρ):=a9B x none (fun o i=>a4v (Nat.add i d) fun i=>f (.ptr o i)) (fun cs=>f (.ro (a6G d cs))) (fun o i=>a4v (Nat.add i d) fun i=>f (.loc o i))
noncomputable def a24 (ag:Bool) (n:Nat) (cs:List AV):(Option ρ):=cB ag (cB (Nat.ble n (K9 cs)) (a9y n cs fun r=>b8N r fun r=>f (.agg r)) none) (b94 cs none fun x=>w1K x f)
noncomputable def b1h (x:Obj) (k:List AV→(Option ρ)):(Option ρ):=Obj.rec (motive:=fun _=>(Option ρ)) k (fun _=>none) none x
noncomputable def a6B (ag:Bool) (n:Nat) (x:AV):(Option ρ):=onP x none fun o i=>b4Z s none (fun ob=>b1h ob fun cs=>a24 f ag n (a6G i cs)) o
noncomputable def a5H (ag:Bool) (n:Nat) (x:AV):(Option ρ):=onR x none fun cs=>a24 f ag n cs
noncomputable def b4W (i:Nat) (ag:Bool) (n:Nat) (x:AV):(Option ρ):=b8B x none fun j off=>b5a b none fun cs=>cB (Nat.beq i j) (a24 f ag n (a6G off cs)) none
noncomputable def b40 (x:AV):(Option ρ):=onS x none fun l=>a4v (K9 l) fun n=>f (.int .i64 (.ofNat n))
noncomputable def b4u (x:AV):(Option ρ):=onL x (obind (p1 (sem .lenL c [x] b s)) f) fun l=>a4v (K9 l) fun n=>f (.int .i64 (.ofNat n))
noncomputable def b9C (x y:AV):(Option ρ):=onS x none fun l=>onI y none fun _ n=>Int.rec (motive:=fun _=>(Option ρ)) (fun i=>atO l none (fun m=>f (.int .u8 (.ofNat m))) i) (fun _=>none) n
noncomputable def b8r (sz:Nat) (x y:AV):(Option ρ):=onL x (obind (p1 (sem (.iad sz) c [x,y] b s)) f) fun l=>onI y none fun _ n=>Int.rec (motive:=fun _=>(Option ρ)) (fun i=>atO l none (fun r=>cB (Nat.beq (K9 r) sz) (f (.ro r)) none) i) (fun _=>none) n
end

section
variable (c:b9) (b:AV) (s:St) (f:AV→(Option ρ))
theorem c1Z (x y:AV):b76 f x y=obind (p1 (sem (.bin .eql) c [x,y] b s)) f:=by
 simp only [b76,b3y,X7,a2v,N0,a6K,a27,b04,a2T,sem,B0]
 cases x <;> cases y <;> try rfl
 · rename_i t m u n
   by_cases h:t=u
   · subst h
     cases m <;> cases n <;> simp [l8,p1,obind,eqI]
   · simp [l8,h,p1,obind]
theorem c2b (x y:AV):b8v f x y=obind (p1 (sem (.bin .neq) c [x,y] b s)) f:=by
 simp only [b8v,b3y,X7,a2v,N0,a6K,a27,b04,a2T,sem,B0]
 cases x <;> cases y <;> try rfl
 · rename_i t m u n
   by_cases h:t=u
   · subst h
     cases m <;> cases n <;> simp [l8,p1,obind,eqI]
     rename_i m n
     by_cases h:m=n
     · subst h; simp
     · have e:Nat.beq m n=false:=Bool.eq_false_iff.mpr (fun q=>h (Nat.eq_of_beq_eq_true q))
       simp [e,h]
   · simp [l8,h,p1,obind]
 · rename_i l r
   simp only [l8,Option.map_some,p1,obind]
   cases eqN l r <;> rfl
theorem b8l {op:BinOp} (ho:op=.lss∨op=.leq∨op=.gtr∨op=.geq) (t:IntKind) (m:Int) (y:AV) (hy:∀ u n,y≠.int u n):l8 op (.int t m) y=none:=by
 cases y <;> first|(exfalso; exact hy _ _ rfl)|(rcases ho with rfl|rfl|rfl|rfl <;> rfl)
theorem c6a {op:BinOp} (ho:op=.lss∨op=.leq∨op=.gtr∨op=.geq) {t u:IntKind} (h:t≠u) (m n:Int):l8 op (.int t m) (.int u n)=none:=by
 rcases ho with rfl|rfl|rfl|rfl <;> simp [l8,h]
theorem a3m (op:BinOp) (g:Nat→Nat→Bool) (ho:op=.lss∨op=.leq∨op=.gtr∨op=.geq) (hg:∀ (t:IntKind) (i j:Nat),l8 op (.int t (.ofNat i)) (.int t (.ofNat j))=some (.bool (g i j))) (x y:AV):a07 c b s f op g x y=obind (p1 (sem (.bin op) c [x,y] b s)) f:=by
 simp only [a07,X7,N0,a6K,a27,a2T]
 cases x <;> try rfl
 rename_i t m
 cases y
 case int u n =>
  simp only
  by_cases h:t=u
  · subst h
    simp only [decide_true,if_true]
    cases m <;> cases n <;> try rfl
    rename_i i j
    simp only [sem,B0,hg,Option.map_some,p1,obind]
  · simp only [h,decide_false,Bool.false_eq_true,if_false,sem,B0,c6a ho h,Option.map_none,p1,obind]
 all_goals (simp only [sem,B0]; rw [b8l ho _ _ _ (by simp)]; rfl)
theorem a6y (t:IntKind) {r:Nat} (h:r < 128):p8 t (Int.ofNat r)=Int.ofNat r:=by
 rw [N6]
 cases t <;> simp [IntKind.wrap,IntKind.signed,IntKind.bits] <;> omega
theorem a9i {r:Nat} (h:r < 9223372036854775808):p8 .i64 (Int.ofNat r)=Int.ofNat r:=by
 simp only [p8]
 rw [if_pos (by simpa using h)]
theorem c0S (t:IntKind):Nat.beq (kIx t) 3=true→t=.i64:=by cases t <;> decide
theorem a5a {op:BinOp} (ho:op=.add∨op=.sub) (t:IntKind) (m:Int) (y:AV) (hy:∀ u n,y≠.int u n):l8 op (.int t m) y=none:=by
 cases y <;> first|(exfalso; exact hy _ _ rfl)|(rcases ho with rfl|rfl <;> rfl)
theorem c3k (x y:AV):b70 c b s f x y=obind (p1 (sem (.bin .add) c [x,y] b s)) f:=by
 simp only [b70,X7,N0,a6K,a27,a2T,a1B]
 cases x <;> try rfl
 rename_i t m
 cases y
 case int u n =>
  simp only
  by_cases h:t=u
  · subst h
    simp only [decide_true,if_true]
    cases m <;> cases n <;> try rfl
    rename_i i j
    dsimp only
    have e:∀ r,Nat.add i j=r→p8 t (Int.ofNat r)=Int.ofNat r→f (.int t (.ofNat r))=obind (p1 (sem (.bin .add) c [.int t (.ofNat i),.int t (.ofNat j)] b s)) f:=fun r hr hw=>by
     subst hr
     simp only [sem,B0,l8,if_true,a7a,hw,Option.map_some,p1,obind]
    split
    · rename_i hl
      exact e _ rfl (a6y t (by simpa using hl))
    · split
      · rename_i hk
        have:=c0S t hk
        subst this
        split
        · rename_i hl
          exact e _ rfl (a9i (by simpa using hl))
        · rfl
      · rfl
  · simp only [h,decide_false,Bool.false_eq_true,if_false,sem,B0,l8,Option.map_none,p1,obind]
 all_goals (simp only [sem,B0]; rw [a5a (.inl rfl) _ _ _ (by simp)]; rfl)
theorem c1C (x y:AV):b9s c b s f x y=obind (p1 (sem (.bin .sub) c [x,y] b s)) f:=by
 simp only [b9s,X7,N0,a6K,a27,a2T,a1B]
 cases x <;> try rfl
 rename_i t m
 cases y
 case int u n =>
  simp only
  by_cases h:t=u
  · subst h
    simp only [decide_true,if_true]
    cases m <;> cases n <;> try rfl
    rename_i i j
    dsimp only
    split
    · rename_i hle
      have e:∀ r,Nat.sub i j=r→p8 t (Int.ofNat r)=Int.ofNat r→f (.int t (.ofNat r))=obind (p1 (sem (.bin .sub) c [.int t (.ofNat i),.int t (.ofNat j)] b s)) f:=fun r hr hw=>by
       subst hr
       simp only [sem,B0,l8,if_true,a4t,hle,hw,Option.map_some,p1,obind]
      split
      · rename_i hl
        exact e _ rfl (a6y t (by simpa using hl))
      · split
        · rename_i hk
          have:=c0S t hk
          subst this
          split
          · rename_i hl
            exact e _ rfl (a9i (by simpa using hl))
          · rfl
        · rfl
    · rfl
  · simp only [h,decide_false,Bool.false_eq_true,if_false,sem,B0,l8,Option.map_none,p1,obind]
 all_goals (simp only [sem,B0]; rw [a5a (.inr rfl) _ _ _ (by simp)]; rfl)
theorem c1L (x:AV):b87 f x=obind (p1 (sem (.un .not) c [x] b s)) f:=by
 simp only [b87,b1c,N0,sem]
 cases x <;> try rfl
 rename_i y; cases y <;> rfl
theorem b9x (x y z:AV):b4U f x y z=obind (p1 (sem .pick c [x,y,z] b s)) f:=by
 simp only [b4U,b0w,b1c,N0,sem]
 cases x <;> try rfl
 rename_i v
 cases v
 · simp only [C1,Bool.false_eq_true,if_false]; split <;> rfl
 · simp only [C1,if_true]; split <;> rfl
theorem c1q (x:AV):b8t c b s f x=obind (p1 (sem .nilchk c [x] b s)) f:=by
 simp only [b8t,a4Q]
 cases x <;> rfl
theorem c1n (d:Nat) (x:AV):b78 f d x=obind (p1 (sem (.fad d) c [x] b s)) f:=by
 simp only [b78,a4Q,a1B,a0F]
 cases x <;> rfl
theorem a2g (ag:Bool) (n:Nat) (cs:List AV):a24 f ag n cs=match j4 ag n cs with|some v=>f v|none=>none:=by
 simp only [a24,N0,b7T,H5,a1X,b3Q,b7i]
 cases ag
 · cases cs <;> rfl
 · simp only [j4,if_true]
   by_cases h:n≤cs.length
   · have e:Nat.ble n cs.length=true:=by simpa using h
     simp only [e,h,if_true]
   · have e:Nat.ble n cs.length=false:=Bool.eq_false_iff.mpr (fun q=>h (Nat.le_of_ble_eq_true q))
     simp only [e,h,Bool.false_eq_true,if_false]
theorem a7M (x:Obj) (k:List AV→(Option ρ)):b1h x k=match x with|.cells cs=>k cs|_=>none:=by cases x <;> rfl
theorem b1J {x:Option AV}:obind (p1 (x.map fun v=>(v,b,s))) f=match x with|some v=>f v|none=>none:=by cases x <;> rfl
theorem b0v (ag:Bool) (n:Nat) (x:AV):a6B s f ag n x=obind (p1 (sem (.ldSt ag n) c [x] b s)) f:=by
 simp only [a6B,b5r,b3m,a7M,a2g,a0F]
 cases x <;> try rfl
 rename_i o i
 simp only [sem,C2]
 cases s[o]? with
 | none=>rfl
 | some ob=>cases ob <;> first|rfl|exact (b1J b s f).symm
theorem b0I (ag:Bool) (n:Nat) (x:AV):a5H f ag n x=obind (p1 (sem (.ldRo ag n) c [x] b s)) f:=by
 simp only [a5H,c4j,a2g]
 cases x <;> try rfl
 exact (b1J b s f).symm
theorem b9k (i:Nat) (ag:Bool) (n:Nat) (x:AV):b4W b f i ag n x=obind (p1 (sem (.ldLc i ag n) c [x] b s)) f:=by
 simp only [b4W,b2W,a7j,a2g,a0F,N0]
 cases x <;> try rfl
 rename_i j off
 cases b <;> try rfl
 rename_i cs
 simp only [sem,J8]
 by_cases h:i=j
 · simp only [h,Nat.beq_refl,if_true]
   exact (b1J _ s f).symm
 · have:Nat.beq i j=false:=Bool.eq_false_iff.mpr (fun q=>h (Nat.eq_of_beq_eq_true q))
   simp only [this,h,Bool.false_eq_true,if_false]
   rfl
theorem b9d (x:AV):b40 f x=obind (p1 (sem .lenS c [x] b s)) f:=by
 simp only [b40,a2v,a1B,H5]
 cases x <;> rfl
theorem b9w (x:AV):b4u c b s f x=obind (p1 (sem .lenL c [x] b s)) f:=by
 simp only [b4u,b0C,a1B,H5]
 cases x <;> rfl
theorem c2g (x y:AV):b9C f x y=obind (p1 (sem .idxS c [x,y] b s)) f:=by
 simp only [b9C,a2v,X7,b67]
 cases x <;> try rfl
 cases y <;> try rfl
 rename_i l k n
 simp only [sem,M7]
 cases n with
 | ofNat i =>
  have e:(Int.ofNat i).toNat=i:=rfl
  simp only [Int.ofNat_eq_natCast,Int.natCast_nonneg,if_true,Int.toNat_natCast]
  cases l[i]? <;> rfl
 | negSucc i=>rfl
theorem c2j (sz:Nat) (x y:AV):b8r c b s f sz x y=obind (p1 (sem (.iad sz) c [x,y] b s)) f:=by
 simp only [b8r,b0C,X7,b67,N0,H5]
 cases x <;> try rfl
 cases y <;> try rfl
 rename_i w l k n
 simp only [sem,G8]
 cases n with
 | ofNat i =>
  simp only [Int.ofNat_eq_natCast,Int.natCast_nonneg,if_true,Int.toNat_natCast]
  cases l[i]? with
  | none=>rfl
  | some r =>
   by_cases h:r.length=sz
   · have:Nat.beq r.length sz=true:=by rw [h]; exact Nat.beq_refl sz
     simp only [this,if_true,if_pos h]
     rfl
   · have:Nat.beq r.length sz=false:=Bool.eq_false_iff.mpr (fun q=>h (Nat.eq_of_beq_eq_true q))
     simp only [this,h,Bool.false_eq_true,if_false]
     rfl
 | negSucc i=>rfl
end
noncomputable def qSb (x:AV) (k:AV→AV→(Option ρ)):(Option ρ):=AV.rec (motive_1:=fun _=>(Option ρ)) (motive_2:=fun _=>Unit) (motive_3:=fun _=>Unit)
 (k .undef .undef)
 (fun b=>k (.bool b) (.bool b))
 (fun t n=>k (.int t n) (.int t n))
 (fun s=>k (.str s) (.str s))
 (fun o xs _=>k (.list o xs) (.list false xs))
 (fun o f=>k (.ptr o f) (.ptr o f))
 (k .nilp .nilp)
 (fun cs _=>k (.ro cs) (.ro cs))
 (fun i f=>k (.loc i f) (.loc i f))
 (fun cs _=>k .undef .undef)
 (fun o=>k (.map o) (.map o))
 (k .nilm .nilm)
 (fun f a c _ _=>k (.func f a c) (.func f a c))
 (k .nilf .nilf)
 (fun cs _=>k (.agg cs) (.agg (cs.map AV.weak1)))
 (fun vs _=>k (.tuple vs) (.tuple vs))
 (fun t v _=>k (.iface t v) (.iface t v))
 (k .nili .nili)
 (fun o f n s=>k (.sl o f n s) (.sl o f n s))
 (fun xs _=>k (.fresh xs) (.fresh xs))
 (k .nils .nils)
 () (fun _ _ _ _=>()) () (fun _ _ _ _=>()) x
noncomputable def qSv (x:AV) (k:AV→AV→(Option ρ)):(Option ρ):=AV.rec (motive_1:=fun _=>(Option ρ)) (motive_2:=fun _=>Unit) (motive_3:=fun _=>Unit)
 (k .undef .undef)
 (fun b=>k (.bool b) (.bool b))
 (fun t n=>k (.int t n) (.int t n))
 (fun s=>k (.str s) (.str s))
 (fun o xs _=>k (.list o xs) (.list false xs))
 (fun o f=>k (.ptr o f) (.ptr o f))
 (k .nilp .nilp)
 (fun cs _=>k (.ro cs) (.ro cs))
 (fun i f=>k .undef .undef)
 (fun cs _=>k .undef .undef)
 (fun o=>k (.map o) (.map o))
 (k .nilm .nilm)
 (fun f a c _ _=>k (.func f a c) (.func f a c))
 (k .nilf .nilf)
 (fun cs _=>k (.agg cs) (.agg (cs.map AV.weak1)))
 (fun vs _=>k (.tuple vs) (.tuple vs))
 (fun t v _=>k (.iface t v) (.iface t v))
 (k .nili .nili)
 (fun o f n s=>k (.sl o f n s) (.sl o f n s))
 (fun xs _=>k (.fresh xs) (.fresh xs))
 (k .nils .nils)
 () (fun _ _ _ _=>()) () (fun _ _ _ _=>()) x
noncomputable def qWk (x:AV) (k:AV→(Option ρ)):(Option ρ):=AV.rec (motive_1:=fun _=>(Option ρ)) (motive_2:=fun _=>Unit) (motive_3:=fun _=>Unit)
 (k .undef)
 (fun b=>k (.bool b))
 (fun t n=>k (.int t n))
 (fun s=>k (.str s))
 (fun o xs _=>k (.list false xs))
 (fun o f=>k (.ptr o f))
 (k .nilp)
 (fun cs _=>k (.ro cs))
 (fun i f=>k (.loc i f))
 (fun cs _=>k (.box cs))
 (fun o=>k (.map o))
 (k .nilm)
 (fun f a c _ _=>k (.func f a c))
 (k .nilf)
 (fun cs _=>k (.agg (cs.map AV.weak1)))
 (fun vs _=>k (.tuple vs))
 (fun t v _=>k (.iface t v))
 (k .nili)
 (fun o f n s=>k (.sl o f n s))
 (fun xs _=>k (.fresh xs))
 (k .nils)
 () (fun _ _ _ _=>()) () (fun _ _ _ _=>()) x
theorem b6h (x:AV) (k:AV→AV→(Option ρ)):qSb x k=k (AV.stripB x) (AV.weak (AV.stripB x)):=by cases x <;> rfl
theorem c4V (x:AV) (k:AV→AV→(Option ρ)):qSv x k=k (AV.strip x) (AV.weak (AV.strip x)):=by cases x <;> rfl
theorem a0M (x:AV) (k:AV→(Option ρ)):qWk x k=k (AV.weak x):=by cases x <;> rfl
noncomputable def onT (x:AV) (k:List AV→(Option ρ)):(Option ρ):=AV.rec (motive_1:=fun _=>(Option ρ)) (motive_2:=fun _=>Unit) (motive_3:=fun _=>Unit)
 (none)
 (fun b=>none)
 (fun t n=>none)
 (fun s=>none)
 (fun o xs _=>none)
 (fun o f=>none)
 (none)
 (fun cs _=>none)
 (fun i f=>none)
 (fun cs _=>none)
 (fun o=>none)
 (none)
 (fun f a c _ _=>none)
 (none)
 (fun cs _=>none)
 (fun vs _=>k vs)
 (fun t v _=>none)
 (none)
 (fun o f n s=>none)
 (fun xs _=>none)
 (none)
 () (fun _ _ _ _=>()) () (fun _ _ _ _=>()) x
theorem c3U (x:AV) (k:List AV→(Option ρ)):onT x k=match x with|.tuple vs=>k vs|_=>none:=by cases x <;> rfl
noncomputable def c4W (x:AV) (e:(Option ρ)) (k:Bool→List (List AV)→(Option ρ)):(Option ρ):=AV.rec (motive_1:=fun _=>(Option ρ)) (motive_2:=fun _=>Unit) (motive_3:=fun _=>Unit)
 (e)
 (fun b=>e)
 (fun t n=>e)
 (fun s=>e)
 (fun o xs _=>k o xs)
 (fun o f=>e)
 (e)
 (fun cs _=>e)
 (fun i f=>e)
 (fun cs _=>e)
 (fun o=>e)
 (e)
 (fun f a c _ _=>e)
 (e)
 (fun cs _=>e)
 (fun vs _=>e)
 (fun t v _=>e)
 (e)
 (fun o f n s=>e)
 (fun xs _=>e)
 (e)
 () (fun _ _ _ _=>()) () (fun _ _ _ _=>()) x
theorem c1H (x:AV) (e:(Option ρ)) (k:Bool→List (List AV)→(Option ρ)):c4W x e k=match x with|.list o xs=>k o xs|_=>e:=by cases x <;> rfl
noncomputable def onU (x:AV) (k:(Option ρ)):(Option ρ):=AV.rec (motive_1:=fun _=>(Option ρ)) (motive_2:=fun _=>Unit) (motive_3:=fun _=>Unit)
 (k)
 (fun b=>none)
 (fun t n=>none)
 (fun s=>none)
 (fun o xs _=>none)
 (fun o f=>none)
 (none)
 (fun cs _=>none)
 (fun i f=>none)
 (fun cs _=>none)
 (fun o=>none)
 (none)
 (fun f a c _ _=>none)
 (none)
 (fun cs _=>none)
 (fun vs _=>none)
 (fun t v _=>none)
 (none)
 (fun o f n s=>none)
 (fun xs _=>none)
 (none)
 () (fun _ _ _ _=>()) () (fun _ _ _ _=>()) x
theorem c4q (x:AV) (k:(Option ρ)):onU x k=match x with|.undef=>k|_=>none:=by cases x <;> rfl
noncomputable def onC (x:AV) (k:List AV→(Option ρ)):(Option ρ):=AV.rec (motive_1:=fun _=>(Option ρ)) (motive_2:=fun _=>Unit) (motive_3:=fun _=>Unit)
 (k [.undef])
 (fun b=>k [(.bool b)])
 (fun t n=>k [(.int t n)])
 (fun s=>k [(.str s)])
 (fun o xs _=>k [(.list o xs)])
 (fun o f=>k [(.ptr o f)])
 (k [.nilp])
 (fun cs _=>k [(.ro cs)])
 (fun i f=>k [(.loc i f)])
 (fun cs _=>k [(.box cs)])
 (fun o=>k [(.map o)])
 (k [.nilm])
 (fun f a c _ _=>k [(.func f a c)])
 (k [.nilf])
 (fun cs _=>k cs)
 (fun vs _=>k [(.tuple vs)])
 (fun t v _=>k [(.iface t v)])
 (k [.nili])
 (fun o f n s=>k [(.sl o f n s)])
 (fun xs _=>k [(.fresh xs)])
 (k [.nils])
 () (fun _ _ _ _=>()) () (fun _ _ _ _=>()) x
theorem b5B (x:AV) (k:List AV→(Option ρ)):onC x k=k x.cells:=by cases x <;> rfl
noncomputable def plB (x:AV) (k:(Option ρ)):(Option ρ):=AV.rec (motive_1:=fun _=>(Option ρ)) (motive_2:=fun _=>Unit) (motive_3:=fun _=>Unit)
 (none)
 (fun b=>k)
 (fun t n=>k)
 (fun s=>k)
 (fun o xs _=>k)
 (fun o f=>k)
 (k)
 (fun cs _=>k)
 (fun i f=>none)
 (fun cs _=>none)
 (fun o=>k)
 (k)
 (fun f a c _ _=>k)
 (k)
 (fun cs _=>k)
 (fun vs _=>none)
 (fun t v _=>k)
 (k)
 (fun o f n s=>k)
 (fun xs _=>none)
 (k)
 () (fun _ _ _ _=>()) () (fun _ _ _ _=>()) x
theorem b0T (x:AV) (k:(Option ρ)):plB x k=if x.plain then k else none:=by cases x <;> rfl
noncomputable def b9t (f:AV→(Option ρ)) (d:Nat) (x:AV):(Option ρ):=onT x fun vs=>a2y vs none (fun v=>qWk v f) d
theorem c3i (c:b9) (b:AV) (s:St) (f:AV→(Option ρ)) (d:Nat) (x:AV):b9t f d x=obind (p1 (sem (.ext d) c [x] b s)) f:=by
 simp only [b9t,c3U,a1p,a0M]
 cases x <;> try rfl
 rename_i vs
 simp only [sem,Q5]
 cases vs[d]? <;> rfl
noncomputable def b1k (xs:List AV) (k:List AV→(Option ρ)):(Option ρ):=List.rec (motive:=fun _=>(List AV→(Option ρ))→(Option ρ)) (fun k=>k []) (fun a _ ih k=>plB a (qWk a fun w=>ih fun ws=>k (w::ws))) xs k
theorem a8y:∀ (xs:List AV) (k:List AV→(Option ρ)),b1k xs k=if t8 xs then k (xs.map AV.weak) else none
 | [],k=>rfl
 | a::xs,k=>by
  show plB a (qWk a fun w=>b1k xs fun ws=>k (w::ws))=_
  rw [b0T,a0M,a8y xs]
  simp only [t8,Bool.and_eq_true,List.map_cons]
  by_cases h1:a.plain=true <;> by_cases h2:t8 xs=true <;> simp [h1,h2]
noncomputable def c4w (x:Option (AV×St)) (k:AV→St→(Option ρ)):(Option ρ):=Option.rec (motive:=fun _=>(Option ρ)) none (fun p=>Prod.rec (motive:=fun _=>(Option ρ)) (fun v s=>k v s) p) x
theorem c1Y (x:Option (AV×St)) (k:AV→St→(Option ρ)):c4w x k=match x with|some (v,s)=>k v s|none=>none:=by cases x <;> rfl
noncomputable def b8J (c:b9) (b:AV) (s:St) (f:AV→(Option ρ)) (x y z:AV):(Option ρ):=onS x none fun l=>onI z none fun _ m=>onI y (obind (p1 (sem (.slS true true) c [x,y,z] b s)) f) fun _ i=>nn i m (obind (p1 (sem (.slS true true) c [x,y,z] b s)) f) fun i m =>
 cB (Nat.ble m (K9 l)) (cB (Nat.ble i m) (a9y (Nat.sub m i) (a9F i l) fun r=>f (.str r)) none) none
theorem c2K (c:b9) (b:AV) (s:St) (f:AV→(Option ρ)) (x y z:AV):b8J c b s f x y z=obind (p1 (sem (.slS true true) c [x,y,z] b s)) f:=by
 simp only [b8J,a2v,X7,a27,N0,a1X,a4o,H5]
 cases x <;> try rfl
 cases z <;> try rfl
 cases y <;> try rfl
 rename_i l _ m _ i
 cases i <;> cases m <;> try rfl
 rename_i i m
 simp only [sem,Q6,E3,N1,Int.ofNat_eq_natCast,Int.natCast_nonneg,true_and,Int.toNat_natCast,Int.ofNat_le,Nat.ble_eq]
 by_cases h1:m≤l.length
 · simp only [h1,if_true]
   by_cases h2:i≤m
   · simp only [h2,if_true,Option.map_some,p1,obind]
     rw [List.drop_take]
     rfl
   · simp only [h2,if_false]
     rfl
 · simp only [h1,if_false]
   rfl
noncomputable def b4c (sz:Nat) (l:List (List AV)):Bool:=List.rec (motive:=fun _=>Bool) true (fun r _ _=>Nat.beq (K9 r) sz) l
theorem b8Y (sz:Nat) (l:List (List AV)):b4c sz l=k7 sz l:=by
 cases l with
 | nil=>rfl
 | cons r l =>
  show Nat.beq (K9 r) sz=(r.length == sz)
  rw [H5,Bool.eq_iff_iff]
  simp
noncomputable def b9I (b:AV) (s:St) (f:AV×AV×St→(Option ρ)) (d e:Nat) (x y:AV):(Option ρ):=c4W x none fun o xs=>onL y none fun ys=>cB o (cB (b4c d xs) (cB (b4c d ys) (cB (Nat.ble (Nat.mul (Nat.add (K9 xs) (K9 ys)) e) 140737488355328) (b3T xs ys fun r=>f (.list true r,b,s)) none) none) none) none
theorem c1X (c:b9) (b:AV) (s:St) (f:AV×AV×St→(Option ρ)) (d e:Nat) (x y:AV):b9I b s f d e x y=obind (sem (.app d e) c [x,y] b s) f:=by
 simp only [b9I,c1H,b0C,N0,b8Y,H5,a7g]
 cases x <;> try rfl
 rename_i o xs
 cases y <;> try (cases o <;> rfl)
 rename_i o2 ys
 cases o <;> try rfl
 simp only [sem,T9,if_true]
 have e1:(Nat.ble (Nat.mul (Nat.add xs.length ys.length) e) 140737488355328)=decide ((xs.length+ys.length)*e≤2 ^ 47):=by
  rw [Bool.eq_iff_iff]
  simp
 rw [e1]
 cases k7 d xs <;> cases k7 d ys <;> try rfl
 simp only [Bool.true_and,if_true]
 split <;> rfl
noncomputable def b2a (b:AV) (s:St) (f:AV×AV×St→(Option ρ)) (d:List AV):(Option ρ):=onU b (f (.undef,.box d,s))
theorem b50 (c:b9) (b:AV) (s:St) (f:AV×AV×St→(Option ρ)) (d:List AV):b2a b s f d=obind (sem (.alloc d) c [] b s) f:=by
 simp only [b2a,c4q]
 cases b <;> rfl
noncomputable def b45 (cs:List AV) (off:Nat) (new:List AV) (k:List AV→(Option ρ)):(Option ρ):=a9y off cs fun a=>b3T new (a6G (Nat.add off (K9 new)) cs) fun t=>b3T a t k
theorem b3s (cs:List AV) (off:Nat) (new:List AV) (k:List AV→(Option ρ)):b45 cs off new k=k (p7 cs off new):=by
 simp only [b45,a1X,a7g,a0F,H5,p7,List.append_assoc]
 rfl
noncomputable def b42 (b:AV) (s:St) (f:AV×AV×St→(Option ρ)) (i d:Nat) (x y:AV):(Option ρ):=b8B x none fun j off=>b5a b none fun cs=>cB (Nat.beq i j) (plB y (onC y fun new=>cB (Nat.beq (K9 new) d) (cB (Nat.ble (Nat.add off d) (K9 cs)) (b45 cs off new fun r=>f (.tuple [],.box r,s)) none) none)) none
theorem c0J (a b:Nat):(Nat.beq a b=true)=(a=b):=by simp
theorem c0Q (a b:Nat):(Nat.ble a b=true)=(a≤b):=by simp
theorem b8G (c:b9) (b:AV) (s:St) (f:AV×AV×St→(Option ρ)) (i d:Nat) (x y:AV):b42 b s f i d x y=obind (sem (.stLc i d) c [x,y] b s) f:=by
 simp only [b42,b2W,a7j,N0,b0T,b5B,H5,b3s,c0J,c0Q]
 cases x <;> try rfl
 rename_i j off
 cases b <;> try rfl
 rename_i cs
 simp only [sem,O7]
 by_cases h1:i=j <;> by_cases h2:y.plain=true <;> by_cases h3:y.cells.length=d <;> by_cases h4:off+d≤cs.length <;> simp [h1,h2,h3,h4,obind]
noncomputable def b0r {β:Type} (l:List β) (i:Nat) (x:β) (k:List β→(Option ρ)):(Option ρ):=List.rec (motive:=fun _=>Nat→(List β→(Option ρ))→(Option ρ)) (fun _ k=>k []) (fun a t ih i k=>Nat.rec (motive:=fun _=>(Option ρ)) (k (x::t)) (fun j _=>ih j fun r=>k (a::r)) i) l i k
theorem b3L {β:Type} (x:β):∀ (l:List β) (i:Nat) (k:List β→(Option ρ)),b0r l i x k=k (l.set i x)
 | [],_,_=>rfl
 | a::l,0,k=>rfl
 | a::l,i+1,k=>b3L x l i fun r=>k (a::r)
noncomputable def b79 {β:Type} (l:List β) (i:Nat) (x:β) (k:List β→(Option ρ)):(Option ρ):=Nat.rec (motive:=fun _=>List β→(List β→(Option ρ))→(Option ρ)) (fun l k=>b0r l (Nat.mod i 8) x k) (fun _ ih l k=>b0h l (k l) ih k) (Nat.div i 8) l k
theorem b2D {β:Type} (x:β) (r:Nat):∀ (q:Nat) (l:List β) (k:List β→(Option ρ)),Nat.rec (motive:=fun _=>List β→(List β→(Option ρ))→(Option ρ)) (fun l k=>b0r l r x k) (fun _ ih l k=>b0h l (k l) ih k) q l k=k (l.set (8*q+r) x)
 | 0,l,k=>by show b0r l r x k=_; rw [b3L,Nat.mul_zero,Nat.zero_add]
 | q+1,l,k=>by
  show b0h l (k l) (fun l k=>Nat.rec (motive:=fun _=>List β→(List β→(Option ρ))→(Option ρ)) (fun l k=>b0r l r x k) (fun _ ih l k=>b0h l (k l) ih k) q l k) k=_
  rw [c2p]
  split
  · rename_i h
    rw [b2D x r q (l.drop 8)]
    congr 1
    rw [show 8*(q+1)+r=8+(8*q+r) by omega]
    conv=>rhs; rw [← List.take_append_drop 8 l]
    rw [List.set_append_right _ _ (by rw [List.length_take]; omega),List.length_take,Nat.min_eq_left h,Nat.add_sub_cancel_left]
  · rename_i h
    rw [List.set_eq_of_length_le (by omega)]
theorem c3b {β:Type} (x:β) (l:List β) (i:Nat) (k:List β→(Option ρ)):b79 l i x k=k (l.set i x):=by
 unfold b79
 rw [b2D x (Nat.mod i 8) (Nat.div i 8) l k,show 8*Nat.div i 8+Nat.mod i 8=i from Nat.div_add_mod i 8]
noncomputable def b48 (s:St) (f:AV×St→(Option ρ)) (d:Nat) (x y:AV):(Option ρ):=onP x none fun o off=>b4Z s none (fun ob=>b1h ob fun cs=>plB y (onC y fun new=>cB (Nat.beq (K9 new) d) (cB (Nat.ble (Nat.add off d) (K9 cs)) (b45 cs off new fun r=>b79 s o (.cells r) fun s=>f (.tuple [],s)) none) none)) o
theorem b9u (c:b9) (b:AV) (s:St) (f:AV×St→(Option ρ)) (d:Nat) (x y:AV):b48 s f d x y=obind (p2 (sem (.stSt d) c [x,y] b s)) f:=by
 simp only [b48,b5r,b3m,a7M,N0,b0T,b5B,H5,b3s,c3b,c0J,c0Q]
 cases x <;> try rfl
 rename_i o off
 simp only [sem,E6,fL_eq]
 cases s[o]? with
 | none=>rfl
 | some ob =>
  cases ob <;> try rfl
  rename_i cs
  by_cases h2:y.plain=true <;> by_cases h3:y.cells.length=d <;> by_cases h4:off+d≤cs.length <;> simp [h2,h3,h4,obind,p2]
noncomputable def bW (v w:Bool) (x y:(Option ρ)):(Option ρ):=Bool.rec (motive:=fun _=>(Option ρ)) (Bool.rec (motive:=fun _=>(Option ρ)) x y w) (Bool.rec (motive:=fun _=>(Option ρ)) y x w) v
theorem c94 (v w:Bool) (x y:(Option ρ)):bW v w x y=if v == w then x else y:=by cases v <;> cases w <;> rfl
theorem nb (i j:Nat):(!Nat.blt j i)=Nat.ble i j:=by
 have h1:(Nat.blt j i=true) ↔ j < i:=by simp
 have h2:(Nat.ble i j=true) ↔ i≤j:=by simp
 cases hb:Nat.blt j i <;> cases hc:Nat.ble i j <;> simp only [hb,hc,true_iff,false_iff,Bool.false_eq_true] at h1 h2 <;> first|rfl|omega
theorem c3S (c:b9) (b:AV) (s:St) (f:AV→(Option ρ)) (x y:AV):a07 c b s f .lss Nat.blt x y=obind (p1 (sem (.bin .lss) c [x,y] b s)) f:=a3m c b s f .lss _ (by simp) (fun t i j=>by simp [l8,ltI]) x y
theorem c5w (c:b9) (b:AV) (s:St) (f:AV→(Option ρ)) (x y:AV):a07 c b s f .leq Nat.ble x y=obind (p1 (sem (.bin .leq) c [x,y] b s)) f:=a3m c b s f .leq _ (by simp) (fun t i j=>by simp only [l8,if_true,Int.ofNat_eq_natCast]; rw [show ∀ a b:Nat,ltI (a:Int) (b:Int)=Nat.blt a b from fun _ _=>rfl,nb]) x y
theorem c36 (c:b9) (b:AV) (s:St) (f:AV→(Option ρ)) (x y:AV):a07 c b s f .gtr (fun i j=>Nat.blt j i) x y=obind (p1 (sem (.bin .gtr) c [x,y] b s)) f:=a3m c b s f .gtr _ (by simp) (fun t i j=>by simp [l8,ltI]) x y
theorem c3A (c:b9) (b:AV) (s:St) (f:AV→(Option ρ)) (x y:AV):a07 c b s f .geq (fun i j=>Nat.ble j i) x y=obind (p1 (sem (.bin .geq) c [x,y] b s)) f:=a3m c b s f .geq _ (by simp) (fun t i j=>by simp only [l8,if_true,Int.ofNat_eq_natCast]; rw [show ∀ a b:Nat,ltI (a:Int) (b:Int)=Nat.blt a b from fun _ _=>rfl,nb]) x y

end Go.Cb.G
/-
 THE ABSTRACT MACHINE, part 43: frames of eight times eight, whose places are found at once.
-/
set_option maxRecDepth 4000
set_option linter.unusedVariables false
namespace Go.Cb.G
open Go Go.Cb
inductive W8 (α:Type) where
 | mk (x0 x1 x2 x3 x4 x5 x6 x7:α)
abbrev Fr:=W8 (W8 AV)
def pk8 {α:Type} (i:Nat) (w:W8 α):α:=match w with
 | .mk x0 x1 x2 x3 x4 x5 x6 x7=>match i with
  | 0=>x0
  | 1=>x1
  | 2=>x2
  | 3=>x3
  | 4=>x4
  | 5=>x5
  | 6=>x6
  | _=>x7
def st8 {α:Type} (i:Nat) (x:α) (w:W8 α):W8 α:=match w with
 | .mk x0 x1 x2 x3 x4 x5 x6 x7=>match i with
  | 0=>.mk x x1 x2 x3 x4 x5 x6 x7
  | 1=>.mk x0 x x2 x3 x4 x5 x6 x7
  | 2=>.mk x0 x1 x x3 x4 x5 x6 x7
  | 3=>.mk x0 x1 x2 x x4 x5 x6 x7
  | 4=>.mk x0 x1 x2 x3 x x5 x6 x7
  | 5=>.mk x0 x1 x2 x3 x4 x x6 x7
  | 6=>.mk x0 x1 x2 x3 x4 x5 x x7
  | _=>.mk x0 x1 x2 x3 x4 x5 x6 x
theorem lt8 {i:Nat} (h:i < 8):i=0∨i=1∨i=2∨i=3∨i=4∨i=5∨i=6∨i=7:=by omega
theorem b6m {α:Type} {i j:Nat} (hi:i < 8) (hj:j < 8) (x:α) (w:W8 α):pk8 j (st8 i x w)=if j=i then x else pk8 j w:=by
 cases w
 rcases lt8 hi with rfl|rfl|rfl|rfl|rfl|rfl|rfl|rfl <;> rcases lt8 hj with rfl|rfl|rfl|rfl|rfl|rfl|rfl|rfl <;> rfl
def U0 (i:Nat) (fr:Fr):AV:=pk8 (i % 8) (pk8 (i / 8) fr)
def a02 (i:Nat) (x:AV) (fr:Fr):Fr:=st8 (i / 8) (st8 (i % 8) x (pk8 (i / 8) fr)) fr
theorem c1w {i j:Nat} (hi:i < 64) (hj:j < 64) (x:AV) (fr:Fr):U0 j (a02 i x fr)=if j=i then x else U0 j fr:=by
 unfold U0 a02
 rw [b6m (by omega) (by omega)]
 by_cases h:j / 8=i / 8
 · rw [if_pos h,b6m (by omega) (by omega),← h]
   by_cases h2:j % 8=i % 8
   · rw [if_pos h2,if_pos (by omega)]
   · rw [if_neg h2,if_neg (by omega)]
 · rw [if_neg h,if_neg (by intro e; exact h (by rw [e]))]
def toL (nv:Nat) (fr:Fr):List AV:=(List.range nv).map fun i=>U0 i fr
theorem c2c (nv:Nat) (fr:Fr):(toL nv fr).length=nv:=by simp [toL]
theorem M4 {i nv:Nat} (h:i < nv) (fr:Fr):(toL nv fr).getD i .undef=U0 i fr:=by simp [toL,List.getD,h]
theorem a1G {i nv:Nat} (h:i < nv) (hn:nv≤64) (x:AV) (fr:Fr):(toL nv fr).set i x=toL nv (a02 i x fr):=by
 apply List.ext_getElem
 · simp [toL]
 · intro j h1 h2
   have hj:j < nv:=by simpa [toL] using h1
   rw [List.getElem_set]
   simp only [toL,List.getElem_map,List.getElem_range]
   rw [c1w (by omega) (by omega)]
   by_cases e:i=j
   · rw [if_pos e,if_pos e.symm]
   · rw [if_neg e,if_neg (fun q=>e q.symm)]
theorem a4m {i nv:Nat} (h:¬ i < nv) (x:AV) (fr:Fr):(toL nv fr).set i x=toL nv fr:=List.set_eq_of_length_le (by rw [c2c]; omega)

noncomputable def b01 {α β:Type} (i:Nat) (e:β) (Q:α→β) (x0 x1 x2 x3 x4 x5 x6 x7:α):β :=
 Nat.rec (motive:=fun _=>β) (Q x0) (fun i _=>Nat.rec (motive:=fun _=>β) (Q x1) (fun i _=>Nat.rec (motive:=fun _=>β) (Q x2) (fun i _=>Nat.rec (motive:=fun _=>β) (Q x3) (fun i _=>Nat.rec (motive:=fun _=>β) (Q x4) (fun i _=>Nat.rec (motive:=fun _=>β) (Q x5) (fun i _=>Nat.rec (motive:=fun _=>β) (Q x6) (fun i _=>Nat.rec (motive:=fun _=>β) (Q x7) (fun i _=>e) i) i) i) i) i) i) i) i
theorem a0Q {α β:Type} {G:β→Prop} {i:Nat} {e:β} {Q:α→β} {x0 x1 x2 x3 x4 x5 x6 x7:α} (he:G e) (h0:i=0→G (Q x0)) (h1:i=1→G (Q x1)) (h2:i=2→G (Q x2)) (h3:i=3→G (Q x3)) (h4:i=4→G (Q x4)) (h5:i=5→G (Q x5)) (h6:i=6→G (Q x6)) (h7:i=7→G (Q x7)):G (b01 i e Q x0 x1 x2 x3 x4 x5 x6 x7):=by
 match i,h0,h1,h2,h3,h4,h5,h6,h7 with
 | 0,h,_,_,_,_,_,_,_=>exact h rfl
 | 1,_,h,_,_,_,_,_,_=>exact h rfl
 | 2,_,_,h,_,_,_,_,_=>exact h rfl
 | 3,_,_,_,h,_,_,_,_=>exact h rfl
 | 4,_,_,_,_,h,_,_,_=>exact h rfl
 | 5,_,_,_,_,_,h,_,_=>exact h rfl
 | 6,_,_,_,_,_,_,h,_=>exact h rfl
 | 7,_,_,_,_,_,_,_,h=>exact h rfl
 | _+8,_,_,_,_,_,_,_,_=>exact he
abbrev Gt (ρ:Type):=Fr→(AV→Option ρ)→Option ρ
abbrev Wr (ρ:Type):=AV→Fr→(Fr→Option ρ)→Option ρ
section
variable {ρ β:Type}
noncomputable def a2b (i:Nat) (e:β) (Q:Gt ρ→β):β:=b01 (i / 8) e (fun o:Fr→(W8 AV→Option ρ)→Option ρ=>b01 (i % 8) e (fun n:W8 AV→(AV→Option ρ)→Option ρ=>Q fun fr k=>o fr fun w=>n w k)
 (fun w k=>W8.rec (motive:=fun _=>Option ρ) (fun x0 x1 x2 x3 x4 x5 x6 x7=>k x0) w)
 (fun w k=>W8.rec (motive:=fun _=>Option ρ) (fun x0 x1 x2 x3 x4 x5 x6 x7=>k x1) w)
 (fun w k=>W8.rec (motive:=fun _=>Option ρ) (fun x0 x1 x2 x3 x4 x5 x6 x7=>k x2) w)
 (fun w k=>W8.rec (motive:=fun _=>Option ρ) (fun x0 x1 x2 x3 x4 x5 x6 x7=>k x3) w)
 (fun w k=>W8.rec (motive:=fun _=>Option ρ) (fun x0 x1 x2 x3 x4 x5 x6 x7=>k x4) w)
 (fun w k=>W8.rec (motive:=fun _=>Option ρ) (fun x0 x1 x2 x3 x4 x5 x6 x7=>k x5) w)
 (fun w k=>W8.rec (motive:=fun _=>Option ρ) (fun x0 x1 x2 x3 x4 x5 x6 x7=>k x6) w)
 (fun w k=>W8.rec (motive:=fun _=>Option ρ) (fun x0 x1 x2 x3 x4 x5 x6 x7=>k x7) w))
 (fun w k=>W8.rec (motive:=fun _=>Option ρ) (fun x0 x1 x2 x3 x4 x5 x6 x7=>k x0) w)
 (fun w k=>W8.rec (motive:=fun _=>Option ρ) (fun x0 x1 x2 x3 x4 x5 x6 x7=>k x1) w)
 (fun w k=>W8.rec (motive:=fun _=>Option ρ) (fun x0 x1 x2 x3 x4 x5 x6 x7=>k x2) w)
 (fun w k=>W8.rec (motive:=fun _=>Option ρ) (fun x0 x1 x2 x3 x4 x5 x6 x7=>k x3) w)
 (fun w k=>W8.rec (motive:=fun _=>Option ρ) (fun x0 x1 x2 x3 x4 x5 x6 x7=>k x4) w)
 (fun w k=>W8.rec (motive:=fun _=>Option ρ) (fun x0 x1 x2 x3 x4 x5 x6 x7=>k x5) w)
 (fun w k=>W8.rec (motive:=fun _=>Option ρ) (fun x0 x1 x2 x3 x4 x5 x6 x7=>k x6) w)
 (fun w k=>W8.rec (motive:=fun _=>Option ρ) (fun x0 x1 x2 x3 x4 x5 x6 x7=>k x7) w)
theorem K4 {G:β→Prop} {i:Nat} {e:β} {Q:Gt ρ→β} (hi:i < 64) (he:G e) (h:∀ g:Gt ρ,(∀ fr k,g fr k=k (U0 i fr))→G (Q g)):G (a2b i e Q):=by
 refine a0Q he ?_ ?_ ?_ ?_ ?_ ?_ ?_ ?_ <;> intro h1 <;> refine a0Q he ?_ ?_ ?_ ?_ ?_ ?_ ?_ ?_ <;> intro h2 <;> refine h _ (fun fr k=>?_) <;> unfold U0 <;> rw [h1,h2] <;> cases fr with
  | mk w0 w1 w2 w3 w4 w5 w6 w7=>first|(cases w0; rfl)|(cases w1; rfl)|(cases w2; rfl)|(cases w3; rfl)|(cases w4; rfl)|(cases w5; rfl)|(cases w6; rfl)|(cases w7; rfl)
noncomputable def a7m (i:Nat) (e:β) (Q:Wr ρ→β):β:=b01 (i / 8) e (fun o:Fr→(W8 AV→(W8 AV→Option ρ)→Option ρ)→(Fr→Option ρ)→Option ρ=>b01 (i % 8) e (fun n:AV→W8 AV→(W8 AV→Option ρ)→Option ρ=>Q fun x fr k=>o fr (n x) k)
 (fun y w k=>W8.rec (motive:=fun _=>Option ρ) (fun x0 x1 x2 x3 x4 x5 x6 x7=>k (.mk y x1 x2 x3 x4 x5 x6 x7)) w)
 (fun y w k=>W8.rec (motive:=fun _=>Option ρ) (fun x0 x1 x2 x3 x4 x5 x6 x7=>k (.mk x0 y x2 x3 x4 x5 x6 x7)) w)
 (fun y w k=>W8.rec (motive:=fun _=>Option ρ) (fun x0 x1 x2 x3 x4 x5 x6 x7=>k (.mk x0 x1 y x3 x4 x5 x6 x7)) w)
 (fun y w k=>W8.rec (motive:=fun _=>Option ρ) (fun x0 x1 x2 x3 x4 x5 x6 x7=>k (.mk x0 x1 x2 y x4 x5 x6 x7)) w)
 (fun y w k=>W8.rec (motive:=fun _=>Option ρ) (fun x0 x1 x2 x3 x4 x5 x6 x7=>k (.mk x0 x1 x2 x3 y x5 x6 x7)) w)
 (fun y w k=>W8.rec (motive:=fun _=>Option ρ) (fun x0 x1 x2 x3 x4 x5 x6 x7=>k (.mk x0 x1 x2 x3 x4 y x6 x7)) w)
 (fun y w k=>W8.rec (motive:=fun _=>Option ρ) (fun x0 x1 x2 x3 x4 x5 x6 x7=>k (.mk x0 x1 x2 x3 x4 x5 y x7)) w)
 (fun y w k=>W8.rec (motive:=fun _=>Option ρ) (fun x0 x1 x2 x3 x4 x5 x6 x7=>k (.mk x0 x1 x2 x3 x4 x5 x6 y)) w))
 (fun w u k=>W8.rec (motive:=fun _=>Option ρ) (fun x0 x1 x2 x3 x4 x5 x6 x7=>u x0 fun y=>k (.mk y x1 x2 x3 x4 x5 x6 x7)) w)
 (fun w u k=>W8.rec (motive:=fun _=>Option ρ) (fun x0 x1 x2 x3 x4 x5 x6 x7=>u x1 fun y=>k (.mk x0 y x2 x3 x4 x5 x6 x7)) w)
 (fun w u k=>W8.rec (motive:=fun _=>Option ρ) (fun x0 x1 x2 x3 x4 x5 x6 x7=>u x2 fun y=>k (.mk x0 x1 y x3 x4 x5 x6 x7)) w)
 (fun w u k=>W8.rec (motive:=fun _=>Option ρ) (fun x0 x1 x2 x3 x4 x5 x6 x7=>u x3 fun y=>k (.mk x0 x1 x2 y x4 x5 x6 x7)) w)
 (fun w u k=>W8.rec (motive:=fun _=>Option ρ) (fun x0 x1 x2 x3 x4 x5 x6 x7=>u x4 fun y=>k (.mk x0 x1 x2 x3 y x5 x6 x7)) w)
 (fun w u k=>W8.rec (motive:=fun _=>Option ρ) (fun x0 x1 x2 x3 x4 x5 x6 x7=>u x5 fun y=>k (.mk x0 x1 x2 x3 x4 y x6 x7)) w)
 (fun w u k=>W8.rec (motive:=fun _=>Option ρ) (fun x0 x1 x2 x3 x4 x5 x6 x7=>u x6 fun y=>k (.mk x0 x1 x2 x3 x4 x5 y x7)) w)
 (fun w u k=>W8.rec (motive:=fun _=>Option ρ) (fun x0 x1 x2 x3 x4 x5 x6 x7=>u x7 fun y=>k (.mk x0 x1 x2 x3 x4 x5 x6 y)) w)
theorem a0V {G:β→Prop} {i:Nat} {e:β} {Q:Wr ρ→β} (hi:i < 64) (he:G e) (h:∀ g:Wr ρ,(∀ x fr k,g x fr k=k (a02 i x fr))→G (Q g)):G (a7m i e Q):=by
 refine a0Q he ?_ ?_ ?_ ?_ ?_ ?_ ?_ ?_ <;> intro h1 <;> refine a0Q he ?_ ?_ ?_ ?_ ?_ ?_ ?_ ?_ <;> intro h2 <;> refine h _ (fun x fr k=>?_) <;> unfold a02 <;> rw [h1,h2] <;> cases fr with
  | mk w0 w1 w2 w3 w4 w5 w6 w7=>first|(cases w0; rfl)|(cases w1; rfl)|(cases w2; rfl)|(cases w3; rfl)|(cases w4; rfl)|(cases w5; rfl)|(cases w6; rfl)|(cases w7; rfl)
noncomputable def b3Y (i:Nat) (Q:(List AV→(AV→Option ρ)→Option ρ)→β):β:=Nat.rec (motive:=fun _=>((List AV→(AV→Option ρ)→Option ρ)→β)→β)
 (fun Q=>Q fun l k=>List.rec (motive:=fun _=>Option ρ) none (fun a _ _=>k a) l)
 (fun _ ih Q=>ih fun r=>Q fun l k=>List.rec (motive:=fun _=>Option ρ) none (fun _ t _=>r t k) l) i Q
theorem Y0 {G:β→Prop}:∀ (i:Nat) {Q:(List AV→(AV→Option ρ)→Option ρ)→β},(∀ r:List AV→(AV→Option ρ)→Option ρ,(∀ l k,r l k=match l[i]? with|some a=>k a|none=>none)→G (Q r))→G (b3Y i Q)
 | 0,Q,h=>h _ fun l k=>by cases l <;> rfl
 | i+1,Q,h=>Y0 i fun r hr=>h _ fun l k=>by
  cases l with
  | nil=>rfl
  | cons a t=>show r t k=_; rw [hr]; simp
end
abbrev U:AV:=.undef
def u8:W8 AV:=.mk U U U U U U U U
noncomputable def b7S {ρ:Type} (l:List AV) (k:W8 AV→Option ρ):Option ρ:=List.rec (motive:=fun _=>Option ρ) (k (.mk U U U U U U U U)) (fun y0 l _=>List.rec (motive:=fun _=>Option ρ) (k (.mk y0 U U U U U U U)) (fun y1 l _=>List.rec (motive:=fun _=>Option ρ) (k (.mk y0 y1 U U U U U U)) (fun y2 l _=>List.rec (motive:=fun _=>Option ρ) (k (.mk y0 y1 y2 U U U U U)) (fun y3 l _=>List.rec (motive:=fun _=>Option ρ) (k (.mk y0 y1 y2 y3 U U U U)) (fun y4 l _=>List.rec (motive:=fun _=>Option ρ) (k (.mk y0 y1 y2 y3 y4 U U U)) (fun y5 l _=>List.rec (motive:=fun _=>Option ρ) (k (.mk y0 y1 y2 y3 y4 y5 U U)) (fun y6 l _=>List.rec (motive:=fun _=>Option ρ) (k (.mk y0 y1 y2 y3 y4 y5 y6 U)) (fun y7 l _=>List.rec (motive:=fun _=>Option ρ) (k (.mk y0 y1 y2 y3 y4 y5 y6 y7)) (fun _ _ _=>none) l) l) l) l) l) l) l) l) l
theorem c65 (i:Nat):pk8 i u8=U:=by
 show (match i with|0=>U|1=>U|2=>U|3=>U|4=>U|5=>U|6=>U|_=>U)=U
 split <;> rfl
theorem c2l {ρ:Type} {l:List AV} {k:W8 AV→Option ρ} {r:ρ} (h:b7S l k=some r):∃ w:W8 AV,k w=some r∧l.length≤8∧∀ i,i < 8→pk8 i w=l.getD i .undef:=by
 match l,h with
 | [],h=>exact ⟨_,h,by simp,fun i hi=>by rcases lt8 hi with rfl|rfl|rfl|rfl|rfl|rfl|rfl|rfl <;> rfl⟩
 | [y0],h=>exact ⟨_,h,by simp,fun i hi=>by rcases lt8 hi with rfl|rfl|rfl|rfl|rfl|rfl|rfl|rfl <;> rfl⟩
 | [y0,y1],h=>exact ⟨_,h,by simp,fun i hi=>by rcases lt8 hi with rfl|rfl|rfl|rfl|rfl|rfl|rfl|rfl <;> rfl⟩
 | [y0,y1,y2],h=>exact ⟨_,h,by simp,fun i hi=>by rcases lt8 hi with rfl|rfl|rfl|rfl|rfl|rfl|rfl|rfl <;> rfl⟩
 | [y0,y1,y2,y3],h=>exact ⟨_,h,by simp,fun i hi=>by rcases lt8 hi with rfl|rfl|rfl|rfl|rfl|rfl|rfl|rfl <;> rfl⟩
 | [y0,y1,y2,y3,y4],h=>exact ⟨_,h,by simp,fun i hi=>by rcases lt8 hi with rfl|rfl|rfl|rfl|rfl|rfl|rfl|rfl <;> rfl⟩
 | [y0,y1,y2,y3,y4,y5],h=>exact ⟨_,h,by simp,fun i hi=>by rcases lt8 hi with rfl|rfl|rfl|rfl|rfl|rfl|rfl|rfl <;> rfl⟩
 | [y0,y1,y2,y3,y4,y5,y6],h=>exact ⟨_,h,by simp,fun i hi=>by rcases lt8 hi with rfl|rfl|rfl|rfl|rfl|rfl|rfl|rfl <;> rfl⟩
 | [y0,y1,y2,y3,y4,y5,y6,y7],h=>exact ⟨_,h,by simp,fun i hi=>by rcases lt8 hi with rfl|rfl|rfl|rfl|rfl|rfl|rfl|rfl <;> rfl⟩
 | _::_::_::_::_::_::_::_::_::_,h=>cases h
def fr0 (w:W8 AV):Fr:=.mk w u8 u8 u8 u8 u8 u8 u8
theorem c5g {w:W8 AV} {l:List AV} {np nv:Nat} (hw:∀ i,i < 8→pk8 i w=l.getD i .undef) (hl:l.length=np) (h8:l.length≤8) (hnp:np≤nv) (hn:nv≤64):toL nv (fr0 w)=l++List.replicate (nv - np) .undef:=by
 apply List.ext_getElem
 · simp [toL,hl]; omega
 · intro j h1 h2
   have hj:j < nv:=by simpa [toL] using h1
   have hg:U0 j (fr0 w)=l.getD j .undef:=by
    unfold U0
    rcases Nat.lt_or_ge j 8 with h|h
    · rw [show j / 8=0 by omega,show j % 8=j by omega]
      exact hw j h
    · have:pk8 (j / 8) (fr0 w)=u8:=by
       rcases lt8 (show j / 8 < 8 by omega) with e|e|e|e|e|e|e|e <;> rw [e] <;> first|(exfalso; omega)|rfl
      rw [this,c65,List.getD_eq_getElem?_getD,List.getElem?_eq_none (by omega)]
      rfl
   simp only [toL,List.getElem_map,List.getElem_range,hg]
   rw [List.getElem_append]
   split
   · rename_i h; simp [List.getD,h]
   · rename_i h; rw [List.getD_eq_getElem?_getD,List.getElem?_eq_none (by omega)]; simp
end Go.Cb.G
/-
 THE ABSTRACT MACHINE, part 44: operations, made ready once, run over fast frames.
-/
set_option maxRecDepth 4000
set_option linter.unusedVariables false
namespace Go.Cb.G
open Go Go.Cb
abbrev RO:=Option (AV×Fr×St)
abbrev Rd:=List AV→Fr→(AV→RO)→RO
inductive Src where
 | w (l:Nat)|s (l:Nat)|d (l:Nat)|k (a:AV)|q (a:AV)
abbrev Scope:=List (Nat×Src)
noncomputable def E8 (s:Nat) (sc:Scope):Option Src:=List.rec (motive:=fun _=>Option Src) none (fun p _ ih=>Prod.rec (motive:=fun _=>Option Src) (fun t x=>Bool.rec (motive:=fun _=>Option Src) ih (some x) (Nat.beq t s)) p) sc
theorem a1t (s t:Nat) (x:Src) (sc:Scope):E8 s ((t,x)::sc)=if t=s then some x else E8 s sc:=by
 show Bool.rec (motive:=fun _=>Option Src) (E8 s sc) (some x) (Nat.beq t s)=_
 by_cases h:t=s
 · rw [if_pos h,show Nat.beq t s=true by simpa using h]
 · rw [if_neg h,show Nat.beq t s=false from Bool.eq_false_iff.2 fun q=>h (Nat.eq_of_beq_eq_true q)]
def lv (env:List AV) (l:Nat):Option AV:=env.reverse[l]?
theorem d1H {env:List AV} {l:Nat} {a:AV} (x:AV) (h:lv env l=some a):lv (x::env) l=some a:=by
 unfold lv at *
 rw [List.reverse_cons,List.getElem?_append_left (by
  rcases Nat.lt_or_ge l env.reverse.length with q|q
  · exact q
  · rw [List.getElem?_eq_none q] at h; cases h)]
 exact h
theorem b5g (x:AV) (env:List AV):lv (x::env) env.length=some x:=by
 unfold lv
 rw [List.reverse_cons,List.getElem?_append_right (by simp)]
 simp
theorem a9G {env:List AV} {l d:Nat} {a:AV} (hd:env.length=d) (h:lv env l=some a):env[d - 1 - l]?=some a:=by
 unfold lv at h
 have hl:l < env.length:=by
  rcases Nat.lt_or_ge l env.reverse.length with q|q
  · simpa using q
  · rw [List.getElem?_eq_none q] at h; cases h
 rw [List.getElem?_reverse hl,hd] at h
 exact h
def SrcOK (env:List AV) (v:AV):Src→Prop
 | .w l=>∃ a,lv env l=some a∧v.weak=a
 | .s l=>∃ a,lv env l=some a∧v=a
 | .d l=>∃ a,lv env l=some a∧v.weak=a.weak
 | .k a=>v=a
 | .q a=>v.weak=a
theorem SrcOK.push {env:List AV} {v:AV} {x:Src} (y:AV) (h:SrcOK env v x):SrcOK (y::env) v x:=by
 cases x <;> simp only [SrcOK] at*<;> first|exact h|(obtain ⟨a,h1,h2⟩:=h; exact ⟨a,d1H y h1,h2⟩)
structure Ag (nv dep:Nat) (sc:Scope) (env:List AV) (fr:Fr) (σ:Sig):Prop where
 f:σ.fr=toL nv fr
 d:env.length=dep
 nb:∀ s,(σ.τ s).stripB=σ.τ s
 t:∀ s x,E8 s sc=some x→SrcOK env (σ.τ s) x

noncomputable def c8f (x:AV) (y z:RO):RO:=AV.rec (motive_1:=fun _=>RO) (motive_2:=fun _=>Unit) (motive_3:=fun _=>Unit)
 z (fun _=>z) (fun _ _=>z) (fun _=>z) (fun _ _ _=>z) (fun _ _=>z) z (fun _ _=>z) (fun _ _=>z) (fun _ _=>y) (fun _=>z) z (fun _ _ _ _ _=>z) z (fun _ _=>z) (fun _ _=>z) (fun _ _ _=>z) z (fun _ _ _ _=>z) (fun _ _=>z) z
 () (fun _ _ _ _=>()) () (fun _ _ _ _=>()) x
noncomputable def b71 (i:Nat) (x:AV) (k:AV→RO):RO:=c8f x (k (.loc i 0)) (k .undef)
theorem c3g (i:Nat) (x:AV) (k:AV→RO):b71 i x k=k (match x with|.box _=>.loc i 0|_=>.undef):=by cases x <;> rfl

section
variable {β:Type}
noncomputable def rdK (nv dep:Nat) (sc:Scope) (x:Opd) (e:β) (Q:Rd→β):β :=
 match x with
 | .t s=>match E8 s sc with
  | some (.w l)=>b3Y (dep - 1 - l) fun r=>Q fun env _ k=>r env k
  | some (.s l)|some (.d l)=>b3Y (dep - 1 - l) fun r=>Q fun env _ k=>r env fun x=>qWk x k
  | some (.k a)=>Q fun _ _ k=>k a.weak
  | some (.q a)=>Q fun _ _ k=>k a
  | none=>e
 | .ts s=>match E8 s sc with
  | some (.s l)=>b3Y (dep - 1 - l) fun r=>Q fun env _ k=>r env k
  | some (.k a)=>Q fun _ _ k=>k a
  | _=>e
 | .v i=>match Nat.blt i nv with
  | true=>a2b i e fun g=>Q fun _ fr k=>g fr fun x=>qWk x k
  | false=>e
 | .vs i=>match Nat.blt i nv with
  | true=>a2b i e fun g=>Q fun _ fr k=>g fr k
  | false=>e
 | .l i=>match Nat.blt i nv with
  | true=>a2b i e fun g=>Q fun _ fr k=>g fr fun x=>b71 i x k
  | false=>e
 | .c a=>Q fun _ _ k=>k a
def c4B (nv dep:Nat) (sc:Scope) (x:Opd) (r:Rd):Prop:=∀ env fr σ,Ag nv dep sc env fr σ→∀ k,r env fr k=k (x.read σ)
theorem Q2 {i n:Nat} (h:Nat.blt i n=true):i < n:=by simpa using h
theorem a4R {G:β→Prop} {nv dep:Nat} {sc:Scope} {x:Opd} {e:β} {Q:Rd→β} (hn:nv≤64) (he:G e) (h:∀ r,c4B nv dep sc x r→G (Q r)):G (rdK nv dep sc x e Q):=by
 unfold rdK
 cases x with
 | t s =>
  dsimp only
  cases hs:E8 s sc with
  | none=>exact he
  | some y =>
   cases y with
   | w l =>
    refine Y0 _ fun r hr=>h _ fun env fr σ ha k=>?_
    obtain ⟨a,h1,h2⟩:=ha.t _ _ hs
    show r env k=_
    rw [hr,a9G ha.d h1,← h2]; rfl
   | s l =>
    refine Y0 _ fun r hr=>h _ fun env fr σ ha k=>?_
    obtain ⟨a,h1,h2⟩:=ha.t _ _ hs
    show r env _=_
    rw [hr,a9G ha.d h1]
    show qWk a k=_
    rw [a0M,← h2]; rfl
   | d l =>
    refine Y0 _ fun r hr=>h _ fun env fr σ ha k=>?_
    obtain ⟨a,h1,h2⟩:=ha.t _ _ hs
    show r env _=_
    rw [hr,a9G ha.d h1]
    show qWk a k=_
    rw [a0M,← h2]; rfl
   | k a =>
    refine h _ fun env fr σ ha k=>?_
    have:=ha.t _ _ hs
    show k a.weak=k (σ.τ s).weak
    rw [show σ.τ s=a from this]
   | q a =>
    refine h _ fun env fr σ ha k=>?_
    have:=ha.t _ _ hs
    show k a=k (σ.τ s).weak
    rw [show (σ.τ s).weak=a from this]
 | ts s =>
  dsimp only
  cases hs:E8 s sc with
  | none=>exact he
  | some y =>
   cases y with
   | s l =>
    refine Y0 _ fun r hr=>h _ fun env fr σ ha k=>?_
    obtain ⟨a,h1,h2⟩:=ha.t _ _ hs
    show r env k=_
    rw [hr,a9G ha.d h1,← h2]; rfl
   | k a =>
    refine h _ fun env fr σ ha k=>?_
    have:=ha.t _ _ hs
    show k a=k (σ.τ s)
    rw [show σ.τ s=a from this]
   | _=>exact he
 | v i =>
  dsimp only
  cases hb:Nat.blt i nv with
  | false=>exact he
  | true =>
   have hi:=Q2 hb
   refine K4 (by omega) he fun g hg=>h _ fun env fr σ ha k=>?_
   show g fr (fun x=>qWk x k)=k (σ.fr.getD i .undef).weak
   rw [hg,a0M,ha.f,M4 hi]
 | vs i =>
  dsimp only
  cases hb:Nat.blt i nv with
  | false=>exact he
  | true =>
   have hi:=Q2 hb
   refine K4 (by omega) he fun g hg=>h _ fun env fr σ ha k=>?_
   show g fr k=k (σ.fr.getD i .undef)
   rw [hg,ha.f,M4 hi]
 | l i =>
  dsimp only
  cases hb:Nat.blt i nv with
  | false=>exact he
  | true =>
   have hi:=Q2 hb
   refine K4 (by omega) he fun g hg=>h _ fun env fr σ ha k=>?_
   show g fr (fun x=>b71 i x k)=_
   rw [hg,c3g]
   show _=k (match σ.fr.getD i .undef with|.box _=>.loc i 0|_=>.undef)
   rw [ha.f,M4 hi]
 | c a=>exact h _ fun _ _ _ _ _=>rfl

def rdL (nv dep:Nat) (sc:Scope) (rd:Opd→β→(Rd→β)→β):List Opd→β→(List Rd→β)→β
 | [],_,Q=>Q []
 | x::xs,e,Q=>rd x e fun r=>rdL nv dep sc rd xs e fun rs=>Q (r::rs)
def a9K (nv dep:Nat) (sc:Scope):List Opd→List Rd→Prop
 | [],[]=>True
 | x::xs,r::rs=>c4B nv dep sc x r∧a9K nv dep sc xs rs
 | _,_=>False
theorem b2d {G:β→Prop} {nv dep:Nat} {sc:Scope} (hn:nv≤64):∀ {xs:List Opd} {e:β} {Q:List Rd→β},G e→(∀ rs,a9K nv dep sc xs rs→G (Q rs))→G (rdL nv dep sc (fun x e Q=>rdK nv dep sc x e Q) xs e Q)
 | [],e,Q,he,h=>h [] trivial
 | x::xs,e,Q,he,h=>by
  unfold rdL
  exact a4R hn he fun r hr=>b2d hn he fun rs hrs=>h _ ⟨hr,hrs⟩
end
def a05:List Rd→List AV→Fr→(List AV→RO)→RO
 | [],_,_,k=>k []
 | r::rs,env,fr,k=>r env fr fun x=>a05 rs env fr fun xs=>k (x::xs)
theorem a0E {nv dep:Nat} {sc:Scope} {env:List AV} {fr:Fr} {σ:Sig} (ha:Ag nv dep sc env fr σ):∀ {xs:List Opd} {rs:List Rd} {k:List AV→RO},a9K nv dep sc xs rs→a05 rs env fr k=k (xs.map (·.read σ))
 | [],[],k,_=>rfl
 | x::xs,r::rs,k,h=>by
  show r env fr _=_
  rw [h.1 env fr σ ha,a0E ha h.2]
  rfl
 | [],_::_,_,h=>h.elim
 | _::_,[],_,h=>h.elim
section
variable {β:Type}
abbrev RdA:=List AV→Fr→(List AV→RO)→RO
noncomputable def b9f (rs:List Rd) (Q:RdA→β):β:=List.rec (motive:=fun _=>(RdA→β)→β) (fun Q=>Q fun _ _ k=>k []) (fun r _ ih Q=>ih fun ra=>Q fun env fr k=>r env fr fun x=>ra env fr fun xs=>k (x::xs)) rs Q
theorem a2x {G:β→Prop}:∀ {rs:List Rd} {Q:RdA→β},(∀ ra:RdA,(∀ env fr k,ra env fr k=a05 rs env fr k)→G (Q ra))→G (b9f rs Q)
 | [],Q,h=>h _ fun _ _ _=>rfl
 | r::rs,Q,h=>a2x (rs:=rs) fun ra hra=>h _ fun env fr k=>by
  show r env fr _=r env fr _
  congr
  funext x
  exact hra _ _ _

/-! kinds -/
abbrev KF:=b9→List AV→Fr→AV→St→(AV→AV→St→RO)→RO
def b83 (kd:Kind) (rs:List Rd) (kf:KF):Prop:=∀ c env fr b s K,kf c env fr b s K=a05 rs env fr fun as=>obind (sem kd c as b s) fun p=>K p.1 p.2.1 p.2.2
theorem q6 {kd:Kind} (h1:kd.setSt=false) (h2:kd.alters=false) (c:b9) (as:List AV) (b:AV) (s:St) (K:AV→AV→St→RO):obind (p1 (sem kd c as b s)) (fun r=>K r b s)=obind (sem kd c as b s) fun p=>K p.1 p.2.1 p.2.2:=by
 cases hs:sem kd c as b s with
 | none=>rfl
 | some p =>
  obtain ⟨r,b',s'⟩:=p
  have e1:=a2B h1 hs
  have e2:=a1D h2 hs
  subst e1 e2
  rfl
theorem b2c {kd:Kind} (h2:kd.alters=false) (c:b9) (as:List AV) (b:AV) (s:St) (K:AV→AV→St→RO):obind (p2 (sem kd c as b s)) (fun r=>K r.1 b r.2)=obind (sem kd c as b s) fun p=>K p.1 p.2.1 p.2.2:=by
 cases hs:sem kd c as b s with
 | none=>rfl
 | some p =>
  obtain ⟨r,b',s'⟩:=p
  have e2:=a1D h2 hs
  subst e2
  rfl
noncomputable def b1Z (c:b9) (s:St) (K:AV→St→RO) (i:Nat) (xs:List AV):RO:=b1k xs fun ws=>c4w (c i ws s) fun v s=>K v s
noncomputable def b30 (c:b9) (b:AV) (s:St) (f:AV→RO) (g:Bool) (d:Nat) (x:AV):RO:=a9B x (obind (p1 (sem (.ldAn g d) c [x] b s)) f) (fun o i=>a6B s f g d (.ptr o i)) (fun cs=>a5H f g d (.ro cs)) (fun _ _=>obind (p1 (sem (.ldAn g d) c [x] b s)) f)
theorem b9N (c:b9) (b:AV) (s:St) (f:AV→RO) (g:Bool) (d:Nat) (x:AV):b30 c b s f g d x=obind (p1 (sem (.ldAn g d) c [x] b s)) f:=by
 unfold b30
 rw [a4Q]
 cases x <;> try rfl
 · rename_i o i
   show a6B s f g d (.ptr o i)=_
   rw [b0v c b s]; rfl
 · rename_i cs
   show a5H f g d (.ro cs)=_
   rw [b0I c b s]; rfl
noncomputable def b8o (kd:Kind) (ra:RdA) (Q:KF→β):β:=match kd.alters with
 | true=>Q fun c env fr b s K=>ra env fr fun as=>obind (sem kd c as b s) fun p=>a1g p.1 fun r=>a1g p.2.1 fun b=>fL p.2.2 fun s=>K r b s
 | false=>match kd.setSt with
  | true=>Q fun c env fr b s K=>ra env fr fun as=>obind (p2 (sem kd c as b s)) fun p=>a1g p.1 fun r=>fL p.2 fun s=>K r b s
  | false=>Q fun c env fr b s K=>ra env fr fun as=>obind (p1 (sem kd c as b s)) fun x=>a1g x fun r=>K r b s
noncomputable def b4X (kd:Kind) (rs:List Rd) (Q:KF→β):β :=
 match kd,rs with
 | .mv,[x]=>Q fun c env fr b s K=>x env fr fun x=>K x b s
 | .bin .eql,[x,y]=>Q fun c env fr b s K=>x env fr fun x=>y env fr fun y=>b76 (fun r=>K r b s) x y
 | .bin .neq,[x,y]=>Q fun c env fr b s K=>x env fr fun x=>y env fr fun y=>b8v (fun r=>K r b s) x y
 | .bin .lss,[x,y]=>Q fun c env fr b s K=>x env fr fun x=>y env fr fun y=>a07 c b s (fun r=>K r b s) .lss Nat.blt x y
 | .bin .leq,[x,y]=>Q fun c env fr b s K=>x env fr fun x=>y env fr fun y=>a07 c b s (fun r=>K r b s) .leq Nat.ble x y
 | .bin .gtr,[x,y]=>Q fun c env fr b s K=>x env fr fun x=>y env fr fun y=>a07 c b s (fun r=>K r b s) .gtr (fun i j=>Nat.blt j i) x y
 | .bin .geq,[x,y]=>Q fun c env fr b s K=>x env fr fun x=>y env fr fun y=>a07 c b s (fun r=>K r b s) .geq (fun i j=>Nat.ble j i) x y
 | .bin .add,[x,y]=>Q fun c env fr b s K=>x env fr fun x=>y env fr fun y=>b70 c b s (fun r=>K r b s) x y
 | .bin .sub,[x,y]=>Q fun c env fr b s K=>x env fr fun x=>y env fr fun y=>b9s c b s (fun r=>K r b s) x y
 | .un .not,[x]=>Q fun c env fr b s K=>x env fr fun x=>b87 (fun r=>K r b s) x
 | .nilchk,[x]=>Q fun c env fr b s K=>x env fr fun x=>b8t c b s (fun r=>K r b s) x
 | .lenS,[x]=>Q fun c env fr b s K=>x env fr fun x=>b40 (fun r=>K r b s) x
 | .lenL,[x]=>Q fun c env fr b s K=>x env fr fun x=>b4u c b s (fun r=>K r b s) x
 | .idxS,[x,y]=>Q fun c env fr b s K=>x env fr fun x=>y env fr fun y=>b9C (fun r=>K r b s) x y
 | .pick,[x,y,z]=>Q fun c env fr b s K=>x env fr fun x=>y env fr fun y=>z env fr fun z=>b4U (fun r=>K r b s) x y z
 | .fad d,[x]=>Q fun c env fr b s K=>x env fr fun x=>b78 (fun r=>K r b s) d x
 | .iad d,[x,y]=>Q fun c env fr b s K=>x env fr fun x=>y env fr fun y=>b8r c b s (fun r=>K r b s) d x y
 | .ldSt g d,[x]=>Q fun c env fr b s K=>x env fr fun x=>a6B s (fun r=>K r b s) g d x
 | .ldRo g d,[x]=>Q fun c env fr b s K=>x env fr fun x=>a5H (fun r=>K r b s) g d x
 | .ldAn g d,[x]=>Q fun c env fr b s K=>x env fr fun x=>b30 c b s (fun r=>K r b s) g d x
 | .ldLc i g d,[x]=>Q fun c env fr b s K=>x env fr fun x=>b4W b (fun r=>K r b s) i g d x
 | .ext d,[x]=>Q fun c env fr b s K=>x env fr fun x=>b9t (fun r=>K r b s) d x
 | .slS true true,[x,y,z]=>Q fun c env fr b s K=>x env fr fun x=>y env fr fun y=>z env fr fun z=>b8J c b s (fun r=>K r b s) x y z
 | .app d e,[x,y]=>Q fun c env fr b s K=>x env fr fun x=>y env fr fun y=>b9I b s (fun p=>K p.1 p.2.1 p.2.2) d e x y
 | .alloc d,[]=>Q fun c env fr b s K=>b2a b s (fun p=>K p.1 p.2.1 p.2.2) d
 | .stLc i d,[x,y]=>Q fun c env fr b s K=>x env fr fun x=>y env fr fun y=>b42 b s (fun p=>K p.1 p.2.1 p.2.2) i d x y
 | .stSt d,[x,y]=>Q fun c env fr b s K=>x env fr fun x=>y env fr fun y=>b48 s (fun p=>K p.1 b p.2) d x y
 | .call f,rs=>b9f rs fun ra=>Q fun c env fr b s K=>ra env fr fun as=>b1Z c s (fun v s=>K v b s) f as
 | kd,rs=>b9f rs fun ra=>b8o kd ra Q
theorem b55 {G:β→Prop} {kd:Kind} {rs:List Rd} {ra:RdA} {Q:KF→β} (hra:∀ env fr k,ra env fr k=a05 rs env fr k) (h:∀ kf,b83 kd rs kf→G (Q kf)):G (b8o kd ra Q):=by
 unfold b8o
 cases h2:kd.alters with
 | true=>exact h _ fun c env fr b s K=>by rw [hra]; simp only [fNew_eq,fL_eq]
 | false =>
  cases h1:kd.setSt with
  | true =>
   refine h _ fun c env fr b s K=>?_
   rw [hra]; simp only [fNew_eq,fL_eq]
   congr; funext as
   exact b2c h2 c as b s K
  | false =>
   refine h _ fun c env fr b s K=>?_
   rw [hra]; simp only [fNew_eq]
   congr; funext as
   exact q6 h1 h2 c as b s K
theorem Q3 (x:Rd) (env:List AV) (fr:Fr) (k:List AV→RO):a05 [x] env fr k=x env fr fun x=>k [x]:=rfl
theorem J2 (x y:Rd) (env:List AV) (fr:Fr) (k:List AV→RO):a05 [x,y] env fr k=x env fr fun x=>y env fr fun y=>k [x,y]:=rfl
theorem b61 (x y z:Rd) (env:List AV) (fr:Fr) (k:List AV→RO):a05 [x,y,z] env fr k=x env fr fun x=>y env fr fun y=>z env fr fun z=>k [x,y,z]:=rfl
theorem b4g {G:β→Prop} {kd:Kind} {rs:List Rd} {Q:KF→β} (h:∀ kf,b83 kd rs kf→G (Q kf)):G (b4X kd rs Q):=by
 unfold b4X
 split
 · exact h _ fun c env fr b s K=>rfl
 · exact h _ fun c env fr b s K=>by rw [J2]; congr; funext x; congr; funext y; rw [c1Z c b s]; exact q6 rfl rfl ..
 · exact h _ fun c env fr b s K=>by rw [J2]; congr; funext x; congr; funext y; rw [c2b c b s]; exact q6 rfl rfl ..
 · exact h _ fun c env fr b s K=>by rw [J2]; congr; funext x; congr; funext y; rw [c3S c b s]; exact q6 rfl rfl ..
 · exact h _ fun c env fr b s K=>by rw [J2]; congr; funext x; congr; funext y; rw [c5w c b s]; exact q6 rfl rfl ..
 · exact h _ fun c env fr b s K=>by rw [J2]; congr; funext x; congr; funext y; rw [c36 c b s]; exact q6 rfl rfl ..
 · exact h _ fun c env fr b s K=>by rw [J2]; congr; funext x; congr; funext y; rw [c3A c b s]; exact q6 rfl rfl ..
 · exact h _ fun c env fr b s K=>by rw [J2]; congr; funext x; congr; funext y; rw [c3k c b s]; exact q6 rfl rfl ..
 · exact h _ fun c env fr b s K=>by rw [J2]; congr; funext x; congr; funext y; rw [c1C c b s]; exact q6 rfl rfl ..
 · exact h _ fun c env fr b s K=>by rw [Q3]; congr; funext x; rw [c1L c b s]; exact q6 rfl rfl ..
 · exact h _ fun c env fr b s K=>by rw [Q3]; congr; funext x; rw [c1q c b s]; exact q6 rfl rfl ..
 · exact h _ fun c env fr b s K=>by rw [Q3]; congr; funext x; rw [b9d c b s]; exact q6 rfl rfl ..
 · exact h _ fun c env fr b s K=>by rw [Q3]; congr; funext x; rw [b9w c b s]; exact q6 rfl rfl ..
 · exact h _ fun c env fr b s K=>by rw [J2]; congr; funext x; congr; funext y; rw [c2g c b s]; exact q6 rfl rfl ..
 · exact h _ fun c env fr b s K=>by rw [b61]; congr; funext x; congr; funext y; congr; funext z; rw [b9x c b s]; exact q6 rfl rfl ..
 · exact h _ fun c env fr b s K=>by rw [Q3]; congr; funext x; rw [c1n c b s]; exact q6 rfl rfl ..
 · exact h _ fun c env fr b s K=>by rw [J2]; congr; funext x; congr; funext y; rw [c2j c b s]; exact q6 rfl rfl ..
 · exact h _ fun c env fr b s K=>by rw [Q3]; congr; funext x; rw [b0v c b s]; exact q6 rfl rfl ..
 · exact h _ fun c env fr b s K=>by rw [Q3]; congr; funext x; rw [b0I c b s]; exact q6 rfl rfl ..
 · exact h _ fun c env fr b s K=>by rw [Q3]; congr; funext x; rw [b9N c b s]; exact q6 rfl rfl ..
 · exact h _ fun c env fr b s K=>by rw [Q3]; congr; funext x; rw [b9k c b s]; exact q6 rfl rfl ..
 · exact h _ fun c env fr b s K=>by rw [Q3]; congr; funext x; rw [c3i c b s]; exact q6 rfl rfl ..
 · exact h _ fun c env fr b s K=>by rw [b61]; congr; funext x; congr; funext y; congr; funext z; rw [c2K c b s]; exact q6 rfl rfl ..
 · exact h _ fun c env fr b s K=>by rw [J2]; congr; funext x; congr; funext y; exact c1X c b s ..
 · exact h _ fun c env fr b s K=>b50 c b s ..
 · exact h _ fun c env fr b s K=>by rw [J2]; congr; funext x; congr; funext y; exact b8G c b s ..
 · exact h _ fun c env fr b s K=>by rw [J2]; congr; funext x; congr; funext y; rw [b9u c b s]; exact b2c rfl ..
 · refine a2x fun ra hra=>h _ fun c env fr b s K=>?_
   rw [hra]
   congr; funext as
   show b1Z c s (fun v s=>K v b s) _ as=_
   unfold b1Z
   rw [a8y]
   simp only [sem,y8]
   split
   · rw [c1Y]
     cases c _ (as.map AV.weak) s <;> rfl
   · rfl
 · exact a2x fun ra hra=>b55 hra h
end
end Go.Cb.G
