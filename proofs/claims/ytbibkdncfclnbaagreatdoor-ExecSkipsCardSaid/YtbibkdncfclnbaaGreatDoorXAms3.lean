import Derived.Test.YtbibkdncfclnbaaGreatDoorXAms2
import Derived.Laws.CopyRow
import Derived.Laws.Externs
import Derived.Test.YtbibkdncfclnbaaGreatDoorXAms1
/-
 THE ABSTRACT MACHINE, part 29: slices.Clone.
-/
set_option maxRecDepth 4000
set_option linter.unusedSimpArgs false
set_option linter.unusedVariables false
namespace Go.Cb
open Classical

section
variable {c:Cx} {g:Gh} {w:World} {pr:Nat→Option Pl} {bx:Nat→Nat} {σ:Sig} {a:Act} {o:Oper}

theorem c4n (fx:Fx c) (h:S c g w pr bx σ a) {t e:TypeId} {i:TypeInfo} {d:Dst} (ho:o.op=.buildSlice t 0 #[]) (hu:c.P.underlying t=some (.slice e)) (hi:c.P.info? e=some i) (hd:p8 c o.dst d=true)
 {next:Act→World→Prop} {Q:Exit→Act→World→Prop} (hnext:Post c g w a (d.put (.list true []) σ) next):o.wp c.P a w next Q:=by
 have hrun:(execOp a.eval o).run c.P w=.ok (.value (.slice (some (ad w.heap.size 0)) 0 0)) (w.alloc (.cells #[] e)):=by
  have e0:(Array.map (fun _:Nat=>(default:Value)) (Array.range 0))=#[]:=by apply Array.ext'; simp
  simp [execOp,ho,Instr.buildSlice,run_underlying hu,sizeOf,typeInfo,hi,Instr.fill,newRow,e0]
 unfold Oper.wp
 rw [hrun]
 refine hnext _ _ g pr bx (r7 _ _ _) (T5 fx (h.alloc _ _) hd (mine:=No) (r:=.list true []) ?_ fun _ x=>x.elim) (Tr.alloc _ h.st.cli _)
 refine (show ValOK g _ No (.list true []) _ from ⟨?_,fun _ _=>.inl ⟨_,_,rfl⟩,fun _ e=>(by cases e)⟩)
 simp only [Rel]
 exact ⟨_,0,0,rfl,rfl,Nat.le_refl _,fun _=>rfl,fun h=>absurd rfl h⟩

theorem c6F (fx:Fx c) (h:S c g w pr bx σ a) {t t' e:TypeId} {x:Operand} {d:Dst} {ad0:Option Addr} {n cap:Nat} (ho:o.op=.binOp .eql t x (.const (.slice none 0 0)) t') (hu:c.P.underlying t=some (.slice e))
 (hx:a.eval x=.slice ad0 n cap) (hd:p8 c o.dst d=true) {next:Act→World→Prop} {Q:Exit→Act→World→Prop} (hnext:Post c g w a (d.put (.bool ad0.isNone) σ) next):o.wp c.P a w next Q:=by
 have hrun:(execOp a.eval o).run c.P w=.ok (.value (.bool ad0.isNone)) w:=by
  have hg:∀ v:Value,(eqGuard .eql t x (.const (.slice none 0 0)) (.slice ad0 n cap) (.slice none 0 0)).run c.P w=.ok () w:=fun _=>rfl
  have hy:a.eval (.const (.slice none 0 0))=.slice none 0 0:=rfl
  have heq:(Op.equal t (.slice ad0 n cap) (.slice none 0 0)).run c.P w=.ok ad0.isNone w:=by
   rw [W7,Op.equalIn,Sem.run_bind,run_underlying hu,Result.andThen_ok]
   cases ad0 <;> rfl
  simp only [execOp,ho,hx,hy,hg (.bool true),binOp,Sem.run_bind,heq,Result.andThen_ok,Sem.run_pure]
 exact b2N fx h hd (r:=.bool ad0.isNone) hrun (show ValOK g w No (.bool ad0.isNone) (.bool ad0.isNone) from ValOK.mk' (by simp [Rel]) (by simp) (by simp)) hnext

def b0V (P:Program) (t sz bytes:Nat):Bool:=match P.underlying t with
 | some (.slice e)=>match P.info? e with
  | some ie=>ie.size == sz && ie.bytes == bytes && decide (0 < bytes) && (match ie.zero with|some z=>z.cells.size == sz|none=>false)
  | none=>false
 | _=>false

structure CloneShape (P:Program) (fn:Func) (t sz bytes:Nat) where
 i0:Nat
 i1:Nat
 i2:Nat
 i3:Nat
 o0:Oper
 o1:Oper
 o2:Oper
 o3:Oper
 o4:Oper
 o5:Oper
 o6:Oper
 o7:Oper
 ty:TypeId
 body:fn.body=some (.seq (.region i0 #[o0] false) (.seq (.seq (.region i1 #[o1,o2] false) (.cond (.tmp 4) (.seq (.region i2 #[o3] false) .ret) .skip)) (.seq (.region i3 #[o4,o5,o6,o7] false) .ret)))
 nt:fn.ntmps=8
 res:fn.results=#[.tmp 2]
 d0:o0.dst=some 2∧o0.op=.assign (.const (.slice none 0 0))∧o0.guard=none
 d1:o1.dst=some 3∧o1.op=.move (.tmp 0)∧o1.guard=none
 d2:o2.dst=some 4∧o2.op=.binOp .eql t (.tmp 3) (.const (.slice none 0 0)) ty∧o2.guard=none
 d3:o3.dst=some 2∧o3.op=.assign (.const (.slice none 0 0))∧o3.guard=none
 d4:o4.dst=some 5∧o4.op=.buildSlice t 0 #[]∧o4.guard=none
 d5:o5.dst=some 6∧o5.op=.move (.tmp 0)∧o5.guard=none
 d6:o6.dst=some 7∧o6.op=.call { callee:=.builtin .append,args:=#[.tmp 5,.tmp 6],argTypes:=#[t,t] }∧o6.guard=none
 d7:o7.dst=some 2∧o7.op=.assign (.tmp 7)∧o7.guard=none
 tb:b0V P t sz bytes=true

theorem b2c {P:Program} {t sz bytes:Nat} (h:b0V P t sz bytes=true):∃ e ie z,P.underlying t=some (.slice e)∧P.info? e=some ie∧ie.zero=some z∧ie.size=sz∧ie.bytes=bytes∧z.cells.size=sz∧0 < bytes:=by
 unfold b0V at h
 split at h
 case h_2=>cases h
 rename_i e hu
 split at h
 case h_2=>cases h
 rename_i ie hi
 simp only [Bool.and_eq_true,beq_iff_eq,decide_eq_true_eq] at h
 obtain ⟨⟨⟨h1,h2⟩,h3⟩,h4⟩:=h
 split at h4
 case h_2=>cases h4
 rename_i z hz
 exact ⟨e,ie,z,hu,hi,hz,h1,h2,by simpa using h4,h3⟩

theorem b0c {P:Program} {gt:List (Nat×List AV)} {f t sz bytes:Nat} {fn:Func} (hf:P.funcs[f]?=some fn) (C:CloneShape P fn t sz bytes):R4 P gt f (Y5 sz bytes):=by
 intro args st res st' h hweak g w vs hst _ hrel
 obtain ⟨e,ie,z,tu,ti,tz,tsz,tby,tzs,tb1⟩:=b2c C.tb
 unfold Y5 at h
 split at h
 case h_2=>cases h
 rename_i own xs
 split at h
 case isFalse=>cases h
 rename_i hcond
 simp only [Bool.and_eq_true,decide_eq_true_eq] at hcond
 obtain ⟨hrows,hbytes⟩:=hcond
 simp only [Option.some.injEq,Prod.mk.injEq] at h
 obtain ⟨rfl,rfl⟩:=h
 simp only [RelL] at hrel
 obtain ⟨v,_,rfl,hv,rfl⟩:=hrel
 have hvs:=hv
 simp only [Rel] at hvs
 obtain ⟨ad0,n,cap,rfl,rfl,hcap,hnil,hne⟩:=hvs
 let A:Nat→Prop:=fun b=>w.heap.size≤b∨g.sr b≠none
 let c:Cx:=⟨P,[0,2],[],8,[],A⟩
 have fx:Fx c:=⟨show ([0,2]:List Nat).Nodup by decide,show ∀ s∈([0,2]:List Nat),s < 8 by decide⟩
 have hown:own=false:=by
  have:=hweak (.list own xs) (by simp)
  simpa [AV.weak] using this.symm
 subst hown
 refine calls_of_wp hf C.body ?_
 have hS:S c g w (fun _=>none) (fun _=>0) ⟨[.list false xs,.undef],fun _=>.undef,st⟩ { tmps:=#[Value.slice ad0 xs.length cap]++Array.replicate (fn.ntmps - 1) undef,defers:=[] }:=by
  refine ⟨⟨by simp [c,C.nt],rfl,fun i s hs=>?_,fun s _=>ValOK.undef,fun b p hb=>(by cases hb),fun i cs hi=>?_⟩,hst,fun e he=>(by cases he),fun b hb=>.inl hb,fun b p hb=>.inr (by rw [hb]; simp)⟩
  · match i,hs with
    | 0,hs =>
     simp only [c,List.getElem?_cons_zero,Option.some.injEq] at hs
     subst hs
     have hval:ValOK g w (fun b=>(fun _=>none:Nat→Option Pl) b=some (.var 0)) (AV.list false xs).weak (.slice ad0 xs.length cap):=ValOK.of_weak hv
     have e0:(#[Value.slice ad0 xs.length cap]++Array.replicate (fn.ntmps - 1) undef).getD 0 undef=.slice ad0 xs.length cap:=by rw [C.nt]; rfl
     show VarOK g w (fun _=>none) (fun _=>0) 0 (.list false xs) ((#[Value.slice ad0 xs.length cap]++Array.replicate (fn.ntmps - 1) undef).getD 0 undef)
     rw [e0]
     exact hval
    | 1,hs=>exact VarOK.undef
    | i+2,hs=>simp [c] at hs
  · match i,hi with
    | 0,hi=>simp at hi
    | 1,hi=>simp at hi
    | i+2,hi=>simp at hi
 -- the end
 have fin:∀ (x:AV) (a':Act) (w':World) (g':Gh) (pr':Nat→Option Pl) (bx':Nat→Nat) (τ':Nat→AV),a'.defers=[]→S c g' w' pr' bx' ⟨[x,.list true xs],τ',st⟩ a'→Tr c.A g w g' w' →
  bodyPost P fn (CallPost g w st (.list true xs)) .ret a' w':=by
  intro x a' w' g' pr' bx' τ' hd hS' ht
  refine ⟨hd,?_⟩
  obtain ⟨us,hus,hul,hall⟩:=b11 (c:=c) hS' (rs:=fn.results.toList) (ks:=[.vs 1]) (vs:=[.list true xs]) (by rw [C.res]; rfl) rfl
  refine ⟨_,a4k hus,_,g',rfl,hS'.st,⟨ht.ext,ht.size,ht.env,fun b hb hs _=>ht.keep b hb hs fun hA=>?_⟩,?_⟩
  · rcases hA with hA|hA
    · omega
    · exact hA hs
  · match us,hul,hall with
    | [u],_,hall =>
     refine (hall 0 (.list true xs) u rfl rfl).mono (Ext.refl _ _) fun b hb=>⟨?_,rfl,fun _ x=>x⟩
     obtain ⟨p,hp⟩:=hb
     obtain ⟨q1,q2,q3⟩:=hS'.fr.prv b p hp
     exact ⟨q1,q2,q3⟩
 refine wp_seq (wp_region ?_)
 show wpOps P #[C.o0] _ [0] _ _
 rw [wpOps_cons]
 refine S6 rfl C.d0.2.2 (a3c (c:=c) fx hS (.inr C.d0.2.1) (p:=.c (.list true [])) (d:=.v 1) rfl (by rw [C.d0.1]; rfl) fun a1 w1 g1 pr1 bx1 hd1 hS1 ht1=>?_)
 show (Code.seq _ _).wp P _ a1 w1
 refine wp_seq (wp_seq (wp_region ?_))
 show wpOps P #[C.o1,C.o2] _ [0,1] _ _
 rw [wpOps_cons]
 refine S6 rfl C.d1.2.2 (a3c (c:=c) fx hS1 (.inl C.d1.2.1) (p:=.v 0) (d:=.t 3) rfl (by rw [C.d1.1]; rfl) fun a2 w2 g2 pr2 bx2 hd2 hS2 ht2=>?_)
 rw [wpOps_cons]
 have hA2:=P2 hS2 (x:=.tmp 3) (p:=.t 3) rfl
 have hr2:Rel g2 w2 (.list false xs) (a2.eval (.tmp 3)):=ValOK.rel hA2
 have hr2':=hr2
 simp only [Rel] at hr2'
 obtain ⟨ad2,n2,cap2,hev2,hn2,hcap2,hnil2,hne2⟩:=hr2'
 refine S6 rfl C.d2.2.2 (c6F (c:=c) fx hS2 C.d2.2.1 tu hev2 (d:=.t 4) (by rw [C.d2.1]; rfl) fun a3 w3 g3 pr3 bx3 hd3 hS3 ht3=>?_)
 show (Code.cond _ _ _).wp P _ a3 w3
 have ht03:=(ht1.trans ht2).trans ht3
 have hd03:a3.defers=[]:=hd3.trans (hd2.trans hd1)
 have hb:=a1s hS3 (x:=.tmp 4) (y:=.t 4) rfl (b:=ad2.isNone) rfl
 refine wp_cond hb ?_
 cases ad2 with
 | none =>
  have hx0:xs=[]:=by
   have:=hnil2 rfl
   exact List.eq_nil_of_length_eq_zero (by omega)
  refine wp_seq (wp_region ?_)
  show wpOps P #[C.o3] _ [0] _ _
  rw [wpOps_cons]
  refine S6 rfl C.d3.2.2 (a3c (c:=c) fx hS3 (.inr C.d3.2.1) (p:=.c (.list true [])) (d:=.v 1) rfl (by rw [C.d3.1]; rfl) fun a4 w4 g4 pr4 bx4 hd4 hS4 ht4=>?_)
  show Code.ret.wp P _ a4 w4
  refine wp_ret ?_
  show bodyPost P fn _ .ret a4 w4
  subst hx0
  exact fin _ a4 w4 g4 pr4 bx4 _ (hd4.trans hd03) hS4 (ht03.trans ht4)
 | some ad3 =>
  refine wp_skip ?_
  show (Code.seq _ _).wp P _ a3 w3
  refine wp_seq (wp_region ?_)
  show wpOps P #[C.o4,C.o5,C.o6,C.o7] _ [0,1,2,3] _ _
  rw [wpOps_cons]
  refine S6 rfl C.d4.2.2 (c4n (c:=c) fx hS3 C.d4.2.1 tu ti (d:=.t 5) (by rw [C.d4.1]; rfl) fun a4 w4 g4 pr4 bx4 hd4 hS4 ht4=>?_)
  rw [wpOps_cons]
  refine S6 rfl C.d5.2.2 (a3c (c:=c) fx hS4 (.inl C.d5.2.1) (p:=.v 0) (d:=.t 6) rfl (by rw [C.d5.1]; rfl) fun a5 w5 g5 pr5 bx5 hd5 hS5 ht5=>?_)
  rw [wpOps_cons]
  refine S6 rfl C.d6.2.2 (b6O (c:=c) fx hS5 C.d6.2.1 rfl tu ti tz tsz tby tzs tb1 (p0:=.ts 5) (p1:=.t 6) (d:=.t 7) rfl rfl (by rw [C.d6.1]; rfl) (by rw [C.d6.1]; rfl) (xs:=[]) (ys:=xs) (own:=false) rfl rfl rfl hrows (by simpa using hbytes) fun a6 w6 g6 pr6 bx6 hd6 hS6 ht6=>?_)
  rw [wpOps_cons]
  refine S6 rfl C.d7.2.2 (a3c (c:=c) fx hS6 (.inr C.d7.2.1) (p:=.ts 7) (d:=.v 1) rfl (by rw [C.d7.1]; rfl) fun a7 w7 g7 pr7 bx7 hd7 hS7 ht7=>?_)
  show Code.ret.wp P _ a7 w7
  refine wp_ret ?_
  show bodyPost P fn _ .ret a7 w7
  exact fin _ a7 w7 g7 pr7 bx7 _ (hd7.trans (hd6.trans (hd5.trans (hd4.trans hd03)))) hS7 ((((ht03.trans ht4).trans ht5).trans ht6).trans ht7)
end
end Go.Cb
/-
 THE ABSTRACT MACHINE, part 49: rows that are objects of their own: a copy, one row more, one row less: answers of their own.
-/
set_option maxRecDepth 4000
set_option linter.unusedVariables false
namespace Go.Cb
open Classical

def a0y (sz bytes:Nat):List AV→St→Option (AV×St)
 | [.nils],st=>some (.nils,st)
 | [.sl o f n s],st=>match st[o]? with
  | some (.cells cs)=>if s=sz∧f+n*sz≤cs.length∧n*bytes≤70368744177664 then some (.sl st.length 0 n sz,st++[.cells (((cs.drop f).take (n*sz)).map AV.weak1)]) else none
  | _=>none
 | _,_=>none
def J3 (sz i:Nat) (cs row:List AV):List AV:=(cs.take (i*sz)++row++cs.drop (i*sz)).map AV.weak1
def S4 (sz bytes:Nat):List AV→St→Option (AV×St)
 | [.nils,.int .i64 i,.list _ [row]],st=>if i=0∧row.length=sz then some (.sl st.length 0 1 sz,st++[.cells (J3 sz 0 [] row)]) else none
 | [.sl o 0 n s,.int .i64 i,.list _ [row]],st=>match st[o]? with
  | some (.cells cs)=>if s=sz∧0≤i∧i≤n∧cs.length=n*sz∧row.length=sz∧(n+1)*bytes≤70368744177664 then some (.sl st.length 0 (n+1) sz,st.set o .dead++[.cells (J3 sz i.toNat cs row)]) else none
  | _=>none
 | _,_=>none
def a1v (sz i:Nat) (cs:List AV):List AV:=(cs.take (i*sz)++cs.drop ((i+1)*sz)).map AV.weak1
def b3c (sz bytes:Nat):List AV→St→Option (AV×St)
 | [.sl o 0 n s,.int .i64 i,.int .i64 j],st=>match st[o]? with
  | some (.cells cs)=>if s=sz∧0≤i∧i < n∧j=i+1∧cs.length=n*sz∧n*bytes≤70368744177664 then some (.sl st.length 0 (n - 1) sz,st.set o .dead++[.cells (a1v sz i.toNat cs)]) else none
  | _=>none
 | _,_=>none
end Go.Cb
/-
 THE ABSTRACT MACHINE, part 50: a copy of rows of several cells; two slices that lie apart; what a new object in the store comes to.
-/
set_option maxRecDepth 4000
set_option linter.unusedVariables false
set_option linter.unusedSimpArgs false
namespace Go.Cb
open Classical

theorem R7 {P:Program} (w:World) (dT sT ty elem:TypeId) (sz g o dLen dCap:Nat) (a:Addr) (sLen sCap:Nat) (cur:Array Value) (t:TypeId) (cs:List Value)
 (hu:P.underlying dT=some (.slice elem)) (hs:(P.info? elem).map (·.size)=some sz)
 (hg:w.heap[g]?=some (.cells cur t (0,0))) (hn:cs.length=Nat.min sLen dLen*sz)
 (hsrc:∀ j v,cs[j]?=some v→w.cell? (a.add j)=some v) (hfit:o+cs.length≤cur.size) (h1:∀ v∈cs,v.oneCell'=true) :
 (Builtin.copy_ #[dT,sT] ty #[.slice (some ⟨g,o,none⟩) dLen dCap,.slice (some a) sLen sCap]).run P w =
  .ok (goInt (Nat.min sLen dLen)) (w.setRow g (cur.toList.take o++cs++cur.toList.drop (o+cs.length)).toArray):=by
 have hl:=run_loadCells_list (P:=P) w a cs hsrc
 have hst:=run_storeCells_at P g o t cs 0 cur w hg (by simpa using hfit) h1
 cases hq:P.info? elem with
 | none=>simp [hq] at hs
 | some i =>
  have hi:i.size=sz:=by simpa [hq] using hs
  simp [Builtin.copy_,run_underlying hu,Builtin.lenOf,Builtin.firstCells,sizeOf,typeInfo,hq,hi,← hn,hl,hst]

theorem a2D {P:Program} (w:World) (tS tR e:TypeId) (ht:P.underlying tS=some (.slice e)) (size:Nat) (hz:∀ w,(Go.sizeOf e).run P w=.ok size w)
 (a b:Addr) (la ca lb cb:Nat) (hne:a.block≠b.block) {arrA arrB:Array Value} {TA TB:TypeId} {zA:Nat×Nat}
 (hA:w.heap[a.block]?=some (.cells arrA TA zA)) (hB:w.heap[b.block]?=some (.cells arrB TB (0,0))) (hkA:arrA.size≠0) (hkB:arrB.size≠0) :
 (Extern.SlicesOverlaps.overlaps #[tS,tS] #[tR] #[.slice (some a) la ca,.slice (some b) lb cb]).run P w=.ok (.bool false) w:=by
 have hnb:(a.block != b.block)=true:=by simpa using hne
 have hnb':(a.block == b.block)=false:=by simpa using hne
 have hsa:w.shape? a.block=some (TA,arrA.size):=by simp [World.shape?,hA]
 have hsb:w.shape? b.block=some (TB,arrB.size):=by simp [World.shape?,hB]
 have hfb:∀ x:Addr,x.block=b.block→w.frozen? x=false:=fun x hx=>by simp [World.frozen?,hx,hB]
 have hf1:=hfb b rfl
 have hf2:=hfb { block:=b.block,off:=arrB.size } rfl
 delta Extern.SlicesOverlaps.overlaps
 dsimp only
 delta Extern.SlicesOverlaps.overlaps.match_4
 dsimp only [Array.size,List.length]
 simp only [dif_pos,Nat.reduceAdd,Nat.zero_add]
 dsimp only [Array.getLit,getElem,Array.getInternal,List.get]
 by_cases h0:la=0∨lb=0∨size=0
 · simp [run_underlying ht,hz,h0]
 · cases hn:arrB.size with
   | zero=>exact absurd hn hkB
   | succ kB =>
    rw [hn] at hsb hf2
    cases hm:arrA.size with
    | zero=>exact absurd hm hkA
    | succ kA =>
    rw [hm] at hsa
    cases hfa:w.frozen? a with
    | true=>simp [run_underlying ht,hz,h0,hnb,hnb',frozen,noView,viewAt,mayBeOne,stringish,shape,Sem.run,hsa,hsb,hfa,hf1,hf2]
    | false =>
     cases hfe:w.frozen? { block:=a.block,off:=kA+1 } <;>
     simp [run_underlying ht,hz,h0,hnb,hnb',frozen,noView,viewAt,mayBeOne,stringish,shape,Sem.run,hsa,hsb,hfa,hf1,hf2,hfe]
end Go.Cb
/-
 THE ABSTRACT MACHINE, part 30: from an abstract answer to the model's call.
-/
set_option maxRecDepth 4000
set_option linter.unusedVariables false
namespace Go.Cb
open Classical

def gh0 (W:World):Gh:={ n:=0,m:=fun _=>0,cl:=fun b _=>b < W.heap.size,sr:=fun _=>none,cp:=fun _=>0 }

theorem c9Q (W:World):SRel (gh0 W) W []:=⟨rfl,fun o ob h=>by simp at h,fun b p h=>(by cases h),fun b f h=>h⟩

structure Kept (W W':World):Prop where
 kept:W.keptBut W' (fun _=>False)
 fz:∀ a:Addr,a.block < W.heap.size→W'.frozen? a=W.frozen? a
 size:W.heap.size≤W'.heap.size
 old:∀ b,b < W.heap.size→W'.heap[b]?=W.heap[b]?

theorem x9 {P:Program} {gt:List (Nat×List AV)} {tbl:Nat→Option AFn} (hP:ProgOK P gt tbl) {n f:Nat} {args:List AV} {b:Bool} {st':St} (h:k9 tbl n f args []=some (.bool b,st')) (hw:∀ x∈args,x.weak=x)
 {W:World} {vs:List Value} (hg:Globs gt (gh0 W) W) (hr:RelL (gh0 W) W args vs):Calls P f vs.toArray W (fun e W'=>e=.returned (.bool b)∧Kept W W'):=by
 refine ((b9a hP n f args [] _ _ h hw).2 (gh0 W) W vs (c9Q W) hg hr).mono fun e W' he=>?_
 obtain ⟨v,g',rfl,_,ht,hv⟩:=he
 have hv:=hv.rel
 simp only [Rel] at hv
 subst hv
 have hold:∀ b,b < W.heap.size→W'.heap[b]?=W.heap[b]?:=fun b hb=>(ht.keep b hb rfl fun x=>x).1.1
 refine ⟨rfl,⟨ht.env.os,ht.env.out,fun i hi=>?_⟩,ht.env.fz,ht.size,hold⟩
 rw [hold i hi]
 cases hq:W.heap[i]? with
 | none=>simp
 | some o=>cases o <;> simp
end Go.Cb
/-
 THE ABSTRACT MACHINE, part 28: running told as a chain, for reckoning with unknowns.
-/
set_option maxRecDepth 4000
set_option linter.unusedSimpArgs false
set_option linter.unusedVariables false
namespace Go.Cb
open Classical

theorem a8 {α:Sort _} {a b:α} (h:a=b):a=b:=by
 cases h
 rfl

def obind {α β:Type} (x:Option α) (f:α→Option β):Option β:=match x with
 | some a=>f a
 | none=>none
theorem n6 {α β:Type} (a:α) (f:α→Option β):obind (some a) f=f a:=a8 rfl
theorem g8 {α β:Type} {x x':Option α} {f:α→Option β} (h:x=x'):obind x f=obind x' f:=by rw [h]

def p1 (x:Option (AV×AV×St)):Option AV:=match x with
 | some (r,_,_)=>some r
 | none=>none
theorem b2j (r b:AV) (st:St):p1 (some (r,b,st))=some r:=a8 rfl
def p2 (x:Option (AV×AV×St)):Option (AV×St):=match x with
 | some (r,_,st)=>some (r,st)
 | none=>none
theorem a1x (r b:AV) (st:St):p2 (some (r,b,st))=some (r,st):=a8 rfl

def gv (x:AV) (want:Bool) (e:Option AV):Option AV:=match x with
 | .bool b=>if b == want then e else some (.tuple [])
 | .tuple []=>some (.tuple [])
 | _=>none
def gv2 (x:AV) (want:Bool) (st:St) (e:Option (AV×St)):Option (AV×St):=match x with
 | .bool b=>if b == want then e else some (.tuple [],st)
 | .tuple []=>some (.tuple [],st)
 | _=>none
theorem a6V (want:Bool) (e:Option AV):gv (.tuple []) want e=some (.tuple []):=a8 rfl

theorem c1o (e:Option AV):gv (.bool true) true e=e:=a8 rfl
theorem c0q (e:Option AV):gv (.bool true) false e=some (.tuple []):=a8 rfl
theorem c0w (e:Option AV):gv (.bool false) false e=e:=a8 rfl
theorem c0d (e:Option AV):gv (.bool false) true e=some (.tuple []):=a8 rfl
theorem b6r (st:St) (e:Option (AV×St)):gv2 (.bool true) true st e=e:=a8 rfl
theorem b5L (st:St) (e:Option (AV×St)):gv2 (.bool true) false st e=some (.tuple [],st):=a8 rfl
theorem b5G (st:St) (e:Option (AV×St)):gv2 (.bool false) false st e=e:=a8 rfl
theorem b5p (st:St) (e:Option (AV×St)):gv2 (.bool false) true st e=some (.tuple [],st):=a8 rfl
theorem b09 (want:Bool) (st:St) (e:Option (AV×St)):gv2 (.tuple []) want st e=some (.tuple [],st):=a8 rfl
theorem j0 {x:AV} {want:Bool} {st:St} {e:Option (AV×St)} {x':AV} (h:x=x'):gv2 x want st e=gv2 x' want st e:=by rw [h]

def e8 (xs:List Opd):Bool:=xs.any Opd.steals

theorem R6:∀ {xs:List Opd} {σ:Sig},e8 xs=false→c0 xs σ=σ
 | [],_,_=>rfl
 | x::xs,σ,h=>by
  simp only [e8,List.any_cons,Bool.or_eq_false_iff] at h
  have e:x.spend σ=σ:=by cases x <;> simp_all [Opd.spend,Opd.steals]
  rw [c0,e]
  exact R6 (xs:=xs) h.2

def goK (call:b9) {α:Type} (o:AOper) (σ:Sig) (k:Sig→Option α):Option α :=
 match o.kind.setSt || o.kind.alters || e8 o.args with
 | false=>obind (p1 (sem o.kind call (o.args.map (·.read σ)) (boxOf' o.box σ) σ.st)) fun r=>k (o.dst.put r σ)
 | true=>match o.kind.alters || e8 o.args with
  | false=>obind (p2 (sem o.kind call (o.args.map (·.read σ)) (boxOf' o.box σ) σ.st)) fun r=>k (o.dst.put r.1 { σ with st:=r.2 })
  | true=>obind (sem o.kind call (o.args.map (·.read σ)) (boxOf' o.box σ) σ.st) fun r =>
   let σ:=c0 o.args σ
   match o.box with
   | some i=>k (o.dst.put r.1 { σ with fr:=σ.fr.set i r.2.1,st:=r.2.2 })
   | none=>k (o.dst.put r.1 { σ with st:=r.2.2 })
where boxOf' (b:Option Nat) (σ:Sig):AV:=match b with|some i=>σ.fr.getD i .undef|none=>.undef

def a3e (call:b9) {α:Type} (o:AOper) (σ:Sig) (k:Sig→Option α):Option α :=
 match o.guard with
 | none=>goK call o σ k
 | some (x,want)=>match o.kind.setSt || o.kind.alters || e8 o.args with
  | false=>obind (gv (x.read σ) want (p1 (sem o.kind call (o.args.map (·.read σ)) (goK.boxOf' o.box σ) σ.st))) fun r=>k (o.dst.put r σ)
  | true=>match o.kind.alters || e8 o.args with
   | false=>obind (gv2 (x.read σ) want σ.st (p2 (sem o.kind call (o.args.map (·.read σ)) (goK.boxOf' o.box σ) σ.st))) fun r=>k (o.dst.put r.1 { σ with st:=r.2 })
   | true=>match x.read σ with
    | .bool b=>if b == want then goK call o σ k else k (o.dst.put (.tuple []) σ)
    | .tuple []=>k (o.dst.put (.tuple []) σ)
    | _=>none

def a7x (call:b9) {α:Type}:List AOper→Sig→(Sig→Option α)→Option α
 | [],σ,k=>k σ
 | o::os,σ,k=>a3e call o σ fun σ=>a7x call os σ k

theorem a2r (fr:List AV) (i:Nat):fr.set i (fr.getD i .undef)=fr:=by
 apply List.ext_getElem?
 intro j
 rw [List.getElem?_set]
 by_cases e:i=j
 · subst e
   rw [if_pos rfl]
   split
   · rename_i h; simp [h]
   · rename_i h; rw [List.getElem?_eq_none (by omega)]
 · rw [if_neg e]

theorem a5W {call:b9} {α:Type} {o:AOper} {σ:Sig} {k:Sig→Option α}:goK call o σ k=obind (E7 call o σ) k:=by
 have hb:goK.boxOf' o.box σ=(match o.box with|some i=>σ.fr.getD i .undef|none=>.undef):=rfl
 unfold goK
 rw [M6,hb]
 split
 · rename_i hp
   simp only [Bool.or_eq_false_iff] at hp
   obtain ⟨⟨h1,h2⟩,h3⟩:=hp
   cases hs:sem o.kind call (o.args.map (·.read σ)) (match o.box with|some i=>σ.fr.getD i .undef|none=>.undef) σ.st with
   | none=>rfl
   | some x =>
    obtain ⟨r,b',st'⟩:=x
    have e1:=a2W h1 hs
    have e2:=a1y h2 hs
    subst e1
    simp only [p1,n6,R6 h3]
    cases hbx:o.box with
    | none=>rfl
    | some i =>
     simp only [hbx] at e2
     rw [e2]
     simp only [a2r,n6]
 · rename_i hp
   split
   · rename_i hq
     simp only [Bool.or_eq_false_iff] at hq
     obtain ⟨h2,h3⟩:=hq
     cases hs:sem o.kind call (o.args.map (·.read σ)) (match o.box with|some i=>σ.fr.getD i .undef|none=>.undef) σ.st with
     | none=>rfl
     | some x =>
      obtain ⟨r,b',st'⟩:=x
      have e2:=a1y h2 hs
      simp only [p2,n6,R6 h3]
      cases hbx:o.box with
      | none=>rfl
      | some i =>
       simp only [hbx] at e2
       rw [e2]
       simp only [a2r,n6]
   · cases hs:sem o.kind call (o.args.map (·.read σ)) (match o.box with|some i=>σ.fr.getD i .undef|none=>.undef) σ.st with
     | none=>rfl
     | some x =>
      obtain ⟨r,b',st'⟩:=x
      simp only [n6]
      cases hbx:o.box with
      | none=>rfl
      | some i=>rfl

theorem c1U {α:Type} {x:AV} {want:Bool} {e:Option AV} {f:AV→Option α}:obind (gv x want e) f =
 (match x with|.bool b=>if b == want then obind e f else f (.tuple [])|.tuple []=>f (.tuple [])|_=>none):=by
 unfold gv
 split
 · split <;> rfl
 · rfl
 · rfl

theorem b77 {α:Type} {x:AV} {want:Bool} {st:St} {e:Option (AV×St)} {f:AV×St→Option α}:obind (gv2 x want st e) f =
 (match x with|.bool b=>if b == want then obind e f else f (.tuple [],st)|.tuple []=>f (.tuple [],st)|_=>none):=by
 unfold gv2
 split
 · split <;> rfl
 · rfl
 · rfl

theorem a2l {call:b9} {α:Type} {o:AOper} {σ:Sig} {k:Sig→Option α}:a3e call o σ k=obind (j2 call o σ) k:=by
 unfold a3e j2
 cases hg:o.guard with
 | none=>exact a5W
 | some xw =>
  obtain ⟨x,want⟩:=xw
  simp only
  split
  · rename_i hp
    have hgo:obind (p1 (sem o.kind call (o.args.map (·.read σ)) (goK.boxOf' o.box σ) σ.st)) (fun r=>k (o.dst.put r σ))=obind (E7 call o σ) k:=by
     have:=a5W (call:=call) (o:=o) (σ:=σ) (k:=k)
     unfold goK at this
     rw [hp] at this
     exact this
    rw [c1U]
    cases hx:x.read σ <;> try rfl
    · dsimp only
      split
      · exact hgo
      · rfl
    · rename_i vs
      cases vs <;> rfl
  · rename_i hp
    split
    · rename_i hq
      have hgo:obind (p2 (sem o.kind call (o.args.map (·.read σ)) (goK.boxOf' o.box σ) σ.st)) (fun r=>k (o.dst.put r.1 { σ with st:=r.2 }))=obind (E7 call o σ) k:=by
       have:=a5W (call:=call) (o:=o) (σ:=σ) (k:=k)
       unfold goK at this
       rw [hp,hq] at this
       exact this
      rw [b77]
      cases hx:x.read σ <;> try rfl
      · dsimp only
        split
        · exact hgo
        · rfl
      · rename_i vs
        cases vs <;> rfl
    · cases hx:x.read σ <;> try rfl
      · dsimp only
        split
        · exact a5W
        · rfl
      · rename_i vs
        cases vs <;> rfl

theorem a0s {call:b9} {α:Type} {k:Sig→Option α}:∀ {ops:List AOper} {σ:Sig},a7x call ops σ k=obind (m2 call ops σ) k
 | [],σ=>rfl
 | o::os,σ=>by
  simp only [a7x,m2,a2l]
  cases hs:j2 call o σ with
  | none=>rfl
  | some σ1=>exact a0s

def br (c:AV) (a b:Option Out):Option Out:=match c with
 | .bool true=>a
 | .bool false=>b
 | _=>none
theorem b9I (call:b9) (n:Nat) (kill:List Nat) (ps:List AOper) (fr:List AV) (st:St) :
 e9 call n (.reg kill ps) fr st=a7x call ps ⟨k7 kill fr,fun _=>.undef,st⟩ fun σ=>some (.normal,σ.fr,σ.st):=by
 rw [a0s]
 simp only [e9,fL_eq]
 cases m2 call ps ⟨k7 kill fr,fun _=>.undef,st⟩ <;> rfl
theorem a8P (call:b9) (n:Nat) (kill:List Nat) (ps:List AOper) (c:Opd) (a b:ACode) (fr:List AV) (st:St) :
 e9 call n (.test kill ps c a b) fr st=a7x call ps ⟨k7 kill fr,fun _=>.undef,st⟩ fun σ=>br (c.read σ) (e9 call n a σ.fr σ.st) (e9 call n b σ.fr σ.st):=by
 rw [a0s]
 simp only [e9,fL_eq]
 cases m2 call ps ⟨k7 kill fr,fun _=>.undef,st⟩ with
 | none=>rfl
 | some σ =>
  simp only [n6]
  generalize c.read σ=y
  cases y <;> rfl

def c0z (i:Nat) (x:AV):AV:=match x with
 | .box _=>.loc i 0
 | _=>.undef

def seqK (x:Option Out) (f:List AV→St→Option Out):Option Out:=match x with
 | some (.normal,fr,st)=>f fr st
 | r=>r
theorem a1d (fr:List AV) (st:St) (f:List AV→St→Option Out):seqK (some (.normal,fr,st)) f=f fr st:=a8 rfl
theorem a8Q (id:Nat) (fr:List AV) (st:St) (f:List AV→St→Option Out):seqK (some (.exit id,fr,st)) f=some (.exit id,fr,st):=a8 rfl
theorem b0G (fr:List AV) (st:St) (f:List AV→St→Option Out):seqK (some (.ret,fr,st)) f=some (.ret,fr,st):=a8 rfl
theorem i6 {x x':Option Out} {f:List AV→St→Option Out} (h:x=x'):seqK x f=seqK x' f:=by rw [h]
theorem exec_seqK (call:b9) (n:Nat) (a b:ACode) (fr:List AV) (st:St):e9 call n (.seq a b) fr st=seqK (e9 call n a fr st) (e9 call n b):=by
 simp only [e9,seqK]
 split <;> rename_i h <;> simp only [h]

def finK (rs:List ResK) (x:Option Out):Option (AV×St):=match x with
 | some (.exit _,_,_)=>none
 | some (_,fr,st)=>match O2 rs fr with
  | some [v]=>some (v,st)
  | some vs=>some (.tuple vs,st)
  | none=>none
 | none=>none
theorem a4J (fn:AFn) (call:b9) (n:Nat) (args:List AV) (st:St) (h:args.length=fn.np) :
 fn.run call n args st=finK fn.results (e9 call n fn.code (args++List.replicate (fn.nv - fn.np) .undef) st):=by
 unfold AFn.run finK
 rw [if_pos h]
 cases e9 call n fn.code (args++List.replicate (fn.nv - fn.np) .undef) st with
 | none=>rfl
 | some x =>
  obtain ⟨e,fr,st'⟩:=x
  cases e <;> dsimp only <;> cases O2 fn.results fr with
  | none=>rfl
  | some vs =>
   match vs with
   | []=>rfl
   | [v]=>rfl
   | _::_::_=>rfl
theorem b1Q (call:b9) (n:Nat) (fr:List AV) (st:St):e9 call n .ret fr st=some (.ret,fr,st):=by simp only [e9]
theorem a8a (call:b9) (n id:Nat) (fr:List AV) (st:St):e9 call n (.exit id) fr st=some (.exit id,fr,st):=by simp only [e9]
theorem a8w (call:b9) (n:Nat) (fr:List AV) (st:St):e9 call n .skip fr st=some (.normal,fr,st):=by simp only [e9]
end Go.Cb
/-
 THE ABSTRACT MACHINE, part 31: more fuel does no harm.
-/
set_option maxRecDepth 4000
set_option linter.unusedSimpArgs false
set_option linter.unusedVariables false
namespace Go.Cb
open Classical

def Y4 (c c':b9):Prop:=∀ f as st r,c f as st=some r→c' f as st=some r

theorem c5F {c c':b9} (h:Y4 c c') {k:Kind} {as:List AV} {b:AV} {st:St} {r:AV×AV×St} (hs:sem k c as b st=some r):sem k c' as b st=some r:=by
 cases k
 case call f =>
  simp only [sem,u9] at hs ⊢
  split at hs
  · rename_i hp
    rw [if_pos hp]
    obtain ⟨x,hx,rfl⟩:=Option.map_eq_some_iff.1 hs
    rw [h _ _ _ _ hx]
    rfl
  · cases hs
 case callA f m =>
  simp only [sem,D4] at hs ⊢
  cases hc:u9 f c (as.take m) b st with
  | none=>rw [hc] at hs; cases hs
  | some x =>
   rw [hc] at hs
   have:u9 f c' (as.take m) b st=some x:=by
    unfold u9 at hc ⊢
    split at hc
    · rename_i hp
      rw [if_pos hp]
      obtain ⟨y,hy,rfl⟩:=Option.map_eq_some_iff.1 hc
      rw [h _ _ _ _ hy]
      rfl
    · cases hc
   rw [this]
   exact hs
 case callV =>
  simp only [sem] at hs ⊢
  unfold I8 at hs ⊢
  split at hs
  · split at hs
    · rename_i hp
      simp only [if_pos hp]
      obtain ⟨x,hx,rfl⟩:=Option.map_eq_some_iff.1 hs
      rw [h _ _ _ _ hx]
      rfl
    · cases hs
  · cases hs
 all_goals exact hs

theorem b3x {c c':b9} (h:Y4 c c') {o:AOper} {σ σ':Sig} (hs:E7 c o σ=some σ'):E7 c' o σ=some σ':=by
 obtain ⟨r,b',st',h1,rfl⟩:=k8 hs
 exact a3u (c5F h h1)
theorem b6Y {c c':b9} (h:Y4 c c') {o:AOper} {σ σ':Sig} (hs:j2 c o σ=some σ'):j2 c' o σ=some σ':=by
 unfold j2 at hs ⊢
 split at hs
 · exact b3x h hs
 · split at hs
   · split at hs
     · rename_i hc; rw [if_pos hc]; exact b3x h hs
     · rename_i hc; rw [if_neg hc]; exact hs
   · exact hs
   · cases hs
theorem a2s {c c':b9} (h:Y4 c c'):∀ {os:List AOper} {σ σ':Sig},m2 c os σ=some σ'→m2 c' os σ=some σ'
 | [],_,_,hs=>hs
 | o::os,σ,σ',hs=>by
  simp only [m2] at hs ⊢
  cases hq:j2 c o σ with
  | none=>simp [hq] at hs
  | some σ1 =>
   simp only [hq] at hs
   simp only [b6Y h hq]
   exact a2s h hs
theorem a3s {body body':List AV→St→Option Out} (h:∀ fr st r,body fr st=some r→body' fr st=some r):∀ {n m:Nat} {fr:List AV} {st:St} {r:Out},n≤m→U2 body n fr st=some r→U2 body' m fr st=some r
 | 0,_,_,_,_,_,hs=>by simp [U2] at hs
 | n+1,0,_,_,_,hle,_=>by omega
 | n+1,m+1,fr,st,r,hle,hs=>by
  simp only [U2] at hs ⊢
  cases hq:body fr st with
  | none=>simp [hq] at hs
  | some o =>
   rw [hq] at hs
   rw [h _ _ _ hq]
   obtain ⟨e,fr1,st1⟩:=o
   cases e with
   | normal=>exact a3s h (by omega) hs
   | exit id=>exact hs
   | ret=>exact hs
theorem D3 {c c':b9} (h:Y4 c c') {n m:Nat} (hle:n≤m):∀ {x:ACode} {fr:List AV} {st:St} {r:Out},e9 c n x fr st=some r→e9 c' m x fr st=some r
 | .skip,_,_,_,hs=>hs
 | .exit _,_,_,_,hs=>hs
 | .ret,_,_,_,hs=>hs
 | .reg kill ops,fr,st,r,hs=>by
  simp only [e9] at hs ⊢
  cases hq:m2 c ops ⟨k7 kill fr,fun _=>.undef,st⟩ with
  | none=>simp [hq] at hs
  | some σ=>rw [hq] at hs; rw [a2s h hq]; exact hs
 | .test kill ops x a b,fr,st,r,hs=>by
  rw [a8P] at hs ⊢
  rw [a0s] at hs ⊢
  cases hq:m2 c ops ⟨k7 kill fr,fun _=>.undef,st⟩ with
  | none=>rw [hq] at hs; cases hs
  | some σ =>
   rw [hq] at hs
   rw [a2s h hq]
   rw [n6] at hs ⊢
   unfold br at hs ⊢
   split at hs
   · exact D3 h hle hs
   · exact D3 h hle hs
   · cases hs
 | .either kill a b,fr,st,r,hs=>by
  simp only [e9] at hs ⊢
  obtain ⟨oa,ob,ea,eb,ka,kb⟩:=a5B hs
  rw [D3 h hle ea,D3 h hle eb,a1U (ka.trans kb.symm),ka]
 | .seq a b,fr,st,r,hs=>by
  rw [exec_seqK] at hs ⊢
  cases hq:e9 c n a fr st with
  | none=>rw [hq] at hs; cases hs
  | some o =>
   rw [hq] at hs
   rw [D3 h hle hq]
   obtain ⟨e,fr1,st1⟩:=o
   cases e with
   | normal=>exact D3 h hle hs
   | exit id=>exact hs
   | ret=>exact hs
 | .blk id a,fr,st,r,hs=>by
  simp only [e9] at hs ⊢
  cases hq:e9 c n a fr st with
  | none=>rw [hq] at hs; cases hs
  | some o=>rw [hq] at hs; rw [D3 h hle hq]; exact hs
 | .loop a,fr,st,r,hs=>by
  simp only [e9] at hs ⊢
  exact a3s (fun _ _ _ hb=>D3 h hle hb) hle hs
theorem b7u {c c':b9} (h:Y4 c c') {n m:Nat} (hle:n≤m) {fn:AFn} {args:List AV} {st:St} {r:AV×St} (hs:fn.run c n args st=some r):fn.run c' m args st=some r:=by
 have hl:args.length=fn.np:=by
  unfold AFn.run at hs
  split at hs
  · assumption
  · cases hs
 rw [a4J _ _ _ _ _ hl] at hs ⊢
 cases hq:e9 c n fn.code (args++List.replicate (fn.nv - fn.np) .undef) st with
 | none=>rw [hq] at hs; cases hs
 | some o=>rw [hq] at hs; rw [D3 h hle hq]; exact hs
theorem O6 {tbl:Nat→Option AFn}:∀ {n m:Nat},n≤m→Y4 (k9 tbl n) (k9 tbl m)
 | 0,_,_,_,_,_,_,hs=>by simp [k9] at hs
 | n+1,0,hle,_,_,_,_,_=>by omega
 | n+1,m+1,hle,f,as,st,r,hs=>by
  simp only [k9] at hs ⊢
  cases htb:tbl f with
  | none=>simp [htb] at hs
  | some fn =>
   simp only [htb] at hs ⊢
   cases he:fn.ext with
   | some e=>simp only [he] at hs ⊢; exact hs
   | none =>
    simp only [he] at hs ⊢
    exact b7u (O6 (by omega)) (by omega) hs

def Ev (tbl:Nat→Option AFn) (f:Nat) (as:List AV) (st:St) (r:AV) (st':St):Prop:=∃ n,k9 tbl n f as st=some (r,st')
theorem Ev.ge {tbl:Nat→Option AFn} {f:Nat} {as:List AV} {st:St} {r:AV} {st':St} (h:Ev tbl f as st r st'):∃ n0,∀ n,n0≤n→k9 tbl n f as st=some (r,st') :=
 let ⟨n,hn⟩:=h; ⟨n,fun m hm=>O6 hm _ _ _ _ hn⟩
end Go.Cb
/-
 THE ABSTRACT MACHINE, part 32: rules for what code comes to, with enough fuel.
-/
set_option maxRecDepth 4000
set_option linter.unusedVariables false
namespace Go.Cb
open Classical

section
variable {tbl:Nat→Option AFn}

def XC (tbl:Nat→Option AFn) (x:ACode) (fr:List AV) (st:St) (out:Out):Prop:=∃ n,e9 (k9 tbl n) n x fr st=some out
theorem XC.ge {x:ACode} {fr:List AV} {st:St} {out:Out} (h:XC tbl x fr st out):∃ n0,∀ n,n0≤n→e9 (k9 tbl n) n x fr st=some out :=
 let ⟨n,hn⟩:=h; ⟨n,fun m hm=>D3 (O6 hm) hm hn⟩

def LX (tbl:Nat→Option AFn) (x:ACode) (fr:List AV) (st:St) (out:Out):Prop:=∃ n k,U2 (e9 (k9 tbl n) n x) k fr st=some out

theorem LX.done {x:ACode} {fr:List AV} {st:St} {e:Ex} {fr':List AV} {st':St} (h:XC tbl x fr st (e,fr',st')) (he:e≠.normal):LX tbl x fr st (e,fr',st'):=by
 obtain ⟨n,hn⟩:=h
 refine ⟨n,1,?_⟩
 simp only [U2,hn]
 cases e with
 | normal=>exact absurd rfl he
 | exit id=>rfl
 | ret=>rfl
theorem LX.step {x:ACode} {fr fr1:List AV} {st st1:St} {out:Out} (h:XC tbl x fr st (.normal,fr1,st1)) (h':LX tbl x fr1 st1 out):LX tbl x fr st out:=by
 obtain ⟨n,hn⟩:=h
 obtain ⟨m,k,hm⟩:=h'
 refine ⟨max n m,k+1,?_⟩
 have h1:=D3 (O6 (tbl:=tbl) (Nat.le_max_left n m)) (Nat.le_max_left n m) hn
 simp only [U2,h1]
 exact a3s (fun _ _ _ hb=>D3 (O6 (Nat.le_max_right n m)) (Nat.le_max_right n m) hb) (Nat.le_refl k) hm
theorem XC.loop {x:ACode} {fr:List AV} {st:St} {out:Out} (h:LX tbl x fr st out):XC tbl (.loop x) fr st out:=by
 obtain ⟨n,k,h⟩:=h
 refine ⟨max n k,?_⟩
 simp only [e9]
 exact a3s (fun _ _ _ hb=>D3 (O6 (Nat.le_max_left n k)) (Nat.le_max_left n k) hb) (Nat.le_max_right n k) h
theorem XC.seq {a b:ACode} {fr fr1:List AV} {st st1:St} {out:Out} (h:XC tbl a fr st (.normal,fr1,st1)) (h':XC tbl b fr1 st1 out):XC tbl (.seq a b) fr st out:=by
 obtain ⟨n,hn⟩:=h
 obtain ⟨m,hm⟩:=h'
 refine ⟨max n m,?_⟩
 rw [exec_seqK,D3 (O6 (Nat.le_max_left n m)) (Nat.le_max_left n m) hn,a1d]
 exact D3 (O6 (Nat.le_max_right n m)) (Nat.le_max_right n m) hm
theorem XC.blk {id:Nat} {a:ACode} {fr fr1:List AV} {st st1:St} {e:Ex} (h:XC tbl a fr st (e,fr1,st1)):XC tbl (.blk id a) fr st (if e=.exit id then .normal else e,fr1,st1):=by
 obtain ⟨n,hn⟩:=h
 refine ⟨n,?_⟩
 simp only [e9,hn]
 cases e with
 | normal=>rfl
 | exit id' =>
  by_cases hid:id'=id
  · subst hid; simp
  · simp [hid]
 | ret=>rfl
theorem XC.skip {fr:List AV} {st:St}:XC tbl .skip fr st (.normal,fr,st):=⟨0,rfl⟩
theorem XC.exit {id:Nat} {fr:List AV} {st:St}:XC tbl (.exit id) fr st (.exit id,fr,st):=⟨0,rfl⟩
theorem XC.ret {fr:List AV} {st:St}:XC tbl .ret fr st (.ret,fr,st):=⟨0,rfl⟩

theorem XC.of {x:ACode} {fr:List AV} {st:St} {out:Out} (h:∃ n0,∀ n,n0≤n→e9 (k9 tbl n) n x fr st=some out):XC tbl x fr st out :=
 let ⟨n,hn⟩:=h; ⟨n,hn n (Nat.le_refl n)⟩
theorem XC.goes {x a:ACode} {fr fr1:List AV} {st st1:St} {out:Out} (h:∃ n0,∀ n,n0≤n→e9 (k9 tbl n) n x fr st=e9 (k9 tbl n) n a fr1 st1) (h':XC tbl a fr1 st1 out):XC tbl x fr st out:=by
 obtain ⟨n,hn⟩:=h
 obtain ⟨m,hm⟩:=h'.ge
 exact ⟨max n m,by rw [hn _ (Nat.le_max_left n m)]; exact hm _ (Nat.le_max_right n m)⟩

theorem Ev.of_body {f:Nat} {fn:AFn} {as:List AV} {st:St} {e:Ex} {fr':List AV} {st':St} {r:AV×St} (htb:tbl f=some fn) (he:fn.ext=none) (hl:as.length=fn.np)
 (h:XC tbl fn.code (as++List.replicate (fn.nv - fn.np) .undef) st (e,fr',st')) (hr:finK fn.results (some (e,fr',st'))=some r):Ev tbl f as st r.1 r.2:=by
 obtain ⟨n,hn⟩:=h
 refine ⟨n+1,?_⟩
 simp only [k9,htb,he]
 rw [a4J _ _ _ _ _ hl,hn,hr]
theorem Ev.of_ext {f:Nat} {fn:AFn} {as:List AV} {st:St} {e:List AV→St→Option (AV×St)} {r:AV×St} (htb:tbl f=some fn) (he:fn.ext=some e) (h:e as st=some r):Ev tbl f as st r.1 r.2 :=
 ⟨1,by simp only [k9,htb,he]; exact h⟩
end
end Go.Cb
/-
 THE ABSTRACT MACHINE, part 33: with enough fuel it comes to something of that sort.
-/
set_option maxRecDepth 4000
set_option linter.unusedVariables false
namespace Go.Cb
open Classical

def WC {α:Type} (c:Nat→Option α) (Q:α→Prop):Prop:=∃ n0 a,(∀ n,n0≤n→c n=some a)∧Q a
def EvQ (tbl:Nat→Option AFn) (f:Nat) (as:List AV) (st:St) (Q:AV→St→Prop):Prop:=∃ r st',Ev tbl f as st r st'∧Q r st'

theorem WC.ret {α:Type} {a:α} {Q:α→Prop} (h:Q a):WC (fun _=>some a) Q:=⟨0,a,fun _ _=>rfl,h⟩
theorem WC.mono {α:Type} {c:Nat→Option α} {P Q:α→Prop} (h:WC c P) (hq:∀ a,P a→Q a):WC c Q :=
 let ⟨n,a,ha,hp⟩:=h; ⟨n,a,ha,hq a hp⟩
theorem WC.obind {α β:Type} {c:Nat→Option α} {k:Nat→α→Option β} {P:α→Prop} {Q:β→Prop} (h:WC c P) (hk:∀ a,P a→WC (fun n=>k n a) Q):WC (fun n=>Go.Cb.obind (c n) (k n)) Q:=by
 obtain ⟨n,a,ha,hp⟩:=h
 obtain ⟨m,b,hb,hq⟩:=hk a hp
 refine ⟨max n m,b,fun j hj=>?_,hq⟩
 show Go.Cb.obind (c j) (k j)=some b
 rw [ha j (by omega),n6]
 exact hb j (Nat.le_trans (Nat.le_max_right n m) hj)
theorem EvQ.mono {tbl:Nat→Option AFn} {f:Nat} {as:List AV} {st:St} {P Q:AV→St→Prop} (h:EvQ tbl f as st P) (hq:∀ r st',P r st'→Q r st'):EvQ tbl f as st Q :=
 let ⟨r,st',he,hp⟩:=h; ⟨r,st',he,hq r st' hp⟩

section
variable {tbl:Nat→Option AFn}
theorem WC.call {β:Type} {f:Nat} {as as':List AV} {bx:AV} {st:St} {k:Nat→AV×St→Option β} {P:AV→St→Prop} {Q:β→Prop}
 (h:EvQ tbl f as' st P) (hp:s7 as=true) (hw:as.map AV.weak=as') (hk:∀ r st',P r st'→WC (fun n=>k n (r,st')) Q):WC (fun n=>Go.Cb.obind (p2 (u9 f (k9 tbl n) as bx st)) (k n)) Q:=by
 obtain ⟨r,st',he,hq⟩:=h
 obtain ⟨n0,h0⟩:=he.ge
 refine WC.obind (P:=fun x=>x=(r,st')) ⟨n0,(r,st'),fun n hn=>?_,rfl⟩ (fun a ha=>ha ▸ hk r st' hq)
 simp only [u9,hp,if_true,hw,h0 n hn,Option.map_some,a1x]
theorem WC.callV {β:Type} {f:Nat} {first caps as as':List AV} {bx:AV} {st:St} {k:Nat→AV×St→Option β} {P:AV→St→Prop} {Q:β→Prop}
 (h:EvQ tbl f as' st P) (hp:s7 as=true) (hw:(first++as++caps).map AV.weak=as') (hk:∀ r st',P r st'→WC (fun n=>k n (r,st')) Q):WC (fun n=>Go.Cb.obind (p2 (I8 (k9 tbl n) (.func f first caps::as) bx st)) (k n)) Q:=by
 obtain ⟨r,st',he,hq⟩:=h
 obtain ⟨n0,h0⟩:=he.ge
 refine WC.obind (P:=fun x=>x=(r,st')) ⟨n0,(r,st'),fun n hn=>?_,rfl⟩ (fun a ha=>ha ▸ hk r st' hq)
 simp only [I8,hp,if_true,hw,h0 n hn,Option.map_some,a1x]

def a0O (id:Nat) (o:Out):Out:=match o with
 | (.exit id',fr,st)=>if id'=id then (.normal,fr,st) else (.exit id',fr,st)
 | o=>o
def blkK (id:Nat) (x:Option Out):Option Out:=match x with
 | some o=>some (a0O id o)
 | none=>none
theorem a2E (id:Nat) (o:Out):blkK id (some o)=some (a0O id o):=a8 rfl
theorem a2m (id:Nat) (fr:List AV) (st:St):a0O id (.normal,fr,st)=(.normal,fr,st):=a8 rfl
theorem a5F (id:Nat) (fr:List AV) (st:St):a0O id (.ret,fr,st)=(.ret,fr,st):=a8 rfl
theorem a3U (id id':Nat) (fr:List AV) (st:St):a0O id (.exit id',fr,st)=if id'=id then (.normal,fr,st) else (.exit id',fr,st):=a8 rfl
theorem g9 {id:Nat} {x x':Option Out} (h:x=x'):blkK id x=blkK id x':=by rw [h]
theorem a9l (call:b9) (n id:Nat) (a:ACode) (fr:List AV) (st:St):e9 call n (.blk id a) fr st=blkK id (e9 call n a fr st):=by
 simp only [e9,blkK]
 cases e9 call n a fr st with
 | none=>rfl
 | some o =>
  obtain ⟨e,fr',st'⟩:=o
  cases e with
  | normal=>rfl
  | ret=>rfl
  | exit id'=>by_cases h:id'=id <;> simp [a0O,h]
theorem WC.seqK {c:Nat→Option Out} {g:Nat→List AV→St→Option Out} {P Q:Out→Prop} (h:WC c P) (hk:∀ o,P o→WC (fun n=>Go.Cb.seqK (some o) (g n)) Q):WC (fun n=>Go.Cb.seqK (c n) (g n)) Q:=by
 obtain ⟨n,a,ha,hp⟩:=h
 obtain ⟨m,b,hb,hq⟩:=hk a hp
 exact ⟨max n m,b,fun j hj=>by dsimp only; rw [ha j (by omega)]; exact hb j (by omega),hq⟩
theorem WC.blkK {id:Nat} {c:Nat→Option Out} {Q:Out→Prop} (h:WC c (fun o=>Q (a0O id o))):WC (fun n=>Go.Cb.blkK id (c n)) Q:=by
 obtain ⟨n,a,ha,hp⟩:=h
 exact ⟨n,_,fun j hj=>by dsimp only; rw [ha j hj,a2E],hp⟩
theorem WC.finK {rs:List ResK} {c:Nat→Option Out} {P:Out→Prop} {Q:AV×St→Prop} (h:WC c P) (hk:∀ o,P o→WC (fun n=>Go.Cb.finK rs (some o)) Q):WC (fun n=>Go.Cb.finK rs (c n)) Q:=by
 obtain ⟨n,a,ha,hp⟩:=h
 obtain ⟨m,b,hb,hq⟩:=hk a hp
 exact ⟨max n m,b,fun j hj=>by dsimp only; rw [ha j (by omega)]; exact hb j (by omega),hq⟩

theorem WC.of_xc {x:ACode} {fr:List AV} {st:St} {out:Out} {Q:Out→Prop} (h:XC tbl x fr st out) (hq:Q out):WC (fun n=>e9 (k9 tbl n) n x fr st) Q:=by
 obtain ⟨n,hn⟩:=h.ge
 exact ⟨n,out,hn,hq⟩
theorem WC.xc {x:ACode} {fr:List AV} {st:St} {Q:Out→Prop} (h:WC (fun n=>e9 (k9 tbl n) n x fr st) Q):∃ out,XC tbl x fr st out∧Q out:=by
 obtain ⟨n,a,ha,hq⟩:=h
 exact ⟨a,⟨n,ha n (Nat.le_refl n)⟩,hq⟩

theorem WC.loop {x:ACode} {Q:Out→Prop} (I:Nat→List AV→St→Prop) {m:Nat} {fr:List AV} {st:St} (h0:I m fr st)
 (hI:∀ m fr st,I m fr st→WC (fun n=>e9 (k9 tbl n) n x fr st) (fun o=>(∃ m' fr' st',o=(.normal,fr',st')∧m' < m∧I m' fr' st')∨(o.1≠.normal∧Q o))) :
 WC (fun n=>e9 (k9 tbl n) n (.loop x) fr st) Q:=by
 have key:∀ m fr st,I m fr st→∃ out,LX tbl x fr st out∧Q out:=by
  intro m
  induction m using Nat.strongRecOn with
  | ind m ih =>
   intro fr st h
   obtain ⟨out,hx,hc⟩:=(hI m fr st h).xc
   rcases hc with ⟨m',fr',st',rfl,hlt,hi⟩|⟨hne,hq⟩
   · obtain ⟨out,hl,hq⟩:=ih m' hlt fr' st' hi
     exact ⟨out,LX.step hx hl,hq⟩
   · obtain ⟨e,fr',st'⟩:=out
     exact ⟨_,LX.done hx hne,hq⟩
 obtain ⟨out,hl,hq⟩:=key m fr st h0
 exact WC.of_xc (XC.loop hl) hq

theorem EvQ.of_body {f:Nat} {fn:AFn} {as:List AV} {st:St} {Q:AV→St→Prop} (htb:tbl f=some fn) (he:fn.ext=none) (hl:as.length=fn.np)
 (h:WC (fun n=>Go.Cb.finK fn.results (e9 (k9 tbl n) n fn.code (as++List.replicate (fn.nv - fn.np) .undef) st)) (fun r=>Q r.1 r.2)):EvQ tbl f as st Q:=by
 obtain ⟨n,a,ha,hq⟩:=h
 refine ⟨a.1,a.2,⟨n+1,?_⟩,hq⟩
 simp only [k9,htb,he]
 rw [a4J _ _ _ _ _ hl]
 exact ha n (Nat.le_refl n)
theorem EvQ.of_ext {f:Nat} {fn:AFn} {as:List AV} {st:St} {e:List AV→St→Option (AV×St)} {r:AV×St} {Q:AV→St→Prop} (htb:tbl f=some fn) (he:fn.ext=some e) (h:e as st=some r) (hq:Q r.1 r.2):EvQ tbl f as st Q :=
 ⟨_,_,Ev.of_ext htb he h,hq⟩
end
end Go.Cb
/-
 THE ABSTRACT MACHINE, part 34: rules for loops within blocks, and for a body's end.
-/
set_option maxRecDepth 4000
set_option linter.unusedVariables false
namespace Go.Cb
open Classical
section
variable {tbl:Nat→Option AFn}

theorem WC.next {I:Nat→List AV→St→Prop} {m m':Nat} {fr':List AV} {st':St} {R:Out→Prop} (hm:m' < m) (hi:I m' fr' st') :
 WC (fun _=>some (Ex.normal,fr',st')) (fun o=>(∃ m' fr' st',o=(.normal,fr',st')∧m' < m∧I m' fr' st')∨(o.1≠.normal∧R o)):=WC.ret (Or.inl ⟨m',fr',st',rfl,hm,hi⟩)
theorem WC.leave {I:Nat→List AV→St→Prop} {m id:Nat} {fr':List AV} {st':St} {R:Out→Prop} (h:R (.exit id,fr',st')) :
 WC (fun _=>some (Ex.exit id,fr',st')) (fun o=>(∃ m' fr' st',o=(.normal,fr',st')∧m' < m∧I m' fr' st')∨(o.1≠.normal∧R o)):=WC.ret (Or.inr ⟨fun h=>by simp at h,h⟩)
theorem WC.leaveR {I:Nat→List AV→St→Prop} {m:Nat} {fr':List AV} {st':St} {R:Out→Prop} (h:R (.ret,fr',st')) :
 WC (fun _=>some (Ex.ret,fr',st')) (fun o=>(∃ m' fr' st',o=(.normal,fr',st')∧m' < m∧I m' fr' st')∨(o.1≠.normal∧R o)):=WC.ret (Or.inr ⟨fun h=>by simp at h,h⟩)

theorem EvQ.body {f:Nat} {fn:AFn} {as:List AV} {st:St} {Q:AV→St→Prop} (htb:tbl f=some fn) (he:fn.ext=none) (hl:as.length=fn.np)
 (h:WC (fun n=>e9 (k9 tbl n) n fn.code (as++List.replicate (fn.nv - fn.np) .undef) st) (fun o=>∃ r st',Go.Cb.finK fn.results (some o)=some (r,st')∧Q r st')):EvQ tbl f as st Q :=
 EvQ.of_body htb he hl (WC.finK h fun o ⟨r,st',hr,hq⟩=>⟨0,(r,st'),fun _ _=>hr,hq⟩)
end
end Go.Cb
/-
 THE ABSTRACT MACHINE, part 35: small laws on numbers and rows, for walks with unknowns.
-/
set_option maxRecDepth 4000
set_option linter.unusedVariables false
namespace Go.Cb
open Classical

theorem a2x {n:Int} (h1:-9223372036854775808≤n) (h2:n < 9223372036854775808):n5 .i64 n=n:=by
 rw [O5]
 simp only [IntKind.wrap,IntKind.signed,IntKind.bits,Bool.true_and]
 split
 · rename_i h; have h:=of_decide_eq_true h; omega
 · rename_i h; have h:¬ (n % 2 ^ 64 ≥ 2 ^ (64 - 1)):=fun x=>h (decide_eq_true x); omega
theorem r8 {i:Nat} (h:i+1 < 2 ^ 63):n5 .i64 (a7C (i:Int) 1)=((i+1:Nat):Int):=by
 rw [addI_eq,a2x (by omega) (by omega)]
 omega
theorem ltN (i j:Nat):ltI (i:Int) (j:Int)=decide (i < j):=by
 rw [ltI_eq]
 by_cases h:i < j
 · simp [h]
 · simp [h]
theorem c5b (i j:Nat):eqI (i:Int) (j:Int)=decide (i=j):=by
 rw [eqI_eq]
 by_cases h:i=j
 · simp [h]
 · simp [h]; omega
theorem e7 (b:Bool):b=true∨b=false:=by cases b <;> simp
theorem T1 {sz:Nat} {xs:List (List AV)} (h:∀ r∈xs,r.length=sz):k6 sz xs=true:=by
 cases xs with
 | nil=>rfl
 | cons r rs=>simp [k6,h r (by simp)]
end Go.Cb
/-
 THE ABSTRACT MACHINE, part 36: guarded values, reckoned without splitting; copies, form by form; tests as rules.
-/
set_option maxRecDepth 4000
set_option linter.unusedVariables false
namespace Go.Cb
open Classical

def gV (x:AV) (want:Bool) (v:AV):AV:=match x with
 | .bool b=>if b == want then v else .tuple []
 | _=>.tuple []
theorem c0m (v:AV):gV (.bool true) true v=v:=a8 rfl
theorem c0v (v:AV):gV (.bool false) false v=v:=a8 rfl
theorem c1k (v:AV):gV (.bool true) false v=.tuple []:=a8 rfl
theorem c0S (v:AV):gV (.bool false) true v=.tuple []:=a8 rfl
theorem b3E (want:Bool) (v:AV):gV (.tuple []) want v=.tuple []:=a8 rfl
theorem a7i (c want:Bool) (v:AV):gv (.bool c) want (some v)=some (gV (.bool c) want v):=by
 cases c <;> cases want <;> rfl
theorem a4U (x:AV) (w b want:Bool) (v:AV):gv (gV x w (.bool b)) want (some v)=some (gV (gV x w (.bool b)) want v):=by
 unfold gV
 cases x with
 | bool c=>cases c <;> cases w <;> cases b <;> cases want <;> rfl
 | _=>rfl
theorem i7 {x x':AV} {want:Bool} {e e':Option AV} (h1:x=x') (h2:x'=.bool want→e=e'):gv x want e=gv x' want e':=by
 subst h1
 unfold gv
 split
 · rename_i b
   by_cases hb:b=want
   · rw [h2 (by rw [hb])]
   · simp [hb]
 · rfl
 · rfl
theorem b2U (x:AV) (w:Bool) (v:AV):(gV x w v).weak=gV x w v.weak:=by
 unfold gV
 cases x with
 | bool c=>dsimp only; split <;> rfl
 | _=>rfl
theorem b1u (x:AV) (w:Bool) (v:AV):(gV x w v).strip=gV x w v.strip:=by
 unfold gV
 cases x with
 | bool c=>dsimp only; split <;> rfl
 | _=>rfl
theorem a8y (x:AV) (w:Bool) (v:AV):(gV x w v).stripB=gV x w v.stripB:=by
 unfold gV
 cases x with
 | bool c=>dsimp only; split <;> rfl
 | _=>rfl
theorem b6b (call:b9) (a b bx:AV) (st:St):p1 (C2 call [.bool true,a,b] bx st)=if a.plain then some a else none:=by
 unfold C2; dsimp only; by_cases h:a.plain=true <;> simp [h,p1]
theorem b7q (call:b9) (a b bx:AV) (st:St):p1 (C2 call [.bool false,a,b] bx st)=if b.plain then some b else none:=by
 unfold C2; dsimp only; by_cases h:b.plain=true <;> simp [h,p1]
theorem b3m (call:b9) (c d:Bool) (bx:AV) (st:St):p1 (C2 call [.bool c,.bool true,gV (.bool c) false (.bool d)] bx st)=some (.bool (c || d)):=by
 cases c <;> rfl
theorem b0U (call:b9) (c d:Bool) (bx:AV) (st:St):p1 (C2 call [.bool c,gV (.bool c) true (.bool d),.bool false] bx st)=some (.bool (c && d)):=by
 cases c <;> rfl

theorem a8n (b:Bool):(AV.bool b).weak=.bool b:=a8 rfl
theorem b0e (k:IntKind) (n:Int):(AV.int k n).weak=.int k n:=a8 rfl
theorem a9P (s:List Nat):(AV.str s).weak=.str s:=a8 rfl
theorem a8W (o:Bool) (xs:List (List AV)):(AV.list o xs).weak=.list false xs:=a8 rfl
theorem b0D (o f:Nat):(AV.ptr o f).weak=.ptr o f:=a8 rfl
theorem a7X:AV.nilp.weak=.nilp:=a8 rfl
theorem a8D:AV.nils.weak=.nils:=a8 rfl
theorem b2T (cs:List AV):(AV.ro cs).weak=.ro cs:=a8 rfl
theorem b0O (i f:Nat):(AV.loc i f).weak=.loc i f:=a8 rfl
theorem b01 (o:Nat):(AV.map o).weak=.map o:=a8 rfl
theorem a8b:AV.nilm.weak=.nilm:=a8 rfl
theorem a8e (f:Nat) (a b:List AV):(AV.func f a b).weak=.func f a b:=a8 rfl
theorem a9e:AV.nilf.weak=.nilf:=a8 rfl
theorem L6 (cs:List AV):(AV.agg cs).weak=.agg (cs.map AV.weak1):=a8 rfl
theorem b3i (o f n s:Nat):(AV.sl o f n s).weak=.sl o f n s:=a8 rfl
theorem a5P (t:Nat) (v:AV):(AV.iface t v).weak=.iface t v:=a8 rfl
theorem a8K:AV.nili.weak=.nili:=a8 rfl
theorem a6m (vs:List AV):(AV.tuple vs).weak=.tuple vs:=a8 rfl
theorem a6d:AV.undef.weak=.undef:=a8 rfl
theorem b03 (cs:List AV):(AV.box cs).weak=.box cs:=a8 rfl
theorem a6x (b:Bool):(AV.bool b).weak1=.bool b:=a8 rfl
theorem a7I (k:IntKind) (n:Int):(AV.int k n).weak1=.int k n:=a8 rfl
theorem a9f (s:List Nat):(AV.str s).weak1=.str s:=a8 rfl
theorem a5I (o:Bool) (xs:List (List AV)):(AV.list o xs).weak1=.list false xs:=a8 rfl
theorem b1i (o f n s:Nat):(AV.sl o f n s).weak1=.sl o f n s:=a8 rfl
theorem a6B (f:Nat) (a b:List AV):(AV.func f a b).weak1=.func f a b:=a8 rfl
theorem a7V (o f:Nat):(AV.ptr o f).weak1=.ptr o f:=a8 rfl
theorem a5M:AV.nilp.weak1=.nilp:=a8 rfl
theorem a5o:AV.nils.weak1=.nils:=a8 rfl
theorem O4 (o:Nat):(AV.map o).weak1=.map o:=a8 rfl
theorem a6J:AV.nilm.weak1=.nilm:=a8 rfl
theorem a49 (b:Bool):(AV.bool b).strip=.bool b:=a8 rfl
theorem a7W (k:IntKind) (n:Int):(AV.int k n).strip=.int k n:=a8 rfl
theorem a8m (s:List Nat):(AV.str s).strip=.str s:=a8 rfl
theorem a5K (o:Bool) (xs:List (List AV)):(AV.list o xs).strip=.list o xs:=a8 rfl
theorem a8q (o f:Nat):(AV.ptr o f).strip=.ptr o f:=a8 rfl
theorem a6M:AV.nilp.strip=.nilp:=a8 rfl
theorem a5U:AV.nils.strip=.nils:=a8 rfl
theorem b1W (cs:List AV):(AV.ro cs).strip=.ro cs:=a8 rfl
theorem a7H (i f:Nat):(AV.loc i f).strip=.undef:=a8 rfl
theorem a9g (o:Nat):(AV.map o).strip=.map o:=a8 rfl
theorem a5S:AV.nilm.strip=.nilm:=a8 rfl
theorem a4W (f:Nat) (a b:List AV):(AV.func f a b).strip=.func f a b:=a8 rfl
theorem a6A:AV.nilf.strip=.nilf:=a8 rfl
theorem a7Y (cs:List AV):(AV.agg cs).strip=.agg cs:=a8 rfl
theorem b0S (o f n s:Nat):(AV.sl o f n s).strip=.sl o f n s:=a8 rfl
theorem a3Q (vs:List AV):(AV.tuple vs).strip=.tuple vs:=a8 rfl
theorem a4f:AV.undef.strip=.undef:=a8 rfl
theorem a4n (b:Bool):(AV.bool b).stripB=.bool b:=a8 rfl
theorem a5q (k:IntKind) (n:Int):(AV.int k n).stripB=.int k n:=a8 rfl
theorem a6E (s:List Nat):(AV.str s).stripB=.str s:=a8 rfl
theorem a3z (o:Bool) (xs:List (List AV)):(AV.list o xs).stripB=.list o xs:=a8 rfl
theorem a6j (o f:Nat):(AV.ptr o f).stripB=.ptr o f:=a8 rfl
theorem a30:AV.nilp.stripB=.nilp:=a8 rfl
theorem a4e:AV.nils.stripB=.nils:=a8 rfl
theorem a9a (cs:List AV):(AV.ro cs).stripB=.ro cs:=a8 rfl
theorem a6L (i f:Nat):(AV.loc i f).stripB=.loc i f:=a8 rfl
theorem a5Q (o:Nat):(AV.map o).stripB=.map o:=a8 rfl
theorem a3O:AV.nilm.stripB=.nilm:=a8 rfl
theorem a36 (f:Nat) (a b:List AV):(AV.func f a b).stripB=.func f a b:=a8 rfl
theorem a4g:AV.nilf.stripB=.nilf:=a8 rfl
theorem a6D (cs:List AV):(AV.agg cs).stripB=.agg cs:=a8 rfl
theorem a5i (xs:List (List AV)):(AV.fresh xs).weak=.fresh xs:=a8 rfl
theorem a4i (xs:List (List AV)):(AV.fresh xs).strip=.fresh xs:=a8 rfl
theorem a2K (xs:List (List AV)):(AV.fresh xs).stripB=.fresh xs:=a8 rfl
theorem a8N (o f n s:Nat):(AV.sl o f n s).stripB=.sl o f n s:=a8 rfl
theorem a2q (vs:List AV):(AV.tuple vs).stripB=.tuple vs:=a8 rfl
theorem a2t:AV.undef.stripB=.undef:=a8 rfl

/-! what comes behind, as constants that wait: nothing of it is reckoned ahead of its time -/
def b4G {α:Type} (K:α→Option Out) (g:List AV→St→Option Out) (a:α):Option Out:=Go.Cb.seqK (K a) g
def b3L {α:Type} (id:Nat) (K:α→Option Out) (a:α):Option Out:=Go.Cb.blkK id (K a)
theorem b5q {α:Type} (K:α→Option Out) (g:List AV→St→Option Out) (a:α):b4G K g a=Go.Cb.seqK (K a) g:=a8 rfl
theorem b47 {α:Type} (id:Nat) (K:α→Option Out) (a:α):b3L id K a=Go.Cb.blkK id (K a):=a8 rfl
theorem a3C {α:Type} (x:Option α) (f:α→Option Out) (g:List AV→St→Option Out):Go.Cb.seqK (Go.Cb.obind x f) g=Go.Cb.obind x (b4G f g):=by cases x <;> rfl
theorem a3y {α:Type} (id:Nat) (x:Option α) (f:α→Option Out):Go.Cb.blkK id (Go.Cb.obind x f)=Go.Cb.obind x (b3L id f):=by cases x <;> rfl

def a1Q (call:b9) (n:Nat) (a:ACode) (fr:List AV) (st:St) (_:Unit):Option Out:=e9 call n a fr st
def b9K (A:Unit→Option Out) (g:List AV→St→Option Out) (u:Unit):Option Out:=Go.Cb.seqK (A u) g
def b8u (id:Nat) (A:Unit→Option Out) (u:Unit):Option Out:=Go.Cb.blkK id (A u)
theorem b7z (call:b9) (n:Nat) (a:ACode) (fr:List AV) (st:St) (u:Unit):a1Q call n a fr st u=e9 call n a fr st:=a8 rfl
theorem b5c (A:Unit→Option Out) (g:List AV→St→Option Out) (u:Unit):b9K A g u=Go.Cb.seqK (A u) g:=a8 rfl
theorem b6e (id:Nat) (A:Unit→Option Out) (u:Unit):b8u id A u=Go.Cb.blkK id (A u):=a8 rfl
def brT (c:AV) (A B:Unit→Option Out):Option Out:=match c with
 | .bool true=>A ()
 | .bool false=>B ()
 | _=>none
theorem b0N (A B:Unit→Option Out):brT (.bool true) A B=A ():=a8 rfl
theorem a7T (A B:Unit→Option Out):brT (.bool false) A B=B ():=a8 rfl
theorem j1 {c c':AV} {A B:Unit→Option Out} (h:c=c'):brT c A B=brT c' A B:=by rw [h]
theorem b1b (c:AV) (A B:Unit→Option Out) (g:List AV→St→Option Out):Go.Cb.seqK (brT c A B) g=brT c (b9K A g) (b9K B g):=by
 cases c <;> try rfl
 rename_i b; cases b <;> rfl
theorem a9V (id:Nat) (c:AV) (A B:Unit→Option Out):Go.Cb.blkK id (brT c A B)=brT c (b8u id A) (b8u id B):=by
 cases c <;> try rfl
 rename_i b; cases b <;> rfl
theorem c5Q (call:b9) (n:Nat) (c:AV) (a b:ACode) (fr:List AV) (st:St):Go.Cb.br c (e9 call n a fr st) (e9 call n b fr st)=brT c (a1Q call n a fr st) (a1Q call n b fr st):=by
 cases c <;> try rfl
theorem b4U (call:b9) (n:Nat) (kill:List Nat) (ps:List AOper) (c:Opd) (a b:ACode) (fr:List AV) (st:St) :
 e9 call n (.test kill ps c a b) fr st=a7x call ps ⟨k7 kill fr,fun _=>.undef,st⟩ fun σ=>brT (c.read σ) (a1Q call n a σ.fr σ.st) (a1Q call n b σ.fr σ.st):=by
 rw [a8P]
 simp only [c5Q]
def a9A (call:b9) (n:Nat) (x:ACode) (fr:List AV) (st:St):Option Out:=e9 call n (.loop x) fr st
theorem a5r (call:b9) (n:Nat) (x:ACode) (fr:List AV) (st:St):e9 call n (.loop x) fr st=Go.Cb.obind (a9A call n x fr st) some:=by
 unfold a9A; cases e9 call n (.loop x) fr st <;> rfl

theorem WC.br {c:Bool} {A B:Nat→Unit→Option Out} {Q:Out→Prop} (ht:c=true→WC (fun n=>A n ()) Q) (hf:c=false→WC (fun n=>B n ()) Q):WC (fun n=>brT (.bool c) (A n) (B n)) Q:=by
 cases c with
 | true=>exact ht rfl
 | false=>exact hf rfl
theorem WC.loopR {tbl:Nat→Option AFn} {β:Type} {x:ACode} {K:Nat→Out→Option β} {Q:β→Prop} (I:Nat→List AV→St→Prop) {m:Nat} {fr:List AV} {st:St} (h0:I m fr st)
 (hI:∀ m fr st,I m fr st→WC (fun n=>e9 (k9 tbl n) n x fr st) (fun o=>(∃ m' fr' st',o=(.normal,fr',st')∧m' < m∧I m' fr' st')∨(o.1≠.normal∧WC (fun n=>K n o) Q))) :
 WC (fun n=>Go.Cb.obind (a9A (k9 tbl n) n x fr st) (K n)) Q:=WC.obind (WC.loop I h0 hI) fun _ ho=>ho
theorem WC.g2 {β:Type} {c want:Bool} {st:St} {E:Nat→Option (AV×St)} {k:Nat→AV×St→Option β} {Q:β→Prop} (ht:c=want→WC (fun n=>Go.Cb.obind (E n) (k n)) Q) (hf:c=!want→WC (fun n=>k n (.tuple [],st)) Q) :
 WC (fun n=>Go.Cb.obind (gv2 (.bool c) want st (E n)) (k n)) Q:=by
 by_cases h:c=want
 · subst h
   have e:∀ n,gv2 (.bool c) c st (E n)=E n:=fun n=>by cases c <;> rfl
   simp only [e]
   exact ht rfl
 · have h':c=!want:=by cases c <;> cases want <;> simp_all
   have e:∀ n,gv2 (.bool c) want st (E n)=some (.tuple [],st):=fun n=>by subst h'; cases want <;> rfl
   simp only [e,n6]
   exact hf h'
end Go.Cb
/-
 THE ABSTRACT MACHINE, part 37: what operations come to, form by form; all of it under one name.
-/
set_option maxRecDepth 4000
set_option linter.unusedVariables false
set_option linter.unusedSimpArgs false
namespace Go.Cb
def W (a:AV):AV:=AV.weak (AV.stripB a)
def brE (c:AV) (call:b9) (n:Nat) (a b:ACode) (fr:List AV) (st:St):Option Out:=brT c (a1Q call n a fr st) (a1Q call n b fr st)
def m1 {β:Type} (a:AV) (f:AV→Option β):Option β:=obind (p1 (some (a,AV.undef,([]:St)))) f
def gm {β:Type} (x:AV) (w:Bool) (a:AV) (f:AV→Option β):Option β:=obind (gv x w (some a)) f
theorem j5 {β:Type} {a a':AV} {f:AV→Option β} (h:a=a'):m1 a f=m1 a' f:=by rw [h]
theorem j4 {β:Type} {x x' a a':AV} {w:Bool} {f:AV→Option β} (h1:x=x') (h2:x'=.bool w→a=a'):gm x w a f=gm x' w a' f:=by
 unfold gm
 rw [i7 (e:=some a) (e':=some a') h1 (fun h=>by rw [h2 h])]
end Go.Cb
namespace Go.Cb.R
open Go.Cb
theorem c6D (call:b9) (bx:AV) (st:St) (a:AV):a0R call [a] bx st=some (a,bx,st):=a8 rfl
theorem a6f (call:b9) (bx:AV) (st:St) (o f:Nat):C5 call [.ptr o f] bx st=some (.ptr o f,bx,st):=a8 rfl
theorem a5N (call:b9) (bx:AV) (st:St) (o f:Nat):C5 call [.loc o f] bx st=some (.loc o f,bx,st):=a8 rfl
theorem a8H (call:b9) (bx:AV) (st:St) (cs:List AV):C5 call [.ro cs] bx st=some (.ro cs,bx,st):=a8 rfl
theorem a3M (call:b9) (bx:AV) (st:St) (f:Nat) (a b:List AV):C5 call [.func f a b] bx st=some (.func f a b,bx,st):=a8 rfl
theorem b3H (call:b9) (st:St) (zero:List AV):R8 zero call [] .undef st=some (.undef,.box zero,st):=a8 rfl
theorem b5h (call:b9) (st:St) (a:AV):W9 call [a] .undef st=if a.plain then some (.undef,.box a.cellsW,st) else none:=a8 rfl
theorem b1c (call:b9) (bx:AV) (st:St) (zero:List AV):K8 zero call [] bx st=some (.ptr st.length 0,bx,st++[.cells zero]):=a8 rfl
theorem b6d (call:b9) (bx:AV) (st:St) (a:AV):R9 call [a] bx st=if a.plain then some (.ptr st.length 0,bx,st++[.cells a.cellsW]) else none:=a8 rfl
theorem b3A (call:b9) (bx:AV) (st:St) (zero:List AV) (offs:List (Nat×Nat)) (as:List AV):L1 zero offs call as bx st=(H4 offs as zero).map fun cs=>(.agg cs,bx,st):=a8 rfl
theorem a9M (call:b9) (bx:AV) (st:St) (sz:Nat) (zero:List (List AV)) (at_:List Nat) (as:List AV):K4 sz zero at_ call as bx st=(F5 sz at_ as zero).map fun rs=>(.list true rs,bx,st):=a8 rfl
theorem b5S (call:b9) (st:St) (i off n:Nat) (agg:Bool) (cs:List AV):J5 i agg n call [.loc i off] (.box cs) st=(j3 agg n (cs.drop off)).map (fun v=>(v,.box cs,st)):=by unfold J5; simp only [if_true]
theorem b65 (call:b9) (bx:AV) (st:St) (o off n:Nat) (agg:Bool):C4 agg n call [.ptr o off] bx st=match st[o]? with|some (.cells cs)=>(j3 agg n (cs.drop off)).map (fun v=>(v,bx,st))|_=>none:=a8 rfl
theorem b6Z (call:b9) (bx:AV) (st:St) (n:Nat) (agg:Bool) (cs:List AV):P5 agg n call [.ro cs] bx st=(j3 agg n cs).map (fun v=>(v,bx,st)):=a8 rfl
theorem b26 (call:b9) (bx:AV) (st:St) (n:Nat) (agg:Bool) (cs:List AV):E8 agg n call [.ro cs] bx st=(j3 agg n cs).map (fun v=>(v,bx,st)):=a8 rfl
theorem ldAn_ptr (call:b9) (bx:AV) (st:St) (o off n:Nat) (agg:Bool):E8 agg n call [.ptr o off] bx st=match st[o]? with|some (.cells cs)=>(j3 agg n (cs.drop off)).map (fun v=>(v,bx,st))|_=>none:=a8 rfl
theorem b2v (call:b9) (st:St) (i off:Nat) (cs:List AV):O0 i call [.loc i off] (.box cs) st=match cs[off]? with|some c=>some (c,.box (cs.set off c.weak1),st)|none=>none:=by unfold O0; simp only [if_true]; rfl
theorem b3l (call:b9) (bx:AV) (st:St) (o off:Nat):B9 call [.ptr o off] bx st=match st[o]? with|some (.cells cs)=>(match cs[off]? with|some c=>some (c,bx,st.set o (.cells (cs.set off c.weak1)))|none=>none)|_=>none:=a8 rfl
theorem b6z (call:b9) (st:St) (i n off:Nat) (x:AV) (cs:List AV):P6 i n call [.loc i off,x] (.box cs) st=if x.plain=true∧x.cells.length=n∧off+n≤cs.length then some (.tuple [],.box (p7 cs off x.cells),st) else none:=by unfold P6; simp only [true_and]
theorem b5O (call:b9) (bx:AV) (st:St) (o off n:Nat) (x:AV):F4 n call [.ptr o off,x] bx st=match st[o]? with|some (.cells cs)=>(if x.plain=true∧x.cells.length=n∧off+n≤cs.length then some (.tuple [],bx,st.set o (.cells (p7 cs off x.cells))) else none)|_=>none:=by unfold F4; simp only [fL_eq]; rfl
theorem b3d (call:b9) (bx:AV) (st:St) (off o f:Nat):O1 off call [.ptr o f] bx st=some (.ptr o (f+off),bx,st):=a8 rfl
theorem b3y (call:b9) (bx:AV) (st:St) (off o f:Nat):O1 off call [.loc o f] bx st=some (.loc o (f+off),bx,st):=a8 rfl
theorem b6F (call:b9) (bx:AV) (st:St) (off:Nat) (cs:List AV):O1 off call [.ro cs] bx st=some (.ro (cs.drop off),bx,st):=a8 rfl
theorem c1s (call:b9) (bx:AV) (st:St) (off n:Nat) (agg:Bool) (cs:List AV):S9 off n agg call [.agg cs] bx st=if off+n≤cs.length then (j3 agg n (cs.drop off)).map (fun v=>(v,bx,st)) else none:=a8 rfl
theorem c0P (call:b9) (bx:AV) (st:St) (sz:Nat) (w:Bool) (xs:List (List AV)) (k:IntKind) (i:Int):H2 sz call [.list w xs,.int k i] bx st=if 0≤i then (match xs[i.toNat]? with|some r=>if r.length=sz then some (.ro r,bx,st) else none|none=>none) else none:=a8 rfl
theorem b7p (call:b9) (bx:AV) (st:St) (sz o f n s:Nat) (k:IntKind) (i:Int):H2 sz call [.sl o f n s,.int k i] bx st=if 0≤i∧i < (n:Int)∧s=sz then some (.ptr o (f+i.toNat*sz),bx,st) else none:=a8 rfl
theorem a8O (call:b9) (bx:AV) (st:St):D7 call [.nils] bx st=some (.int .i64 0,bx,st):=a8 rfl
theorem b2B (call:b9) (bx:AV) (st:St) (o f n s:Nat):D7 call [.sl o f n s] bx st=some (.int .i64 n,bx,st):=a8 rfl
theorem a8L (call:b9) (bx:AV) (st:St) (sz:Nat) (zero:List (List AV)) (at_:List Nat) (as:List AV):I3 sz zero at_ call as bx st=(s8 sz at_ as zero).map fun rs=>(.fresh rs,bx,st):=a8 rfl
theorem a9m (call:b9) (bx:AV) (st:St) (sz:Nat) (zero:List (List AV)) (at_:List Nat) (as:List AV):I4 sz zero at_ call as bx st=(s8 sz at_ as zero).map fun rs=>(.sl st.length 0 zero.length sz,bx,st++[.cells rs.flatten]):=a8 rfl
theorem b5s (call:b9) (bx:AV) (st:St) (k k':IntKind) (a b:Int):V5 call [.int k a,.int k' b] bx st=if k=k' then some (.int k (b4l a b),bx,st) else none:=a8 rfl
theorem b6j (call:b9) (bx:AV) (st:St) (neg:Bool) (k k':IntKind) (a b:Int) (s t:List Nat):X0 neg call [.agg [.int k a,.str s],.agg [.int k' b,.str t]] bx st=if k=k' then some (.bool (a5Z neg a b s t),bx,st) else none:=a8 rfl
theorem a3X (sz:Nat) (rs:List (List AV)):s8 sz [] [] rs=some rs:=a8 rfl
theorem a3D (sz i:Nat) (is:List Nat) (p:AV) (ps:List AV) (rs:List (List AV)):s8 sz (i::is) (p::ps) rs=if p.plain=true∧p.cells.length=sz∧i < rs.length then s8 sz is ps (rs.set i (p.cells.map AV.cellW1)) else none:=a8 rfl
theorem b0M (call:b9) (bx:AV) (st:St) (sz bytes:Nat) (ys:List (List AV)) (gs:List AV):H8 sz bytes call (.list true []::.fresh ys::gs) bx st=if ys.isEmpty=false∧k6 sz ys=true∧ys.length*bytes≤2 ^ 47∧N3 none st.length gs=true then some (.sl st.length 0 ys.length sz,bx,st++[.cells ys.flatten]) else none:=a8 rfl
theorem a8d (call:b9) (bx:AV) (st:St) (sz bytes:Nat) (ys:List (List AV)) (gs:List AV):H8 sz bytes call (.nils::.fresh ys::gs) bx st=if ys.isEmpty=false∧k6 sz ys=true∧ys.length*bytes≤2 ^ 47∧N3 none st.length gs=true then some (.sl st.length 0 ys.length sz,bx,st++[.cells ys.flatten]) else none:=a8 rfl
theorem b3z (call:b9) (bx:AV) (st:St) (sz bytes o n s:Nat) (ys:List (List AV)) (gs:List AV):H8 sz bytes call (.sl o 0 n s::.fresh ys::gs) bx st=match st[o]? with|some (.cells xs)=>(if s=sz∧ys.isEmpty=false∧k6 sz ys=true∧xs.length=n*sz∧(n+ys.length)*bytes≤2 ^ 47∧N3 (some o) st.length gs=true then some (.sl st.length 0 (n+ys.length) sz,bx,st.set o .dead++[.cells (xs++ys.flatten)]) else none)|_=>none:=a8 rfl
theorem b2X (o:Option Nat) (n:Nat):N3 o n []=true:=a8 rfl
theorem b2u (o:Option Nat) (n p f:Nat) (gs:List AV):N3 o n (.ptr p f::gs)=(Nat.blt p n && (match o with|some o=>!Nat.beq p o|none=>true) && N3 o n gs):=a8 rfl
theorem b5r {α:Type}:([]:List (List α)).flatten=[]:=a8 rfl
theorem b6l {α:Type} (a:List α) (l:List (List α)):(a::l).flatten=a++l.flatten:=a8 rfl
theorem c02 (call:b9) (bx:AV) (st:St) (w:Bool) (xs:List (List AV)):U7 call [.list w xs] bx st=(M5 xs).map fun s=>(.str s,bx,st):=a8 rfl
theorem a8B:M5 []=some []:=a8 rfl
theorem a7O (n:Int) (rs:List (List AV)):M5 ([.int .u8 n]::rs)=if 0≤n∧n < 256 then (M5 rs).map (n.toNat::·) else none:=a8 rfl
theorem b2i (call:b9) (bx:AV) (st:St) (len sz:Nat) (cs:List AV) (k:IntKind) (i:Int):K1 len sz call [.ro cs,.int k i] bx st=if 0≤i∧i < (len:Int) then some (.ro (cs.drop (i.toNat*sz)),bx,st) else none:=a8 rfl
theorem b1x (call:b9) (bx:AV) (st:St) (len sz o f:Nat) (k:IntKind) (i:Int):K1 len sz call [.ptr o f,.int k i] bx st=if 0≤i∧i < (len:Int) then some (.ptr o (f+i.toNat*sz),bx,st) else none:=a8 rfl
theorem b0F (call:b9) (bx:AV) (st:St) (len sz o f:Nat) (k:IntKind) (i:Int):K1 len sz call [.loc o f,.int k i] bx st=if 0≤i∧i < (len:Int) then some (.loc o (f+i.toNat*sz),bx,st) else none:=a8 rfl
theorem b5U (call:b9) (bx:AV) (st:St) (s:List Nat) (k:IntKind) (i:Int):M8 call [.str s,.int k i] bx st=if 0≤i then (match s[i.toNat]? with|some b=>some (.int .u8 b,bx,st)|none=>none) else none:=a8 rfl
theorem c0j (call:b9) (bx:AV) (st:St) (lo hi:Bool) (s:List Nat) (r:List AV):R1 lo hi call (.str s::r) bx st=(E5 lo hi r s.length).map fun p=>(.str ((s.take p.2).drop p.1),bx,st):=a8 rfl
theorem b5b (call:b9) (bx:AV) (st:St) (sz:Nat) (lo hi:Bool) (o f n s:Nat) (r:List AV):Q7 sz lo hi call (.sl o f n s::r) bx st=if s=sz then (slB lo hi r n).map fun p=>(.sl o (f+p.1*sz) (p.2 - p.1) s,bx,st) else none:=a8 rfl
theorem c0b (call:b9) (bx:AV) (st:St) (sz:Nat) (lo hi:Bool) (w:Bool) (xs:List (List AV)) (r:List AV):Q7 sz lo hi call (.list w xs::r) bx st=if k6 sz xs then (E5 lo hi r xs.length).map fun p=>(.list false ((xs.take p.2).drop p.1),bx,st) else none:=a8 rfl
theorem b99 (call:b9) (bx:AV) (st:St) (w:Bool) (xs:List (List AV)):T4 call [.list w xs] bx st=some (.list true [],bx,st):=a8 rfl
theorem c0W (call:b9) (bx:AV) (st:St) (len sz:Nat) (lo hi:Bool) (cs r:List AV):U4 len sz lo hi call (.ro cs::r) bx st=if cs.length=len*sz then (E5 lo hi r len).map fun p=>(.list false (((Z0 sz len cs).take p.2).drop p.1),bx,st) else none:=a8 rfl
theorem c0X (call:b9) (bx:AV) (st:St) (op:BinOp) (a b:AV):B2 op call [a,b] bx st=(l6 op a b).map (fun v=>(v,bx,st)):=a8 rfl
theorem b5Z (call:b9) (bx:AV) (st:St) (op:BinOp) (a b:AV):P7 op call [a,b] bx st=(a6a op a b).map (fun v=>(v,bx,st)):=a8 rfl
theorem b55 (call:b9) (bx:AV) (st:St) (op:BinOp) (a b:AV):Q3 op call [a,b] bx st=(a0d op a b).map (fun v=>(v,bx,st)):=a8 rfl
theorem b62 (k:IntKind) (a b:Int):l6 .add (.int k a) (.int k b)=some (.int k (n5 k (a7C a b))):=by simp only [l6,if_true]
theorem b6v (k:IntKind) (a b:Int):l6 .sub (.int k a) (.int k b)=some (.int k (n5 k (a4z a b))):=by simp only [l6,if_true]
theorem b6q (k:IntKind) (a b:Int):l6 .mul (.int k a) (.int k b)=some (.int k (n5 k (a*b))):=by simp only [l6,if_true]
theorem b5x (k:IntKind) (a b:Int):l6 .quo (.int k a) (.int k b)=if b=0 then none else some (.int k (k.wrap (a.tdiv b))):=by simp only [l6,if_true]
theorem b5e (k:IntKind) (a b:Int):l6 .rem (.int k a) (.int k b)=if b=0 then none else some (.int k (a.tmod b)):=by simp only [l6,if_true]
theorem b6g (k:IntKind) (a b:Int):l6 .eql (.int k a) (.int k b)=some (.bool (eqI a b)):=by simp only [l6,if_true]
theorem b7F (k:IntKind) (a b:Int):l6 .neq (.int k a) (.int k b)=some (.bool !(eqI a b)):=by simp only [l6,if_true]
theorem b6i (k:IntKind) (a b:Int):l6 .lss (.int k a) (.int k b)=some (.bool (ltI a b)):=by simp only [l6,if_true]
theorem b5I (k:IntKind) (a b:Int):l6 .leq (.int k a) (.int k b)=some (.bool !(ltI b a)):=by simp only [l6,if_true]
theorem b6I (k:IntKind) (a b:Int):l6 .gtr (.int k a) (.int k b)=some (.bool (ltI b a)):=by simp only [l6,if_true]
theorem b6o (k:IntKind) (a b:Int):l6 .geq (.int k a) (.int k b)=some (.bool !(ltI a b)):=by simp only [l6,if_true]
theorem b5j (a b:List Nat):l6 .add (.str a) (.str b)=if a.length+b.length≤2 ^ 62 then some (.str (a++b)) else none:=a8 rfl
theorem b6K (a b:List Nat):l6 .eql (.str a) (.str b)=some (.bool (eqN a b)):=a8 rfl
theorem b6A (a b:List Nat):l6 .neq (.str a) (.str b)=some (.bool !(eqN a b)):=a8 rfl
theorem b7f (a b:List Nat):l6 .lss (.str a) (.str b)=some (.bool (l9 a b)):=a8 rfl
theorem b5J (a b:Bool):a6a .eql (.bool a) (.bool b)=some (.bool (a == b)):=a8 rfl
theorem b6H (a b:Bool):a6a .neq (.bool a) (.bool b)=some (.bool !(a == b)):=a8 rfl
theorem b2F (o f:Nat):a0d .eql (.ptr o f) .nilp=some (.bool false):=a8 rfl
theorem b20 (o f:Nat):a0d .eql .nilp (.ptr o f)=some (.bool false):=a8 rfl
theorem b3e:a0d .eql .nilp .nilp=some (.bool true):=a8 rfl
theorem b2w (o f:Nat):a0d .neq (.ptr o f) .nilp=some (.bool true):=a8 rfl
theorem b2D (o f:Nat):a0d .neq .nilp (.ptr o f)=some (.bool true):=a8 rfl
theorem b2y:a0d .neq .nilp .nilp=some (.bool false):=a8 rfl
theorem b5Q (call:b9) (bx:AV) (st:St) (b:Bool):X7 .not call [.bool b] bx st=some (.bool !b,bx,st):=a8 rfl
theorem b5l (call:b9) (bx:AV) (st:St) (k:IntKind) (n:Int):X7 .neg call [.int k n] bx st=some (.int k (n5 k (0 - n)),bx,st):=a8 rfl
theorem b52 (call:b9) (bx:AV) (st:St) (k k':IntKind) (n:Int):P0 k call [.int k' n] bx st=some (.int k (n5 k n),bx,st):=a8 rfl
theorem c0s (call:b9) (bx:AV) (st:St) (f n:Nat) (as:List AV):S8 f n call as bx st=if s7 as then some (.func f ((as.map AV.weak).take n) ((as.map AV.weak).drop n),bx,st) else none:=a8 rfl
theorem c0B (call:b9) (bx:AV) (st:St):Y8 call [] bx st=some (.map st.length,bx,st++[.map []]):=a8 rfl
theorem c1p (call:b9) (bx:AV) (st:St) (i:Nat) (vs:List AV):Q9 i call [.tuple vs] bx st=match vs[i]? with|some v=>some (v.weak,bx,st)|none=>none:=a8 rfl
theorem b7w (call:b9) (bx:AV) (st:St) (s:List Nat):Q1 call [.str s] bx st=some (.int .i64 s.length,bx,st):=a8 rfl
theorem b5i (call:b9) (bx:AV) (st:St) (w:Bool) (xs:List (List AV)):D7 call [.list w xs] bx st=some (.int .i64 xs.length,bx,st):=a8 rfl
theorem c01 (call:b9) (bx:AV) (st:St) (sz bytes:Nat) (w:Bool) (xs ys:List (List AV)):S7 sz bytes call [.list true xs,.list w ys] bx st=if k6 sz xs && k6 sz ys && decide ((xs.length+ys.length)*bytes≤2 ^ 47) then some (.list true (xs++ys),bx,st) else none:=a8 rfl
theorem takeVal_t (n:Nat) (cs:List AV):j3 true n cs=if n≤cs.length then some (.agg ((cs.take n).map AV.weak1)) else none:=a8 rfl
theorem a7J (n:Nat) (c:AV) (cs:List AV):j3 false n (c::cs)=some c.weak1:=a8 rfl
theorem a6k (cs:List AV):H4 [] [] cs=some cs:=a8 rfl
theorem a6P (off n:Nat) (offs:List (Nat×Nat)) (p:AV) (ps cs:List AV):H4 ((off,n)::offs) (p::ps) cs=if p.plain=true∧p.cells.length=n∧off+n≤cs.length then H4 offs ps (p7 cs off p.cells) else none:=a8 rfl
theorem a6O (sz:Nat) (rs:List (List AV)):F5 sz [] [] rs=some rs:=a8 rfl
theorem a5J (sz i:Nat) (is:List Nat) (p:AV) (ps:List AV) (rs:List (List AV)):F5 sz (i::is) (p::ps) rs=if p.plain=true∧p.cells.length=sz∧i < rs.length then F5 sz is ps (rs.set i (p.cells.map AV.weak1)) else none:=a8 rfl
theorem b1j (cs:List AV) (off:Nat) (new:List AV):p7 cs off new=cs.take off++new++cs.drop (off+new.length):=a8 rfl
theorem a8t (n:Nat):E5 false false [] n=some (0,n):=a8 rfl
theorem a7Z (l:AV) (n:Nat):E5 true false [l] n=(N4 l n).map fun l=>(l,n):=a8 rfl
theorem a8r (h:AV) (n:Nat):E5 false true [h] n=(N4 h n).map fun h=>(0,h):=a8 rfl
theorem a9h (l h:AV) (n:Nat):E5 true true [l,h] n=match N4 h n with|some h=>(N4 l h).map (fun l=>(l,h))|none=>none:=a8 rfl
theorem b2J (k:IntKind) (i:Int) (top:Nat):N4 (.int k i) top=if 0≤i∧i≤(top:Int) then some i.toNat else none:=a8 rfl
theorem b1y (sz:Nat):k6 sz []=true:=a8 rfl
theorem b0W (sz:Nat) (r:List AV) (rs:List (List AV)):k6 sz (r::rs)=(r.length == sz):=a8 rfl
theorem b3g (i:Nat) (cs:List AV):c0z i (.box cs)=.loc i 0:=a8 rfl
theorem a5u (b:Bool):AV.plain (.bool b)=true:=a8 rfl
theorem a5h (b:Bool):AV.cells (.bool b)=[.bool b]:=a8 rfl
theorem a3P (b:Bool):AV.cellW1 (.bool b)=.bool b:=a8 rfl
theorem a3I (b:Bool):AV.cellsW (.bool b)=[.bool b]:=a8 rfl
theorem a7M (k:IntKind) (n:Int):AV.plain (.int k n)=true:=a8 rfl
theorem a8M (k:IntKind) (n:Int):AV.cells (.int k n)=[.int k n]:=a8 rfl
theorem a5p (k:IntKind) (n:Int):AV.cellW1 (.int k n)=.int k n:=a8 rfl
theorem a4V (k:IntKind) (n:Int):AV.cellsW (.int k n)=[.int k n]:=a8 rfl
theorem a7L (s:List Nat):AV.plain (.str s)=true:=a8 rfl
theorem a8p (s:List Nat):AV.cells (.str s)=[.str s]:=a8 rfl
theorem a6N (s:List Nat):AV.cellW1 (.str s)=.str s:=a8 rfl
theorem a6w (s:List Nat):AV.cellsW (.str s)=[.str s]:=a8 rfl
theorem a6q (w:Bool) (xs:List (List AV)):AV.plain (.list w xs)=true:=a8 rfl
theorem a5w (w:Bool) (xs:List (List AV)):AV.cells (.list w xs)=[.list w xs]:=a8 rfl
theorem a8S (o f:Nat):AV.plain (.ptr o f)=true:=a8 rfl
theorem a8X (o f:Nat):AV.cells (.ptr o f)=[.ptr o f]:=a8 rfl
theorem a5l (o f:Nat):AV.cellW1 (.ptr o f)=.ptr o f:=a8 rfl
theorem a5z (o f:Nat):AV.cellsW (.ptr o f)=[.ptr o f]:=a8 rfl
theorem a6R :AV.plain (.nilp)=true:=a8 rfl
theorem a5X :AV.cells (.nilp)=[.nilp]:=a8 rfl
theorem a4c :AV.cellW1 (.nilp)=.nilp:=a8 rfl
theorem a4a :AV.cellsW (.nilp)=[.nilp]:=a8 rfl
theorem a9Y (cs:List AV):AV.plain (.ro cs)=true:=a8 rfl
theorem b0E (cs:List AV):AV.cells (.ro cs)=[.ro cs]:=a8 rfl
theorem a8F (cs:List AV):AV.cellW1 (.ro cs)=.ro cs:=a8 rfl
theorem a8x (cs:List AV):AV.cellsW (.ro cs)=[.ro cs]:=a8 rfl
theorem a8o (o:Nat):AV.plain (.map o)=true:=a8 rfl
theorem a8s (o:Nat):AV.cells (.map o)=[.map o]:=a8 rfl
theorem a6r (o:Nat):AV.cellW1 (.map o)=.map o:=a8 rfl
theorem a5m (o:Nat):AV.cellsW (.map o)=[.map o]:=a8 rfl
theorem a5T :AV.plain (.nilm)=true:=a8 rfl
theorem a5j :AV.cells (.nilm)=[.nilm]:=a8 rfl
theorem a3Z :AV.cellW1 (.nilm)=.nilm:=a8 rfl
theorem a4o :AV.cellsW (.nilm)=[.nilm]:=a8 rfl
theorem a5c (f:Nat) (a b:List AV):AV.plain (.func f a b)=true:=a8 rfl
theorem a5b (f:Nat) (a b:List AV):AV.cells (.func f a b)=[.func f a b]:=a8 rfl
theorem a3J (f:Nat) (a b:List AV):AV.cellW1 (.func f a b)=.func f a b:=a8 rfl
theorem a4j (f:Nat) (a b:List AV):AV.cellsW (.func f a b)=[.func f a b]:=a8 rfl
theorem a5g :AV.plain (.nilf)=true:=a8 rfl
theorem a5v :AV.cells (.nilf)=[.nilf]:=a8 rfl
theorem a3F :AV.cellW1 (.nilf)=.nilf:=a8 rfl
theorem a4d :AV.cellsW (.nilf)=[.nilf]:=a8 rfl
theorem b0j (o f n s:Nat):AV.plain (.sl o f n s)=true:=a8 rfl
theorem b0A (o f n s:Nat):AV.cells (.sl o f n s)=[.sl o f n s]:=a8 rfl
theorem a8k (o f n s:Nat):AV.cellW1 (.sl o f n s)=.sl o f n s:=a8 rfl
theorem a7R (o f n s:Nat):AV.cellsW (.sl o f n s)=[.sl o f n s]:=a8 rfl
theorem a3L (t:Nat) (v:AV):AV.plain (.iface t v)=true:=a8 rfl
theorem a3x (t:Nat) (v:AV):AV.cells (.iface t v)=[.iface t v]:=a8 rfl
theorem a2V (t:Nat) (v:AV):AV.cellW1 (.iface t v)=.iface t v:=a8 rfl
theorem a2w (t:Nat) (v:AV):AV.cellsW (.iface t v)=[.iface t v]:=a8 rfl
theorem a6u :AV.plain (.nili)=true:=a8 rfl
theorem a6n :AV.cells (.nili)=[.nili]:=a8 rfl
theorem a3K :AV.cellW1 (.nili)=.nili:=a8 rfl
theorem a3B :AV.cellsW (.nili)=[.nili]:=a8 rfl
theorem a5d :AV.plain (.nils)=true:=a8 rfl
theorem a6C :AV.cells (.nils)=[.nils]:=a8 rfl
theorem a4p :AV.cellW1 (.nils)=.nils:=a8 rfl
theorem a3R :AV.cellsW (.nils)=[.nils]:=a8 rfl
theorem a3E (w:Bool) (xs:List (List AV)):AV.cellW1 (.list w xs)=.list (w && xs.isEmpty) xs:=a8 rfl
theorem plain_agg (cs:List AV):AV.plain (.agg cs)=true:=a8 rfl
theorem a8J (cs:List AV):AV.cells (.agg cs)=cs:=a8 rfl
theorem a6G (cs:List AV):AV.cellsW (.agg cs)=cs:=a8 rfl
theorem a3T (w:Bool) (xs:List (List AV)):AV.cellsW (.list w xs)=[.list (w && xs.isEmpty) xs]:=a8 rfl
theorem allPlain_n:s7 []=true:=a8 rfl
theorem allPlain_c (a:AV) (as:List AV):s7 (a::as)=(a.plain && s7 as):=a8 rfl
theorem b9Z {α β:Type} (f:α→β):List.map f []=[]:=a8 rfl
theorem c0e {α β:Type} (f:α→β) (a:α) (l:List α):List.map f (a::l)=f a::l.map f:=a8 rfl
theorem b6w {α:Type} (l:List α):List.drop 0 l=l:=a8 rfl
theorem b51 {α:Type} (n:Nat) (a:α) (l:List α):List.drop (n+1) (a::l)=l.drop n:=a8 rfl
theorem b5B {α:Type} (n:Nat):List.drop n ([]:List α)=[]:=by cases n <;> rfl
theorem b5f {α:Type} (l:List α):List.take 0 l=[]:=a8 rfl
theorem b6f {α:Type} (n:Nat) (a:α) (l:List α):List.take (n+1) (a::l)=a::l.take n:=a8 rfl
theorem b5E {α:Type} (n:Nat):List.take n ([]:List α)=[]:=by cases n <;> rfl
theorem c1r {α:Type}:([]:List α).length=0:=a8 rfl
theorem c1u {α:Type} (a:α) (l:List α):(a::l).length=l.length+1:=a8 rfl
theorem b97 {α:Type} (a:α) (l m:List α):(a::l)++m=a::(l++m):=a8 rfl
theorem b92 {α:Type} (l:List α):[]++l=l:=a8 rfl
theorem b21 {α:Type} (l:List α):l++[]=l:=List.append_nil l
theorem c0E {α:Type} (a:α) (l:List α):(a::l)[0]?=some a:=a8 rfl
theorem c0g {α:Type} (n:Nat) (a:α) (l:List α):(a::l)[n+1]?=l[n]?:=a8 rfl
theorem c0T {α:Type} (a b:α) (l:List α):(a::l).set 0 b=b::l:=a8 rfl
theorem c0I {α:Type} (n:Nat) (a b:α) (l:List α):(a::l).set (n+1) b=a::l.set n b:=a8 rfl
theorem c0V {α:Type} (a:α):List.replicate 0 a=[]:=a8 rfl
theorem c1f {α:Type} (n:Nat) (a:α):List.replicate (n+1) a=a::List.replicate n a:=a8 rfl
theorem b6G {α β:Type} (f:α→β) (a:α):Option.map f (some a)=some (f a):=a8 rfl
theorem b6h {α β:Type} (f:α→β):Option.map f none=none:=a8 rfl
theorem b95 {α:Type}:([]:List α).isEmpty=true:=a8 rfl
theorem c0o {α:Type} (a:α) (l:List α):(a::l).isEmpty=false:=a8 rfl
theorem c1b {α:Type} (a b:α):(if True then a else b)=a:=if_pos trivial
theorem c0M {α:Type} (a b:α):(if False then a else b)=b:=if_neg (fun h=>h)
theorem c1q {α:Type} (a b:α):(if true=true then a else b)=a:=if_pos rfl
theorem c1i {α:Type} (a b:α):(if false=true then a else b)=b:=if_neg (fun h=>by cases h)
theorem b5W:(true=false)=False:=by simp
theorem b5M:(false=true)=False:=by simp
theorem c04:(!true)=false:=a8 rfl
theorem c0t:(!false)=true:=a8 rfl
theorem c0a (b:Bool):(true && b)=b:=a8 rfl
theorem c1t (b:Bool):(b && true)=b:=by cases b <;> rfl
theorem c0c (b:Bool):(false && b)=false:=a8 rfl
theorem c0f (b:Bool):(b && false)=false:=by cases b <;> rfl
theorem c5Y (b:Bool):(true || b)=true:=a8 rfl
theorem c58 (b:Bool):(b || true)=true:=by cases b <;> rfl
theorem c6o (b:Bool):(false || b)=b:=a8 rfl
theorem c5Z (b:Bool):(b || false)=b:=by cases b <;> rfl
theorem b91 (p:Prop):(p∧True)=p:=by simp
theorem c0O (p:Prop):(True∧p)=p:=by simp
theorem c1n:decide True=true:=a8 rfl
theorem c0R:decide False=false:=a8 rfl
theorem eqs {α:Type} (a:α):(a=a)=True:=by simp
theorem nn (n:Nat):(0≤(n:Int))=True:=by simp
theorem tn (n:Nat):(n:Int).toNat=n:=Int.toNat_natCast n
theorem b6E (m n:Nat):((m:Int)≤(n:Int))=(m≤n):=by simp
theorem b7r (n:Nat):(n≤n)=True:=by simp
theorem c6E (i j:Nat):ltI (i:Int) (j:Int)=decide (i < j):=ltN i j
theorem c3P (i j:Nat):eqI (i:Int) (j:Int)=decide (i=j):=c5b i j
theorem c0i (c:AV) (call:b9) (n:Nat) (a b:ACode) (fr:List AV) (st:St):brE c call n a b fr st=brT c (a1Q call n a fr st) (a1Q call n b fr st):=a8 rfl
theorem c5f:(0 < (1:Nat))=True:=by simp
theorem c6m:(0 < (3:Nat))=True:=by simp
theorem c49:(1 < (3:Nat))=True:=by simp
theorem c3J:(2 < (3:Nat))=True:=by simp
theorem il0:(0≤(0:Int))=True:=by simp
theorem it0:(0:Int).toNat=0:=a8 rfl
theorem il1:(0≤(1:Int))=True:=by simp
theorem it1:(1:Int).toNat=1:=a8 rfl
theorem il2:(0≤(2:Int))=True:=by simp
theorem it2:(2:Int).toNat=2:=a8 rfl
theorem m41:4*1=(4:Nat):=a8 rfl
theorem W_e (a:AV):W a=AV.weak (AV.stripB a):=a8 rfl
theorem c5D {β:Type} (a:AV) (f:AV→Option β):m1 a f=f a:=a8 rfl
theorem b2m {β:Type} (c w:Bool) (a:AV) (f:AV→Option β):gm (.bool c) w a f=f (gV (.bool c) w a):=by unfold gm; rw [a7i,n6]
theorem b0H {β:Type} (x:AV) (w b want:Bool) (a:AV) (f:AV→Option β):gm (gV x w (.bool b)) want a f=f (gV (gV x w (.bool b)) want a):=by unfold gm; rw [a4U,n6]
theorem b3o {β:Type} (w:Bool) (a:AV) (f:AV→Option β):gm (.tuple []) w a f=f (.tuple []):=by unfold gm; rw [a6V,n6]
theorem c00 (n:Nat):0+n=n:=Nat.zero_add n
theorem c1c (n:Nat):n+0=n:=a8 rfl
theorem b4B (n:Nat):(n == n)=true:=by simp
end Go.Cb.R
namespace Go.Cb
open Go.Cb.R
theorem SS:type_of% (And.intro (And.intro (And.intro (And.intro (And.intro (And.intro (And.intro (And.intro (@exec_seqK) (@a9l)) (And.intro (@b1Q) (And.intro (@a8a) (@a8w)))) (And.intro (And.intro (@a1d) (And.intro (@a8Q) (@b0G))) (And.intro (@a2E) (And.intro (@a2m) (@a5F))))) (And.intro (And.intro (And.intro (@a3U) (@b5q)) (And.intro (@b47) (And.intro (@a3C) (@a3y)))) (And.intro (And.intro (@b7z) (And.intro (@b5c) (@b6e))) (And.intro (@b0N) (And.intro (@a7T) (@b1b)))))) (And.intro (And.intro (And.intro (And.intro (@a9V) (@a5r)) (And.intro (@b2j) (And.intro (@a1x) (@n6)))) (And.intro (And.intro (@c1o) (And.intro (@c0q) (@c0w))) (And.intro (@c0d) (And.intro (@a6V) (@b6r))))) (And.intro (And.intro (And.intro (@b5L) (@b5G)) (And.intro (@b5p) (And.intro (@b09) (@c0m)))) (And.intro (And.intro (@c0v) (And.intro (@c1k) (@c0S))) (And.intro (@b3E) (And.intro (@a7i) (@a4U))))))) (And.intro (And.intro (And.intro (And.intro (And.intro (@b2U) (@b1u)) (And.intro (@a8y) (And.intro (@b6b) (@b7q)))) (And.intro (And.intro (@b3m) (And.intro (@b0U) (@a8n))) (And.intro (@b0e) (And.intro (@a9P) (@a8W))))) (And.intro (And.intro (And.intro (@b0D) (@a7X)) (And.intro (@a8D) (And.intro (@b2T) (@b0O)))) (And.intro (And.intro (@b01) (And.intro (@a8b) (@a8e))) (And.intro (@a9e) (And.intro (@L6) (@b3i)))))) (And.intro (And.intro (And.intro (And.intro (@a5P) (@a8K)) (And.intro (@a6m) (And.intro (@a6d) (@b03)))) (And.intro (And.intro (@a6x) (And.intro (@a7I) (@a9f))) (And.intro (@a5I) (And.intro (@b1i) (@a6B))))) (And.intro (And.intro (And.intro (@a7V) (And.intro (@a5M) (@a5o))) (And.intro (@O4) (And.intro (@a6J) (@a49)))) (And.intro (And.intro (@a7W) (And.intro (@a8m) (@a5K))) (And.intro (@a8q) (And.intro (@a6M) (@a5U)))))))) (And.intro (And.intro (And.intro (And.intro (And.intro (And.intro (@b1W) (@a7H)) (And.intro (@a9g) (And.intro (@a5S) (@a4W)))) (And.intro (And.intro (@a6A) (And.intro (@a7Y) (@b0S))) (And.intro (@a3Q) (And.intro (@a4f) (@a4n))))) (And.intro (And.intro (And.intro (@a5q) (@a6E)) (And.intro (@a3z) (And.intro (@a6j) (@a30)))) (And.intro (And.intro (@a4e) (And.intro (@a9a) (@a6L))) (And.intro (@a5Q) (And.intro (@a3O) (@a36)))))) (And.intro (And.intro (And.intro (And.intro (@a4g) (@a6D)) (And.intro (@a5i) (And.intro (@a4i) (@a2K)))) (And.intro (And.intro (@a8N) (And.intro (@a2q) (@a2t))) (And.intro (@c6D) (And.intro (@a6f) (@a5N))))) (And.intro (And.intro (And.intro (@a8H) (@a3M)) (And.intro (@b3H) (And.intro (@b5h) (@b1c)))) (And.intro (And.intro (@b6d) (And.intro (@b3A) (@a9M))) (And.intro (@b5S) (And.intro (@b65) (@b6Z))))))) (And.intro (And.intro (And.intro (And.intro (And.intro (@b26) (@ldAn_ptr)) (And.intro (@b2v) (And.intro (@b3l) (@b6z)))) (And.intro (And.intro (@b5O) (And.intro (@b3d) (@b3y))) (And.intro (@b6F) (And.intro (@c1s) (@c0P))))) (And.intro (And.intro (And.intro (@b7p) (@a8O)) (And.intro (@b2B) (And.intro (@a8L) (@a9m)))) (And.intro (And.intro (@b5s) (And.intro (@b6j) (@a3X))) (And.intro (@a3D) (And.intro (@b0M) (@a8d)))))) (And.intro (And.intro (And.intro (And.intro (@b3z) (@b2X)) (And.intro (@b2u) (And.intro (@b5r) (@b6l)))) (And.intro (And.intro (@c02) (And.intro (@a8B) (@a7O))) (And.intro (@b2i) (And.intro (@b1x) (@b0F))))) (And.intro (And.intro (And.intro (@b5U) (And.intro (@c0j) (@b5b))) (And.intro (@c0b) (And.intro (@b99) (@c0W)))) (And.intro (And.intro (@c0X) (And.intro (@b5Z) (@b55))) (And.intro (@b62) (And.intro (@b6v) (@b6q))))))))) (And.intro (And.intro (And.intro (And.intro (And.intro (And.intro (And.intro (@b5x) (@b5e)) (And.intro (@b6g) (And.intro (@b7F) (@b6i)))) (And.intro (And.intro (@b5I) (And.intro (@b6I) (@b6o))) (And.intro (@b5j) (And.intro (@b6K) (@b6A))))) (And.intro (And.intro (And.intro (@b7f) (@b5J)) (And.intro (@b6H) (And.intro (@b2F) (@b20)))) (And.intro (And.intro (@b3e) (And.intro (@b2w) (@b2D))) (And.intro (@b2y) (And.intro (@b5Q) (@b5l)))))) (And.intro (And.intro (And.intro (And.intro (@b52) (@c0s)) (And.intro (@c0B) (And.intro (@c1p) (@b7w)))) (And.intro (And.intro (@b5i) (And.intro (@c01) (@takeVal_t))) (And.intro (@a7J) (And.intro (@a6k) (@a6P))))) (And.intro (And.intro (And.intro (@a6O) (@a5J)) (And.intro (@b1j) (And.intro (@a8t) (@a7Z)))) (And.intro (And.intro (@a8r) (And.intro (@a9h) (@b2J))) (And.intro (@b1y) (And.intro (@b0W) (@b3g))))))) (And.intro (And.intro (And.intro (And.intro (And.intro (@a5u) (@a5h)) (And.intro (@a3P) (And.intro (@a3I) (@a7M)))) (And.intro (And.intro (@a8M) (And.intro (@a5p) (@a4V))) (And.intro (@a7L) (And.intro (@a8p) (@a6N))))) (And.intro (And.intro (And.intro (@a6w) (@a6q)) (And.intro (@a5w) (And.intro (@a8S) (@a8X)))) (And.intro (And.intro (@a5l) (And.intro (@a5z) (@a6R))) (And.intro (@a5X) (And.intro (@a4c) (@a4a)))))) (And.intro (And.intro (And.intro (And.intro (@a9Y) (@b0E)) (And.intro (@a8F) (And.intro (@a8x) (@a8o)))) (And.intro (And.intro (@a8s) (And.intro (@a6r) (@a5m))) (And.intro (@a5T) (And.intro (@a5j) (@a3Z))))) (And.intro (And.intro (And.intro (@a4o) (And.intro (@a5c) (@a5b))) (And.intro (@a3J) (And.intro (@a4j) (@a5g)))) (And.intro (And.intro (@a5v) (And.intro (@a3F) (@a4d))) (And.intro (@b0j) (And.intro (@b0A) (@a8k)))))))) (And.intro (And.intro (And.intro (And.intro (And.intro (And.intro (@a7R) (@a3L)) (And.intro (@a3x) (And.intro (@a2V) (@a2w)))) (And.intro (And.intro (@a6u) (And.intro (@a6n) (@a3K))) (And.intro (@a3B) (And.intro (@a5d) (@a6C))))) (And.intro (And.intro (And.intro (@a4p) (@a3R)) (And.intro (@a3E) (And.intro (@plain_agg) (@a8J)))) (And.intro (And.intro (@a6G) (And.intro (@a3T) (@allPlain_n))) (And.intro (@allPlain_c) (And.intro (@b9Z) (@c0e)))))) (And.intro (And.intro (And.intro (And.intro (@b6w) (@b51)) (And.intro (@b5B) (And.intro (@b5f) (@b6f)))) (And.intro (And.intro (@b5E) (And.intro (@c1r) (@c1u))) (And.intro (@b97) (And.intro (@b92) (@b21))))) (And.intro (And.intro (And.intro (@c0E) (And.intro (@c0g) (@c0T))) (And.intro (@c0I) (And.intro (@c0V) (@c1f)))) (And.intro (And.intro (@b6G) (And.intro (@b6h) (@b95))) (And.intro (@c0o) (And.intro (@c1b) (@c0M))))))) (And.intro (And.intro (And.intro (And.intro (And.intro (@c1q) (@c1i)) (And.intro (@b5W) (And.intro (@b5M) (@c04)))) (And.intro (And.intro (@c0t) (And.intro (@c0a) (@c1t))) (And.intro (@c0c) (And.intro (@c0f) (@c5Y))))) (And.intro (And.intro (And.intro (@c58) (@c6o)) (And.intro (@c5Z) (And.intro (@b91) (@c0O)))) (And.intro (And.intro (@c1n) (And.intro (@c0R) (@eqs))) (And.intro (@nn) (And.intro (@tn) (@b6E)))))) (And.intro (And.intro (And.intro (And.intro (@b7r) (@c6E)) (And.intro (@c3P) (And.intro (@c0i) (@c5f)))) (And.intro (And.intro (@c6m) (And.intro (@c49) (@c3J))) (And.intro (@il0) (And.intro (@it0) (@il1))))) (And.intro (And.intro (And.intro (@it1) (And.intro (@il2) (@it2))) (And.intro (@m41) (And.intro (@W_e) (@c5D)))) (And.intro (And.intro (@b2m) (And.intro (@b0H) (@b3o))) (And.intro (@c00) (And.intro (@c1c) (@b4B)))))))))):=And.intro (And.intro (And.intro (And.intro (And.intro (And.intro (And.intro (And.intro (@exec_seqK) (@a9l)) (And.intro (@b1Q) (And.intro (@a8a) (@a8w)))) (And.intro (And.intro (@a1d) (And.intro (@a8Q) (@b0G))) (And.intro (@a2E) (And.intro (@a2m) (@a5F))))) (And.intro (And.intro (And.intro (@a3U) (@b5q)) (And.intro (@b47) (And.intro (@a3C) (@a3y)))) (And.intro (And.intro (@b7z) (And.intro (@b5c) (@b6e))) (And.intro (@b0N) (And.intro (@a7T) (@b1b)))))) (And.intro (And.intro (And.intro (And.intro (@a9V) (@a5r)) (And.intro (@b2j) (And.intro (@a1x) (@n6)))) (And.intro (And.intro (@c1o) (And.intro (@c0q) (@c0w))) (And.intro (@c0d) (And.intro (@a6V) (@b6r))))) (And.intro (And.intro (And.intro (@b5L) (@b5G)) (And.intro (@b5p) (And.intro (@b09) (@c0m)))) (And.intro (And.intro (@c0v) (And.intro (@c1k) (@c0S))) (And.intro (@b3E) (And.intro (@a7i) (@a4U))))))) (And.intro (And.intro (And.intro (And.intro (And.intro (@b2U) (@b1u)) (And.intro (@a8y) (And.intro (@b6b) (@b7q)))) (And.intro (And.intro (@b3m) (And.intro (@b0U) (@a8n))) (And.intro (@b0e) (And.intro (@a9P) (@a8W))))) (And.intro (And.intro (And.intro (@b0D) (@a7X)) (And.intro (@a8D) (And.intro (@b2T) (@b0O)))) (And.intro (And.intro (@b01) (And.intro (@a8b) (@a8e))) (And.intro (@a9e) (And.intro (@L6) (@b3i)))))) (And.intro (And.intro (And.intro (And.intro (@a5P) (@a8K)) (And.intro (@a6m) (And.intro (@a6d) (@b03)))) (And.intro (And.intro (@a6x) (And.intro (@a7I) (@a9f))) (And.intro (@a5I) (And.intro (@b1i) (@a6B))))) (And.intro (And.intro (And.intro (@a7V) (And.intro (@a5M) (@a5o))) (And.intro (@O4) (And.intro (@a6J) (@a49)))) (And.intro (And.intro (@a7W) (And.intro (@a8m) (@a5K))) (And.intro (@a8q) (And.intro (@a6M) (@a5U)))))))) (And.intro (And.intro (And.intro (And.intro (And.intro (And.intro (@b1W) (@a7H)) (And.intro (@a9g) (And.intro (@a5S) (@a4W)))) (And.intro (And.intro (@a6A) (And.intro (@a7Y) (@b0S))) (And.intro (@a3Q) (And.intro (@a4f) (@a4n))))) (And.intro (And.intro (And.intro (@a5q) (@a6E)) (And.intro (@a3z) (And.intro (@a6j) (@a30)))) (And.intro (And.intro (@a4e) (And.intro (@a9a) (@a6L))) (And.intro (@a5Q) (And.intro (@a3O) (@a36)))))) (And.intro (And.intro (And.intro (And.intro (@a4g) (@a6D)) (And.intro (@a5i) (And.intro (@a4i) (@a2K)))) (And.intro (And.intro (@a8N) (And.intro (@a2q) (@a2t))) (And.intro (@c6D) (And.intro (@a6f) (@a5N))))) (And.intro (And.intro (And.intro (@a8H) (@a3M)) (And.intro (@b3H) (And.intro (@b5h) (@b1c)))) (And.intro (And.intro (@b6d) (And.intro (@b3A) (@a9M))) (And.intro (@b5S) (And.intro (@b65) (@b6Z))))))) (And.intro (And.intro (And.intro (And.intro (And.intro (@b26) (@ldAn_ptr)) (And.intro (@b2v) (And.intro (@b3l) (@b6z)))) (And.intro (And.intro (@b5O) (And.intro (@b3d) (@b3y))) (And.intro (@b6F) (And.intro (@c1s) (@c0P))))) (And.intro (And.intro (And.intro (@b7p) (@a8O)) (And.intro (@b2B) (And.intro (@a8L) (@a9m)))) (And.intro (And.intro (@b5s) (And.intro (@b6j) (@a3X))) (And.intro (@a3D) (And.intro (@b0M) (@a8d)))))) (And.intro (And.intro (And.intro (And.intro (@b3z) (@b2X)) (And.intro (@b2u) (And.intro (@b5r) (@b6l)))) (And.intro (And.intro (@c02) (And.intro (@a8B) (@a7O))) (And.intro (@b2i) (And.intro (@b1x) (@b0F))))) (And.intro (And.intro (And.intro (@b5U) (And.intro (@c0j) (@b5b))) (And.intro (@c0b) (And.intro (@b99) (@c0W)))) (And.intro (And.intro (@c0X) (And.intro (@b5Z) (@b55))) (And.intro (@b62) (And.intro (@b6v) (@b6q))))))))) (And.intro (And.intro (And.intro (And.intro (And.intro (And.intro (And.intro (@b5x) (@b5e)) (And.intro (@b6g) (And.intro (@b7F) (@b6i)))) (And.intro (And.intro (@b5I) (And.intro (@b6I) (@b6o))) (And.intro (@b5j) (And.intro (@b6K) (@b6A))))) (And.intro (And.intro (And.intro (@b7f) (@b5J)) (And.intro (@b6H) (And.intro (@b2F) (@b20)))) (And.intro (And.intro (@b3e) (And.intro (@b2w) (@b2D))) (And.intro (@b2y) (And.intro (@b5Q) (@b5l)))))) (And.intro (And.intro (And.intro (And.intro (@b52) (@c0s)) (And.intro (@c0B) (And.intro (@c1p) (@b7w)))) (And.intro (And.intro (@b5i) (And.intro (@c01) (@takeVal_t))) (And.intro (@a7J) (And.intro (@a6k) (@a6P))))) (And.intro (And.intro (And.intro (@a6O) (@a5J)) (And.intro (@b1j) (And.intro (@a8t) (@a7Z)))) (And.intro (And.intro (@a8r) (And.intro (@a9h) (@b2J))) (And.intro (@b1y) (And.intro (@b0W) (@b3g))))))) (And.intro (And.intro (And.intro (And.intro (And.intro (@a5u) (@a5h)) (And.intro (@a3P) (And.intro (@a3I) (@a7M)))) (And.intro (And.intro (@a8M) (And.intro (@a5p) (@a4V))) (And.intro (@a7L) (And.intro (@a8p) (@a6N))))) (And.intro (And.intro (And.intro (@a6w) (@a6q)) (And.intro (@a5w) (And.intro (@a8S) (@a8X)))) (And.intro (And.intro (@a5l) (And.intro (@a5z) (@a6R))) (And.intro (@a5X) (And.intro (@a4c) (@a4a)))))) (And.intro (And.intro (And.intro (And.intro (@a9Y) (@b0E)) (And.intro (@a8F) (And.intro (@a8x) (@a8o)))) (And.intro (And.intro (@a8s) (And.intro (@a6r) (@a5m))) (And.intro (@a5T) (And.intro (@a5j) (@a3Z))))) (And.intro (And.intro (And.intro (@a4o) (And.intro (@a5c) (@a5b))) (And.intro (@a3J) (And.intro (@a4j) (@a5g)))) (And.intro (And.intro (@a5v) (And.intro (@a3F) (@a4d))) (And.intro (@b0j) (And.intro (@b0A) (@a8k)))))))) (And.intro (And.intro (And.intro (And.intro (And.intro (And.intro (@a7R) (@a3L)) (And.intro (@a3x) (And.intro (@a2V) (@a2w)))) (And.intro (And.intro (@a6u) (And.intro (@a6n) (@a3K))) (And.intro (@a3B) (And.intro (@a5d) (@a6C))))) (And.intro (And.intro (And.intro (@a4p) (@a3R)) (And.intro (@a3E) (And.intro (@plain_agg) (@a8J)))) (And.intro (And.intro (@a6G) (And.intro (@a3T) (@allPlain_n))) (And.intro (@allPlain_c) (And.intro (@b9Z) (@c0e)))))) (And.intro (And.intro (And.intro (And.intro (@b6w) (@b51)) (And.intro (@b5B) (And.intro (@b5f) (@b6f)))) (And.intro (And.intro (@b5E) (And.intro (@c1r) (@c1u))) (And.intro (@b97) (And.intro (@b92) (@b21))))) (And.intro (And.intro (And.intro (@c0E) (And.intro (@c0g) (@c0T))) (And.intro (@c0I) (And.intro (@c0V) (@c1f)))) (And.intro (And.intro (@b6G) (And.intro (@b6h) (@b95))) (And.intro (@c0o) (And.intro (@c1b) (@c0M))))))) (And.intro (And.intro (And.intro (And.intro (And.intro (@c1q) (@c1i)) (And.intro (@b5W) (And.intro (@b5M) (@c04)))) (And.intro (And.intro (@c0t) (And.intro (@c0a) (@c1t))) (And.intro (@c0c) (And.intro (@c0f) (@c5Y))))) (And.intro (And.intro (And.intro (@c58) (@c6o)) (And.intro (@c5Z) (And.intro (@b91) (@c0O)))) (And.intro (And.intro (@c1n) (And.intro (@c0R) (@eqs))) (And.intro (@nn) (And.intro (@tn) (@b6E)))))) (And.intro (And.intro (And.intro (And.intro (@b7r) (@c6E)) (And.intro (@c3P) (And.intro (@c0i) (@c5f)))) (And.intro (And.intro (@c6m) (And.intro (@c49) (@c3J))) (And.intro (@il0) (And.intro (@it0) (@il1))))) (And.intro (And.intro (And.intro (@it1) (And.intro (@il2) (@it2))) (And.intro (@m41) (And.intro (@W_e) (@c5D)))) (And.intro (And.intro (@b2m) (And.intro (@b0H) (@b3o))) (And.intro (@c00) (And.intro (@c1c) (@b4B)))))))))
end Go.Cb
/-
 THE ABSTRACT MACHINE, part 48: running told by rules, operation by operation, in place of printed chains.
-/
set_option maxRecDepth 4000
set_option linter.unusedSimpArgs false
set_option linter.unusedVariables false
namespace Go.Cb.V
open Go Go.Cb
def d9 (call:b9) (ops:List AOper) (σ:Sig) (k:Sig→Option Out):Option Out:=obind (m2 call ops σ) k
theorem runR_congr {call:b9} {ops:List AOper} {σ σ':Sig} {k:Sig→Option Out} (h:σ=σ'):d9 call ops σ k=d9 call ops σ' k:=by rw [h]
theorem b6L (call:b9) (σ:Sig) (k:Sig→Option Out):d9 call [] σ k=k σ:=a8 rfl
theorem a0z (call:b9) (o:AOper) (os:List AOper) (σ:Sig) (k:Sig→Option Out):d9 call (o::os) σ k=obind (j2 call o σ) fun σ=>d9 call os σ k:=by
 unfold d9
 simp only [m2]
 cases j2 call o σ <;> rfl
theorem X4:∀ (as:List Opd) (σ:Sig),(c0 as σ).st=σ.st
 | [],_=>rfl
 | x::xs,σ=>by rw [c0,X4 xs]; cases x <;> rfl
section
variable (call:b9) (d:Dst) (as:List Opd) (os:List AOper) (σ:Sig) (k:Sig→Option Out)
theorem m7 {K:Kind} (h1:K.setSt=false):d9 call (⟨d,K,as,none,none⟩::os) σ k=obind (p1 (sem K call (as.map (·.read σ)) .undef σ.st)) fun x=>d9 call os (d.put x (c0 as σ)) k:=by
 rw [a0z]
 simp only [j2]
 rw [M6]
 dsimp only
 cases hs:sem K call (as.map (·.read σ)) .undef σ.st with
 | none=>rfl
 | some x =>
  obtain ⟨r,b,st⟩:=x
  obtain rfl:=a2W h1 hs
  simp only [p1,n6]
  have e:({ c0 as σ with st:=σ.st }:Sig)=c0 as σ:=by
   have:=X4 as σ
   cases h:c0 as σ
   rw [h] at this
   simp only at this
   rw [this]
  rw [e]
theorem Q4 {K:Kind}:d9 call (⟨d,K,as,none,none⟩::os) σ k=obind (p2 (sem K call (as.map (·.read σ)) .undef σ.st)) fun x=>d9 call os (d.put x.1 { c0 as σ with st:=x.2 }) k:=by
 rw [a0z]
 simp only [j2]
 rw [M6]
 dsimp only
 cases hs:sem K call (as.map (·.read σ)) .undef σ.st with
 | none=>rfl
 | some x =>
  obtain ⟨r,b,st⟩:=x
  simp only [p2,n6]
theorem a9u {K:Kind} (i:Nat):d9 call (⟨d,K,as,some i,none⟩::os) σ k=obind (sem K call (as.map (·.read σ)) (σ.fr.getD i .undef) σ.st) fun x=>d9 call os (d.put x.1 { c0 as σ with fr:=(c0 as σ).fr.set i x.2.1,st:=x.2.2 }) k:=by
 rw [a0z]
 simp only [j2]
 rw [M6]
 dsimp only
 cases hs:sem K call (as.map (·.read σ)) (σ.fr.getD i .undef) σ.st with
 | none=>rfl
 | some x =>
  obtain ⟨r,b,st⟩:=x
  simp only [n6]
end
theorem c9S {call:b9} {d:Dst} {as:List Opd} {os:List AOper} {σ:Sig} {k:Sig→Option Out} {K:Kind} {box:Option Nat} (h:(K.setSt || K.alters || e8 as)=false) :
 d9 call (⟨d,K,as,box,none⟩::os) σ k=obind (p1 (sem K call (as.map (·.read σ)) (goK.boxOf' box σ) σ.st)) fun r=>d9 call os (d.put r σ) k:=by
 rw [a0z,← a2l]
 simp only [a3e,goK,h]
theorem m4 {call:b9} {d:Dst} {as:List Opd} {os:List AOper} {σ:Sig} {k:Sig→Option Out} {K:Kind} {box:Option Nat} {x:Opd} {w:Bool} (h:(K.setSt || K.alters || e8 as)=false) :
 d9 call (⟨d,K,as,box,some (x,w)⟩::os) σ k=obind (gv (x.read σ) w (p1 (sem K call (as.map (·.read σ)) (goK.boxOf' box σ) σ.st))) fun r=>d9 call os (d.put r σ) k:=by
 rw [a0z,← a2l]
 simp only [a3e,h]
theorem J8 {call:b9} {d:Dst} {as:List Opd} {os:List AOper} {σ:Sig} {k:Sig→Option Out} {K:Kind} {box:Option Nat} {x:Opd} {w:Bool} (h1:K.setSt=true) (h2:K.alters=false) (h:e8 as=false) :
 d9 call (⟨d,K,as,box,some (x,w)⟩::os) σ k=obind (gv2 (x.read σ) w σ.st (p2 (sem K call (as.map (·.read σ)) (goK.boxOf' box σ) σ.st))) fun r=>d9 call os (d.put r.1 { σ with st:=r.2 }) k:=by
 rw [a0z,← a2l]
 simp only [a3e,h1,h2,h,Bool.true_or,Bool.or_false]
theorem c6g:e8 []=false:=a8 rfl
theorem c3W (s:Nat) (xs:List Opd):e8 (.t s::xs)=e8 xs:=a8 rfl
theorem c6x (s:Nat) (xs:List Opd):e8 (.v s::xs)=e8 xs:=a8 rfl
theorem c4P (s:Nat) (xs:List Opd):e8 (.l s::xs)=e8 xs:=a8 rfl
theorem c6l (a:AV) (xs:List Opd):e8 (.c a::xs)=e8 xs:=a8 rfl
theorem a8U (call:b9) (n:Nat) (kill:List Nat) (ps:List AOper) (fr:List AV) (st:St) :
 e9 call n (.reg kill ps) fr st=d9 call ps ⟨k7 kill fr,fun _=>.undef,st⟩ fun σ=>some (.normal,σ.fr,σ.st):=by
 rw [b9I,a0s]; rfl
theorem a5a (call:b9) (n:Nat) (kill:List Nat) (ps:List AOper) (c:Opd) (a b:ACode) (fr:List AV) (st:St) :
 e9 call n (.test kill ps c a b) fr st=d9 call ps ⟨k7 kill fr,fun _=>.undef,st⟩ fun σ=>brE (c.read σ) call n a b σ.fr σ.st:=by
 rw [b4U,a0s]; rfl
theorem c50 (s:Nat) (fr:List AV) (τ:Nat→AV) (st:St):Opd.read (.t s) ⟨fr,τ,st⟩=(τ s).weak:=a8 rfl
theorem c1a (s:Nat) (fr:List AV) (τ:Nat→AV) (st:St):Opd.read (.ts s) ⟨fr,τ,st⟩=τ s:=a8 rfl
theorem c5u (s:Nat) (fr:List AV) (τ:Nat→AV) (st:St):Opd.read (.v s) ⟨fr,τ,st⟩=(fr.getD s .undef).weak:=a8 rfl
theorem c0y (s:Nat) (fr:List AV) (τ:Nat→AV) (st:St):Opd.read (.vs s) ⟨fr,τ,st⟩=fr.getD s .undef:=a8 rfl
theorem c52 (s:Nat) (fr:List AV) (τ:Nat→AV) (st:St):Opd.read (.l s) ⟨fr,τ,st⟩=c0z s (fr.getD s .undef):=a8 rfl
theorem c4Z (a:AV) (σ:Sig):Opd.read (.c a) σ=a:=a8 rfl
theorem c0Q (τ:Nat→AV) (s:Nat) (a:AV) (j:Nat):s5 τ s a j=if j=s then a else τ j:=by
 unfold s5
 by_cases h:j=s
 · subst h; simp
 · rw [if_neg h,if_neg]; intro e; exact h (Nat.eq_of_beq_eq_true e)
theorem put_t (s:Nat) (a:AV) (fr:List AV) (τ:Nat→AV) (st:St):Dst.put (.t s) a ⟨fr,τ,st⟩=⟨fr,s5 τ s a.stripB,st⟩:=a8 rfl
theorem put_v (s:Nat) (a:AV) (fr:List AV) (τ:Nat→AV) (st:St):Dst.put (.v s) a ⟨fr,τ,st⟩=⟨fr.set s a.strip,τ,st⟩:=a8 rfl
theorem b90 (a:AV) (σ:Sig):Dst.put .none a σ=σ:=a8 rfl
theorem c1g (a:AV) (σ:Sig):Dst.put .bx a σ=σ:=a8 rfl
theorem c4J (σ:Sig):c0 [] σ=σ:=a8 rfl
theorem c3E (x:Opd) (xs:List Opd) (σ:Sig):c0 (x::xs) σ=c0 xs (x.spend σ):=a8 rfl
theorem c5s (s:Nat) (σ:Sig):Opd.spend (.t s) σ=σ:=a8 rfl
theorem c5q (s:Nat) (σ:Sig):Opd.spend (.v s) σ=σ:=a8 rfl
theorem c5H (s:Nat) (σ:Sig):Opd.spend (.l s) σ=σ:=a8 rfl
theorem c4h (a:AV) (σ:Sig):Opd.spend (.c a) σ=σ:=a8 rfl
theorem b94 (s:Nat) (fr:List AV) (τ:Nat→AV) (st:St):Opd.spend (.ts s) ⟨fr,τ,st⟩=⟨fr,s5 τ s (τ s).weak,st⟩:=a8 rfl
theorem c0p (s:Nat) (fr:List AV) (τ:Nat→AV) (st:St):Opd.spend (.vs s) ⟨fr,τ,st⟩=⟨fr.set s (fr.getD s .undef).weak,τ,st⟩:=a8 rfl
theorem c5P (a d:AV) (l:List AV):(a::l).getD 0 d=a:=a8 rfl
theorem c5T (a d:AV) (l:List AV) (n:Nat):(a::l).getD (n+1) d=l.getD n d:=a8 rfl
theorem c6h (fr:List AV):k7 [] fr=fr:=a8 rfl
theorem c4F (i:Nat) (is:List Nat) (fr:List AV):k7 (i::is) fr=k7 is (fr.set i .undef):=a8 rfl
section
variable (call:b9) (d:Dst) (as:List Opd) (os:List AOper) (fr:List AV) (τ:Nat→AV) (s:St) (k:Sig→Option Out)
theorem c4Y :d9 call (⟨d,.mv,as,none,none⟩::os) ⟨fr,τ,s⟩ k=obind (p1 (a0R call (as.map (·.read ⟨fr,τ,s⟩)) .undef s)) fun x=>d9 call os (d.put x (c0 as ⟨fr,τ,s⟩)) k:=m7 call d as os ⟨fr,τ,s⟩ k rfl
theorem b5y :d9 call (⟨d,.pick,as,none,none⟩::os) ⟨fr,τ,s⟩ k=obind (p1 (C2 call (as.map (·.read ⟨fr,τ,s⟩)) .undef s)) fun x=>d9 call os (d.put x (c0 as ⟨fr,τ,s⟩)) k:=m7 call d as os ⟨fr,τ,s⟩ k rfl
theorem b0I :d9 call (⟨d,.nilchk,as,none,none⟩::os) ⟨fr,τ,s⟩ k=obind (p1 (C5 call (as.map (·.read ⟨fr,τ,s⟩)) .undef s)) fun x=>d9 call os (d.put x (c0 as ⟨fr,τ,s⟩)) k:=m7 call d as os ⟨fr,τ,s⟩ k rfl
theorem b27 (z:List AV) (o:List (Nat×Nat)):d9 call (⟨d,.build z o,as,none,none⟩::os) ⟨fr,τ,s⟩ k=obind (p1 (L1 z o call (as.map (·.read ⟨fr,τ,s⟩)) .undef s)) fun x=>d9 call os (d.put x (c0 as ⟨fr,τ,s⟩)) k:=m7 call d as os ⟨fr,τ,s⟩ k rfl
theorem a9G (q:Nat) (z:List (List AV)) (t:List Nat):d9 call (⟨d,.bslice q z t,as,none,none⟩::os) ⟨fr,τ,s⟩ k=obind (p1 (K4 q z t call (as.map (·.read ⟨fr,τ,s⟩)) .undef s)) fun x=>d9 call os (d.put x (c0 as ⟨fr,τ,s⟩)) k:=m7 call d as os ⟨fr,τ,s⟩ k rfl
theorem a7Q (q:Nat) (z:List (List AV)) (t:List Nat):d9 call (⟨d,.bsliceM q z t,as,none,none⟩::os) ⟨fr,τ,s⟩ k=obind (p1 (I3 q z t call (as.map (·.read ⟨fr,τ,s⟩)) .undef s)) fun x=>d9 call os (d.put x (c0 as ⟨fr,τ,s⟩)) k:=m7 call d as os ⟨fr,τ,s⟩ k rfl
theorem b6T (g:Bool) (n:Nat):d9 call (⟨d,.ldSt g n,as,none,none⟩::os) ⟨fr,τ,s⟩ k=obind (p1 (C4 g n call (as.map (·.read ⟨fr,τ,s⟩)) .undef s)) fun x=>d9 call os (d.put x (c0 as ⟨fr,τ,s⟩)) k:=m7 call d as os ⟨fr,τ,s⟩ k rfl
theorem b5k (g:Bool) (n:Nat):d9 call (⟨d,.ldRo g n,as,none,none⟩::os) ⟨fr,τ,s⟩ k=obind (p1 (P5 g n call (as.map (·.read ⟨fr,τ,s⟩)) .undef s)) fun x=>d9 call os (d.put x (c0 as ⟨fr,τ,s⟩)) k:=m7 call d as os ⟨fr,τ,s⟩ k rfl
theorem b45 (g:Bool) (n:Nat):d9 call (⟨d,.ldAn g n,as,none,none⟩::os) ⟨fr,τ,s⟩ k=obind (p1 (E8 g n call (as.map (·.read ⟨fr,τ,s⟩)) .undef s)) fun x=>d9 call os (d.put x (c0 as ⟨fr,τ,s⟩)) k:=m7 call d as os ⟨fr,τ,s⟩ k rfl
theorem b2L (g:Bool) (n:Nat):d9 call (⟨d,.ldStR g n,as,none,none⟩::os) ⟨fr,τ,s⟩ k=obind (p1 (H1 g n call (as.map (·.read ⟨fr,τ,s⟩)) .undef s)) fun x=>d9 call os (d.put x (c0 as ⟨fr,τ,s⟩)) k:=m7 call d as os ⟨fr,τ,s⟩ k rfl
theorem c0A (n:Nat):d9 call (⟨d,.fad n,as,none,none⟩::os) ⟨fr,τ,s⟩ k=obind (p1 (O1 n call (as.map (·.read ⟨fr,τ,s⟩)) .undef s)) fun x=>d9 call os (d.put x (c0 as ⟨fr,τ,s⟩)) k:=m7 call d as os ⟨fr,τ,s⟩ k rfl
theorem b98 (o n:Nat) (g:Bool):d9 call (⟨d,.fld o n g,as,none,none⟩::os) ⟨fr,τ,s⟩ k=obind (p1 (S9 o n g call (as.map (·.read ⟨fr,τ,s⟩)) .undef s)) fun x=>d9 call os (d.put x (c0 as ⟨fr,τ,s⟩)) k:=m7 call d as os ⟨fr,τ,s⟩ k rfl
theorem c1h (n:Nat):d9 call (⟨d,.iad n,as,none,none⟩::os) ⟨fr,τ,s⟩ k=obind (p1 (H2 n call (as.map (·.read ⟨fr,τ,s⟩)) .undef s)) fun x=>d9 call os (d.put x (c0 as ⟨fr,τ,s⟩)) k:=m7 call d as os ⟨fr,τ,s⟩ k rfl
theorem b6J (l n:Nat):d9 call (⟨d,.iadA l n,as,none,none⟩::os) ⟨fr,τ,s⟩ k=obind (p1 (K1 l n call (as.map (·.read ⟨fr,τ,s⟩)) .undef s)) fun x=>d9 call os (d.put x (c0 as ⟨fr,τ,s⟩)) k:=m7 call d as os ⟨fr,τ,s⟩ k rfl
theorem b63 :d9 call (⟨d,.idxS,as,none,none⟩::os) ⟨fr,τ,s⟩ k=obind (p1 (M8 call (as.map (·.read ⟨fr,τ,s⟩)) .undef s)) fun x=>d9 call os (d.put x (c0 as ⟨fr,τ,s⟩)) k:=m7 call d as os ⟨fr,τ,s⟩ k rfl
theorem c0F (a b:Bool):d9 call (⟨d,.slS a b,as,none,none⟩::os) ⟨fr,τ,s⟩ k=obind (p1 (R1 a b call (as.map (·.read ⟨fr,τ,s⟩)) .undef s)) fun x=>d9 call os (d.put x (c0 as ⟨fr,τ,s⟩)) k:=m7 call d as os ⟨fr,τ,s⟩ k rfl
theorem b96 (n:Nat) (a b:Bool):d9 call (⟨d,.slL n a b,as,none,none⟩::os) ⟨fr,τ,s⟩ k=obind (p1 (Q7 n a b call (as.map (·.read ⟨fr,τ,s⟩)) .undef s)) fun x=>d9 call os (d.put x (c0 as ⟨fr,τ,s⟩)) k:=m7 call d as os ⟨fr,τ,s⟩ k rfl
theorem c0r :d9 call (⟨d,.slZ,as,none,none⟩::os) ⟨fr,τ,s⟩ k=obind (p1 (T4 call (as.map (·.read ⟨fr,τ,s⟩)) .undef s)) fun x=>d9 call os (d.put x (c0 as ⟨fr,τ,s⟩)) k:=m7 call d as os ⟨fr,τ,s⟩ k rfl
theorem c09 (l n:Nat) (a b:Bool):d9 call (⟨d,.slA l n a b,as,none,none⟩::os) ⟨fr,τ,s⟩ k=obind (p1 (U4 l n a b call (as.map (·.read ⟨fr,τ,s⟩)) .undef s)) fun x=>d9 call os (d.put x (c0 as ⟨fr,τ,s⟩)) k:=m7 call d as os ⟨fr,τ,s⟩ k rfl
theorem c0u (o:BinOp):d9 call (⟨d,.bin o,as,none,none⟩::os) ⟨fr,τ,s⟩ k=obind (p1 (B2 o call (as.map (·.read ⟨fr,τ,s⟩)) .undef s)) fun x=>d9 call os (d.put x (c0 as ⟨fr,τ,s⟩)) k:=m7 call d as os ⟨fr,τ,s⟩ k rfl
theorem b6R (o:BinOp):d9 call (⟨d,.binB o,as,none,none⟩::os) ⟨fr,τ,s⟩ k=obind (p1 (P7 o call (as.map (·.read ⟨fr,τ,s⟩)) .undef s)) fun x=>d9 call os (d.put x (c0 as ⟨fr,τ,s⟩)) k:=m7 call d as os ⟨fr,τ,s⟩ k rfl
theorem b7d (o:BinOp):d9 call (⟨d,.binP o,as,none,none⟩::os) ⟨fr,τ,s⟩ k=obind (p1 (Q3 o call (as.map (·.read ⟨fr,τ,s⟩)) .undef s)) fun x=>d9 call os (d.put x (c0 as ⟨fr,τ,s⟩)) k:=m7 call d as os ⟨fr,τ,s⟩ k rfl
theorem c4z (o:UnOp):d9 call (⟨d,.un o,as,none,none⟩::os) ⟨fr,τ,s⟩ k=obind (p1 (X7 o call (as.map (·.read ⟨fr,τ,s⟩)) .undef s)) fun x=>d9 call os (d.put x (c0 as ⟨fr,τ,s⟩)) k:=m7 call d as os ⟨fr,τ,s⟩ k rfl
theorem b5t (t:IntKind):d9 call (⟨d,.conv t,as,none,none⟩::os) ⟨fr,τ,s⟩ k=obind (p1 (P0 t call (as.map (·.read ⟨fr,τ,s⟩)) .undef s)) fun x=>d9 call os (d.put x (c0 as ⟨fr,τ,s⟩)) k:=m7 call d as os ⟨fr,τ,s⟩ k rfl
theorem c0H (f n:Nat):d9 call (⟨d,.mkF f n,as,none,none⟩::os) ⟨fr,τ,s⟩ k=obind (p1 (S8 f n call (as.map (·.read ⟨fr,τ,s⟩)) .undef s)) fun x=>d9 call os (d.put x (c0 as ⟨fr,τ,s⟩)) k:=m7 call d as os ⟨fr,τ,s⟩ k rfl
theorem b7E (a:Nat) (z:List AV) (b c:Bool):d9 call (⟨d,.mget a z b c,as,none,none⟩::os) ⟨fr,τ,s⟩ k=obind (p1 (M9 a z b c call (as.map (·.read ⟨fr,τ,s⟩)) .undef s)) fun x=>d9 call os (d.put x (c0 as ⟨fr,τ,s⟩)) k:=m7 call d as os ⟨fr,τ,s⟩ k rfl
theorem c0k (n:Nat):d9 call (⟨d,.ext n,as,none,none⟩::os) ⟨fr,τ,s⟩ k=obind (p1 (Q9 n call (as.map (·.read ⟨fr,τ,s⟩)) .undef s)) fun x=>d9 call os (d.put x (c0 as ⟨fr,τ,s⟩)) k:=m7 call d as os ⟨fr,τ,s⟩ k rfl
theorem b5K :d9 call (⟨d,.lenS,as,none,none⟩::os) ⟨fr,τ,s⟩ k=obind (p1 (Q1 call (as.map (·.read ⟨fr,τ,s⟩)) .undef s)) fun x=>d9 call os (d.put x (c0 as ⟨fr,τ,s⟩)) k:=m7 call d as os ⟨fr,τ,s⟩ k rfl
theorem b6m :d9 call (⟨d,.lenL,as,none,none⟩::os) ⟨fr,τ,s⟩ k=obind (p1 (D7 call (as.map (·.read ⟨fr,τ,s⟩)) .undef s)) fun x=>d9 call os (d.put x (c0 as ⟨fr,τ,s⟩)) k:=m7 call d as os ⟨fr,τ,s⟩ k rfl
theorem c1e (n b:Nat):d9 call (⟨d,.app n b,as,none,none⟩::os) ⟨fr,τ,s⟩ k=obind (p1 (S7 n b call (as.map (·.read ⟨fr,τ,s⟩)) .undef s)) fun x=>d9 call os (d.put x (c0 as ⟨fr,τ,s⟩)) k:=m7 call d as os ⟨fr,τ,s⟩ k rfl
theorem c1l :d9 call (⟨d,.b2s,as,none,none⟩::os) ⟨fr,τ,s⟩ k=obind (p1 (U7 call (as.map (·.read ⟨fr,τ,s⟩)) .undef s)) fun x=>d9 call os (d.put x (c0 as ⟨fr,τ,s⟩)) k:=m7 call d as os ⟨fr,τ,s⟩ k rfl
theorem b2l (z:List AV) (o:List (Nat×Nat)) (x:Opd) (w:Bool) (h:e8 as=false):d9 call (⟨d,.build z o,as,none,some (x,w)⟩::os) ⟨fr,τ,s⟩ k=obind (gv (x.read ⟨fr,τ,s⟩) w (p1 (L1 z o call (as.map (·.read ⟨fr,τ,s⟩)) .undef s))) fun r=>d9 call os (d.put r ⟨fr,τ,s⟩) k:=m4 (by rw [h]; rfl)
theorem b08 (q:Nat) (z:List (List AV)) (t:List Nat) (x:Opd) (w:Bool) (h:e8 as=false):d9 call (⟨d,.bslice q z t,as,none,some (x,w)⟩::os) ⟨fr,τ,s⟩ k=obind (gv (x.read ⟨fr,τ,s⟩) w (p1 (K4 q z t call (as.map (·.read ⟨fr,τ,s⟩)) .undef s))) fun r=>d9 call os (d.put r ⟨fr,τ,s⟩) k:=m4 (by rw [h]; rfl)
theorem a9b (q:Nat) (z:List (List AV)) (t:List Nat) (x:Opd) (w:Bool) (h:e8 as=false):d9 call (⟨d,.bsliceM q z t,as,none,some (x,w)⟩::os) ⟨fr,τ,s⟩ k=obind (gv (x.read ⟨fr,τ,s⟩) w (p1 (I3 q z t call (as.map (·.read ⟨fr,τ,s⟩)) .undef s))) fun r=>d9 call os (d.put r ⟨fr,τ,s⟩) k:=m4 (by rw [h]; rfl)
theorem b6x (g:Bool) (n:Nat) (x:Opd) (w:Bool) (h:e8 as=false):d9 call (⟨d,.ldSt g n,as,none,some (x,w)⟩::os) ⟨fr,τ,s⟩ k=obind (gv (x.read ⟨fr,τ,s⟩) w (p1 (C4 g n call (as.map (·.read ⟨fr,τ,s⟩)) .undef s))) fun r=>d9 call os (d.put r ⟨fr,τ,s⟩) k:=m4 (by rw [h]; rfl)
theorem b7o (g:Bool) (n:Nat) (x:Opd) (w:Bool) (h:e8 as=false):d9 call (⟨d,.ldRo g n,as,none,some (x,w)⟩::os) ⟨fr,τ,s⟩ k=obind (gv (x.read ⟨fr,τ,s⟩) w (p1 (P5 g n call (as.map (·.read ⟨fr,τ,s⟩)) .undef s))) fun r=>d9 call os (d.put r ⟨fr,τ,s⟩) k:=m4 (by rw [h]; rfl)
theorem b6s (g:Bool) (n:Nat) (x:Opd) (w:Bool) (h:e8 as=false):d9 call (⟨d,.ldAn g n,as,none,some (x,w)⟩::os) ⟨fr,τ,s⟩ k=obind (gv (x.read ⟨fr,τ,s⟩) w (p1 (E8 g n call (as.map (·.read ⟨fr,τ,s⟩)) .undef s))) fun r=>d9 call os (d.put r ⟨fr,τ,s⟩) k:=m4 (by rw [h]; rfl)
theorem b25 (g:Bool) (n:Nat) (x:Opd) (w:Bool) (h:e8 as=false):d9 call (⟨d,.ldStR g n,as,none,some (x,w)⟩::os) ⟨fr,τ,s⟩ k=obind (gv (x.read ⟨fr,τ,s⟩) w (p1 (H1 g n call (as.map (·.read ⟨fr,τ,s⟩)) .undef s))) fun r=>d9 call os (d.put r ⟨fr,τ,s⟩) k:=m4 (by rw [h]; rfl)
theorem c0Z (n:Nat) (x:Opd) (w:Bool) (h:e8 as=false):d9 call (⟨d,.fad n,as,none,some (x,w)⟩::os) ⟨fr,τ,s⟩ k=obind (gv (x.read ⟨fr,τ,s⟩) w (p1 (O1 n call (as.map (·.read ⟨fr,τ,s⟩)) .undef s))) fun r=>d9 call os (d.put r ⟨fr,τ,s⟩) k:=m4 (by rw [h]; rfl)
theorem c1j (o n:Nat) (g:Bool) (x:Opd) (w:Bool) (h:e8 as=false):d9 call (⟨d,.fld o n g,as,none,some (x,w)⟩::os) ⟨fr,τ,s⟩ k=obind (gv (x.read ⟨fr,τ,s⟩) w (p1 (S9 o n g call (as.map (·.read ⟨fr,τ,s⟩)) .undef s))) fun r=>d9 call os (d.put r ⟨fr,τ,s⟩) k:=m4 (by rw [h]; rfl)
theorem c03 (n:Nat) (x:Opd) (w:Bool) (h:e8 as=false):d9 call (⟨d,.iad n,as,none,some (x,w)⟩::os) ⟨fr,τ,s⟩ k=obind (gv (x.read ⟨fr,τ,s⟩) w (p1 (H2 n call (as.map (·.read ⟨fr,τ,s⟩)) .undef s))) fun r=>d9 call os (d.put r ⟨fr,τ,s⟩) k:=m4 (by rw [h]; rfl)
theorem b6u (l n:Nat) (x:Opd) (w:Bool) (h:e8 as=false):d9 call (⟨d,.iadA l n,as,none,some (x,w)⟩::os) ⟨fr,τ,s⟩ k=obind (gv (x.read ⟨fr,τ,s⟩) w (p1 (K1 l n call (as.map (·.read ⟨fr,τ,s⟩)) .undef s))) fun r=>d9 call os (d.put r ⟨fr,τ,s⟩) k:=m4 (by rw [h]; rfl)
theorem b9X (a b:Bool) (x:Opd) (w:Bool) (h:e8 as=false):d9 call (⟨d,.slS a b,as,none,some (x,w)⟩::os) ⟨fr,τ,s⟩ k=obind (gv (x.read ⟨fr,τ,s⟩) w (p1 (R1 a b call (as.map (·.read ⟨fr,τ,s⟩)) .undef s))) fun r=>d9 call os (d.put r ⟨fr,τ,s⟩) k:=m4 (by rw [h]; rfl)
theorem c08 (n:Nat) (a b:Bool) (x:Opd) (w:Bool) (h:e8 as=false):d9 call (⟨d,.slL n a b,as,none,some (x,w)⟩::os) ⟨fr,τ,s⟩ k=obind (gv (x.read ⟨fr,τ,s⟩) w (p1 (Q7 n a b call (as.map (·.read ⟨fr,τ,s⟩)) .undef s))) fun r=>d9 call os (d.put r ⟨fr,τ,s⟩) k:=m4 (by rw [h]; rfl)
theorem c1m (l n:Nat) (a b:Bool) (x:Opd) (w:Bool) (h:e8 as=false):d9 call (⟨d,.slA l n a b,as,none,some (x,w)⟩::os) ⟨fr,τ,s⟩ k=obind (gv (x.read ⟨fr,τ,s⟩) w (p1 (U4 l n a b call (as.map (·.read ⟨fr,τ,s⟩)) .undef s))) fun r=>d9 call os (d.put r ⟨fr,τ,s⟩) k:=m4 (by rw [h]; rfl)
theorem c0K (o:BinOp) (x:Opd) (w:Bool) (h:e8 as=false):d9 call (⟨d,.bin o,as,none,some (x,w)⟩::os) ⟨fr,τ,s⟩ k=obind (gv (x.read ⟨fr,τ,s⟩) w (p1 (B2 o call (as.map (·.read ⟨fr,τ,s⟩)) .undef s))) fun r=>d9 call os (d.put r ⟨fr,τ,s⟩) k:=m4 (by rw [h]; rfl)
theorem b5C (o:BinOp) (x:Opd) (w:Bool) (h:e8 as=false):d9 call (⟨d,.binB o,as,none,some (x,w)⟩::os) ⟨fr,τ,s⟩ k=obind (gv (x.read ⟨fr,τ,s⟩) w (p1 (P7 o call (as.map (·.read ⟨fr,τ,s⟩)) .undef s))) fun r=>d9 call os (d.put r ⟨fr,τ,s⟩) k:=m4 (by rw [h]; rfl)
theorem b7k (o:BinOp) (x:Opd) (w:Bool) (h:e8 as=false):d9 call (⟨d,.binP o,as,none,some (x,w)⟩::os) ⟨fr,τ,s⟩ k=obind (gv (x.read ⟨fr,τ,s⟩) w (p1 (Q3 o call (as.map (·.read ⟨fr,τ,s⟩)) .undef s))) fun r=>d9 call os (d.put r ⟨fr,τ,s⟩) k:=m4 (by rw [h]; rfl)
theorem c4r (o:UnOp) (x:Opd) (w:Bool) (h:e8 as=false):d9 call (⟨d,.un o,as,none,some (x,w)⟩::os) ⟨fr,τ,s⟩ k=obind (gv (x.read ⟨fr,τ,s⟩) w (p1 (X7 o call (as.map (·.read ⟨fr,τ,s⟩)) .undef s))) fun r=>d9 call os (d.put r ⟨fr,τ,s⟩) k:=m4 (by rw [h]; rfl)
theorem b6t (t:IntKind) (x:Opd) (w:Bool) (h:e8 as=false):d9 call (⟨d,.conv t,as,none,some (x,w)⟩::os) ⟨fr,τ,s⟩ k=obind (gv (x.read ⟨fr,τ,s⟩) w (p1 (P0 t call (as.map (·.read ⟨fr,τ,s⟩)) .undef s))) fun r=>d9 call os (d.put r ⟨fr,τ,s⟩) k:=m4 (by rw [h]; rfl)
theorem c0G (f n:Nat) (x:Opd) (w:Bool) (h:e8 as=false):d9 call (⟨d,.mkF f n,as,none,some (x,w)⟩::os) ⟨fr,τ,s⟩ k=obind (gv (x.read ⟨fr,τ,s⟩) w (p1 (S8 f n call (as.map (·.read ⟨fr,τ,s⟩)) .undef s))) fun r=>d9 call os (d.put r ⟨fr,τ,s⟩) k:=m4 (by rw [h]; rfl)
theorem b5v (a:Nat) (z:List AV) (b c:Bool) (x:Opd) (w:Bool) (h:e8 as=false):d9 call (⟨d,.mget a z b c,as,none,some (x,w)⟩::os) ⟨fr,τ,s⟩ k=obind (gv (x.read ⟨fr,τ,s⟩) w (p1 (M9 a z b c call (as.map (·.read ⟨fr,τ,s⟩)) .undef s))) fun r=>d9 call os (d.put r ⟨fr,τ,s⟩) k:=m4 (by rw [h]; rfl)
theorem c0D (n:Nat) (x:Opd) (w:Bool) (h:e8 as=false):d9 call (⟨d,.ext n,as,none,some (x,w)⟩::os) ⟨fr,τ,s⟩ k=obind (gv (x.read ⟨fr,τ,s⟩) w (p1 (Q9 n call (as.map (·.read ⟨fr,τ,s⟩)) .undef s))) fun r=>d9 call os (d.put r ⟨fr,τ,s⟩) k:=m4 (by rw [h]; rfl)
theorem b9Y (n b:Nat) (x:Opd) (w:Bool) (h:e8 as=false):d9 call (⟨d,.app n b,as,none,some (x,w)⟩::os) ⟨fr,τ,s⟩ k=obind (gv (x.read ⟨fr,τ,s⟩) w (p1 (S7 n b call (as.map (·.read ⟨fr,τ,s⟩)) .undef s))) fun r=>d9 call os (d.put r ⟨fr,τ,s⟩) k:=m4 (by rw [h]; rfl)
theorem b6C (i:Nat) (g:Bool) (n:Nat) (j:Nat) (h:e8 as=false):d9 call (⟨d,.ldLc i g n,as,some j,none⟩::os) ⟨fr,τ,s⟩ k=obind (p1 (J5 i g n call (as.map (·.read ⟨fr,τ,s⟩)) (fr.getD j .undef) s)) fun r=>d9 call os (d.put r ⟨fr,τ,s⟩) k:=c9S (by rw [h]; rfl)
theorem b3B (i:Nat) (g:Bool) (n:Nat) (j:Nat) (x:Opd) (w:Bool) (h:e8 as=false):d9 call (⟨d,.ldLc i g n,as,some j,some (x,w)⟩::os) ⟨fr,τ,s⟩ k=obind (gv (x.read ⟨fr,τ,s⟩) w (p1 (J5 i g n call (as.map (·.read ⟨fr,τ,s⟩)) (fr.getD j .undef) s))) fun r=>d9 call os (d.put r ⟨fr,τ,s⟩) k:=m4 (by rw [h]; rfl)
theorem b1d (z:List AV):d9 call (⟨d,.allocO z,as,none,none⟩::os) ⟨fr,τ,s⟩ k=obind (p2 (K8 z call (as.map (·.read ⟨fr,τ,s⟩)) .undef s)) fun x=>d9 call os (d.put x.1 { c0 as ⟨fr,τ,s⟩ with st:=x.2 }) k:=Q4 call d as os ⟨fr,τ,s⟩ k
theorem a8z (z:List AV) (x:Opd) (w:Bool) (h:e8 as=false):d9 call (⟨d,.allocO z,as,none,some (x,w)⟩::os) ⟨fr,τ,s⟩ k=obind (gv2 (x.read ⟨fr,τ,s⟩) w s (p2 (K8 z call (as.map (·.read ⟨fr,τ,s⟩)) .undef s))) fun r=>d9 call os (d.put r.1 ⟨fr,τ,r.2⟩) k:=J8 rfl rfl h
theorem b7I:d9 call (⟨d,.boxO,as,none,none⟩::os) ⟨fr,τ,s⟩ k=obind (p2 (R9 call (as.map (·.read ⟨fr,τ,s⟩)) .undef s)) fun x=>d9 call os (d.put x.1 { c0 as ⟨fr,τ,s⟩ with st:=x.2 }) k:=Q4 call d as os ⟨fr,τ,s⟩ k
theorem b2t (x:Opd) (w:Bool) (h:e8 as=false):d9 call (⟨d,.boxO,as,none,some (x,w)⟩::os) ⟨fr,τ,s⟩ k=obind (gv2 (x.read ⟨fr,τ,s⟩) w s (p2 (R9 call (as.map (·.read ⟨fr,τ,s⟩)) .undef s))) fun r=>d9 call os (d.put r.1 ⟨fr,τ,r.2⟩) k:=J8 rfl rfl h
theorem a8A (q:Nat) (z:List (List AV)) (t:List Nat):d9 call (⟨d,.bsliceO q z t,as,none,none⟩::os) ⟨fr,τ,s⟩ k=obind (p2 (I4 q z t call (as.map (·.read ⟨fr,τ,s⟩)) .undef s)) fun x=>d9 call os (d.put x.1 { c0 as ⟨fr,τ,s⟩ with st:=x.2 }) k:=Q4 call d as os ⟨fr,τ,s⟩ k
theorem a6v (q:Nat) (z:List (List AV)) (t:List Nat) (x:Opd) (w:Bool) (h:e8 as=false):d9 call (⟨d,.bsliceO q z t,as,none,some (x,w)⟩::os) ⟨fr,τ,s⟩ k=obind (gv2 (x.read ⟨fr,τ,s⟩) w s (p2 (I4 q z t call (as.map (·.read ⟨fr,τ,s⟩)) .undef s))) fun r=>d9 call os (d.put r.1 ⟨fr,τ,r.2⟩) k:=J8 rfl rfl h
theorem b60 (n b:Nat):d9 call (⟨d,.appM n b,as,none,none⟩::os) ⟨fr,τ,s⟩ k=obind (p2 (H8 n b call (as.map (·.read ⟨fr,τ,s⟩)) .undef s)) fun x=>d9 call os (d.put x.1 { c0 as ⟨fr,τ,s⟩ with st:=x.2 }) k:=Q4 call d as os ⟨fr,τ,s⟩ k
theorem b2C (n b:Nat) (x:Opd) (w:Bool) (h:e8 as=false):d9 call (⟨d,.appM n b,as,none,some (x,w)⟩::os) ⟨fr,τ,s⟩ k=obind (gv2 (x.read ⟨fr,τ,s⟩) w s (p2 (H8 n b call (as.map (·.read ⟨fr,τ,s⟩)) .undef s))) fun r=>d9 call os (d.put r.1 ⟨fr,τ,r.2⟩) k:=J8 rfl rfl h
theorem a9L (n:Nat):d9 call (⟨d,.ldStSR n,as,none,none⟩::os) ⟨fr,τ,s⟩ k=obind (p2 (C6 n call (as.map (·.read ⟨fr,τ,s⟩)) .undef s)) fun x=>d9 call os (d.put x.1 { c0 as ⟨fr,τ,s⟩ with st:=x.2 }) k:=Q4 call d as os ⟨fr,τ,s⟩ k
theorem a7N (n:Nat) (x:Opd) (w:Bool) (h:e8 as=false):d9 call (⟨d,.ldStSR n,as,none,some (x,w)⟩::os) ⟨fr,τ,s⟩ k=obind (gv2 (x.read ⟨fr,τ,s⟩) w s (p2 (C6 n call (as.map (·.read ⟨fr,τ,s⟩)) .undef s))) fun r=>d9 call os (d.put r.1 ⟨fr,τ,r.2⟩) k:=J8 rfl rfl h
theorem b3b (n:Nat):d9 call (⟨d,.stStA n,as,none,none⟩::os) ⟨fr,τ,s⟩ k=obind (p2 (F8 n call (as.map (·.read ⟨fr,τ,s⟩)) .undef s)) fun x=>d9 call os (d.put x.1 { c0 as ⟨fr,τ,s⟩ with st:=x.2 }) k:=Q4 call d as os ⟨fr,τ,s⟩ k
theorem b1l (n:Nat) (x:Opd) (w:Bool) (h:e8 as=false):d9 call (⟨d,.stStA n,as,none,some (x,w)⟩::os) ⟨fr,τ,s⟩ k=obind (gv2 (x.read ⟨fr,τ,s⟩) w s (p2 (F8 n call (as.map (·.read ⟨fr,τ,s⟩)) .undef s))) fun r=>d9 call os (d.put r.1 ⟨fr,τ,r.2⟩) k:=J8 rfl rfl h
theorem b22 (f m:Nat):d9 call (⟨d,.callA f m,as,none,none⟩::os) ⟨fr,τ,s⟩ k=obind (p2 (D4 f m call (as.map (·.read ⟨fr,τ,s⟩)) .undef s)) fun x=>d9 call os (d.put x.1 { c0 as ⟨fr,τ,s⟩ with st:=x.2 }) k:=Q4 call d as os ⟨fr,τ,s⟩ k
theorem b0y (f m:Nat) (x:Opd) (w:Bool) (h:e8 as=false):d9 call (⟨d,.callA f m,as,none,some (x,w)⟩::os) ⟨fr,τ,s⟩ k=obind (gv2 (x.read ⟨fr,τ,s⟩) w s (p2 (D4 f m call (as.map (·.read ⟨fr,τ,s⟩)) .undef s))) fun r=>d9 call os (d.put r.1 ⟨fr,τ,r.2⟩) k:=J8 rfl rfl h
theorem b2V:d9 call (⟨d,.ldStS,as,none,none⟩::os) ⟨fr,τ,s⟩ k=obind (p2 (B9 call (as.map (·.read ⟨fr,τ,s⟩)) .undef s)) fun x=>d9 call os (d.put x.1 { c0 as ⟨fr,τ,s⟩ with st:=x.2 }) k:=Q4 call d as os ⟨fr,τ,s⟩ k
theorem b0b (x:Opd) (w:Bool) (h:e8 as=false):d9 call (⟨d,.ldStS,as,none,some (x,w)⟩::os) ⟨fr,τ,s⟩ k=obind (gv2 (x.read ⟨fr,τ,s⟩) w s (p2 (B9 call (as.map (·.read ⟨fr,τ,s⟩)) .undef s))) fun r=>d9 call os (d.put r.1 ⟨fr,τ,r.2⟩) k:=J8 rfl rfl h
theorem b6c (n:Nat):d9 call (⟨d,.stSt n,as,none,none⟩::os) ⟨fr,τ,s⟩ k=obind (p2 (F4 n call (as.map (·.read ⟨fr,τ,s⟩)) .undef s)) fun x=>d9 call os (d.put x.1 { c0 as ⟨fr,τ,s⟩ with st:=x.2 }) k:=Q4 call d as os ⟨fr,τ,s⟩ k
theorem b2x (n:Nat) (x:Opd) (w:Bool) (h:e8 as=false):d9 call (⟨d,.stSt n,as,none,some (x,w)⟩::os) ⟨fr,τ,s⟩ k=obind (gv2 (x.read ⟨fr,τ,s⟩) w s (p2 (F4 n call (as.map (·.read ⟨fr,τ,s⟩)) .undef s))) fun r=>d9 call os (d.put r.1 ⟨fr,τ,r.2⟩) k:=J8 rfl rfl h
theorem c0C:d9 call (⟨d,.mkM,as,none,none⟩::os) ⟨fr,τ,s⟩ k=obind (p2 (Y8 call (as.map (·.read ⟨fr,τ,s⟩)) .undef s)) fun x=>d9 call os (d.put x.1 { c0 as ⟨fr,τ,s⟩ with st:=x.2 }) k:=Q4 call d as os ⟨fr,τ,s⟩ k
theorem b6n (x:Opd) (w:Bool) (h:e8 as=false):d9 call (⟨d,.mkM,as,none,some (x,w)⟩::os) ⟨fr,τ,s⟩ k=obind (gv2 (x.read ⟨fr,τ,s⟩) w s (p2 (Y8 call (as.map (·.read ⟨fr,τ,s⟩)) .undef s))) fun r=>d9 call os (d.put r.1 ⟨fr,τ,r.2⟩) k:=J8 rfl rfl h
theorem b7n (n:Nat):d9 call (⟨d,.mset n,as,none,none⟩::os) ⟨fr,τ,s⟩ k=obind (p2 (W5 n call (as.map (·.read ⟨fr,τ,s⟩)) .undef s)) fun x=>d9 call os (d.put x.1 { c0 as ⟨fr,τ,s⟩ with st:=x.2 }) k:=Q4 call d as os ⟨fr,τ,s⟩ k
theorem b3k (n:Nat) (x:Opd) (w:Bool) (h:e8 as=false):d9 call (⟨d,.mset n,as,none,some (x,w)⟩::os) ⟨fr,τ,s⟩ k=obind (gv2 (x.read ⟨fr,τ,s⟩) w s (p2 (W5 n call (as.map (·.read ⟨fr,τ,s⟩)) .undef s))) fun r=>d9 call os (d.put r.1 ⟨fr,τ,r.2⟩) k:=J8 rfl rfl h
theorem b5D (f:Nat):d9 call (⟨d,.call f,as,none,none⟩::os) ⟨fr,τ,s⟩ k=obind (p2 (u9 f call (as.map (·.read ⟨fr,τ,s⟩)) .undef s)) fun x=>d9 call os (d.put x.1 { c0 as ⟨fr,τ,s⟩ with st:=x.2 }) k:=Q4 call d as os ⟨fr,τ,s⟩ k
theorem b2k (f:Nat) (x:Opd) (w:Bool) (h:e8 as=false):d9 call (⟨d,.call f,as,none,some (x,w)⟩::os) ⟨fr,τ,s⟩ k=obind (gv2 (x.read ⟨fr,τ,s⟩) w s (p2 (u9 f call (as.map (·.read ⟨fr,τ,s⟩)) .undef s))) fun r=>d9 call os (d.put r.1 ⟨fr,τ,r.2⟩) k:=J8 rfl rfl h
theorem b2Z:d9 call (⟨d,.callV,as,none,none⟩::os) ⟨fr,τ,s⟩ k=obind (p2 (I8 call (as.map (·.read ⟨fr,τ,s⟩)) .undef s)) fun x=>d9 call os (d.put x.1 { c0 as ⟨fr,τ,s⟩ with st:=x.2 }) k:=Q4 call d as os ⟨fr,τ,s⟩ k
theorem b1A (x:Opd) (w:Bool) (h:e8 as=false):d9 call (⟨d,.callV,as,none,some (x,w)⟩::os) ⟨fr,τ,s⟩ k=obind (gv2 (x.read ⟨fr,τ,s⟩) w s (p2 (I8 call (as.map (·.read ⟨fr,τ,s⟩)) .undef s))) fun r=>d9 call os (d.put r.1 ⟨fr,τ,r.2⟩) k:=J8 rfl rfl h
theorem b3j (z:List AV) (j:Nat):d9 call (⟨d,.alloc z,as,some j,none⟩::os) ⟨fr,τ,s⟩ k=obind (R8 z call (as.map (·.read ⟨fr,τ,s⟩)) (fr.getD j .undef) s) fun x=>d9 call os (d.put x.1 { c0 as ⟨fr,τ,s⟩ with fr:=(c0 as ⟨fr,τ,s⟩).fr.set j x.2.1,st:=x.2.2 }) k:=a9u call d as os ⟨fr,τ,s⟩ k j
theorem b7i (j:Nat):d9 call (⟨d,.boxV,as,some j,none⟩::os) ⟨fr,τ,s⟩ k=obind (W9 call (as.map (·.read ⟨fr,τ,s⟩)) (fr.getD j .undef) s) fun x=>d9 call os (d.put x.1 { c0 as ⟨fr,τ,s⟩ with fr:=(c0 as ⟨fr,τ,s⟩).fr.set j x.2.1,st:=x.2.2 }) k:=a9u call d as os ⟨fr,τ,s⟩ k j
theorem b2P (i:Nat) (j:Nat):d9 call (⟨d,.ldLcS i,as,some j,none⟩::os) ⟨fr,τ,s⟩ k=obind (O0 i call (as.map (·.read ⟨fr,τ,s⟩)) (fr.getD j .undef) s) fun x=>d9 call os (d.put x.1 { c0 as ⟨fr,τ,s⟩ with fr:=(c0 as ⟨fr,τ,s⟩).fr.set j x.2.1,st:=x.2.2 }) k:=a9u call d as os ⟨fr,τ,s⟩ k j
theorem b7g (i n:Nat) (j:Nat):d9 call (⟨d,.stLc i n,as,some j,none⟩::os) ⟨fr,τ,s⟩ k=obind (P6 i n call (as.map (·.read ⟨fr,τ,s⟩)) (fr.getD j .undef) s) fun x=>d9 call os (d.put x.1 { c0 as ⟨fr,τ,s⟩ with fr:=(c0 as ⟨fr,τ,s⟩).fr.set j x.2.1,st:=x.2.2 }) k:=a9u call d as os ⟨fr,τ,s⟩ k j
theorem c3F (x:Opd) (w:Bool) (h:e8 as=false):d9 call (⟨d,.mv,as,none,some (x,w)⟩::os) ⟨fr,τ,s⟩ k=obind (gv (x.read ⟨fr,τ,s⟩) w (p1 (a0R call (as.map (·.read ⟨fr,τ,s⟩)) .undef s))) fun r=>d9 call os (d.put r ⟨fr,τ,s⟩) k:=m4 (by rw [h]; rfl)
theorem b50 (x:Opd) (w:Bool) (h:e8 as=false):d9 call (⟨d,.pick,as,none,some (x,w)⟩::os) ⟨fr,τ,s⟩ k=obind (gv (x.read ⟨fr,τ,s⟩) w (p1 (C2 call (as.map (·.read ⟨fr,τ,s⟩)) .undef s))) fun r=>d9 call os (d.put r ⟨fr,τ,s⟩) k:=m4 (by rw [h]; rfl)
theorem b1e (x:Opd) (w:Bool) (h:e8 as=false):d9 call (⟨d,.nilchk,as,none,some (x,w)⟩::os) ⟨fr,τ,s⟩ k=obind (gv (x.read ⟨fr,τ,s⟩) w (p1 (C5 call (as.map (·.read ⟨fr,τ,s⟩)) .undef s))) fun r=>d9 call os (d.put r ⟨fr,τ,s⟩) k:=m4 (by rw [h]; rfl)
theorem b6X (x:Opd) (w:Bool) (h:e8 as=false):d9 call (⟨d,.idxS,as,none,some (x,w)⟩::os) ⟨fr,τ,s⟩ k=obind (gv (x.read ⟨fr,τ,s⟩) w (p1 (M8 call (as.map (·.read ⟨fr,τ,s⟩)) .undef s))) fun r=>d9 call os (d.put r ⟨fr,τ,s⟩) k:=m4 (by rw [h]; rfl)
theorem c0n (x:Opd) (w:Bool) (h:e8 as=false):d9 call (⟨d,.slZ,as,none,some (x,w)⟩::os) ⟨fr,τ,s⟩ k=obind (gv (x.read ⟨fr,τ,s⟩) w (p1 (T4 call (as.map (·.read ⟨fr,τ,s⟩)) .undef s))) fun r=>d9 call os (d.put r ⟨fr,τ,s⟩) k:=m4 (by rw [h]; rfl)
theorem b7C (x:Opd) (w:Bool) (h:e8 as=false):d9 call (⟨d,.lenS,as,none,some (x,w)⟩::os) ⟨fr,τ,s⟩ k=obind (gv (x.read ⟨fr,τ,s⟩) w (p1 (Q1 call (as.map (·.read ⟨fr,τ,s⟩)) .undef s))) fun r=>d9 call os (d.put r ⟨fr,τ,s⟩) k:=m4 (by rw [h]; rfl)
theorem b6V (x:Opd) (w:Bool) (h:e8 as=false):d9 call (⟨d,.lenL,as,none,some (x,w)⟩::os) ⟨fr,τ,s⟩ k=obind (gv (x.read ⟨fr,τ,s⟩) w (p1 (D7 call (as.map (·.read ⟨fr,τ,s⟩)) .undef s))) fun r=>d9 call os (d.put r ⟨fr,τ,s⟩) k:=m4 (by rw [h]; rfl)
theorem c0U (x:Opd) (w:Bool) (h:e8 as=false):d9 call (⟨d,.b2s,as,none,some (x,w)⟩::os) ⟨fr,τ,s⟩ k=obind (gv (x.read ⟨fr,τ,s⟩) w (p1 (U7 call (as.map (·.read ⟨fr,τ,s⟩)) .undef s))) fun r=>d9 call os (d.put r ⟨fr,τ,s⟩) k:=m4 (by rw [h]; rfl)
end
theorem VV:type_of% (And.intro (And.intro (And.intro (And.intro (And.intro (And.intro @b6L (And.intro @a8U @a5a)) (And.intro (And.intro @c50 @c1a) (And.intro @c5u @c0y))) (And.intro (And.intro (And.intro @c52 @c4Z) (And.intro @c0Q @put_t)) (And.intro (And.intro @put_v @b90) (And.intro @c1g @c4J)))) (And.intro (And.intro (And.intro (And.intro @c3E @c5s) (And.intro @c5q @c5H)) (And.intro (And.intro @c4h @b94) (And.intro @c0p @c5P))) (And.intro (And.intro (And.intro @c5T @c6h) (And.intro @c4F @c4Y)) (And.intro (And.intro @b5y @b0I) (And.intro @b27 @a9G))))) (And.intro (And.intro (And.intro (And.intro @a7Q (And.intro @b6T @b5k)) (And.intro (And.intro @b45 @b2L) (And.intro @c0A @b98))) (And.intro (And.intro (And.intro @c1h @b6J) (And.intro @b63 @c0F)) (And.intro (And.intro @b96 @c0r) (And.intro @c09 @c0u)))) (And.intro (And.intro (And.intro (And.intro @b6R @b7d) (And.intro @c4z @b5t)) (And.intro (And.intro @c0H @b7E) (And.intro @c0k @b5K))) (And.intro (And.intro (And.intro @b6m @c1e) (And.intro @c1l @b2l)) (And.intro (And.intro @b08 @a9b) (And.intro @b6x @b7o)))))) (And.intro (And.intro (And.intro (And.intro (And.intro @b6s (And.intro @b25 @c0Z)) (And.intro (And.intro @c1j @c03) (And.intro @b6u @b9X))) (And.intro (And.intro (And.intro @c08 @c1m) (And.intro @c0K @b5C)) (And.intro (And.intro @b7k @c4r) (And.intro @b6t @c0G)))) (And.intro (And.intro (And.intro (And.intro @b5v @c0D) (And.intro @b9Y @b6C)) (And.intro (And.intro @b3B @b1d) (And.intro @a8z @b7I))) (And.intro (And.intro (And.intro @b2t @a8A) (And.intro @a6v @b60)) (And.intro (And.intro @b2C @a9L) (And.intro @a7N @b3b))))) (And.intro (And.intro (And.intro (And.intro (And.intro @b1l @b22) (And.intro @b0y @b2V)) (And.intro (And.intro @b0b @b6c) (And.intro @b2x @c0C))) (And.intro (And.intro (And.intro @b6n @b7n) (And.intro @b3k @b5D)) (And.intro (And.intro @b2k @b2Z) (And.intro @b1A @b3j)))) (And.intro (And.intro (And.intro (And.intro @b7i @b2P) (And.intro @b7g @c6g)) (And.intro (And.intro @c3W @c6x) (And.intro @c4P @c6l))) (And.intro (And.intro (And.intro @c3F @b50) (And.intro @b1e @b6X)) (And.intro (And.intro @c0n @b7C) (And.intro @b6V @c0U))))))):=(And.intro (And.intro (And.intro (And.intro (And.intro (And.intro @b6L (And.intro @a8U @a5a)) (And.intro (And.intro @c50 @c1a) (And.intro @c5u @c0y))) (And.intro (And.intro (And.intro @c52 @c4Z) (And.intro @c0Q @put_t)) (And.intro (And.intro @put_v @b90) (And.intro @c1g @c4J)))) (And.intro (And.intro (And.intro (And.intro @c3E @c5s) (And.intro @c5q @c5H)) (And.intro (And.intro @c4h @b94) (And.intro @c0p @c5P))) (And.intro (And.intro (And.intro @c5T @c6h) (And.intro @c4F @c4Y)) (And.intro (And.intro @b5y @b0I) (And.intro @b27 @a9G))))) (And.intro (And.intro (And.intro (And.intro @a7Q (And.intro @b6T @b5k)) (And.intro (And.intro @b45 @b2L) (And.intro @c0A @b98))) (And.intro (And.intro (And.intro @c1h @b6J) (And.intro @b63 @c0F)) (And.intro (And.intro @b96 @c0r) (And.intro @c09 @c0u)))) (And.intro (And.intro (And.intro (And.intro @b6R @b7d) (And.intro @c4z @b5t)) (And.intro (And.intro @c0H @b7E) (And.intro @c0k @b5K))) (And.intro (And.intro (And.intro @b6m @c1e) (And.intro @c1l @b2l)) (And.intro (And.intro @b08 @a9b) (And.intro @b6x @b7o)))))) (And.intro (And.intro (And.intro (And.intro (And.intro @b6s (And.intro @b25 @c0Z)) (And.intro (And.intro @c1j @c03) (And.intro @b6u @b9X))) (And.intro (And.intro (And.intro @c08 @c1m) (And.intro @c0K @b5C)) (And.intro (And.intro @b7k @c4r) (And.intro @b6t @c0G)))) (And.intro (And.intro (And.intro (And.intro @b5v @c0D) (And.intro @b9Y @b6C)) (And.intro (And.intro @b3B @b1d) (And.intro @a8z @b7I))) (And.intro (And.intro (And.intro @b2t @a8A) (And.intro @a6v @b60)) (And.intro (And.intro @b2C @a9L) (And.intro @a7N @b3b))))) (And.intro (And.intro (And.intro (And.intro (And.intro @b1l @b22) (And.intro @b0y @b2V)) (And.intro (And.intro @b0b @b6c) (And.intro @b2x @c0C))) (And.intro (And.intro (And.intro @b6n @b7n) (And.intro @b3k @b5D)) (And.intro (And.intro @b2k @b2Z) (And.intro @b1A @b3j)))) (And.intro (And.intro (And.intro (And.intro @b7i @b2P) (And.intro @b7g @c6g)) (And.intro (And.intro @c3W @c6x) (And.intro @c4P @c6l))) (And.intro (And.intro (And.intro @c3F @b50) (And.intro @b1e @b6X)) (And.intro (And.intro @c0n @b7C) (And.intro @b6V @c0U)))))))
end Go.Cb.V
/-
 THE ABSTRACT MACHINE, part 42: the operations told so that the kernel reckons them quickly, at any kind of answer (printed out of parts 38 and 39).
-/
set_option maxRecDepth 4000
set_option linter.unusedVariables false
set_option linter.unusedSimpArgs false
namespace Go.Cb.G
open Go Go.Cb
variable {ρ:Type}
/-! taking values apart -/
section
noncomputable def onI (x:AV) (e:(Option ρ)) (k:IntKind→Int→(Option ρ)):(Option ρ):=AV.rec (motive_1:=fun _=>(Option ρ)) (motive_2:=fun _=>Unit) (motive_3:=fun _=>Unit)
 e (fun _=>e) (fun t n=>k t n) (fun _=>e) (fun _ _ _=>e) (fun _ _=>e) e (fun _ _=>e) (fun _ _=>e) (fun _ _=>e) (fun _=>e) e (fun _ _ _ _ _=>e) e (fun _ _=>e) (fun _ _=>e) (fun _ _ _=>e) e (fun _ _ _ _=>e) (fun _ _=>e) e
 () (fun _ _ _ _=>()) () (fun _ _ _ _=>()) x
noncomputable def b9h (x:AV) (e:(Option ρ)) (k:IntKind→Int→(Option ρ)) (l:List Nat→(Option ρ)):(Option ρ):=AV.rec (motive_1:=fun _=>(Option ρ)) (motive_2:=fun _=>Unit) (motive_3:=fun _=>Unit)
 e (fun _=>e) (fun t n=>k t n) (fun s=>l s) (fun _ _ _=>e) (fun _ _=>e) e (fun _ _=>e) (fun _ _=>e) (fun _ _=>e) (fun _=>e) e (fun _ _ _ _ _=>e) e (fun _ _=>e) (fun _ _=>e) (fun _ _ _=>e) e (fun _ _ _ _=>e) (fun _ _=>e) e
 () (fun _ _ _ _=>()) () (fun _ _ _ _=>()) x
noncomputable def onS (x:AV) (e:(Option ρ)) (k:List Nat→(Option ρ)):(Option ρ):=AV.rec (motive_1:=fun _=>(Option ρ)) (motive_2:=fun _=>Unit) (motive_3:=fun _=>Unit)
 e (fun _=>e) (fun t n=>e) (fun s=>k s) (fun _ _ _=>e) (fun _ _=>e) e (fun _ _=>e) (fun _ _=>e) (fun _ _=>e) (fun _=>e) e (fun _ _ _ _ _=>e) e (fun _ _=>e) (fun _ _=>e) (fun _ _ _=>e) e (fun _ _ _ _=>e) (fun _ _=>e) e
 () (fun _ _ _ _=>()) () (fun _ _ _ _=>()) x
noncomputable def onB (x:AV) (e:(Option ρ)) (k:Bool→(Option ρ)):(Option ρ):=AV.rec (motive_1:=fun _=>(Option ρ)) (motive_2:=fun _=>Unit) (motive_3:=fun _=>Unit)
 e (fun b=>k b) (fun t n=>e) (fun s=>e) (fun _ _ _=>e) (fun _ _=>e) e (fun _ _=>e) (fun _ _=>e) (fun _ _=>e) (fun _=>e) e (fun _ _ _ _ _=>e) e (fun _ _=>e) (fun _ _=>e) (fun _ _ _=>e) e (fun _ _ _ _=>e) (fun _ _=>e) e
 () (fun _ _ _ _=>()) () (fun _ _ _ _=>()) x
noncomputable def c3V (x:AV) (e:(Option ρ)) (k:Bool→(Option ρ)) (t:List AV→(Option ρ)):(Option ρ):=AV.rec (motive_1:=fun _=>(Option ρ)) (motive_2:=fun _=>Unit) (motive_3:=fun _=>Unit)
 e (fun b=>k b) (fun t n=>e) (fun s=>e) (fun _ _ _=>e) (fun _ _=>e) e (fun _ _=>e) (fun _ _=>e) (fun _ _=>e) (fun _=>e) e (fun _ _ _ _ _=>e) e (fun _ _=>e) (fun vs _=>t vs) (fun _ _ _=>e) e (fun _ _ _ _=>e) (fun _ _=>e) e
 () (fun _ _ _ _=>()) () (fun _ _ _ _=>()) x
noncomputable def onL (x:AV) (e:(Option ρ)) (k:List (List AV)→(Option ρ)):(Option ρ):=AV.rec (motive_1:=fun _=>(Option ρ)) (motive_2:=fun _=>Unit) (motive_3:=fun _=>Unit)
 e (fun b=>e) (fun t n=>e) (fun s=>e) (fun _ xs _=>k xs) (fun _ _=>e) e (fun _ _=>e) (fun _ _=>e) (fun _ _=>e) (fun _=>e) e (fun _ _ _ _ _=>e) e (fun _ _=>e) (fun _ _=>e) (fun _ _ _=>e) e (fun _ _ _ _=>e) (fun _ _=>e) e
 () (fun _ _ _ _=>()) () (fun _ _ _ _=>()) x
noncomputable def onP (x:AV) (e:(Option ρ)) (k:Nat→Nat→(Option ρ)):(Option ρ):=AV.rec (motive_1:=fun _=>(Option ρ)) (motive_2:=fun _=>Unit) (motive_3:=fun _=>Unit)
 e (fun b=>e) (fun t n=>e) (fun s=>e) (fun _ xs _=>e) (fun o f=>k o f) e (fun _ _=>e) (fun _ _=>e) (fun _ _=>e) (fun _=>e) e (fun _ _ _ _ _=>e) e (fun _ _=>e) (fun _ _=>e) (fun _ _ _=>e) e (fun _ _ _ _=>e) (fun _ _=>e) e
 () (fun _ _ _ _=>()) () (fun _ _ _ _=>()) x
noncomputable def a9F (x:AV) (e:(Option ρ)) (k:Nat→Nat→(Option ρ)) (l:List AV→(Option ρ)) (m:Nat→Nat→(Option ρ)):(Option ρ):=AV.rec (motive_1:=fun _=>(Option ρ)) (motive_2:=fun _=>Unit) (motive_3:=fun _=>Unit)
 e (fun b=>e) (fun t n=>e) (fun s=>e) (fun _ xs _=>e) (fun o f=>k o f) e (fun cs _=>l cs) (fun i f=>m i f) (fun _ _=>e) (fun _=>e) e (fun _ _ _ _ _=>e) e (fun _ _=>e) (fun _ _=>e) (fun _ _ _=>e) e (fun _ _ _ _=>e) (fun _ _=>e) e
 () (fun _ _ _ _=>()) () (fun _ _ _ _=>()) x
noncomputable def onR (x:AV) (e:(Option ρ)) (l:List AV→(Option ρ)):(Option ρ):=AV.rec (motive_1:=fun _=>(Option ρ)) (motive_2:=fun _=>Unit) (motive_3:=fun _=>Unit)
 e (fun b=>e) (fun t n=>e) (fun s=>e) (fun _ xs _=>e) (fun o f=>e) e (fun cs _=>l cs) (fun _ _=>e) (fun _ _=>e) (fun _=>e) e (fun _ _ _ _ _=>e) e (fun _ _=>e) (fun _ _=>e) (fun _ _ _=>e) e (fun _ _ _ _=>e) (fun _ _=>e) e
 () (fun _ _ _ _=>()) () (fun _ _ _ _=>()) x
noncomputable def b4N (x:AV) (e:(Option ρ)) (l:List AV→(Option ρ)):(Option ρ):=AV.rec (motive_1:=fun _=>(Option ρ)) (motive_2:=fun _=>Unit) (motive_3:=fun _=>Unit)
 e (fun b=>e) (fun t n=>e) (fun s=>e) (fun _ xs _=>e) (fun o f=>e) e (fun cs _=>e) (fun _ _=>e) (fun cs _=>l cs) (fun _=>e) e (fun _ _ _ _ _=>e) e (fun _ _=>e) (fun _ _=>e) (fun _ _ _=>e) e (fun _ _ _ _=>e) (fun _ _=>e) e
 () (fun _ _ _ _=>()) () (fun _ _ _ _=>()) x
noncomputable def b9T (x:AV) (e:(Option ρ)) (l:Nat→Nat→(Option ρ)):(Option ρ):=AV.rec (motive_1:=fun _=>(Option ρ)) (motive_2:=fun _=>Unit) (motive_3:=fun _=>Unit)
 e (fun b=>e) (fun t n=>e) (fun s=>e) (fun _ xs _=>e) (fun o f=>e) e (fun cs _=>e) (fun i f=>l i f) (fun cs _=>e) (fun _=>e) e (fun _ _ _ _ _=>e) e (fun _ _=>e) (fun _ _=>e) (fun _ _ _=>e) e (fun _ _ _ _=>e) (fun _ _=>e) e
 () (fun _ _ _ _=>()) () (fun _ _ _ _=>()) x

theorem Y1 (x:AV) (e:(Option ρ)) (k:IntKind→Int→(Option ρ)):onI x e k=match x with|.int t n=>k t n|_=>e:=by cases x <;> rfl
theorem b3a (x:AV) (e:(Option ρ)) (k:IntKind→Int→(Option ρ)) (l:List Nat→(Option ρ)):b9h x e k l=match x with|.int t n=>k t n|.str s=>l s|_=>e:=by cases x <;> rfl
theorem a24 (x:AV) (e:(Option ρ)) (k:List Nat→(Option ρ)):onS x e k=match x with|.str s=>k s|_=>e:=by cases x <;> rfl
theorem b0m (x:AV) (e:(Option ρ)) (k:Bool→(Option ρ)):onB x e k=match x with|.bool b=>k b|_=>e:=by cases x <;> rfl
theorem c1y (x:AV) (e:(Option ρ)) (k:Bool→(Option ρ)) (t:List AV→(Option ρ)):c3V x e k t=match x with|.bool b=>k b|.tuple vs=>t vs|_=>e:=by cases x <;> rfl
theorem b0d (x:AV) (e:(Option ρ)) (k:List (List AV)→(Option ρ)):onL x e k=match x with|.list _ xs=>k xs|_=>e:=by cases x <;> rfl
theorem b6M (x:AV) (e:(Option ρ)) (k:Nat→Nat→(Option ρ)):onP x e k=match x with|.ptr o f=>k o f|_=>e:=by cases x <;> rfl
theorem a4t (x:AV) (e:(Option ρ)) (k:Nat→Nat→(Option ρ)) (l:List AV→(Option ρ)) (m:Nat→Nat→(Option ρ)):a9F x e k l m=match x with|.ptr o f=>k o f|.ro cs=>l cs|.loc i f=>m i f|_=>e:=by cases x <;> rfl
theorem c3T (x:AV) (e:(Option ρ)) (l:List AV→(Option ρ)):onR x e l=match x with|.ro cs=>l cs|_=>e:=by cases x <;> rfl
theorem a6T (x:AV) (e:(Option ρ)) (l:List AV→(Option ρ)):b4N x e l=match x with|.box cs=>l cs|_=>e:=by cases x <;> rfl
theorem b2R (x:AV) (e:(Option ρ)) (l:Nat→Nat→(Option ρ)):b9T x e l=match x with|.loc i f=>l i f|_=>e:=by cases x <;> rfl
end

noncomputable def kIx (k:IntKind):Nat:=IntKind.rec (motive:=fun _=>Nat) 0 1 2 3 4 5 6 7 k
noncomputable def cB (b:Bool) (x y:(Option ρ)):(Option ρ):=Bool.rec (motive:=fun _=>(Option ρ)) y x b
theorem N6 (b:Bool) (x y:(Option ρ)):cB b x y=if b=true then x else y:=by cases b <;> rfl
theorem a2N (a b:IntKind):Nat.beq (kIx a) (kIx b)=decide (a=b):=by cases a <;> cases b <;> rfl
noncomputable def bo (b:Bool) (k:AV→(Option ρ)):(Option ρ):=cB b (k (.bool true)) (k (.bool false))
theorem a6y (b:Bool) (k:AV→(Option ρ)):bo b k=k (.bool b):=by cases b <;> rfl
noncomputable def a4I (n:Nat) (k:Nat→(Option ρ)):(Option ρ):=Nat.rec (motive:=fun _=>(Option ρ)) (k 0) (fun m _=>k (Nat.succ m)) n
theorem a1D (n:Nat) (k:Nat→(Option ρ)):a4I n k=k n:=by cases n <;> rfl
noncomputable def nn (a b:Int) (e:(Option ρ)) (k:Nat→Nat→(Option ρ)):(Option ρ):=Int.rec (motive:=fun _=>(Option ρ)) (fun a=>Int.rec (motive:=fun _=>(Option ρ)) (fun b=>k a b) (fun _=>e) b) (fun _=>e) a
theorem a3f (a b:Int) (e:(Option ρ)) (k:Nat→Nat→(Option ρ)):nn a b e k=match a,b with|.ofNat a,.ofNat b=>k a b|_,_=>e:=by cases a <;> cases b <;> rfl
noncomputable def eqF (x:List Nat):List Nat→Bool:=List.rec (motive:=fun _=>List Nat→Bool) (fun y=>List.rec (motive:=fun _=>Bool) true (fun _ _ _=>false) y)
 (fun a _ ih y=>List.rec (motive:=fun _=>Bool) false (fun b t _=>Bool.rec (motive:=fun _=>Bool) false (ih t) (Nat.beq a b)) y) x
theorem b0a:∀ x y:List Nat,eqF x y=eqN x y
 | [],[]=>rfl
 | [],_::_=>rfl
 | _::_,[]=>rfl
 | a::x,b::y=>by
  have ih:=b0a x y
  show (Bool.rec (motive:=fun _=>Bool) false (eqF x y) (Nat.beq a b))=(Nat.beq a b && eqN x y)
  rw [ih]
  cases Nat.beq a b <;> rfl
noncomputable def a2Y {β:Type} (l:List β) (e:(Option ρ)) (k:β→(Option ρ)):Nat→(Option ρ):=List.rec (motive:=fun _=>Nat→(Option ρ)) (fun _=>e) (fun a _ ih i=>Nat.rec (motive:=fun _=>(Option ρ)) (k a) (fun j _=>ih j) i) l
theorem a1o {β:Type}:∀ (l:List β) (e:(Option ρ)) (k:β→(Option ρ)) (i:Nat),a2Y l e k i=match l[i]? with|some a=>k a|none=>e
 | [],e,k,i=>by cases i <;> rfl
 | a::l,e,k,0=>rfl
 | a::l,e,k,i+1=>by
  have:=a1o l e k i
  show a2Y l e k i=_
  rw [this]
  simp
noncomputable def L8 {β:Type} (l:List β):Nat:=List.rec (motive:=fun _=>Nat) 0 (fun _ _ n=>Nat.add n 1) l
theorem H9 {β:Type}:∀ l:List β,L8 l=l.length
 | []=>rfl
 | a::l=>by
  show Nat.add (L8 l) 1=_
  rw [H9 l]
  rfl
noncomputable def a5L (n:Nat):List AV→List AV:=Nat.rec (motive:=fun _=>List AV→List AV) (fun l=>l) (fun _ ih l=>List.rec (motive:=fun _=>List AV) [] (fun _ t _=>ih t) l) n
theorem a0F:∀ (n:Nat) (l:List AV),a5L n l=l.drop n
 | 0,l=>rfl
 | n+1,[]=>rfl
 | n+1,a::l=>a0F n l
noncomputable def a9q {β:Type} (i:Nat) (l:List β):List β:=Nat.rec (motive:=fun _=>List β) l (fun _ ih=>List.rec (motive:=fun _=>List β) [] (fun _ t _=>t) ih) i
theorem a4S {β:Type}:∀ (i:Nat) (l:List β),a9q i l=l.drop i
 | 0,l=>rfl
 | i+1,l=>by
  have:=a4S i l
  show List.rec (motive:=fun _=>List β) [] (fun _ t _=>t) (a9q i l)=_
  rw [this,show l.drop (i+1)=(l.drop i).drop 1 by rw [List.drop_drop]]
  cases l.drop i <;> rfl
noncomputable def atO {β:Type} (l:List β) (e:(Option ρ)) (k:β→(Option ρ)) (i:Nat):(Option ρ):=List.rec (motive:=fun _=>(Option ρ)) e (fun a _ _=>k a) (a9q i l)
theorem b7b {β:Type} (l:List β) (e:(Option ρ)) (k:β→(Option ρ)) (i:Nat):atO l e k i=match l[i]? with|some a=>k a|none=>e:=by
 unfold atO
 rw [a4S]
 have h:l[i]?=(l.drop i)[0]?:=by simp
 rw [h]
 cases l.drop i <;> rfl
noncomputable def a9w {β:Type} (n:Nat) (l:List β) (k:List β→(Option ρ)):(Option ρ):=Nat.rec (motive:=fun _=>List β→(List β→(Option ρ))→(Option ρ)) (fun _ k=>k []) (fun _ ih l k=>List.rec (motive:=fun _=>(Option ρ)) (k []) (fun a t _=>ih t fun r=>k (a::r)) l) n l k
theorem a10 {β:Type}:∀ (n:Nat) (l:List β) (k:List β→(Option ρ)),a9w n l k=k (l.take n)
 | 0,l,k=>by show k []=_; rw [List.take_zero]
 | n+1,[],k=>rfl
 | n+1,a::l,k=>a10 n l fun r=>k (a::r)
noncomputable def b4h {β:Type} (l r:List β) (k:List β→(Option ρ)):(Option ρ):=List.rec (motive:=fun _=>(List β→(Option ρ))→(Option ρ)) (fun k=>k r) (fun a _ ih k=>ih fun t=>k (a::t)) l k
theorem a7E {β:Type} (r:List β):∀ (l:List β) (k:List β→(Option ρ)),b4h l r k=k (l++r)
 | [],k=>rfl
 | a::l,k=>a7E r l fun t=>k (a::t)
noncomputable def c0Y (l:List AV) (e:(Option ρ)) (k:AV→(Option ρ)):(Option ρ):=List.rec (motive:=fun _=>(Option ρ)) e (fun a _ _=>k a) l
theorem b8Q (l:List AV) (e:(Option ρ)) (k:AV→(Option ρ)):c0Y l e k=match l with|a::_=>k a|[]=>e:=by cases l <;> rfl

noncomputable def w1K (x:AV) (k:AV→(Option ρ)):(Option ρ):=AV.rec (motive_1:=fun _=>(Option ρ)) (motive_2:=fun _=>Unit) (motive_3:=fun _=>Unit)
 (k .undef) (fun b=>k (.bool b)) (fun t n=>k (.int t n)) (fun s=>k (.str s)) (fun _ xs _=>k (.list false xs)) (fun o f=>k (.ptr o f)) (k .nilp) (fun cs _=>k (.ro cs)) (fun i f=>k (.loc i f)) (fun cs _=>k (.box cs)) (fun o=>k (.map o)) (k .nilm) (fun f a c _ _=>k (.func f a c)) (k .nilf) (fun cs _=>k (.agg cs)) (fun vs _=>k (.tuple vs)) (fun t v _=>k (.iface t v)) (k .nili) (fun o f n s=>k (.sl o f n s)) (fun xs _=>k (.fresh xs)) (k .nils)
 () (fun _ _ _ _=>()) () (fun _ _ _ _=>()) x
theorem b7G (x:AV) (k:AV→(Option ρ)):w1K x k=k x.weak1:=by cases x <;> rfl
noncomputable def b9y (l:List AV) (k:List AV→(Option ρ)):(Option ρ):=List.rec (motive:=fun _=>(List AV→(Option ρ))→(Option ρ)) (fun k=>k []) (fun a _ ih k=>w1K a fun w=>ih fun r=>k (w::r)) l k
theorem b2O:∀ (l:List AV) (k:List AV→(Option ρ)),b9y l k=k (l.map AV.weak1)
 | [],k=>rfl
 | a::l,k=>by
  show w1K a (fun w=>b9y l fun r=>k (w::r))=_
  rw [b7G,b2O l]
  rfl

noncomputable def a5H {β:Type} (l:List β) (e:(Option ρ)) (k:List β→(Option ρ)):(Option ρ):=List.rec (motive:=fun _=>(Option ρ)) e (fun _ l _=>List.rec (motive:=fun _=>(Option ρ)) e (fun _ l _=>List.rec (motive:=fun _=>(Option ρ)) e (fun _ l _=>List.rec (motive:=fun _=>(Option ρ)) e (fun _ l _=>List.rec (motive:=fun _=>(Option ρ)) e (fun _ l _=>List.rec (motive:=fun _=>(Option ρ)) e (fun _ l _=>List.rec (motive:=fun _=>(Option ρ)) e (fun _ l _=>List.rec (motive:=fun _=>(Option ρ)) e (fun _ l _=>k l) l) l) l) l) l) l) l) l
theorem b7T {β:Type} (l:List β) (e:(Option ρ)) (k:List β→(Option ρ)):a5H l e k=if 8≤l.length then k (l.drop 8) else e:=by
 match l with
 | []=>rfl
 | [_]=>rfl
 | [_,_]=>rfl
 | [_,_,_]=>rfl
 | [_,_,_,_]=>rfl
 | [_,_,_,_,_]=>rfl
 | [_,_,_,_,_,_]=>rfl
 | [_,_,_,_,_,_,_]=>rfl
 | _::_::_::_::_::_::_::_::t=>rw [if_pos (by simp)]; rfl
noncomputable def b4k {β:Type} (l:List β) (e:(Option ρ)) (k:β→(Option ρ)) (i:Nat):(Option ρ):=Nat.rec (motive:=fun _=>List β→(Option ρ)) (fun l=>a2Y l e k (Nat.mod i 8)) (fun _ ih l=>a5H l e ih) (Nat.div i 8) l
theorem b3I {β:Type} (e:(Option ρ)) (k:β→(Option ρ)) (r:Nat):∀ (q:Nat) (l:List β),Nat.rec (motive:=fun _=>List β→(Option ρ)) (fun l=>a2Y l e k r) (fun _ ih l=>a5H l e ih) q l=a2Y l e k (8*q+r)
 | 0,l=>by show a2Y l e k r=_; rw [Nat.mul_zero,Nat.zero_add]
 | q+1,l=>by
  show a5H l e (fun l=>Nat.rec (motive:=fun _=>List β→(Option ρ)) (fun l=>a2Y l e k r) (fun _ ih l=>a5H l e ih) q l)=_
  rw [b7T,b3I e k r q (l.drop 8),a1o,a1o]
  split
  · rw [List.getElem?_drop,show 8+(8*q+r)=8*(q+1)+r by omega]
  · rw [List.getElem?_eq_none (by omega)]
theorem b2S {β:Type} (l:List β) (e:(Option ρ)) (k:β→(Option ρ)) (i:Nat):b4k l e k i=match l[i]? with|some a=>k a|none=>e:=by
 unfold b4k
 rw [b3I e k (Nat.mod i 8) (Nat.div i 8) l,a1o,show 8*Nat.div i 8+Nat.mod i 8=i from Nat.div_add_mod i 8]
noncomputable def b0X {β:Type} (l:List β) (e:(Option ρ)) (ih:List β→(List β→(Option ρ))→(Option ρ)) (k:List β→(Option ρ)):(Option ρ):=List.rec (motive:=fun _=>(Option ρ)) e (fun a0 l _=>List.rec (motive:=fun _=>(Option ρ)) e (fun a1 l _=>List.rec (motive:=fun _=>(Option ρ)) e (fun a2 l _=>List.rec (motive:=fun _=>(Option ρ)) e (fun a3 l _=>List.rec (motive:=fun _=>(Option ρ)) e (fun a4 l _=>List.rec (motive:=fun _=>(Option ρ)) e (fun a5 l _=>List.rec (motive:=fun _=>(Option ρ)) e (fun a6 l _=>List.rec (motive:=fun _=>(Option ρ)) e (fun a7 l _=>ih l (fun r=>k (a0::a1::a2::a3::a4::a5::a6::a7::r))) l) l) l) l) l) l) l) l
theorem c2H {β:Type} (l:List β) (e:(Option ρ)) (ih:List β→(List β→(Option ρ))→(Option ρ)) (k:List β→(Option ρ)):b0X l e ih k=if 8≤l.length then ih (l.drop 8) (fun r=>k (l.take 8++r)) else e:=by
 match l with
 | []=>rfl
 | [_]=>rfl
 | [_,_]=>rfl
 | [_,_,_]=>rfl
 | [_,_,_,_]=>rfl
 | [_,_,_,_,_]=>rfl
 | [_,_,_,_,_,_]=>rfl
 | [_,_,_,_,_,_,_]=>rfl
 | _::_::_::_::_::_::_::_::t=>rw [if_pos (by simp)]; rfl
/-! the operations -/
section
variable (c:b9) (b:AV) (s:St) (f:AV→(Option ρ))
noncomputable def b7M (x y:AV):(Option ρ):=b9h x none (fun t m=>onI y none fun u n=>cB (Nat.beq (kIx t) (kIx u)) (nn m n (bo (eqI m n) f) fun a b=>bo (Nat.beq a b) f) none) (fun l=>onS y none fun r=>bo (eqF l r) f)
noncomputable def b7P (x y:AV):(Option ρ):=b9h x none (fun t m=>onI y none fun u n=>cB (Nat.beq (kIx t) (kIx u)) (nn m n (bo (!eqI m n) f) fun a b=>cB (Nat.beq a b) (f (.bool false)) (f (.bool true))) none) (fun l=>onS y none fun r=>cB (eqF l r) (f (.bool false)) (f (.bool true)))
noncomputable def a1h (op:BinOp) (g:Nat→Nat→Bool) (x y:AV):(Option ρ):=onI x (obind (p1 (sem (.bin op) c [x,y] b s)) f) (fun t m=>onI y none fun u n=>cB (Nat.beq (kIx t) (kIx u)) (nn m n (obind (p1 (sem (.bin op) c [.int t m,.int u n] b s)) f) fun a b=>bo (g a b) f) none)
noncomputable def b9F (x y:AV):(Option ρ):=onI x (obind (p1 (sem (.bin .add) c [x,y] b s)) f) (fun t m=>onI y none fun u n=>cB (Nat.beq (kIx t) (kIx u)) (nn m n (obind (p1 (sem (.bin .add) c [.int t m,.int u n] b s)) f)
 fun i j=>a4I (Nat.add i j) fun r=>cB (Nat.blt r 128) (f (.int t (.ofNat r))) (cB (Nat.beq (kIx t) 3) (cB (Nat.blt r 9223372036854775808) (f (.int t (.ofNat r))) (obind (p1 (sem (.bin .add) c [.int t m,.int u n] b s)) f)) (obind (p1 (sem (.bin .add) c [.int t m,.int u n] b s)) f))) none)
noncomputable def b9q (x y:AV):(Option ρ):=onI x (obind (p1 (sem (.bin .sub) c [x,y] b s)) f) (fun t m=>onI y none fun u n=>cB (Nat.beq (kIx t) (kIx u)) (nn m n (obind (p1 (sem (.bin .sub) c [.int t m,.int u n] b s)) f)
 fun i j=>cB (Nat.ble j i) (a4I (Nat.sub i j) fun r=>cB (Nat.blt r 128) (f (.int t (.ofNat r))) (cB (Nat.beq (kIx t) 3) (cB (Nat.blt r 9223372036854775808) (f (.int t (.ofNat r))) (obind (p1 (sem (.bin .sub) c [.int t m,.int u n] b s)) f)) (obind (p1 (sem (.bin .sub) c [.int t m,.int u n] b s)) f))) (obind (p1 (sem (.bin .sub) c [.int t m,.int u n] b s)) f)) none)
noncomputable def b7K (x:AV):(Option ρ):=onB x none fun y=>cB y (f (.bool false)) (f (.bool true))
noncomputable def b1k (x:AV):(Option ρ):=cB x.plain (f x) none
noncomputable def b4n (x y z:AV):(Option ρ):=onB x none fun v=>cB v (b1k f y) (b1k f z)
noncomputable def b7Z (x:AV):(Option ρ):=a9F x (obind (p1 (sem .nilchk c [x] b s)) f) (fun o i=>f (.ptr o i)) (fun cs=>f (.ro cs)) (fun i j=>f (.loc i j))
noncomputable def b8s (d:Nat) (x:AV):(Option ρ):=a9F x none (fun o i=>a4I (Nat.add i d) fun i=>f (.ptr o i)) (fun cs=>f (.ro (a5L d cs))) (fun o i=>a4I (Nat.add i d) fun i=>f (.loc o i))
noncomputable def a3k (ag:Bool) (n:Nat) (cs:List AV):(Option ρ):=cB ag (cB (Nat.ble n (L8 cs)) (a9w n cs fun r=>b9y r fun r=>f (.agg r)) none) (c0Y cs none fun x=>w1K x f)
noncomputable def a9X (x:Obj) (k:List AV→(Option ρ)):(Option ρ):=Obj.rec (motive:=fun _=>(Option ρ)) k (fun _=>none) none x
noncomputable def a6c (ag:Bool) (n:Nat) (x:AV):(Option ρ):=onP x none fun o i=>b4k s none (fun ob=>a9X ob fun cs=>a3k f ag n (a5L i cs)) o
noncomputable def a5A (ag:Bool) (n:Nat) (x:AV):(Option ρ):=onR x none fun cs=>a3k f ag n cs
noncomputable def b3X (i:Nat) (ag:Bool) (n:Nat) (x:AV):(Option ρ):=b9T x none fun j off=>b4N b none fun cs=>cB (Nat.beq i j) (a3k f ag n (a5L off cs)) none
noncomputable def b4u (x:AV):(Option ρ):=onS x none fun l=>a4I (L8 l) fun n=>f (.int .i64 (.ofNat n))
noncomputable def b34 (x:AV):(Option ρ):=onL x (obind (p1 (sem .lenL c [x] b s)) f) fun l=>a4I (L8 l) fun n=>f (.int .i64 (.ofNat n))
noncomputable def b8c (x y:AV):(Option ρ):=onS x none fun l=>onI y none fun _ n=>Int.rec (motive:=fun _=>(Option ρ)) (fun i=>atO l none (fun m=>f (.int .u8 (.ofNat m))) i) (fun _=>none) n
noncomputable def b9w (sz:Nat) (x y:AV):(Option ρ):=onL x (obind (p1 (sem (.iad sz) c [x,y] b s)) f) fun l=>onI y none fun _ n=>Int.rec (motive:=fun _=>(Option ρ)) (fun i=>atO l none (fun r=>cB (Nat.beq (L8 r) sz) (f (.ro r)) none) i) (fun _=>none) n
end

section
variable (c:b9) (b:AV) (s:St) (f:AV→(Option ρ))
theorem c2c (x y:AV):b7M f x y=obind (p1 (sem (.bin .eql) c [x,y] b s)) f:=by
 simp only [b7M,b3a,Y1,a24,N6,a6y,a3f,b0a,a2N,sem,B2]
 cases x <;> cases y <;> try rfl
 · rename_i t m u n
   by_cases h:t=u
   · subst h
     cases m <;> cases n <;> simp [l6,p1,obind,eqI]
   · simp [l6,h,p1,obind]
theorem c3a (x y:AV):b7P f x y=obind (p1 (sem (.bin .neq) c [x,y] b s)) f:=by
 simp only [b7P,b3a,Y1,a24,N6,a6y,a3f,b0a,a2N,sem,B2]
 cases x <;> cases y <;> try rfl
 · rename_i t m u n
   by_cases h:t=u
   · subst h
     cases m <;> cases n <;> simp [l6,p1,obind,eqI]
     rename_i m n
     by_cases h:m=n
     · subst h; simp
     · have e:Nat.beq m n=false:=Bool.eq_false_iff.mpr (fun q=>h (Nat.eq_of_beq_eq_true q))
       simp [e,h]
   · simp [l6,h,p1,obind]
 · rename_i l r
   simp only [l6,Option.map_some,p1,obind]
   cases eqN l r <;> rfl
theorem b9W {op:BinOp} (ho:op=.lss∨op=.leq∨op=.gtr∨op=.geq) (t:IntKind) (m:Int) (y:AV) (hy:∀ u n,y≠.int u n):l6 op (.int t m) y=none:=by
 cases y <;> first|(exfalso; exact hy _ _ rfl)|(rcases ho with rfl|rfl|rfl|rfl <;> rfl)
theorem c4l {op:BinOp} (ho:op=.lss∨op=.leq∨op=.gtr∨op=.geq) {t u:IntKind} (h:t≠u) (m n:Int):l6 op (.int t m) (.int u n)=none:=by
 rcases ho with rfl|rfl|rfl|rfl <;> simp [l6,h]
theorem a3h (op:BinOp) (g:Nat→Nat→Bool) (ho:op=.lss∨op=.leq∨op=.gtr∨op=.geq) (hg:∀ (t:IntKind) (i j:Nat),l6 op (.int t (.ofNat i)) (.int t (.ofNat j))=some (.bool (g i j))) (x y:AV):a1h c b s f op g x y=obind (p1 (sem (.bin op) c [x,y] b s)) f:=by
 simp only [a1h,Y1,N6,a6y,a3f,a2N]
 cases x <;> try rfl
 rename_i t m
 cases y
 case int u n =>
  simp only
  by_cases h:t=u
  · subst h
    simp only [decide_true,if_true]
    cases m <;> cases n <;> try rfl
    rename_i i j
    simp only [sem,B2,hg,Option.map_some,p1,obind]
  · simp only [h,decide_false,Bool.false_eq_true,if_false,sem,B2,c4l ho h,Option.map_none,p1,obind]
 all_goals (simp only [sem,B2]; rw [b9W ho _ _ _ (by simp)]; rfl)
theorem a6o (t:IntKind) {r:Nat} (h:r < 128):n5 t (Int.ofNat r)=Int.ofNat r:=by
 rw [O5]
 cases t <;> simp [IntKind.wrap,IntKind.signed,IntKind.bits] <;> omega
theorem a8T {r:Nat} (h:r < 9223372036854775808):n5 .i64 (Int.ofNat r)=Int.ofNat r:=by
 simp only [n5]
 rw [if_pos (by simpa using h)]
theorem c0L (t:IntKind):Nat.beq (kIx t) 3=true→t=.i64:=by cases t <;> decide
theorem a5C {op:BinOp} (ho:op=.add∨op=.sub) (t:IntKind) (m:Int) (y:AV) (hy:∀ u n,y≠.int u n):l6 op (.int t m) y=none:=by
 cases y <;> first|(exfalso; exact hy _ _ rfl)|(rcases ho with rfl|rfl <;> rfl)
theorem c3i (x y:AV):b9F c b s f x y=obind (p1 (sem (.bin .add) c [x,y] b s)) f:=by
 simp only [b9F,Y1,N6,a6y,a3f,a2N,a1D]
 cases x <;> try rfl
 rename_i t m
 cases y
 case int u n =>
  simp only
  by_cases h:t=u
  · subst h
    simp only [decide_true,if_true]
    cases m <;> cases n <;> try rfl
    rename_i i j
    dsimp only
    have e:∀ r,Nat.add i j=r→n5 t (Int.ofNat r)=Int.ofNat r→f (.int t (.ofNat r))=obind (p1 (sem (.bin .add) c [.int t (.ofNat i),.int t (.ofNat j)] b s)) f:=fun r hr hw=>by
     subst hr
     simp only [sem,B2,l6,if_true,a7C,hw,Option.map_some,p1,obind]
    split
    · rename_i hl
      exact e _ rfl (a6o t (by simpa using hl))
    · split
      · rename_i hk
        have:=c0L t hk
        subst this
        split
        · rename_i hl
          exact e _ rfl (a8T (by simpa using hl))
        · rfl
      · rfl
  · simp only [h,decide_false,Bool.false_eq_true,if_false,sem,B2,l6,Option.map_none,p1,obind]
 all_goals (simp only [sem,B2]; rw [a5C (.inl rfl) _ _ _ (by simp)]; rfl)
theorem c1M (x y:AV):b9q c b s f x y=obind (p1 (sem (.bin .sub) c [x,y] b s)) f:=by
 simp only [b9q,Y1,N6,a6y,a3f,a2N,a1D]
 cases x <;> try rfl
 rename_i t m
 cases y
 case int u n =>
  simp only
  by_cases h:t=u
  · subst h
    simp only [decide_true,if_true]
    cases m <;> cases n <;> try rfl
    rename_i i j
    dsimp only
    split
    · rename_i hle
      have e:∀ r,Nat.sub i j=r→n5 t (Int.ofNat r)=Int.ofNat r→f (.int t (.ofNat r))=obind (p1 (sem (.bin .sub) c [.int t (.ofNat i),.int t (.ofNat j)] b s)) f:=fun r hr hw=>by
       subst hr
       simp only [sem,B2,l6,if_true,a4z,hle,hw,Option.map_some,p1,obind]
      split
      · rename_i hl
        exact e _ rfl (a6o t (by simpa using hl))
      · split
        · rename_i hk
          have:=c0L t hk
          subst this
          split
          · rename_i hl
            exact e _ rfl (a8T (by simpa using hl))
          · rfl
        · rfl
    · rfl
  · simp only [h,decide_false,Bool.false_eq_true,if_false,sem,B2,l6,Option.map_none,p1,obind]
 all_goals (simp only [sem,B2]; rw [a5C (.inr rfl) _ _ _ (by simp)]; rfl)
theorem c2M (x:AV):b7K f x=obind (p1 (sem (.un .not) c [x] b s)) f:=by
 simp only [b7K,b0m,N6,sem]
 cases x <;> try rfl
 rename_i y; cases y <;> rfl
theorem b72 (x y z:AV):b4n f x y z=obind (p1 (sem .pick c [x,y,z] b s)) f:=by
 simp only [b4n,b1k,b0m,N6,sem]
 cases x <;> try rfl
 rename_i v
 cases v
 · simp only [C2,Bool.false_eq_true,if_false]; split <;> rfl
 · simp only [C2,if_true]; split <;> rfl
theorem c1Y (x:AV):b7Z c b s f x=obind (p1 (sem .nilchk c [x] b s)) f:=by
 simp only [b7Z,a4t]
 cases x <;> rfl
theorem c2B (d:Nat) (x:AV):b8s f d x=obind (p1 (sem (.fad d) c [x] b s)) f:=by
 simp only [b8s,a4t,a1D,a0F]
 cases x <;> rfl
theorem a2d (ag:Bool) (n:Nat) (cs:List AV):a3k f ag n cs=match j3 ag n cs with|some v=>f v|none=>none:=by
 simp only [a3k,N6,b8Q,H9,a10,b2O,b7G]
 cases ag
 · cases cs <;> rfl
 · simp only [j3,if_true]
   by_cases h:n≤cs.length
   · have e:Nat.ble n cs.length=true:=by simpa using h
     simp only [e,h,if_true]
   · have e:Nat.ble n cs.length=false:=Bool.eq_false_iff.mpr (fun q=>h (Nat.le_of_ble_eq_true q))
     simp only [e,h,Bool.false_eq_true,if_false]
theorem a9k (x:Obj) (k:List AV→(Option ρ)):a9X x k=match x with|.cells cs=>k cs|_=>none:=by cases x <;> rfl
theorem b1E {x:Option AV}:obind (p1 (x.map fun v=>(v,b,s))) f=match x with|some v=>f v|none=>none:=by cases x <;> rfl
theorem b1f (ag:Bool) (n:Nat) (x:AV):a6c s f ag n x=obind (p1 (sem (.ldSt ag n) c [x] b s)) f:=by
 simp only [a6c,b6M,b2S,a9k,a2d,a0F]
 cases x <;> try rfl
 rename_i o i
 simp only [sem,C4]
 cases s[o]? with
 | none=>rfl
 | some ob=>cases ob <;> first|rfl|exact (b1E b s f).symm
theorem b0Q (ag:Bool) (n:Nat) (x:AV):a5A f ag n x=obind (p1 (sem (.ldRo ag n) c [x] b s)) f:=by
 simp only [a5A,c3T,a2d]
 cases x <;> try rfl
 exact (b1E b s f).symm
theorem b86 (i:Nat) (ag:Bool) (n:Nat) (x:AV):b3X b f i ag n x=obind (p1 (sem (.ldLc i ag n) c [x] b s)) f:=by
 simp only [b3X,b2R,a6T,a2d,a0F,N6]
 cases x <;> try rfl
 rename_i j off
 cases b <;> try rfl
 rename_i cs
 simp only [sem,J5]
 by_cases h:i=j
 · simp only [h,Nat.beq_refl,if_true]
   exact (b1E _ s f).symm
 · have:Nat.beq i j=false:=Bool.eq_false_iff.mpr (fun q=>h (Nat.eq_of_beq_eq_true q))
   simp only [this,h,Bool.false_eq_true,if_false]
   rfl
theorem b8M (x:AV):b4u f x=obind (p1 (sem .lenS c [x] b s)) f:=by
 simp only [b4u,a24,a1D,H9]
 cases x <;> rfl
theorem b9o (x:AV):b34 c b s f x=obind (p1 (sem .lenL c [x] b s)) f:=by
 simp only [b34,b0d,a1D,H9]
 cases x <;> rfl
theorem c1S (x y:AV):b8c f x y=obind (p1 (sem .idxS c [x,y] b s)) f:=by
 simp only [b8c,a24,Y1,b7b]
 cases x <;> try rfl
 cases y <;> try rfl
 rename_i l k n
 simp only [sem,M8]
 cases n with
 | ofNat i =>
  have e:(Int.ofNat i).toNat=i:=rfl
  simp only [Int.ofNat_eq_natCast,Int.natCast_nonneg,if_true,Int.toNat_natCast]
  cases l[i]? <;> rfl
 | negSucc i=>rfl
theorem c2F (sz:Nat) (x y:AV):b9w c b s f sz x y=obind (p1 (sem (.iad sz) c [x,y] b s)) f:=by
 simp only [b9w,b0d,Y1,b7b,N6,H9]
 cases x <;> try rfl
 cases y <;> try rfl
 rename_i w l k n
 simp only [sem,H2]
 cases n with
 | ofNat i =>
  simp only [Int.ofNat_eq_natCast,Int.natCast_nonneg,if_true,Int.toNat_natCast]
  cases l[i]? with
  | none=>rfl
  | some r =>
   by_cases h:r.length=sz
   · have:Nat.beq r.length sz=true:=by rw [h]; exact Nat.beq_refl sz
     simp only [this,if_true,if_pos h]
     rfl
   · have:Nat.beq r.length sz=false:=Bool.eq_false_iff.mpr (fun q=>h (Nat.eq_of_beq_eq_true q))
     simp only [this,h,Bool.false_eq_true,if_false]
     rfl
 | negSucc i=>rfl
end
noncomputable def qSb (x:AV) (k:AV→AV→(Option ρ)):(Option ρ):=AV.rec (motive_1:=fun _=>(Option ρ)) (motive_2:=fun _=>Unit) (motive_3:=fun _=>Unit)
 (k .undef .undef)
 (fun b=>k (.bool b) (.bool b))
 (fun t n=>k (.int t n) (.int t n))
 (fun s=>k (.str s) (.str s))
 (fun o xs _=>k (.list o xs) (.list false xs))
 (fun o f=>k (.ptr o f) (.ptr o f))
 (k .nilp .nilp)
 (fun cs _=>k (.ro cs) (.ro cs))
 (fun i f=>k (.loc i f) (.loc i f))
 (fun cs _=>k .undef .undef)
 (fun o=>k (.map o) (.map o))
 (k .nilm .nilm)
 (fun f a c _ _=>k (.func f a c) (.func f a c))
 (k .nilf .nilf)
 (fun cs _=>k (.agg cs) (.agg (cs.map AV.weak1)))
 (fun vs _=>k (.tuple vs) (.tuple vs))
 (fun t v _=>k (.iface t v) (.iface t v))
 (k .nili .nili)
 (fun o f n s=>k (.sl o f n s) (.sl o f n s))
 (fun xs _=>k (.fresh xs) (.fresh xs))
 (k .nils .nils)
 () (fun _ _ _ _=>()) () (fun _ _ _ _=>()) x
noncomputable def qSv (x:AV) (k:AV→AV→(Option ρ)):(Option ρ):=AV.rec (motive_1:=fun _=>(Option ρ)) (motive_2:=fun _=>Unit) (motive_3:=fun _=>Unit)
 (k .undef .undef)
 (fun b=>k (.bool b) (.bool b))
 (fun t n=>k (.int t n) (.int t n))
 (fun s=>k (.str s) (.str s))
 (fun o xs _=>k (.list o xs) (.list false xs))
 (fun o f=>k (.ptr o f) (.ptr o f))
 (k .nilp .nilp)
 (fun cs _=>k (.ro cs) (.ro cs))
 (fun i f=>k .undef .undef)
 (fun cs _=>k .undef .undef)
 (fun o=>k (.map o) (.map o))
 (k .nilm .nilm)
 (fun f a c _ _=>k (.func f a c) (.func f a c))
 (k .nilf .nilf)
 (fun cs _=>k (.agg cs) (.agg (cs.map AV.weak1)))
 (fun vs _=>k (.tuple vs) (.tuple vs))
 (fun t v _=>k (.iface t v) (.iface t v))
 (k .nili .nili)
 (fun o f n s=>k (.sl o f n s) (.sl o f n s))
 (fun xs _=>k (.fresh xs) (.fresh xs))
 (k .nils .nils)
 () (fun _ _ _ _=>()) () (fun _ _ _ _=>()) x
noncomputable def qWk (x:AV) (k:AV→(Option ρ)):(Option ρ):=AV.rec (motive_1:=fun _=>(Option ρ)) (motive_2:=fun _=>Unit) (motive_3:=fun _=>Unit)
 (k .undef)
 (fun b=>k (.bool b))
 (fun t n=>k (.int t n))
 (fun s=>k (.str s))
 (fun o xs _=>k (.list false xs))
 (fun o f=>k (.ptr o f))
 (k .nilp)
 (fun cs _=>k (.ro cs))
 (fun i f=>k (.loc i f))
 (fun cs _=>k (.box cs))
 (fun o=>k (.map o))
 (k .nilm)
 (fun f a c _ _=>k (.func f a c))
 (k .nilf)
 (fun cs _=>k (.agg (cs.map AV.weak1)))
 (fun vs _=>k (.tuple vs))
 (fun t v _=>k (.iface t v))
 (k .nili)
 (fun o f n s=>k (.sl o f n s))
 (fun xs _=>k (.fresh xs))
 (k .nils)
 () (fun _ _ _ _=>()) () (fun _ _ _ _=>()) x
theorem b5w (x:AV) (k:AV→AV→(Option ρ)):qSb x k=k (AV.stripB x) (AV.weak (AV.stripB x)):=by cases x <;> rfl
theorem c3Y (x:AV) (k:AV→AV→(Option ρ)):qSv x k=k (AV.strip x) (AV.weak (AV.strip x)):=by cases x <;> rfl
theorem a0E (x:AV) (k:AV→(Option ρ)):qWk x k=k (AV.weak x):=by cases x <;> rfl
noncomputable def onT (x:AV) (k:List AV→(Option ρ)):(Option ρ):=AV.rec (motive_1:=fun _=>(Option ρ)) (motive_2:=fun _=>Unit) (motive_3:=fun _=>Unit)
 (none)
 (fun b=>none)
 (fun t n=>none)
 (fun s=>none)
 (fun o xs _=>none)
 (fun o f=>none)
 (none)
 (fun cs _=>none)
 (fun i f=>none)
 (fun cs _=>none)
 (fun o=>none)
 (none)
 (fun f a c _ _=>none)
 (none)
 (fun cs _=>none)
 (fun vs _=>k vs)
 (fun t v _=>none)
 (none)
 (fun o f n s=>none)
 (fun xs _=>none)
 (none)
 () (fun _ _ _ _=>()) () (fun _ _ _ _=>()) x
theorem c5W (x:AV) (k:List AV→(Option ρ)):onT x k=match x with|.tuple vs=>k vs|_=>none:=by cases x <;> rfl
noncomputable def c5g (x:AV) (e:(Option ρ)) (k:Bool→List (List AV)→(Option ρ)):(Option ρ):=AV.rec (motive_1:=fun _=>(Option ρ)) (motive_2:=fun _=>Unit) (motive_3:=fun _=>Unit)
 (e)
 (fun b=>e)
 (fun t n=>e)
 (fun s=>e)
 (fun o xs _=>k o xs)
 (fun o f=>e)
 (e)
 (fun cs _=>e)
 (fun i f=>e)
 (fun cs _=>e)
 (fun o=>e)
 (e)
 (fun f a c _ _=>e)
 (e)
 (fun cs _=>e)
 (fun vs _=>e)
 (fun t v _=>e)
 (e)
 (fun o f n s=>e)
 (fun xs _=>e)
 (e)
 () (fun _ _ _ _=>()) () (fun _ _ _ _=>()) x
theorem c2p (x:AV) (e:(Option ρ)) (k:Bool→List (List AV)→(Option ρ)):c5g x e k=match x with|.list o xs=>k o xs|_=>e:=by cases x <;> rfl
noncomputable def onU (x:AV) (k:(Option ρ)):(Option ρ):=AV.rec (motive_1:=fun _=>(Option ρ)) (motive_2:=fun _=>Unit) (motive_3:=fun _=>Unit)
 (k)
 (fun b=>none)
 (fun t n=>none)
 (fun s=>none)
 (fun o xs _=>none)
 (fun o f=>none)
 (none)
 (fun cs _=>none)
 (fun i f=>none)
 (fun cs _=>none)
 (fun o=>none)
 (none)
 (fun f a c _ _=>none)
 (none)
 (fun cs _=>none)
 (fun vs _=>none)
 (fun t v _=>none)
 (none)
 (fun o f n s=>none)
 (fun xs _=>none)
 (none)
 () (fun _ _ _ _=>()) () (fun _ _ _ _=>()) x
theorem c3S (x:AV) (k:(Option ρ)):onU x k=match x with|.undef=>k|_=>none:=by cases x <;> rfl
noncomputable def onC (x:AV) (k:List AV→(Option ρ)):(Option ρ):=AV.rec (motive_1:=fun _=>(Option ρ)) (motive_2:=fun _=>Unit) (motive_3:=fun _=>Unit)
 (k [.undef])
 (fun b=>k [(.bool b)])
 (fun t n=>k [(.int t n)])
 (fun s=>k [(.str s)])
 (fun o xs _=>k [(.list o xs)])
 (fun o f=>k [(.ptr o f)])
 (k [.nilp])
 (fun cs _=>k [(.ro cs)])
 (fun i f=>k [(.loc i f)])
 (fun cs _=>k [(.box cs)])
 (fun o=>k [(.map o)])
 (k [.nilm])
 (fun f a c _ _=>k [(.func f a c)])
 (k [.nilf])
 (fun cs _=>k cs)
 (fun vs _=>k [(.tuple vs)])
 (fun t v _=>k [(.iface t v)])
 (k [.nili])
 (fun o f n s=>k [(.sl o f n s)])
 (fun xs _=>k [(.fresh xs)])
 (k [.nils])
 () (fun _ _ _ _=>()) () (fun _ _ _ _=>()) x
theorem b5o (x:AV) (k:List AV→(Option ρ)):onC x k=k x.cells:=by cases x <;> rfl
noncomputable def plB (x:AV) (k:(Option ρ)):(Option ρ):=AV.rec (motive_1:=fun _=>(Option ρ)) (motive_2:=fun _=>Unit) (motive_3:=fun _=>Unit)
 (none)
 (fun b=>k)
 (fun t n=>k)
 (fun s=>k)
 (fun o xs _=>k)
 (fun o f=>k)
 (k)
 (fun cs _=>k)
 (fun i f=>none)
 (fun cs _=>none)
 (fun o=>k)
 (k)
 (fun f a c _ _=>k)
 (k)
 (fun cs _=>k)
 (fun vs _=>none)
 (fun t v _=>k)
 (k)
 (fun o f n s=>k)
 (fun xs _=>none)
 (k)
 () (fun _ _ _ _=>()) () (fun _ _ _ _=>()) x
theorem b0Y (x:AV) (k:(Option ρ)):plB x k=if x.plain then k else none:=by cases x <;> rfl
noncomputable def b8o (f:AV→(Option ρ)) (d:Nat) (x:AV):(Option ρ):=onT x fun vs=>a2Y vs none (fun v=>qWk v f) d
theorem c1K (c:b9) (b:AV) (s:St) (f:AV→(Option ρ)) (d:Nat) (x:AV):b8o f d x=obind (p1 (sem (.ext d) c [x] b s)) f:=by
 simp only [b8o,c5W,a1o,a0E]
 cases x <;> try rfl
 rename_i vs
 simp only [sem,Q9]
 cases vs[d]? <;> rfl
noncomputable def b1C (xs:List AV) (k:List AV→(Option ρ)):(Option ρ):=List.rec (motive:=fun _=>(List AV→(Option ρ))→(Option ρ)) (fun k=>k []) (fun a _ ih k=>plB a (qWk a fun w=>ih fun ws=>k (w::ws))) xs k
theorem a9c:∀ (xs:List AV) (k:List AV→(Option ρ)),b1C xs k=if s7 xs then k (xs.map AV.weak) else none
 | [],k=>rfl
 | a::xs,k=>by
  show plB a (qWk a fun w=>b1C xs fun ws=>k (w::ws))=_
  rw [b0Y,a0E,a9c xs]
  simp only [s7,Bool.and_eq_true,List.map_cons]
  by_cases h1:a.plain=true <;> by_cases h2:s7 xs=true <;> simp [h1,h2]
noncomputable def c4v (x:Option (AV×St)) (k:AV→St→(Option ρ)):(Option ρ):=Option.rec (motive:=fun _=>(Option ρ)) none (fun p=>Prod.rec (motive:=fun _=>(Option ρ)) (fun v s=>k v s) p) x
theorem c2Q (x:Option (AV×St)) (k:AV→St→(Option ρ)):c4v x k=match x with|some (v,s)=>k v s|none=>none:=by cases x <;> rfl
noncomputable def b8l (c:b9) (b:AV) (s:St) (f:AV→(Option ρ)) (x y z:AV):(Option ρ):=onS x none fun l=>onI z none fun _ m=>onI y (obind (p1 (sem (.slS true true) c [x,y,z] b s)) f) fun _ i=>nn i m (obind (p1 (sem (.slS true true) c [x,y,z] b s)) f) fun i m =>
 cB (Nat.ble m (L8 l)) (cB (Nat.ble i m) (a9w (Nat.sub m i) (a9q i l) fun r=>f (.str r)) none) none
theorem c3p (c:b9) (b:AV) (s:St) (f:AV→(Option ρ)) (x y z:AV):b8l c b s f x y z=obind (p1 (sem (.slS true true) c [x,y,z] b s)) f:=by
 simp only [b8l,a24,Y1,a3f,N6,a10,a4S,H9]
 cases x <;> try rfl
 cases z <;> try rfl
 cases y <;> try rfl
 rename_i l _ m _ i
 cases i <;> cases m <;> try rfl
 rename_i i m
 simp only [sem,R1,E5,N4,Int.ofNat_eq_natCast,Int.natCast_nonneg,true_and,Int.toNat_natCast,Int.ofNat_le,Nat.ble_eq]
 by_cases h1:m≤l.length
 · simp only [h1,if_true]
   by_cases h2:i≤m
   · simp only [h2,if_true,Option.map_some,p1,obind]
     rw [List.drop_take]
     rfl
   · simp only [h2,if_false]
     rfl
 · simp only [h1,if_false]
   rfl
noncomputable def b4r (sz:Nat) (l:List (List AV)):Bool:=List.rec (motive:=fun _=>Bool) true (fun r _ _=>Nat.beq (L8 r) sz) l
theorem b8j (sz:Nat) (l:List (List AV)):b4r sz l=k6 sz l:=by
 cases l with
 | nil=>rfl
 | cons r l =>
  show Nat.beq (L8 r) sz=(r.length == sz)
  rw [H9,Bool.eq_iff_iff]
  simp
noncomputable def b8Y (b:AV) (s:St) (f:AV×AV×St→(Option ρ)) (d e:Nat) (x y:AV):(Option ρ):=c5g x none fun o xs=>onL y none fun ys=>cB o (cB (b4r d xs) (cB (b4r d ys) (cB (Nat.ble (Nat.mul (Nat.add (L8 xs) (L8 ys)) e) 140737488355328) (b4h xs ys fun r=>f (.list true r,b,s)) none) none) none) none
theorem c1w (c:b9) (b:AV) (s:St) (f:AV×AV×St→(Option ρ)) (d e:Nat) (x y:AV):b8Y b s f d e x y=obind (sem (.app d e) c [x,y] b s) f:=by
 simp only [b8Y,c2p,b0d,N6,b8j,H9,a7E]
 cases x <;> try rfl
 rename_i o xs
 cases y <;> try (cases o <;> rfl)
 rename_i o2 ys
 cases o <;> try rfl
 simp only [sem,S7,if_true]
 have e1:(Nat.ble (Nat.mul (Nat.add xs.length ys.length) e) 140737488355328)=decide ((xs.length+ys.length)*e≤2 ^ 47):=by
  rw [Bool.eq_iff_iff]
  simp
 rw [e1]
 cases k6 d xs <;> cases k6 d ys <;> try rfl
 simp only [Bool.true_and,if_true]
 split <;> rfl
noncomputable def b0B (b:AV) (s:St) (f:AV×AV×St→(Option ρ)) (d:List AV):(Option ρ):=onU b (f (.undef,.box d,s))
theorem b7m (c:b9) (b:AV) (s:St) (f:AV×AV×St→(Option ρ)) (d:List AV):b0B b s f d=obind (sem (.alloc d) c [] b s) f:=by
 simp only [b0B,c3S]
 cases b <;> rfl
noncomputable def b4Z (cs:List AV) (off:Nat) (new:List AV) (k:List AV→(Option ρ)):(Option ρ):=a9w off cs fun a=>b4h new (a5L (Nat.add off (L8 new)) cs) fun t=>b4h a t k
theorem b2p (cs:List AV) (off:Nat) (new:List AV) (k:List AV→(Option ρ)):b4Z cs off new k=k (p7 cs off new):=by
 simp only [b4Z,a10,a7E,a0F,H9,p7,List.append_assoc]
 rfl
noncomputable def b4j (b:AV) (s:St) (f:AV×AV×St→(Option ρ)) (i d:Nat) (x y:AV):(Option ρ):=b9T x none fun j off=>b4N b none fun cs=>cB (Nat.beq i j) (plB y (onC y fun new=>cB (Nat.beq (L8 new) d) (cB (Nat.ble (Nat.add off d) (L8 cs)) (b4Z cs off new fun r=>f (.tuple [],.box r,s)) none) none)) none
theorem c0l (a b:Nat):(Nat.beq a b=true)=(a=b):=by simp
theorem c06 (a b:Nat):(Nat.ble a b=true)=(a≤b):=by simp
theorem b8e (c:b9) (b:AV) (s:St) (f:AV×AV×St→(Option ρ)) (i d:Nat) (x y:AV):b4j b s f i d x y=obind (sem (.stLc i d) c [x,y] b s) f:=by
 simp only [b4j,b2R,a6T,N6,b0Y,b5o,H9,b2p,c0l,c06]
 cases x <;> try rfl
 rename_i j off
 cases b <;> try rfl
 rename_i cs
 simp only [sem,P6]
 by_cases h1:i=j <;> by_cases h2:y.plain=true <;> by_cases h3:y.cells.length=d <;> by_cases h4:off+d≤cs.length <;> simp [h1,h2,h3,h4,obind]
noncomputable def b0r {β:Type} (l:List β) (i:Nat) (x:β) (k:List β→(Option ρ)):(Option ρ):=List.rec (motive:=fun _=>Nat→(List β→(Option ρ))→(Option ρ)) (fun _ k=>k []) (fun a t ih i k=>Nat.rec (motive:=fun _=>(Option ρ)) (k (x::t)) (fun j _=>ih j fun r=>k (a::r)) i) l i k
theorem b2G {β:Type} (x:β):∀ (l:List β) (i:Nat) (k:List β→(Option ρ)),b0r l i x k=k (l.set i x)
 | [],_,_=>rfl
 | a::l,0,k=>rfl
 | a::l,i+1,k=>b2G x l i fun r=>k (a::r)
noncomputable def b9v {β:Type} (l:List β) (i:Nat) (x:β) (k:List β→(Option ρ)):(Option ρ):=Nat.rec (motive:=fun _=>List β→(List β→(Option ρ))→(Option ρ)) (fun l k=>b0r l (Nat.mod i 8) x k) (fun _ ih l k=>b0X l (k l) ih k) (Nat.div i 8) l k
theorem b2I {β:Type} (x:β) (r:Nat):∀ (q:Nat) (l:List β) (k:List β→(Option ρ)),Nat.rec (motive:=fun _=>List β→(List β→(Option ρ))→(Option ρ)) (fun l k=>b0r l r x k) (fun _ ih l k=>b0X l (k l) ih k) q l k=k (l.set (8*q+r) x)
 | 0,l,k=>by show b0r l r x k=_; rw [b2G,Nat.mul_zero,Nat.zero_add]
 | q+1,l,k=>by
  show b0X l (k l) (fun l k=>Nat.rec (motive:=fun _=>List β→(List β→(Option ρ))→(Option ρ)) (fun l k=>b0r l r x k) (fun _ ih l k=>b0X l (k l) ih k) q l k) k=_
  rw [c2H]
  split
  · rename_i h
    rw [b2I x r q (l.drop 8)]
    congr 1
    rw [show 8*(q+1)+r=8+(8*q+r) by omega]
    conv=>rhs; rw [← List.take_append_drop 8 l]
    rw [List.set_append_right _ _ (by rw [List.length_take]; omega),List.length_take,Nat.min_eq_left h,Nat.add_sub_cancel_left]
  · rename_i h
    rw [List.set_eq_of_length_le (by omega)]
theorem c3A {β:Type} (x:β) (l:List β) (i:Nat) (k:List β→(Option ρ)):b9v l i x k=k (l.set i x):=by
 unfold b9v
 rw [b2I x (Nat.mod i 8) (Nat.div i 8) l k,show 8*Nat.div i 8+Nat.mod i 8=i from Nat.div_add_mod i 8]
noncomputable def b4w (s:St) (f:AV×St→(Option ρ)) (d:Nat) (x y:AV):(Option ρ):=onP x none fun o off=>b4k s none (fun ob=>a9X ob fun cs=>plB y (onC y fun new=>cB (Nat.beq (L8 new) d) (cB (Nat.ble (Nat.add off d) (L8 cs)) (b4Z cs off new fun r=>b9v s o (.cells r) fun s=>f (.tuple [],s)) none) none)) o
theorem b8K (c:b9) (b:AV) (s:St) (f:AV×St→(Option ρ)) (d:Nat) (x y:AV):b4w s f d x y=obind (p2 (sem (.stSt d) c [x,y] b s)) f:=by
 simp only [b4w,b6M,b2S,a9k,N6,b0Y,b5o,H9,b2p,c3A,c0l,c06]
 cases x <;> try rfl
 rename_i o off
 simp only [sem,F4,fL_eq]
 cases s[o]? with
 | none=>rfl
 | some ob =>
  cases ob <;> try rfl
  rename_i cs
  by_cases h2:y.plain=true <;> by_cases h3:y.cells.length=d <;> by_cases h4:off+d≤cs.length <;> simp [h2,h3,h4,obind,p2]
noncomputable def bW (v w:Bool) (x y:(Option ρ)):(Option ρ):=Bool.rec (motive:=fun _=>(Option ρ)) (Bool.rec (motive:=fun _=>(Option ρ)) x y w) (Bool.rec (motive:=fun _=>(Option ρ)) y x w) v
theorem c9q (v w:Bool) (x y:(Option ρ)):bW v w x y=if v == w then x else y:=by cases v <;> cases w <;> rfl
theorem nb (i j:Nat):(!Nat.blt j i)=Nat.ble i j:=by
 have h1:(Nat.blt j i=true) ↔ j < i:=by simp
 have h2:(Nat.ble i j=true) ↔ i≤j:=by simp
 cases hb:Nat.blt j i <;> cases hc:Nat.ble i j <;> simp only [hb,hc,true_iff,false_iff,Bool.false_eq_true] at h1 h2 <;> first|rfl|omega
theorem c6f (c:b9) (b:AV) (s:St) (f:AV→(Option ρ)) (x y:AV):a1h c b s f .lss Nat.blt x y=obind (p1 (sem (.bin .lss) c [x,y] b s)) f:=a3h c b s f .lss _ (by simp) (fun t i j=>by simp [l6,ltI]) x y
theorem c34 (c:b9) (b:AV) (s:St) (f:AV→(Option ρ)) (x y:AV):a1h c b s f .leq Nat.ble x y=obind (p1 (sem (.bin .leq) c [x,y] b s)) f:=a3h c b s f .leq _ (by simp) (fun t i j=>by simp only [l6,if_true,Int.ofNat_eq_natCast]; rw [show ∀ a b:Nat,ltI (a:Int) (b:Int)=Nat.blt a b from fun _ _=>rfl,nb]) x y
theorem c4B (c:b9) (b:AV) (s:St) (f:AV→(Option ρ)) (x y:AV):a1h c b s f .gtr (fun i j=>Nat.blt j i) x y=obind (p1 (sem (.bin .gtr) c [x,y] b s)) f:=a3h c b s f .gtr _ (by simp) (fun t i j=>by simp [l6,ltI]) x y
theorem c6k (c:b9) (b:AV) (s:St) (f:AV→(Option ρ)) (x y:AV):a1h c b s f .geq (fun i j=>Nat.ble j i) x y=obind (p1 (sem (.bin .geq) c [x,y] b s)) f:=a3h c b s f .geq _ (by simp) (fun t i j=>by simp only [l6,if_true,Int.ofNat_eq_natCast]; rw [show ∀ a b:Nat,ltI (a:Int) (b:Int)=Nat.blt a b from fun _ _=>rfl,nb]) x y

end Go.Cb.G
/-
 THE ABSTRACT MACHINE, part 43: frames of eight times eight, whose places are found at once.
-/
set_option maxRecDepth 4000
set_option linter.unusedVariables false
namespace Go.Cb.G
open Go Go.Cb
inductive W8 (α:Type) where
 | mk (x0 x1 x2 x3 x4 x5 x6 x7:α)
abbrev Fr:=W8 (W8 AV)
def pk8 {α:Type} (i:Nat) (w:W8 α):α:=match w with
 | .mk x0 x1 x2 x3 x4 x5 x6 x7=>match i with
  | 0=>x0
  | 1=>x1
  | 2=>x2
  | 3=>x3
  | 4=>x4
  | 5=>x5
  | 6=>x6
  | _=>x7
def st8 {α:Type} (i:Nat) (x:α) (w:W8 α):W8 α:=match w with
 | .mk x0 x1 x2 x3 x4 x5 x6 x7=>match i with
  | 0=>.mk x x1 x2 x3 x4 x5 x6 x7
  | 1=>.mk x0 x x2 x3 x4 x5 x6 x7
  | 2=>.mk x0 x1 x x3 x4 x5 x6 x7
  | 3=>.mk x0 x1 x2 x x4 x5 x6 x7
  | 4=>.mk x0 x1 x2 x3 x x5 x6 x7
  | 5=>.mk x0 x1 x2 x3 x4 x x6 x7
  | 6=>.mk x0 x1 x2 x3 x4 x5 x x7
  | _=>.mk x0 x1 x2 x3 x4 x5 x6 x
theorem lt8 {i:Nat} (h:i < 8):i=0∨i=1∨i=2∨i=3∨i=4∨i=5∨i=6∨i=7:=by omega
theorem b5P {α:Type} {i j:Nat} (hi:i < 8) (hj:j < 8) (x:α) (w:W8 α):pk8 j (st8 i x w)=if j=i then x else pk8 j w:=by
 cases w
 rcases lt8 hi with rfl|rfl|rfl|rfl|rfl|rfl|rfl|rfl <;> rcases lt8 hj with rfl|rfl|rfl|rfl|rfl|rfl|rfl|rfl <;> rfl
def T7 (i:Nat) (fr:Fr):AV:=pk8 (i % 8) (pk8 (i / 8) fr)
def a0V (i:Nat) (x:AV) (fr:Fr):Fr:=st8 (i / 8) (st8 (i % 8) x (pk8 (i / 8) fr)) fr
theorem c2i {i j:Nat} (hi:i < 64) (hj:j < 64) (x:AV) (fr:Fr):T7 j (a0V i x fr)=if j=i then x else T7 j fr:=by
 unfold T7 a0V
 rw [b5P (by omega) (by omega)]
 by_cases h:j / 8=i / 8
 · rw [if_pos h,b5P (by omega) (by omega),← h]
   by_cases h2:j % 8=i % 8
   · rw [if_pos h2,if_pos (by omega)]
   · rw [if_neg h2,if_neg (by omega)]
 · rw [if_neg h,if_neg (by intro e; exact h (by rw [e]))]
def toL (nv:Nat) (fr:Fr):List AV:=(List.range nv).map fun i=>T7 i fr
theorem c2A (nv:Nat) (fr:Fr):(toL nv fr).length=nv:=by simp [toL]
theorem M7 {i nv:Nat} (h:i < nv) (fr:Fr):(toL nv fr).getD i .undef=T7 i fr:=by simp [toL,List.getD,h]
theorem a1r {i nv:Nat} (h:i < nv) (hn:nv≤64) (x:AV) (fr:Fr):(toL nv fr).set i x=toL nv (a0V i x fr):=by
 apply List.ext_getElem
 · simp [toL]
 · intro j h1 h2
   have hj:j < nv:=by simpa [toL] using h1
   rw [List.getElem_set]
   simp only [toL,List.getElem_map,List.getElem_range]
   rw [c2i (by omega) (by omega)]
   by_cases e:i=j
   · rw [if_pos e,if_pos e.symm]
   · rw [if_neg e,if_neg (fun q=>e q.symm)]
theorem a4b {i nv:Nat} (h:¬ i < nv) (x:AV) (fr:Fr):(toL nv fr).set i x=toL nv fr:=List.set_eq_of_length_le (by rw [c2A]; omega)

noncomputable def b0R {α β:Type} (i:Nat) (e:β) (Q:α→β) (x0 x1 x2 x3 x4 x5 x6 x7:α):β :=
 Nat.rec (motive:=fun _=>β) (Q x0) (fun i _=>Nat.rec (motive:=fun _=>β) (Q x1) (fun i _=>Nat.rec (motive:=fun _=>β) (Q x2) (fun i _=>Nat.rec (motive:=fun _=>β) (Q x3) (fun i _=>Nat.rec (motive:=fun _=>β) (Q x4) (fun i _=>Nat.rec (motive:=fun _=>β) (Q x5) (fun i _=>Nat.rec (motive:=fun _=>β) (Q x6) (fun i _=>Nat.rec (motive:=fun _=>β) (Q x7) (fun i _=>e) i) i) i) i) i) i) i) i
theorem a07 {α β:Type} {G:β→Prop} {i:Nat} {e:β} {Q:α→β} {x0 x1 x2 x3 x4 x5 x6 x7:α} (he:G e) (h0:i=0→G (Q x0)) (h1:i=1→G (Q x1)) (h2:i=2→G (Q x2)) (h3:i=3→G (Q x3)) (h4:i=4→G (Q x4)) (h5:i=5→G (Q x5)) (h6:i=6→G (Q x6)) (h7:i=7→G (Q x7)):G (b0R i e Q x0 x1 x2 x3 x4 x5 x6 x7):=by
 match i,h0,h1,h2,h3,h4,h5,h6,h7 with
 | 0,h,_,_,_,_,_,_,_=>exact h rfl
 | 1,_,h,_,_,_,_,_,_=>exact h rfl
 | 2,_,_,h,_,_,_,_,_=>exact h rfl
 | 3,_,_,_,h,_,_,_,_=>exact h rfl
 | 4,_,_,_,_,h,_,_,_=>exact h rfl
 | 5,_,_,_,_,_,h,_,_=>exact h rfl
 | 6,_,_,_,_,_,_,h,_=>exact h rfl
 | 7,_,_,_,_,_,_,_,h=>exact h rfl
 | _+8,_,_,_,_,_,_,_,_=>exact he
abbrev Gt (ρ:Type):=Fr→(AV→Option ρ)→Option ρ
abbrev Wr (ρ:Type):=AV→Fr→(Fr→Option ρ)→Option ρ
section
variable {ρ β:Type}
noncomputable def a2e (i:Nat) (e:β) (Q:Gt ρ→β):β:=b0R (i / 8) e (fun o:Fr→(W8 AV→Option ρ)→Option ρ=>b0R (i % 8) e (fun n:W8 AV→(AV→Option ρ)→Option ρ=>Q fun fr k=>o fr fun w=>n w k)
 (fun w k=>W8.rec (motive:=fun _=>Option ρ) (fun x0 x1 x2 x3 x4 x5 x6 x7=>k x0) w)
 (fun w k=>W8.rec (motive:=fun _=>Option ρ) (fun x0 x1 x2 x3 x4 x5 x6 x7=>k x1) w)
 (fun w k=>W8.rec (motive:=fun _=>Option ρ) (fun x0 x1 x2 x3 x4 x5 x6 x7=>k x2) w)
 (fun w k=>W8.rec (motive:=fun _=>Option ρ) (fun x0 x1 x2 x3 x4 x5 x6 x7=>k x3) w)
 (fun w k=>W8.rec (motive:=fun _=>Option ρ) (fun x0 x1 x2 x3 x4 x5 x6 x7=>k x4) w)
 (fun w k=>W8.rec (motive:=fun _=>Option ρ) (fun x0 x1 x2 x3 x4 x5 x6 x7=>k x5) w)
 (fun w k=>W8.rec (motive:=fun _=>Option ρ) (fun x0 x1 x2 x3 x4 x5 x6 x7=>k x6) w)
 (fun w k=>W8.rec (motive:=fun _=>Option ρ) (fun x0 x1 x2 x3 x4 x5 x6 x7=>k x7) w))
 (fun w k=>W8.rec (motive:=fun _=>Option ρ) (fun x0 x1 x2 x3 x4 x5 x6 x7=>k x0) w)
 (fun w k=>W8.rec (motive:=fun _=>Option ρ) (fun x0 x1 x2 x3 x4 x5 x6 x7=>k x1) w)
 (fun w k=>W8.rec (motive:=fun _=>Option ρ) (fun x0 x1 x2 x3 x4 x5 x6 x7=>k x2) w)
 (fun w k=>W8.rec (motive:=fun _=>Option ρ) (fun x0 x1 x2 x3 x4 x5 x6 x7=>k x3) w)
 (fun w k=>W8.rec (motive:=fun _=>Option ρ) (fun x0 x1 x2 x3 x4 x5 x6 x7=>k x4) w)
 (fun w k=>W8.rec (motive:=fun _=>Option ρ) (fun x0 x1 x2 x3 x4 x5 x6 x7=>k x5) w)
 (fun w k=>W8.rec (motive:=fun _=>Option ρ) (fun x0 x1 x2 x3 x4 x5 x6 x7=>k x6) w)
 (fun w k=>W8.rec (motive:=fun _=>Option ρ) (fun x0 x1 x2 x3 x4 x5 x6 x7=>k x7) w)
theorem K5 {G:β→Prop} {i:Nat} {e:β} {Q:Gt ρ→β} (hi:i < 64) (he:G e) (h:∀ g:Gt ρ,(∀ fr k,g fr k=k (T7 i fr))→G (Q g)):G (a2e i e Q):=by
 refine a07 he ?_ ?_ ?_ ?_ ?_ ?_ ?_ ?_ <;> intro h1 <;> refine a07 he ?_ ?_ ?_ ?_ ?_ ?_ ?_ ?_ <;> intro h2 <;> refine h _ (fun fr k=>?_) <;> unfold T7 <;> rw [h1,h2] <;> cases fr with
  | mk w0 w1 w2 w3 w4 w5 w6 w7=>first|(cases w0; rfl)|(cases w1; rfl)|(cases w2; rfl)|(cases w3; rfl)|(cases w4; rfl)|(cases w5; rfl)|(cases w6; rfl)|(cases w7; rfl)
noncomputable def a7q (i:Nat) (e:β) (Q:Wr ρ→β):β:=b0R (i / 8) e (fun o:Fr→(W8 AV→(W8 AV→Option ρ)→Option ρ)→(Fr→Option ρ)→Option ρ=>b0R (i % 8) e (fun n:AV→W8 AV→(W8 AV→Option ρ)→Option ρ=>Q fun x fr k=>o fr (n x) k)
 (fun y w k=>W8.rec (motive:=fun _=>Option ρ) (fun x0 x1 x2 x3 x4 x5 x6 x7=>k (.mk y x1 x2 x3 x4 x5 x6 x7)) w)
 (fun y w k=>W8.rec (motive:=fun _=>Option ρ) (fun x0 x1 x2 x3 x4 x5 x6 x7=>k (.mk x0 y x2 x3 x4 x5 x6 x7)) w)
 (fun y w k=>W8.rec (motive:=fun _=>Option ρ) (fun x0 x1 x2 x3 x4 x5 x6 x7=>k (.mk x0 x1 y x3 x4 x5 x6 x7)) w)
 (fun y w k=>W8.rec (motive:=fun _=>Option ρ) (fun x0 x1 x2 x3 x4 x5 x6 x7=>k (.mk x0 x1 x2 y x4 x5 x6 x7)) w)
 (fun y w k=>W8.rec (motive:=fun _=>Option ρ) (fun x0 x1 x2 x3 x4 x5 x6 x7=>k (.mk x0 x1 x2 x3 y x5 x6 x7)) w)
 (fun y w k=>W8.rec (motive:=fun _=>Option ρ) (fun x0 x1 x2 x3 x4 x5 x6 x7=>k (.mk x0 x1 x2 x3 x4 y x6 x7)) w)
 (fun y w k=>W8.rec (motive:=fun _=>Option ρ) (fun x0 x1 x2 x3 x4 x5 x6 x7=>k (.mk x0 x1 x2 x3 x4 x5 y x7)) w)
 (fun y w k=>W8.rec (motive:=fun _=>Option ρ) (fun x0 x1 x2 x3 x4 x5 x6 x7=>k (.mk x0 x1 x2 x3 x4 x5 x6 y)) w))
 (fun w u k=>W8.rec (motive:=fun _=>Option ρ) (fun x0 x1 x2 x3 x4 x5 x6 x7=>u x0 fun y=>k (.mk y x1 x2 x3 x4 x5 x6 x7)) w)
 (fun w u k=>W8.rec (motive:=fun _=>Option ρ) (fun x0 x1 x2 x3 x4 x5 x6 x7=>u x1 fun y=>k (.mk x0 y x2 x3 x4 x5 x6 x7)) w)
 (fun w u k=>W8.rec (motive:=fun _=>Option ρ) (fun x0 x1 x2 x3 x4 x5 x6 x7=>u x2 fun y=>k (.mk x0 x1 y x3 x4 x5 x6 x7)) w)
 (fun w u k=>W8.rec (motive:=fun _=>Option ρ) (fun x0 x1 x2 x3 x4 x5 x6 x7=>u x3 fun y=>k (.mk x0 x1 x2 y x4 x5 x6 x7)) w)
 (fun w u k=>W8.rec (motive:=fun _=>Option ρ) (fun x0 x1 x2 x3 x4 x5 x6 x7=>u x4 fun y=>k (.mk x0 x1 x2 x3 y x5 x6 x7)) w)
 (fun w u k=>W8.rec (motive:=fun _=>Option ρ) (fun x0 x1 x2 x3 x4 x5 x6 x7=>u x5 fun y=>k (.mk x0 x1 x2 x3 x4 y x6 x7)) w)
 (fun w u k=>W8.rec (motive:=fun _=>Option ρ) (fun x0 x1 x2 x3 x4 x5 x6 x7=>u x6 fun y=>k (.mk x0 x1 x2 x3 x4 x5 y x7)) w)
 (fun w u k=>W8.rec (motive:=fun _=>Option ρ) (fun x0 x1 x2 x3 x4 x5 x6 x7=>u x7 fun y=>k (.mk x0 x1 x2 x3 x4 x5 x6 y)) w)
theorem a0X {G:β→Prop} {i:Nat} {e:β} {Q:Wr ρ→β} (hi:i < 64) (he:G e) (h:∀ g:Wr ρ,(∀ x fr k,g x fr k=k (a0V i x fr))→G (Q g)):G (a7q i e Q):=by
 refine a07 he ?_ ?_ ?_ ?_ ?_ ?_ ?_ ?_ <;> intro h1 <;> refine a07 he ?_ ?_ ?_ ?_ ?_ ?_ ?_ ?_ <;> intro h2 <;> refine h _ (fun x fr k=>?_) <;> unfold a0V <;> rw [h1,h2] <;> cases fr with
  | mk w0 w1 w2 w3 w4 w5 w6 w7=>first|(cases w0; rfl)|(cases w1; rfl)|(cases w2; rfl)|(cases w3; rfl)|(cases w4; rfl)|(cases w5; rfl)|(cases w6; rfl)|(cases w7; rfl)
noncomputable def b38 (i:Nat) (Q:(List AV→(AV→Option ρ)→Option ρ)→β):β:=Nat.rec (motive:=fun _=>((List AV→(AV→Option ρ)→Option ρ)→β)→β)
 (fun Q=>Q fun l k=>List.rec (motive:=fun _=>Option ρ) none (fun a _ _=>k a) l)
 (fun _ ih Q=>ih fun r=>Q fun l k=>List.rec (motive:=fun _=>Option ρ) none (fun _ t _=>r t k) l) i Q
theorem Y6 {G:β→Prop}:∀ (i:Nat) {Q:(List AV→(AV→Option ρ)→Option ρ)→β},(∀ r:List AV→(AV→Option ρ)→Option ρ,(∀ l k,r l k=match l[i]? with|some a=>k a|none=>none)→G (Q r))→G (b38 i Q)
 | 0,Q,h=>h _ fun l k=>by cases l <;> rfl
 | i+1,Q,h=>Y6 i fun r hr=>h _ fun l k=>by
  cases l with
  | nil=>rfl
  | cons a t=>show r t k=_; rw [hr]; simp
end
abbrev U:AV:=.undef
def u8:W8 AV:=.mk U U U U U U U U
noncomputable def b9G {ρ:Type} (l:List AV) (k:W8 AV→Option ρ):Option ρ:=List.rec (motive:=fun _=>Option ρ) (k (.mk U U U U U U U U)) (fun y0 l _=>List.rec (motive:=fun _=>Option ρ) (k (.mk y0 U U U U U U U)) (fun y1 l _=>List.rec (motive:=fun _=>Option ρ) (k (.mk y0 y1 U U U U U U)) (fun y2 l _=>List.rec (motive:=fun _=>Option ρ) (k (.mk y0 y1 y2 U U U U U)) (fun y3 l _=>List.rec (motive:=fun _=>Option ρ) (k (.mk y0 y1 y2 y3 U U U U)) (fun y4 l _=>List.rec (motive:=fun _=>Option ρ) (k (.mk y0 y1 y2 y3 y4 U U U)) (fun y5 l _=>List.rec (motive:=fun _=>Option ρ) (k (.mk y0 y1 y2 y3 y4 y5 U U)) (fun y6 l _=>List.rec (motive:=fun _=>Option ρ) (k (.mk y0 y1 y2 y3 y4 y5 y6 U)) (fun y7 l _=>List.rec (motive:=fun _=>Option ρ) (k (.mk y0 y1 y2 y3 y4 y5 y6 y7)) (fun _ _ _=>none) l) l) l) l) l) l) l) l) l
theorem c9v (i:Nat):pk8 i u8=U:=by
 show (match i with|0=>U|1=>U|2=>U|3=>U|4=>U|5=>U|6=>U|_=>U)=U
 split <;> rfl
theorem c3c {ρ:Type} {l:List AV} {k:W8 AV→Option ρ} {r:ρ} (h:b9G l k=some r):∃ w:W8 AV,k w=some r∧l.length≤8∧∀ i,i < 8→pk8 i w=l.getD i .undef:=by
 match l,h with
 | [],h=>exact ⟨_,h,by simp,fun i hi=>by rcases lt8 hi with rfl|rfl|rfl|rfl|rfl|rfl|rfl|rfl <;> rfl⟩
 | [y0],h=>exact ⟨_,h,by simp,fun i hi=>by rcases lt8 hi with rfl|rfl|rfl|rfl|rfl|rfl|rfl|rfl <;> rfl⟩
 | [y0,y1],h=>exact ⟨_,h,by simp,fun i hi=>by rcases lt8 hi with rfl|rfl|rfl|rfl|rfl|rfl|rfl|rfl <;> rfl⟩
 | [y0,y1,y2],h=>exact ⟨_,h,by simp,fun i hi=>by rcases lt8 hi with rfl|rfl|rfl|rfl|rfl|rfl|rfl|rfl <;> rfl⟩
 | [y0,y1,y2,y3],h=>exact ⟨_,h,by simp,fun i hi=>by rcases lt8 hi with rfl|rfl|rfl|rfl|rfl|rfl|rfl|rfl <;> rfl⟩
 | [y0,y1,y2,y3,y4],h=>exact ⟨_,h,by simp,fun i hi=>by rcases lt8 hi with rfl|rfl|rfl|rfl|rfl|rfl|rfl|rfl <;> rfl⟩
 | [y0,y1,y2,y3,y4,y5],h=>exact ⟨_,h,by simp,fun i hi=>by rcases lt8 hi with rfl|rfl|rfl|rfl|rfl|rfl|rfl|rfl <;> rfl⟩
 | [y0,y1,y2,y3,y4,y5,y6],h=>exact ⟨_,h,by simp,fun i hi=>by rcases lt8 hi with rfl|rfl|rfl|rfl|rfl|rfl|rfl|rfl <;> rfl⟩
 | [y0,y1,y2,y3,y4,y5,y6,y7],h=>exact ⟨_,h,by simp,fun i hi=>by rcases lt8 hi with rfl|rfl|rfl|rfl|rfl|rfl|rfl|rfl <;> rfl⟩
 | _::_::_::_::_::_::_::_::_::_,h=>cases h
def fr0 (w:W8 AV):Fr:=.mk w u8 u8 u8 u8 u8 u8 u8
theorem c5p {w:W8 AV} {l:List AV} {np nv:Nat} (hw:∀ i,i < 8→pk8 i w=l.getD i .undef) (hl:l.length=np) (h8:l.length≤8) (hnp:np≤nv) (hn:nv≤64):toL nv (fr0 w)=l++List.replicate (nv - np) .undef:=by
 apply List.ext_getElem
 · simp [toL,hl]; omega
 · intro j h1 h2
   have hj:j < nv:=by simpa [toL] using h1
   have hg:T7 j (fr0 w)=l.getD j .undef:=by
    unfold T7
    rcases Nat.lt_or_ge j 8 with h|h
    · rw [show j / 8=0 by omega,show j % 8=j by omega]
      exact hw j h
    · have:pk8 (j / 8) (fr0 w)=u8:=by
       rcases lt8 (show j / 8 < 8 by omega) with e|e|e|e|e|e|e|e <;> rw [e] <;> first|(exfalso; omega)|rfl
      rw [this,c9v,List.getD_eq_getElem?_getD,List.getElem?_eq_none (by omega)]
      rfl
   simp only [toL,List.getElem_map,List.getElem_range,hg]
   rw [List.getElem_append]
   split
   · rename_i h; simp [List.getD,h]
   · rename_i h; rw [List.getD_eq_getElem?_getD,List.getElem?_eq_none (by omega)]; simp
end Go.Cb.G
/-
 THE ABSTRACT MACHINE, part 44: operations, made ready once, run over fast frames.
-/
set_option maxRecDepth 4000
set_option linter.unusedVariables false
namespace Go.Cb.G
open Go Go.Cb
abbrev RO:=Option (AV×Fr×St)
abbrev Rd:=List AV→Fr→(AV→RO)→RO
inductive Src where
 | w (l:Nat)|s (l:Nat)|d (l:Nat)|k (a:AV)|q (a:AV)
abbrev Scope:=List (Nat×Src)
noncomputable def E9 (s:Nat) (sc:Scope):Option Src:=List.rec (motive:=fun _=>Option Src) none (fun p _ ih=>Prod.rec (motive:=fun _=>Option Src) (fun t x=>Bool.rec (motive:=fun _=>Option Src) ih (some x) (Nat.beq t s)) p) sc
theorem a1C (s t:Nat) (x:Src) (sc:Scope):E9 s ((t,x)::sc)=if t=s then some x else E9 s sc:=by
 show Bool.rec (motive:=fun _=>Option Src) (E9 s sc) (some x) (Nat.beq t s)=_
 by_cases h:t=s
 · rw [if_pos h,show Nat.beq t s=true by simpa using h]
 · rw [if_neg h,show Nat.beq t s=false from Bool.eq_false_iff.2 fun q=>h (Nat.eq_of_beq_eq_true q)]
def lv (env:List AV) (l:Nat):Option AV:=env.reverse[l]?
theorem d6g {env:List AV} {l:Nat} {a:AV} (x:AV) (h:lv env l=some a):lv (x::env) l=some a:=by
 unfold lv at *
 rw [List.reverse_cons,List.getElem?_append_left (by
  rcases Nat.lt_or_ge l env.reverse.length with q|q
  · exact q
  · rw [List.getElem?_eq_none q] at h; cases h)]
 exact h
theorem b6p (x:AV) (env:List AV):lv (x::env) env.length=some x:=by
 unfold lv
 rw [List.reverse_cons,List.getElem?_append_right (by simp)]
 simp
theorem a9E {env:List AV} {l d:Nat} {a:AV} (hd:env.length=d) (h:lv env l=some a):env[d - 1 - l]?=some a:=by
 unfold lv at h
 have hl:l < env.length:=by
  rcases Nat.lt_or_ge l env.reverse.length with q|q
  · simpa using q
  · rw [List.getElem?_eq_none q] at h; cases h
 rw [List.getElem?_reverse hl,hd] at h
 exact h
def SrcOK (env:List AV) (v:AV):Src→Prop
 | .w l=>∃ a,lv env l=some a∧v.weak=a
 | .s l=>∃ a,lv env l=some a∧v=a
 | .d l=>∃ a,lv env l=some a∧v.weak=a.weak
 | .k a=>v=a
 | .q a=>v.weak=a
theorem SrcOK.push {env:List AV} {v:AV} {x:Src} (y:AV) (h:SrcOK env v x):SrcOK (y::env) v x:=by
 cases x <;> simp only [SrcOK] at*<;> first|exact h|(obtain ⟨a,h1,h2⟩:=h; exact ⟨a,d6g y h1,h2⟩)
structure Ag (nv dep:Nat) (sc:Scope) (env:List AV) (fr:Fr) (σ:Sig):Prop where
 f:σ.fr=toL nv fr
 d:env.length=dep
 nb:∀ s,(σ.τ s).stripB=σ.τ s
 t:∀ s x,E9 s sc=some x→SrcOK env (σ.τ s) x

noncomputable def c6O (x:AV) (y z:RO):RO:=AV.rec (motive_1:=fun _=>RO) (motive_2:=fun _=>Unit) (motive_3:=fun _=>Unit)
 z (fun _=>z) (fun _ _=>z) (fun _=>z) (fun _ _ _=>z) (fun _ _=>z) z (fun _ _=>z) (fun _ _=>z) (fun _ _=>y) (fun _=>z) z (fun _ _ _ _ _=>z) z (fun _ _=>z) (fun _ _=>z) (fun _ _ _=>z) z (fun _ _ _ _=>z) (fun _ _=>z) z
 () (fun _ _ _ _=>()) () (fun _ _ _ _=>()) x
noncomputable def b8N (i:Nat) (x:AV) (k:AV→RO):RO:=c6O x (k (.loc i 0)) (k .undef)
theorem c2P (i:Nat) (x:AV) (k:AV→RO):b8N i x k=k (match x with|.box _=>.loc i 0|_=>.undef):=by cases x <;> rfl

section
variable {β:Type}
noncomputable def rdK (nv dep:Nat) (sc:Scope) (x:Opd) (e:β) (Q:Rd→β):β :=
 match x with
 | .t s=>match E9 s sc with
  | some (.w l)=>b38 (dep - 1 - l) fun r=>Q fun env _ k=>r env k
  | some (.s l)|some (.d l)=>b38 (dep - 1 - l) fun r=>Q fun env _ k=>r env fun x=>qWk x k
  | some (.k a)=>Q fun _ _ k=>k a.weak
  | some (.q a)=>Q fun _ _ k=>k a
  | none=>e
 | .ts s=>match E9 s sc with
  | some (.s l)=>b38 (dep - 1 - l) fun r=>Q fun env _ k=>r env k
  | some (.k a)=>Q fun _ _ k=>k a
  | _=>e
 | .v i=>match Nat.blt i nv with
  | true=>a2e i e fun g=>Q fun _ fr k=>g fr fun x=>qWk x k
  | false=>e
 | .vs i=>match Nat.blt i nv with
  | true=>a2e i e fun g=>Q fun _ fr k=>g fr k
  | false=>e
 | .l i=>match Nat.blt i nv with
  | true=>a2e i e fun g=>Q fun _ fr k=>g fr fun x=>b8N i x k
  | false=>e
 | .c a=>Q fun _ _ k=>k a
def c5d (nv dep:Nat) (sc:Scope) (x:Opd) (r:Rd):Prop:=∀ env fr σ,Ag nv dep sc env fr σ→∀ k,r env fr k=k (x.read σ)
theorem R3 {i n:Nat} (h:Nat.blt i n=true):i < n:=by simpa using h
theorem a4C {G:β→Prop} {nv dep:Nat} {sc:Scope} {x:Opd} {e:β} {Q:Rd→β} (hn:nv≤64) (he:G e) (h:∀ r,c5d nv dep sc x r→G (Q r)):G (rdK nv dep sc x e Q):=by
 unfold rdK
 cases x with
 | t s =>
  dsimp only
  cases hs:E9 s sc with
  | none=>exact he
  | some y =>
   cases y with
   | w l =>
    refine Y6 _ fun r hr=>h _ fun env fr σ ha k=>?_
    obtain ⟨a,h1,h2⟩:=ha.t _ _ hs
    show r env k=_
    rw [hr,a9E ha.d h1,← h2]; rfl
   | s l =>
    refine Y6 _ fun r hr=>h _ fun env fr σ ha k=>?_
    obtain ⟨a,h1,h2⟩:=ha.t _ _ hs
    show r env _=_
    rw [hr,a9E ha.d h1]
    show qWk a k=_
    rw [a0E,← h2]; rfl
   | d l =>
    refine Y6 _ fun r hr=>h _ fun env fr σ ha k=>?_
    obtain ⟨a,h1,h2⟩:=ha.t _ _ hs
    show r env _=_
    rw [hr,a9E ha.d h1]
    show qWk a k=_
    rw [a0E,← h2]; rfl
   | k a =>
    refine h _ fun env fr σ ha k=>?_
    have:=ha.t _ _ hs
    show k a.weak=k (σ.τ s).weak
    rw [show σ.τ s=a from this]
   | q a =>
    refine h _ fun env fr σ ha k=>?_
    have:=ha.t _ _ hs
    show k a=k (σ.τ s).weak
    rw [show (σ.τ s).weak=a from this]
 | ts s =>
  dsimp only
  cases hs:E9 s sc with
  | none=>exact he
  | some y =>
   cases y with
   | s l =>
    refine Y6 _ fun r hr=>h _ fun env fr σ ha k=>?_
    obtain ⟨a,h1,h2⟩:=ha.t _ _ hs
    show r env k=_
    rw [hr,a9E ha.d h1,← h2]; rfl
   | k a =>
    refine h _ fun env fr σ ha k=>?_
    have:=ha.t _ _ hs
    show k a=k (σ.τ s)
    rw [show σ.τ s=a from this]
   | _=>exact he
 | v i =>
  dsimp only
  cases hb:Nat.blt i nv with
  | false=>exact he
  | true =>
   have hi:=R3 hb
   refine K5 (by omega) he fun g hg=>h _ fun env fr σ ha k=>?_
   show g fr (fun x=>qWk x k)=k (σ.fr.getD i .undef).weak
   rw [hg,a0E,ha.f,M7 hi]
 | vs i =>
  dsimp only
  cases hb:Nat.blt i nv with
  | false=>exact he
  | true =>
   have hi:=R3 hb
   refine K5 (by omega) he fun g hg=>h _ fun env fr σ ha k=>?_
   show g fr k=k (σ.fr.getD i .undef)
   rw [hg,ha.f,M7 hi]
 | l i =>
  dsimp only
  cases hb:Nat.blt i nv with
  | false=>exact he
  | true =>
   have hi:=R3 hb
   refine K5 (by omega) he fun g hg=>h _ fun env fr σ ha k=>?_
   show g fr (fun x=>b8N i x k)=_
   rw [hg,c2P]
   show _=k (match σ.fr.getD i .undef with|.box _=>.loc i 0|_=>.undef)
   rw [ha.f,M7 hi]
 | c a=>exact h _ fun _ _ _ _ _=>rfl

def rdL (nv dep:Nat) (sc:Scope) (rd:Opd→β→(Rd→β)→β):List Opd→β→(List Rd→β)→β
 | [],_,Q=>Q []
 | x::xs,e,Q=>rd x e fun r=>rdL nv dep sc rd xs e fun rs=>Q (r::rs)
def a9D (nv dep:Nat) (sc:Scope):List Opd→List Rd→Prop
 | [],[]=>True
 | x::xs,r::rs=>c5d nv dep sc x r∧a9D nv dep sc xs rs
 | _,_=>False
theorem b0w {G:β→Prop} {nv dep:Nat} {sc:Scope} (hn:nv≤64):∀ {xs:List Opd} {e:β} {Q:List Rd→β},G e→(∀ rs,a9D nv dep sc xs rs→G (Q rs))→G (rdL nv dep sc (fun x e Q=>rdK nv dep sc x e Q) xs e Q)
 | [],e,Q,he,h=>h [] trivial
 | x::xs,e,Q,he,h=>by
  unfold rdL
  exact a4C hn he fun r hr=>b0w hn he fun rs hrs=>h _ ⟨hr,hrs⟩
end
def a05:List Rd→List AV→Fr→(List AV→RO)→RO
 | [],_,_,k=>k []
 | r::rs,env,fr,k=>r env fr fun x=>a05 rs env fr fun xs=>k (x::xs)
theorem a0K {nv dep:Nat} {sc:Scope} {env:List AV} {fr:Fr} {σ:Sig} (ha:Ag nv dep sc env fr σ):∀ {xs:List Opd} {rs:List Rd} {k:List AV→RO},a9D nv dep sc xs rs→a05 rs env fr k=k (xs.map (·.read σ))
 | [],[],k,_=>rfl
 | x::xs,r::rs,k,h=>by
  show r env fr _=_
  rw [h.1 env fr σ ha,a0K ha h.2]
  rfl
 | [],_::_,_,h=>h.elim
 | _::_,[],_,h=>h.elim
section
variable {β:Type}
abbrev RdA:=List AV→Fr→(List AV→RO)→RO
noncomputable def b8G (rs:List Rd) (Q:RdA→β):β:=List.rec (motive:=fun _=>(RdA→β)→β) (fun Q=>Q fun _ _ k=>k []) (fun r _ ih Q=>ih fun ra=>Q fun env fr k=>r env fr fun x=>ra env fr fun xs=>k (x::xs)) rs Q
theorem a26 {G:β→Prop}:∀ {rs:List Rd} {Q:RdA→β},(∀ ra:RdA,(∀ env fr k,ra env fr k=a05 rs env fr k)→G (Q ra))→G (b8G rs Q)
 | [],Q,h=>h _ fun _ _ _=>rfl
 | r::rs,Q,h=>a26 (rs:=rs) fun ra hra=>h _ fun env fr k=>by
  show r env fr _=r env fr _
  congr
  funext x
  exact hra _ _ _

/-! kinds -/
abbrev KF:=b9→List AV→Fr→AV→St→(AV→AV→St→RO)→RO
def b71 (kd:Kind) (rs:List Rd) (kf:KF):Prop:=∀ c env fr b s K,kf c env fr b s K=a05 rs env fr fun as=>obind (sem kd c as b s) fun p=>K p.1 p.2.1 p.2.2
theorem p9 {kd:Kind} (h1:kd.setSt=false) (h2:kd.alters=false) (c:b9) (as:List AV) (b:AV) (s:St) (K:AV→AV→St→RO):obind (p1 (sem kd c as b s)) (fun r=>K r b s)=obind (sem kd c as b s) fun p=>K p.1 p.2.1 p.2.2:=by
 cases hs:sem kd c as b s with
 | none=>rfl
 | some p =>
  obtain ⟨r,b',s'⟩:=p
  have e1:=a2W h1 hs
  have e2:=a1y h2 hs
  subst e1 e2
  rfl
theorem b1R {kd:Kind} (h2:kd.alters=false) (c:b9) (as:List AV) (b:AV) (s:St) (K:AV→AV→St→RO):obind (p2 (sem kd c as b s)) (fun r=>K r.1 b r.2)=obind (sem kd c as b s) fun p=>K p.1 p.2.1 p.2.2:=by
 cases hs:sem kd c as b s with
 | none=>rfl
 | some p =>
  obtain ⟨r,b',s'⟩:=p
  have e2:=a1y h2 hs
  subst e2
  rfl
noncomputable def b0g (c:b9) (s:St) (K:AV→St→RO) (i:Nat) (xs:List AV):RO:=b1C xs fun ws=>c4v (c i ws s) fun v s=>K v s
noncomputable def b4Q (c:b9) (b:AV) (s:St) (f:AV→RO) (g:Bool) (d:Nat) (x:AV):RO:=a9F x (obind (p1 (sem (.ldAn g d) c [x] b s)) f) (fun o i=>a6c s f g d (.ptr o i)) (fun cs=>a5A f g d (.ro cs)) (fun _ _=>obind (p1 (sem (.ldAn g d) c [x] b s)) f)
theorem b8V (c:b9) (b:AV) (s:St) (f:AV→RO) (g:Bool) (d:Nat) (x:AV):b4Q c b s f g d x=obind (p1 (sem (.ldAn g d) c [x] b s)) f:=by
 unfold b4Q
 rw [a4t]
 cases x <;> try rfl
 · rename_i o i
   show a6c s f g d (.ptr o i)=_
   rw [b1f c b s]; rfl
 · rename_i cs
   show a5A f g d (.ro cs)=_
   rw [b0Q c b s]; rfl
noncomputable def b8Z (kd:Kind) (ra:RdA) (Q:KF→β):β:=match kd.alters with
 | true=>Q fun c env fr b s K=>ra env fr fun as=>obind (sem kd c as b s) fun p=>a1g p.1 fun r=>a1g p.2.1 fun b=>fL p.2.2 fun s=>K r b s
 | false=>match kd.setSt with
  | true=>Q fun c env fr b s K=>ra env fr fun as=>obind (p2 (sem kd c as b s)) fun p=>a1g p.1 fun r=>fL p.2 fun s=>K r b s
  | false=>Q fun c env fr b s K=>ra env fr fun as=>obind (p1 (sem kd c as b s)) fun x=>a1g x fun r=>K r b s
noncomputable def b4C (kd:Kind) (rs:List Rd) (Q:KF→β):β :=
 match kd,rs with
 | .mv,[x]=>Q fun c env fr b s K=>x env fr fun x=>K x b s
 | .bin .eql,[x,y]=>Q fun c env fr b s K=>x env fr fun x=>y env fr fun y=>b7M (fun r=>K r b s) x y
 | .bin .neq,[x,y]=>Q fun c env fr b s K=>x env fr fun x=>y env fr fun y=>b7P (fun r=>K r b s) x y
 | .bin .lss,[x,y]=>Q fun c env fr b s K=>x env fr fun x=>y env fr fun y=>a1h c b s (fun r=>K r b s) .lss Nat.blt x y
 | .bin .leq,[x,y]=>Q fun c env fr b s K=>x env fr fun x=>y env fr fun y=>a1h c b s (fun r=>K r b s) .leq Nat.ble x y
 | .bin .gtr,[x,y]=>Q fun c env fr b s K=>x env fr fun x=>y env fr fun y=>a1h c b s (fun r=>K r b s) .gtr (fun i j=>Nat.blt j i) x y
 | .bin .geq,[x,y]=>Q fun c env fr b s K=>x env fr fun x=>y env fr fun y=>a1h c b s (fun r=>K r b s) .geq (fun i j=>Nat.ble j i) x y
 | .bin .add,[x,y]=>Q fun c env fr b s K=>x env fr fun x=>y env fr fun y=>b9F c b s (fun r=>K r b s) x y
 | .bin .sub,[x,y]=>Q fun c env fr b s K=>x env fr fun x=>y env fr fun y=>b9q c b s (fun r=>K r b s) x y
 | .un .not,[x]=>Q fun c env fr b s K=>x env fr fun x=>b7K (fun r=>K r b s) x
 | .nilchk,[x]=>Q fun c env fr b s K=>x env fr fun x=>b7Z c b s (fun r=>K r b s) x
 | .lenS,[x]=>Q fun c env fr b s K=>x env fr fun x=>b4u (fun r=>K r b s) x
 | .lenL,[x]=>Q fun c env fr b s K=>x env fr fun x=>b34 c b s (fun r=>K r b s) x
 | .idxS,[x,y]=>Q fun c env fr b s K=>x env fr fun x=>y env fr fun y=>b8c (fun r=>K r b s) x y
 | .pick,[x,y,z]=>Q fun c env fr b s K=>x env fr fun x=>y env fr fun y=>z env fr fun z=>b4n (fun r=>K r b s) x y z
 | .fad d,[x]=>Q fun c env fr b s K=>x env fr fun x=>b8s (fun r=>K r b s) d x
 | .iad d,[x,y]=>Q fun c env fr b s K=>x env fr fun x=>y env fr fun y=>b9w c b s (fun r=>K r b s) d x y
 | .ldSt g d,[x]=>Q fun c env fr b s K=>x env fr fun x=>a6c s (fun r=>K r b s) g d x
 | .ldRo g d,[x]=>Q fun c env fr b s K=>x env fr fun x=>a5A (fun r=>K r b s) g d x
 | .ldAn g d,[x]=>Q fun c env fr b s K=>x env fr fun x=>b4Q c b s (fun r=>K r b s) g d x
 | .ldLc i g d,[x]=>Q fun c env fr b s K=>x env fr fun x=>b3X b (fun r=>K r b s) i g d x
 | .ext d,[x]=>Q fun c env fr b s K=>x env fr fun x=>b8o (fun r=>K r b s) d x
 | .slS true true,[x,y,z]=>Q fun c env fr b s K=>x env fr fun x=>y env fr fun y=>z env fr fun z=>b8l c b s (fun r=>K r b s) x y z
 | .app d e,[x,y]=>Q fun c env fr b s K=>x env fr fun x=>y env fr fun y=>b8Y b s (fun p=>K p.1 p.2.1 p.2.2) d e x y
 | .alloc d,[]=>Q fun c env fr b s K=>b0B b s (fun p=>K p.1 p.2.1 p.2.2) d
 | .stLc i d,[x,y]=>Q fun c env fr b s K=>x env fr fun x=>y env fr fun y=>b4j b s (fun p=>K p.1 p.2.1 p.2.2) i d x y
 | .stSt d,[x,y]=>Q fun c env fr b s K=>x env fr fun x=>y env fr fun y=>b4w s (fun p=>K p.1 b p.2) d x y
 | .call f,rs=>b8G rs fun ra=>Q fun c env fr b s K=>ra env fr fun as=>b0g c s (fun v s=>K v b s) f as
 | kd,rs=>b8G rs fun ra=>b8Z kd ra Q
theorem b53 {G:β→Prop} {kd:Kind} {rs:List Rd} {ra:RdA} {Q:KF→β} (hra:∀ env fr k,ra env fr k=a05 rs env fr k) (h:∀ kf,b71 kd rs kf→G (Q kf)):G (b8Z kd ra Q):=by
 unfold b8Z
 cases h2:kd.alters with
 | true=>exact h _ fun c env fr b s K=>by rw [hra]; simp only [fNew_eq,fL_eq]
 | false =>
  cases h1:kd.setSt with
  | true =>
   refine h _ fun c env fr b s K=>?_
   rw [hra]; simp only [fNew_eq,fL_eq]
   congr; funext as
   exact b1R h2 c as b s K
  | false =>
   refine h _ fun c env fr b s K=>?_
   rw [hra]; simp only [fNew_eq]
   congr; funext as
   exact p9 h1 h2 c as b s K
theorem Q6 (x:Rd) (env:List AV) (fr:Fr) (k:List AV→RO):a05 [x] env fr k=x env fr fun x=>k [x]:=rfl
theorem J9 (x y:Rd) (env:List AV) (fr:Fr) (k:List AV→RO):a05 [x,y] env fr k=x env fr fun x=>y env fr fun y=>k [x,y]:=rfl
theorem b7l (x y z:Rd) (env:List AV) (fr:Fr) (k:List AV→RO):a05 [x,y,z] env fr k=x env fr fun x=>y env fr fun y=>z env fr fun z=>k [x,y,z]:=rfl
theorem b4M {G:β→Prop} {kd:Kind} {rs:List Rd} {Q:KF→β} (h:∀ kf,b71 kd rs kf→G (Q kf)):G (b4C kd rs Q):=by
 unfold b4C
 split
 · exact h _ fun c env fr b s K=>rfl
 · exact h _ fun c env fr b s K=>by rw [J9]; congr; funext x; congr; funext y; rw [c2c c b s]; exact p9 rfl rfl ..
 · exact h _ fun c env fr b s K=>by rw [J9]; congr; funext x; congr; funext y; rw [c3a c b s]; exact p9 rfl rfl ..
 · exact h _ fun c env fr b s K=>by rw [J9]; congr; funext x; congr; funext y; rw [c6f c b s]; exact p9 rfl rfl ..
 · exact h _ fun c env fr b s K=>by rw [J9]; congr; funext x; congr; funext y; rw [c34 c b s]; exact p9 rfl rfl ..
 · exact h _ fun c env fr b s K=>by rw [J9]; congr; funext x; congr; funext y; rw [c4B c b s]; exact p9 rfl rfl ..
 · exact h _ fun c env fr b s K=>by rw [J9]; congr; funext x; congr; funext y; rw [c6k c b s]; exact p9 rfl rfl ..
 · exact h _ fun c env fr b s K=>by rw [J9]; congr; funext x; congr; funext y; rw [c3i c b s]; exact p9 rfl rfl ..
 · exact h _ fun c env fr b s K=>by rw [J9]; congr; funext x; congr; funext y; rw [c1M c b s]; exact p9 rfl rfl ..
 · exact h _ fun c env fr b s K=>by rw [Q6]; congr; funext x; rw [c2M c b s]; exact p9 rfl rfl ..
 · exact h _ fun c env fr b s K=>by rw [Q6]; congr; funext x; rw [c1Y c b s]; exact p9 rfl rfl ..
 · exact h _ fun c env fr b s K=>by rw [Q6]; congr; funext x; rw [b8M c b s]; exact p9 rfl rfl ..
 · exact h _ fun c env fr b s K=>by rw [Q6]; congr; funext x; rw [b9o c b s]; exact p9 rfl rfl ..
 · exact h _ fun c env fr b s K=>by rw [J9]; congr; funext x; congr; funext y; rw [c1S c b s]; exact p9 rfl rfl ..
 · exact h _ fun c env fr b s K=>by rw [b7l]; congr; funext x; congr; funext y; congr; funext z; rw [b72 c b s]; exact p9 rfl rfl ..
 · exact h _ fun c env fr b s K=>by rw [Q6]; congr; funext x; rw [c2B c b s]; exact p9 rfl rfl ..
 · exact h _ fun c env fr b s K=>by rw [J9]; congr; funext x; congr; funext y; rw [c2F c b s]; exact p9 rfl rfl ..
 · exact h _ fun c env fr b s K=>by rw [Q6]; congr; funext x; rw [b1f c b s]; exact p9 rfl rfl ..
 · exact h _ fun c env fr b s K=>by rw [Q6]; congr; funext x; rw [b0Q c b s]; exact p9 rfl rfl ..
 · exact h _ fun c env fr b s K=>by rw [Q6]; congr; funext x; rw [b8V c b s]; exact p9 rfl rfl ..
 · exact h _ fun c env fr b s K=>by rw [Q6]; congr; funext x; rw [b86 c b s]; exact p9 rfl rfl ..
 · exact h _ fun c env fr b s K=>by rw [Q6]; congr; funext x; rw [c1K c b s]; exact p9 rfl rfl ..
 · exact h _ fun c env fr b s K=>by rw [b7l]; congr; funext x; congr; funext y; congr; funext z; rw [c3p c b s]; exact p9 rfl rfl ..
 · exact h _ fun c env fr b s K=>by rw [J9]; congr; funext x; congr; funext y; exact c1w c b s ..
 · exact h _ fun c env fr b s K=>b7m c b s ..
 · exact h _ fun c env fr b s K=>by rw [J9]; congr; funext x; congr; funext y; exact b8e c b s ..
 · exact h _ fun c env fr b s K=>by rw [J9]; congr; funext x; congr; funext y; rw [b8K c b s]; exact b1R rfl ..
 · refine a26 fun ra hra=>h _ fun c env fr b s K=>?_
   rw [hra]
   congr; funext as
   show b0g c s (fun v s=>K v b s) _ as=_
   unfold b0g
   rw [a9c]
   simp only [sem,u9]
   split
   · rw [c2Q]
     cases c _ (as.map AV.weak) s <;> rfl
   · rfl
 · exact a26 fun ra hra=>b53 hra h
end
end Go.Cb.G
