import Derived.Test.YtbibkdncfclnbaaGreatDoorXAms2
import Derived.Laws.CopyRow
import Derived.Laws.Externs
import Derived.Test.YtbibkdncfclnbaaGreatDoorXAms1
set_option maxRecDepth 4000
set_option linter.unusedSimpArgs false
set_option linter.unusedVariables false
namespace Go.Cb
open Classical
section
variable {c:Cx} {g:Gh} {w:World} {pr:Nat→Option Pl} {bx:Nat→Nat} {σ:Sig} {a:Act} {o:Oper}
theorem c6a (fx:Fx c) (h:S c g w pr bx σ a) {t e:TypeId} {i:TypeInfo} {d:Dst} (ho:o.op=.buildSlice t 0 #[]) (hu:c.P.underlying t=some (.slice e)) (hi:c.P.info? e=some i) (hd:r6 c o.dst d=true)
 {next:Act→World→Prop} {Q:Exit→Act→World→Prop} (hnext:Post c g w a (d.put (.list true []) σ) next):o.wp c.P a w next Q:=by
 have hrun:(execOp a.eval o).run c.P w=.ok (.value (.slice (some (ad w.heap.size 0)) 0 0)) (w.alloc (.cells #[] e)):=by
  have e0:(Array.map (fun _:Nat=>(default:Value)) (Array.range 0))=#[]:=by apply Array.ext'; simp
  simp [execOp,ho,Instr.buildSlice,run_underlying hu,sizeOf,typeInfo,hi,Instr.fill,newRow,e0]
 unfold Oper.wp
 rw [hrun]
 refine hnext _ _ g pr bx (z6 _ _ _) (X6 fx (h.alloc _ _) hd (mine:=No) (r:=.list true []) ?_ fun _ x=>x.elim) (Tr.alloc _ h.st.cli _)
 refine (show ValOK g _ No (.list true []) _ from ⟨?_,fun _ _=>.inl ⟨_,_,rfl⟩,fun _ e=>(by cases e)⟩)
 simp only [Rel]
 exact ⟨_,0,0,rfl,rfl,AJ _,fun _=>rfl,fun h=>absurd rfl h⟩
theorem c77 (fx:Fx c) (h:S c g w pr bx σ a) {t t' e:TypeId} {x:Operand} {d:Dst} {ad0:Option Addr} {n cap:Nat} (ho:o.op=.binOp .eql t x (.const (.slice none 0 0)) t') (hu:c.P.underlying t=some (.slice e))
 (hx:a.eval x=.slice ad0 n cap) (hd:r6 c o.dst d=true) {next:Act→World→Prop} {Q:Exit→Act→World→Prop} (hnext:Post c g w a (d.put (.bool ad0.isNone) σ) next):o.wp c.P a w next Q:=by
 have hrun:(execOp a.eval o).run c.P w=.ok (.value (.bool ad0.isNone)) w:=by
  have hg:∀ v:Value,(eqGuard .eql t x (.const (.slice none 0 0)) (.slice ad0 n cap) (.slice none 0 0)).run c.P w=.ok () w:=fun _=>rfl
  have hy:a.eval (.const (.slice none 0 0))=.slice none 0 0:=rfl
  have heq:(Op.equal t (.slice ad0 n cap) (.slice none 0 0)).run c.P w=.ok ad0.isNone w:=by
   rw [Y5,Op.equalIn,Sem.run_bind,run_underlying hu,Result.andThen_ok]
   cases ad0 <;> rfl
  simp only [execOp,ho,hx,hy,hg (.bool true),binOp,Sem.run_bind,heq,Result.andThen_ok,Sem.run_pure]
 exact b4R fx h hd (r:=.bool ad0.isNone) hrun (show ValOK g w No (.bool ad0.isNone) (.bool ad0.isNone) from ValOK.mk' (by simp [Rel]) (by simp) (by simp)) hnext
def b1A (P:Program) (t sz bytes:Nat):Bool:=match P.underlying t with
 | some (.slice e)=>match P.info? e with
  | some ie=>ie.size == sz && ie.bytes == bytes && decide (0 < bytes) && (match ie.zero with|some z=>z.cells.size == sz|none=>false)
  | none=>false
 | _=>false
structure CloneShape (P:Program) (fn:Func) (t sz bytes:Nat) where
 i0:Nat
 i1:Nat
 i2:Nat
 i3:Nat
 o0:Oper
 o1:Oper
 o2:Oper
 o3:Oper
 o4:Oper
 o5:Oper
 o6:Oper
 o7:Oper
 ty:TypeId
 body:fn.body=some (.seq (.region i0 #[o0] false) (.seq (.seq (.region i1 #[o1,o2] false) (.cond (.tmp 4) (.seq (.region i2 #[o3] false) .ret) .skip)) (.seq (.region i3 #[o4,o5,o6,o7] false) .ret)))
 nt:fn.ntmps=8
 res:fn.results=#[.tmp 2]
 d0:o0.dst=some 2∧o0.op=.assign (.const (.slice none 0 0))∧o0.guard=none
 d1:o1.dst=some 3∧o1.op=.move (.tmp 0)∧o1.guard=none
 d2:o2.dst=some 4∧o2.op=.binOp .eql t (.tmp 3) (.const (.slice none 0 0)) ty∧o2.guard=none
 d3:o3.dst=some 2∧o3.op=.assign (.const (.slice none 0 0))∧o3.guard=none
 d4:o4.dst=some 5∧o4.op=.buildSlice t 0 #[]∧o4.guard=none
 d5:o5.dst=some 6∧o5.op=.move (.tmp 0)∧o5.guard=none
 d6:o6.dst=some 7∧o6.op=.call { callee:=.builtin .append,args:=#[.tmp 5,.tmp 6],argTypes:=#[t,t] }∧o6.guard=none
 d7:o7.dst=some 2∧o7.op=.assign (.tmp 7)∧o7.guard=none
 tb:b1A P t sz bytes=true
theorem b3u {P:Program} {t sz bytes:Nat} (h:b1A P t sz bytes=true):∃ e ie z,P.underlying t=some (.slice e)∧P.info? e=some ie∧ie.zero=some z∧ie.size=sz∧ie.bytes=bytes∧z.cells.size=sz∧0 < bytes:=by
 unfold b1A at h
 split at h
 case h_2=>cases h
 rename_i e hu
 split at h
 case h_2=>cases h
 rename_i ie hi
 simp only [AA,beq_iff_eq,decide_eq_true_eq] at h
 obtain ⟨⟨⟨h1,h2⟩,h3⟩,h4⟩:=h
 split at h4
 case h_2=>cases h4
 rename_i z hz
 exact ⟨e,ie,z,hu,hi,hz,h1,h2,by simpa using h4,h3⟩
theorem b1P {P:Program} {gt:List (Nat×List AV)} {f t sz bytes:Nat} {fn:Func} (hf:P.funcs[f]?=some fn) (C:CloneShape P fn t sz bytes):T1 P gt f (a0j sz bytes):=by
 intro args st res st' h hweak g w vs hst _ hrel
 obtain ⟨e,ie,z,tu,ti,tz,tsz,tby,tzs,tb1⟩:=b3u C.tb
 unfold a0j at h
 split at h
 case h_2=>cases h
 rename_i own xs
 split at h
 case isFalse=>cases h
 rename_i hcond
 simp only [AA,decide_eq_true_eq] at hcond
 obtain ⟨hrows,hbytes⟩:=hcond
 simp only [AC,AH] at h
 obtain ⟨rfl,rfl⟩:=h
 simp only [RelL] at hrel
 obtain ⟨v,_,rfl,hv,rfl⟩:=hrel
 have hvs:=hv
 simp only [Rel] at hvs
 obtain ⟨ad0,n,cap,rfl,rfl,hcap,hnil,hne⟩:=hvs
 let A:Nat→Prop:=fun b=>w.heap.size≤b∨g.sr b≠none
 let c:Cx:=⟨P,[0,2],[],8,[],A⟩
 have fx:Fx c:=⟨show ([0,2]:List Nat).Nodup by decide,show ∀ s∈([0,2]:List Nat),s < 8 by decide⟩
 have hown:own=false:=by
  have:=hweak (.list own xs) (by simp)
  simpa [AV.weak] using this.symm
 subst hown
 refine calls_of_wp hf C.body ?_
 have hS:S c g w (fun _=>none) (fun _=>0) ⟨[.list false xs,.undef],fun _=>.undef,st⟩ { tmps:=#[Value.slice ad0 xs.length cap]++Array.replicate (fn.ntmps - 1) undef,defers:=[] }:=by
  refine ⟨⟨by simp [c,C.nt],rfl,fun i s hs=>?_,fun s _=>ValOK.undef,fun b p hb=>(by cases hb),fun i cs hi=>?_⟩,hst,fun e he=>(by cases he),fun b hb=>.inl hb,fun b p hb=>.inr (by rw [hb]; simp)⟩
  · match i,hs with
    | 0,hs =>
     simp only [c,List.getElem?_cons_zero,AC] at hs
     subst hs
     have hval:ValOK g w (fun b=>(fun _=>none:Nat→Option Pl) b=some (.var 0)) (AV.list false xs).weak (.slice ad0 xs.length cap):=ValOK.of_weak hv
     have e0:(#[Value.slice ad0 xs.length cap]++Array.replicate (fn.ntmps - 1) undef).getD 0 undef=.slice ad0 xs.length cap:=by rw [C.nt]; rfl
     show VarOK g w (fun _=>none) (fun _=>0) 0 (.list false xs) ((#[Value.slice ad0 xs.length cap]++Array.replicate (fn.ntmps - 1) undef).getD 0 undef)
     rw [e0]
     exact hval
    | 1,hs=>exact VarOK.undef
    | i+2,hs=>simp [c] at hs
  · match i,hi with
    | 0,hi=>simp at hi
    | 1,hi=>simp at hi
    | i+2,hi=>simp at hi
 -- the end
 have fin:∀ (x:AV) (a':Act) (w':World) (g':Gh) (pr':Nat→Option Pl) (bx':Nat→Nat) (τ':Nat→AV),a'.defers=[]→S c g' w' pr' bx' ⟨[x,.list true xs],τ',st⟩ a'→Tr c.A g w g' w' →
  bodyPost P fn (CallPost g w st (.list true xs)) .ret a' w':=by
  intro x a' w' g' pr' bx' τ' hd hS' ht
  refine ⟨hd,?_⟩
  obtain ⟨us,hus,hul,hall⟩:=b16 (c:=c) hS' (rs:=fn.results.toList) (ks:=[.vs 1]) (vs:=[.list true xs]) (by rw [C.res]; rfl) rfl
  refine ⟨_,a4z hus,_,g',rfl,hS'.st,⟨ht.ext,ht.size,ht.env,fun b hb hs _=>ht.keep b hb hs fun hA=>?_⟩,?_⟩
  · rcases hA with hA|hA
    · omega
    · exact hA hs
  · match us,hul,hall with
    | [u],_,hall =>
     refine (hall 0 (.list true xs) u rfl rfl).mono (Ext.refl _ _) fun b hb=>⟨?_,rfl,fun _ x=>x⟩
     obtain ⟨p,hp⟩:=hb
     obtain ⟨q1,q2,q3⟩:=hS'.fr.prv b p hp
     exact ⟨q1,q2,q3⟩
 refine wp_seq (wp_region ?_)
 show wpOps P #[C.o0] _ [0] _ _
 rw [wpOps_cons]
 refine X5 rfl C.d0.2.2 (a4a (c:=c) fx hS (.inr C.d0.2.1) (p:=.c (.list true [])) (d:=.v 1) rfl (by rw [C.d0.1]; rfl) fun a1 w1 g1 pr1 bx1 hd1 hS1 ht1=>?_)
 show (Code.seq _ _).wp P _ a1 w1
 refine wp_seq (wp_seq (wp_region ?_))
 show wpOps P #[C.o1,C.o2] _ [0,1] _ _
 rw [wpOps_cons]
 refine X5 rfl C.d1.2.2 (a4a (c:=c) fx hS1 (.inl C.d1.2.1) (p:=.v 0) (d:=.t 3) rfl (by rw [C.d1.1]; rfl) fun a2 w2 g2 pr2 bx2 hd2 hS2 ht2=>?_)
 rw [wpOps_cons]
 have hA2:=R9 hS2 (x:=.tmp 3) (p:=.t 3) rfl
 have hr2:Rel g2 w2 (.list false xs) (a2.eval (.tmp 3)):=ValOK.rel hA2
 have hr2':=hr2
 simp only [Rel] at hr2'
 obtain ⟨ad2,n2,cap2,hev2,hn2,hcap2,hnil2,hne2⟩:=hr2'
 refine X5 rfl C.d2.2.2 (c77 (c:=c) fx hS2 C.d2.2.1 tu hev2 (d:=.t 4) (by rw [C.d2.1]; rfl) fun a3 w3 g3 pr3 bx3 hd3 hS3 ht3=>?_)
 show (Code.cond _ _ _).wp P _ a3 w3
 have ht03:=(ht1.trans ht2).trans ht3
 have hd03:a3.defers=[]:=hd3.trans (hd2.trans hd1)
 have hb:=a2o hS3 (x:=.tmp 4) (y:=.t 4) rfl (b:=ad2.isNone) rfl
 refine wp_cond hb ?_
 cases ad2 with
 | none =>
  have hx0:xs=[]:=by
   have:=hnil2 rfl
   exact List.eq_nil_of_length_eq_zero (by omega)
  refine wp_seq (wp_region ?_)
  show wpOps P #[C.o3] _ [0] _ _
  rw [wpOps_cons]
  refine X5 rfl C.d3.2.2 (a4a (c:=c) fx hS3 (.inr C.d3.2.1) (p:=.c (.list true [])) (d:=.v 1) rfl (by rw [C.d3.1]; rfl) fun a4 w4 g4 pr4 bx4 hd4 hS4 ht4=>?_)
  show Code.ret.wp P _ a4 w4
  refine wp_ret ?_
  show bodyPost P fn _ .ret a4 w4
  subst hx0
  exact fin _ a4 w4 g4 pr4 bx4 _ (hd4.trans hd03) hS4 (ht03.trans ht4)
 | some ad3 =>
  refine wp_skip ?_
  show (Code.seq _ _).wp P _ a3 w3
  refine wp_seq (wp_region ?_)
  show wpOps P #[C.o4,C.o5,C.o6,C.o7] _ [0,1,2,3] _ _
  rw [wpOps_cons]
  refine X5 rfl C.d4.2.2 (c6a (c:=c) fx hS3 C.d4.2.1 tu ti (d:=.t 5) (by rw [C.d4.1]; rfl) fun a4 w4 g4 pr4 bx4 hd4 hS4 ht4=>?_)
  rw [wpOps_cons]
  refine X5 rfl C.d5.2.2 (a4a (c:=c) fx hS4 (.inl C.d5.2.1) (p:=.v 0) (d:=.t 6) rfl (by rw [C.d5.1]; rfl) fun a5 w5 g5 pr5 bx5 hd5 hS5 ht5=>?_)
  rw [wpOps_cons]
  refine X5 rfl C.d6.2.2 (b8C (c:=c) fx hS5 C.d6.2.1 rfl tu ti tz tsz tby tzs tb1 (p0:=.ts 5) (p1:=.t 6) (d:=.t 7) rfl rfl (by rw [C.d6.1]; rfl) (by rw [C.d6.1]; rfl) (xs:=[]) (ys:=xs) (own:=false) rfl rfl rfl hrows (by simpa using hbytes) fun a6 w6 g6 pr6 bx6 hd6 hS6 ht6=>?_)
  rw [wpOps_cons]
  refine X5 rfl C.d7.2.2 (a4a (c:=c) fx hS6 (.inr C.d7.2.1) (p:=.ts 7) (d:=.v 1) rfl (by rw [C.d7.1]; rfl) fun a7 w7 g7 pr7 bx7 hd7 hS7 ht7=>?_)
  show Code.ret.wp P _ a7 w7
  refine wp_ret ?_
  show bodyPost P fn _ .ret a7 w7
  exact fin _ a7 w7 g7 pr7 bx7 _ (hd7.trans (hd6.trans (hd5.trans (hd4.trans hd03)))) hS7 ((((ht03.trans ht4).trans ht5).trans ht6).trans ht7)
end
end Go.Cb
set_option maxRecDepth 4000
set_option linter.unusedVariables false
namespace Go.Cb
open Classical
def a0P (sz bytes:Nat):List AV→St→Option (AV×St)
 | [.nils],st=>some (.nils,st)
 | [.sl o f n s],st=>match st[o]? with
  | some (.cells cs)=>if s=sz∧f+n*sz≤cs.length∧n*bytes≤70368744177664 then some (.sl st.length 0 n sz,st++[.cells (((cs.drop f).take (n*sz)).map AV.weak1)]) else none
  | _=>none
 | _,_=>none
def M2 (sz i:Nat) (cs row:List AV):List AV:=(cs.take (i*sz)++row++cs.drop (i*sz)).map AV.weak1
def U3 (sz bytes:Nat):List AV→St→Option (AV×St)
 | [.nils,.int .i64 i,.list _ [row]],st=>if i=0∧row.length=sz then some (.sl st.length 0 1 sz,st++[.cells (M2 sz 0 [] row)]) else none
 | [.sl o 0 n s,.int .i64 i,.list _ [row]],st=>match st[o]? with
  | some (.cells cs)=>if s=sz∧0≤i∧i≤n∧cs.length=n*sz∧row.length=sz∧(n+1)*bytes≤70368744177664 then some (.sl st.length 0 (n+1) sz,st.set o .dead++[.cells (M2 sz i.toNat cs row)]) else none
  | _=>none
 | _,_=>none
def a2l (sz i:Nat) (cs:List AV):List AV:=(cs.take (i*sz)++cs.drop ((i+1)*sz)).map AV.weak1
def b4G (sz bytes:Nat):List AV→St→Option (AV×St)
 | [.sl o 0 n s,.int .i64 i,.int .i64 j],st=>match st[o]? with
  | some (.cells cs)=>if s=sz∧0≤i∧i < n∧j=i+1∧cs.length=n*sz∧n*bytes≤70368744177664 then some (.sl st.length 0 (n - 1) sz,st.set o .dead++[.cells (a2l sz i.toNat cs)]) else none
  | _=>none
 | _,_=>none
end Go.Cb
set_option maxRecDepth 4000
set_option linter.unusedVariables false
set_option linter.unusedSimpArgs false
namespace Go.Cb
open Classical
theorem S9 {P:Program} (w:World) (dT sT ty elem:TypeId) (sz g o dLen dCap:Nat) (a:Addr) (sLen sCap:Nat) (cur:Array Value) (t:TypeId) (cs:List Value)
 (hu:P.underlying dT=some (.slice elem)) (hs:(P.info? elem).map (·.size)=some sz)
 (hg:w.heap[g]?=some (.cells cur t (0,0))) (hn:cs.length=Nat.min sLen dLen*sz)
 (hsrc:∀ j v,cs[j]?=some v→w.cell? (a.add j)=some v) (hfit:o+cs.length≤cur.size) (h1:∀ v∈cs,v.oneCell'=true) :
 (Builtin.copy_ #[dT,sT] ty #[.slice (some ⟨g,o,none⟩) dLen dCap,.slice (some a) sLen sCap]).run P w =
  .ok (goInt (Nat.min sLen dLen)) (w.setRow g (cur.toList.take o++cs++cur.toList.drop (o+cs.length)).toArray):=by
 have hl:=run_loadCells_list (P:=P) w a cs hsrc
 have hst:=run_storeCells_at P g o t cs 0 cur w hg (by simpa using hfit) h1
 cases hq:P.info? elem with
 | none=>simp [hq] at hs
 | some i =>
  have hi:i.size=sz:=by simpa [hq] using hs
  simp [Builtin.copy_,run_underlying hu,Builtin.lenOf,Builtin.firstCells,sizeOf,typeInfo,hq,hi,← hn,hl,hst]
theorem a3n {P:Program} (w:World) (tS tR e:TypeId) (ht:P.underlying tS=some (.slice e)) (size:Nat) (hz:∀ w,(Go.sizeOf e).run P w=.ok size w)
 (a b:Addr) (la ca lb cb:Nat) (hne:a.block≠b.block) {arrA arrB:Array Value} {TA TB:TypeId} {zA:Nat×Nat}
 (hA:w.heap[a.block]?=some (.cells arrA TA zA)) (hB:w.heap[b.block]?=some (.cells arrB TB (0,0))) (hkA:arrA.size≠0) (hkB:arrB.size≠0) :
 (Extern.SlicesOverlaps.overlaps #[tS,tS] #[tR] #[.slice (some a) la ca,.slice (some b) lb cb]).run P w=.ok (.bool false) w:=by
 have hnb:(a.block != b.block)=true:=by simpa using hne
 have hnb':(a.block == b.block)=false:=by simpa using hne
 have hsa:w.shape? a.block=some (TA,arrA.size):=by simp [World.shape?,hA]
 have hsb:w.shape? b.block=some (TB,arrB.size):=by simp [World.shape?,hB]
 have hfb:∀ x:Addr,x.block=b.block→w.frozen? x=false:=fun x hx=>by simp [World.frozen?,hx,hB]
 have hf1:=hfb b rfl
 have hf2:=hfb { block:=b.block,off:=arrB.size } rfl
 delta Extern.SlicesOverlaps.overlaps
 dsimp only
 delta Extern.SlicesOverlaps.overlaps.match_4
 dsimp only [Array.size,List.length]
 simp only [dif_pos,Nat.reduceAdd,Nat.zero_add]
 dsimp only [Array.getLit,getElem,Array.getInternal,List.get]
 by_cases h0:la=0∨lb=0∨size=0
 · simp [run_underlying ht,hz,h0]
 · cases hn:arrB.size with
   | zero=>exact absurd hn hkB
   | succ kB =>
    rw [hn] at hsb hf2
    cases hm:arrA.size with
    | zero=>exact absurd hm hkA
    | succ kA =>
    rw [hm] at hsa
    cases hfa:w.frozen? a with
    | true=>simp [run_underlying ht,hz,h0,hnb,hnb',frozen,noView,viewAt,mayBeOne,stringish,shape,Sem.run,hsa,hsb,hfa,hf1,hf2]
    | false =>
     cases hfe:w.frozen? { block:=a.block,off:=kA+1 } <;>
     simp [run_underlying ht,hz,h0,hnb,hnb',frozen,noView,viewAt,mayBeOne,stringish,shape,Sem.run,hsa,hsb,hfa,hf1,hf2,hfe]
end Go.Cb
set_option maxRecDepth 4000
set_option linter.unusedVariables false
namespace Go.Cb
open Classical
def gh0 (W:World):Gh:={ n:=0,m:=fun _=>0,cl:=fun b _=>b < W.heap.size,sr:=fun _=>none,cp:=fun _=>0 }
theorem d25 (W:World):SRel (gh0 W) W []:=⟨rfl,fun o ob h=>by simp at h,fun b p h=>(by cases h),fun b f h=>h⟩
structure Kept (W W':World):Prop where
 kept:W.keptBut W' (fun _=>False)
 fz:∀ a:Addr,a.block < W.heap.size→W'.frozen? a=W.frozen? a
 size:W.heap.size≤W'.heap.size
 old:∀ b,b < W.heap.size→W'.heap[b]?=W.heap[b]?
theorem c7V {P:Program} {gt:List (Nat×List AV)} {tbl:Nat→Option AFn} (hP:ProgOK P gt tbl) {n f:Nat} {args:List AV} {b:Bool} {st':St} (h:k7 tbl n f args []=some (.bool b,st')) (hw:∀ x∈args,x.weak=x)
 {W:World} {vs:List Value} (hg:Globs gt (gh0 W) W) (hr:RelL (gh0 W) W args vs):Calls P f vs.toArray W (fun e W'=>e=.returned (.bool b)∧Kept W W'):=by
 refine ((c0S hP n f args [] _ _ h hw).2 (gh0 W) W vs (d25 W) hg hr).mono fun e W' he=>?_
 obtain ⟨v,g',rfl,_,ht,hv⟩:=he
 have hv:=hv.rel
 simp only [Rel] at hv
 subst hv
 have hold:∀ b,b < W.heap.size→W'.heap[b]?=W.heap[b]?:=fun b hb=>(ht.keep b hb rfl fun x=>x).1.1
 refine ⟨rfl,⟨ht.env.os,ht.env.out,fun i hi=>?_⟩,ht.env.fz,ht.size,hold⟩
 rw [hold i hi]
 cases hq:W.heap[i]? with
 | none=>simp
 | some o=>cases o <;> simp
end Go.Cb
set_option maxRecDepth 4000
set_option linter.unusedSimpArgs false
set_option linter.unusedVariables false
namespace Go.Cb
open Classical
theorem b9 {α:Sort _} {a b:α} (h:a=b):a=b:=by
 cases h
 rfl
def obind {α β:Type} (x:Option α) (f:α→Option β):Option β:=match x with
 | some a=>f a
 | none=>none
theorem n5 {α β:Type} (a:α) (f:α→Option β):obind (some a) f=f a:=b9 rfl
theorem i7 {α β:Type} {x x':Option α} {f:α→Option β} (h:x=x'):obind x f=obind x' f:=by rw [h]
def p1 (x:Option (AV×AV×St)):Option AV:=match x with
 | some (r,_,_)=>some r
 | none=>none
theorem b4w (r b:AV) (st:St):p1 (some (r,b,st))=some r:=b9 rfl
def p2 (x:Option (AV×AV×St)):Option (AV×St):=match x with
 | some (r,_,st)=>some (r,st)
 | none=>none
theorem a1W (r b:AV) (st:St):p2 (some (r,b,st))=some (r,st):=b9 rfl
def gv (x:AV) (want:Bool) (e:Option AV):Option AV:=match x with
 | .bool b=>if b == want then e else some (.tuple [])
 | .tuple []=>some (.tuple [])
 | _=>none
def gv2 (x:AV) (want:Bool) (st:St) (e:Option (AV×St)):Option (AV×St):=match x with
 | .bool b=>if b == want then e else some (.tuple [],st)
 | .tuple []=>some (.tuple [],st)
 | _=>none
theorem a8E (want:Bool) (e:Option AV):gv (.tuple []) want e=some (.tuple []):=b9 rfl
theorem c2F (e:Option AV):gv (.bool true) true e=e:=b9 rfl
theorem c2i (e:Option AV):gv (.bool true) false e=some (.tuple []):=b9 rfl
theorem c1D (e:Option AV):gv (.bool false) false e=e:=b9 rfl
theorem c3a (e:Option AV):gv (.bool false) true e=some (.tuple []):=b9 rfl
theorem b6J (st:St) (e:Option (AV×St)):gv2 (.bool true) true st e=e:=b9 rfl
theorem b7g (st:St) (e:Option (AV×St)):gv2 (.bool true) false st e=some (.tuple [],st):=b9 rfl
theorem b8g (st:St) (e:Option (AV×St)):gv2 (.bool false) false st e=e:=b9 rfl
theorem b8N (st:St) (e:Option (AV×St)):gv2 (.bool false) true st e=some (.tuple [],st):=b9 rfl
theorem b05 (want:Bool) (st:St) (e:Option (AV×St)):gv2 (.tuple []) want st e=some (.tuple [],st):=b9 rfl
theorem j2 {x:AV} {want:Bool} {st:St} {e:Option (AV×St)} {x':AV} (h:x=x'):gv2 x want st e=gv2 x' want st e:=by rw [h]
def g9 (xs:List Opd):Bool:=xs.any Opd.steals
theorem T5:∀ {xs:List Opd} {σ:Sig},g9 xs=false→d9 xs σ=σ
 | [],_,_=>rfl
 | x::xs,σ,h=>by
  simp only [g9,List.any_cons,Bool.or_eq_false_iff] at h
  have e:x.spend σ=σ:=by cases x <;> simp_all [Opd.spend,Opd.steals]
  rw [d9,e]
  exact T5 (xs:=xs) h.2
def goK (call:d8) {α:Type} (o:AOper) (σ:Sig) (k:Sig→Option α):Option α :=
 match o.kind.setSt || o.kind.alters || g9 o.args with
 | false=>obind (p1 (sem o.kind call (o.args.map (·.read σ)) (boxOf' o.box σ) σ.st)) fun r=>k (o.dst.put r σ)
 | true=>match o.kind.alters || g9 o.args with
  | false=>obind (p2 (sem o.kind call (o.args.map (·.read σ)) (boxOf' o.box σ) σ.st)) fun r=>k (o.dst.put r.1 { σ with st:=r.2 })
  | true=>obind (sem o.kind call (o.args.map (·.read σ)) (boxOf' o.box σ) σ.st) fun r =>
   let σ:=d9 o.args σ
   match o.box with
   | some i=>k (o.dst.put r.1 { σ with fr:=σ.fr.set i r.2.1,st:=r.2.2 })
   | none=>k (o.dst.put r.1 { σ with st:=r.2.2 })
where boxOf' (b:Option Nat) (σ:Sig):AV:=match b with|some i=>σ.fr.getD i .undef|none=>.undef
def a4v (call:d8) {α:Type} (o:AOper) (σ:Sig) (k:Sig→Option α):Option α :=
 match o.guard with
 | none=>goK call o σ k
 | some (x,want)=>match o.kind.setSt || o.kind.alters || g9 o.args with
  | false=>obind (gv (x.read σ) want (p1 (sem o.kind call (o.args.map (·.read σ)) (goK.boxOf' o.box σ) σ.st))) fun r=>k (o.dst.put r σ)
  | true=>match o.kind.alters || g9 o.args with
   | false=>obind (gv2 (x.read σ) want σ.st (p2 (sem o.kind call (o.args.map (·.read σ)) (goK.boxOf' o.box σ) σ.st))) fun r=>k (o.dst.put r.1 { σ with st:=r.2 })
   | true=>match x.read σ with
    | .bool b=>if b == want then goK call o σ k else k (o.dst.put (.tuple []) σ)
    | .tuple []=>k (o.dst.put (.tuple []) σ)
    | _=>none
def a8x (call:d8) {α:Type}:List AOper→Sig→(Sig→Option α)→Option α
 | [],σ,k=>k σ
 | o::os,σ,k=>a4v call o σ fun σ=>a8x call os σ k
theorem a3F (fr:List AV) (i:Nat):fr.set i (fr.getD i .undef)=fr:=by
 apply List.ext_getElem?
 intro j
 rw [List.getElem?_set]
 by_cases e:i=j
 · subst e
   rw [if_pos rfl]
   split
   · rename_i h; simp [h]
   · rename_i h; rw [List.getElem?_eq_none (by omega)]
 · rw [if_neg e]
theorem a7M {call:d8} {α:Type} {o:AOper} {σ:Sig} {k:Sig→Option α}:goK call o σ k=obind (E8 call o σ) k:=by
 have hb:goK.boxOf' o.box σ=(match o.box with|some i=>σ.fr.getD i .undef|none=>.undef):=rfl
 unfold goK
 rw [P3,hb]
 split
 · rename_i hp
   simp only [Bool.or_eq_false_iff] at hp
   obtain ⟨⟨h1,h2⟩,h3⟩:=hp
   cases hs:sem o.kind call (o.args.map (·.read σ)) (match o.box with|some i=>σ.fr.getD i .undef|none=>.undef) σ.st with
   | none=>rfl
   | some x =>
    obtain ⟨r,b',st'⟩:=x
    have e1:=a3C h1 hs
    have e2:=a2j h2 hs
    subst e1
    simp only [p1,n5,T5 h3]
    cases hbx:o.box with
    | none=>rfl
    | some i =>
     simp only [hbx] at e2
     rw [e2]
     simp only [a3F,n5]
 · rename_i hp
   split
   · rename_i hq
     simp only [Bool.or_eq_false_iff] at hq
     obtain ⟨h2,h3⟩:=hq
     cases hs:sem o.kind call (o.args.map (·.read σ)) (match o.box with|some i=>σ.fr.getD i .undef|none=>.undef) σ.st with
     | none=>rfl
     | some x =>
      obtain ⟨r,b',st'⟩:=x
      have e2:=a2j h2 hs
      simp only [p2,n5,T5 h3]
      cases hbx:o.box with
      | none=>rfl
      | some i =>
       simp only [hbx] at e2
       rw [e2]
       simp only [a3F,n5]
   · cases hs:sem o.kind call (o.args.map (·.read σ)) (match o.box with|some i=>σ.fr.getD i .undef|none=>.undef) σ.st with
     | none=>rfl
     | some x =>
      obtain ⟨r,b',st'⟩:=x
      simp only [n5]
      cases hbx:o.box with
      | none=>rfl
      | some i=>rfl
theorem c3U {α:Type} {x:AV} {want:Bool} {e:Option AV} {f:AV→Option α}:obind (gv x want e) f =
 (match x with|.bool b=>if b == want then obind e f else f (.tuple [])|.tuple []=>f (.tuple [])|_=>none):=by
 unfold gv
 split
 · split <;> rfl
 · rfl
 · rfl
theorem c1i {α:Type} {x:AV} {want:Bool} {st:St} {e:Option (AV×St)} {f:AV×St→Option α}:obind (gv2 x want st e) f =
 (match x with|.bool b=>if b == want then obind e f else f (.tuple [],st)|.tuple []=>f (.tuple [],st)|_=>none):=by
 unfold gv2
 split
 · split <;> rfl
 · rfl
 · rfl
theorem a2I {call:d8} {α:Type} {o:AOper} {σ:Sig} {k:Sig→Option α}:a4v call o σ k=obind (j4 call o σ) k:=by
 unfold a4v j4
 cases hg:o.guard with
 | none=>exact a7M
 | some xw =>
  obtain ⟨x,want⟩:=xw
  simp only
  split
  · rename_i hp
    have hgo:obind (p1 (sem o.kind call (o.args.map (·.read σ)) (goK.boxOf' o.box σ) σ.st)) (fun r=>k (o.dst.put r σ))=obind (E8 call o σ) k:=by
     have:=a7M (call:=call) (o:=o) (σ:=σ) (k:=k)
     unfold goK at this
     rw [hp] at this
     exact this
    rw [c3U]
    cases hx:x.read σ <;> try rfl
    · dsimp only
      split
      · exact hgo
      · rfl
    · rename_i vs
      cases vs <;> rfl
  · rename_i hp
    split
    · rename_i hq
      have hgo:obind (p2 (sem o.kind call (o.args.map (·.read σ)) (goK.boxOf' o.box σ) σ.st)) (fun r=>k (o.dst.put r.1 { σ with st:=r.2 }))=obind (E8 call o σ) k:=by
       have:=a7M (call:=call) (o:=o) (σ:=σ) (k:=k)
       unfold goK at this
       rw [hp,hq] at this
       exact this
      rw [c1i]
      cases hx:x.read σ <;> try rfl
      · dsimp only
        split
        · exact hgo
        · rfl
      · rename_i vs
        cases vs <;> rfl
    · cases hx:x.read σ <;> try rfl
      · dsimp only
        split
        · exact a7M
        · rfl
      · rename_i vs
        cases vs <;> rfl
theorem Z3 {call:d8} {α:Type} {k:Sig→Option α}:∀ {ops:List AOper} {σ:Sig},a8x call ops σ k=obind (l7 call ops σ) k
 | [],σ=>rfl
 | o::os,σ=>by
  simp only [a8x,l7,a2I]
  cases hs:j4 call o σ with
  | none=>rfl
  | some σ1=>exact Z3
def br (c:AV) (a b:Option Out):Option Out:=match c with
 | .bool true=>a
 | .bool false=>b
 | _=>none
theorem c0g (call:d8) (n:Nat) (kill:List Nat) (ps:List AOper) (fr:List AV) (st:St) :
 i6 call n (.reg kill ps) fr st=a8x call ps ⟨j8 kill fr,fun _=>.undef,st⟩ fun σ=>some (.normal,σ.fr,σ.st):=by
 rw [Z3]
 simp only [i6,fL_eq]
 cases l7 call ps ⟨j8 kill fr,fun _=>.undef,st⟩ <;> rfl
theorem a3q (call:d8) (n:Nat) (kill:List Nat) (ps:List AOper) (c:Opd) (a b:ACode) (fr:List AV) (st:St) :
 i6 call n (.test kill ps c a b) fr st=a8x call ps ⟨j8 kill fr,fun _=>.undef,st⟩ fun σ=>br (c.read σ) (i6 call n a σ.fr σ.st) (i6 call n b σ.fr σ.st):=by
 rw [Z3]
 simp only [i6,fL_eq]
 cases l7 call ps ⟨j8 kill fr,fun _=>.undef,st⟩ with
 | none=>rfl
 | some σ =>
  simp only [n5]
  generalize c.read σ=y
  cases y <;> rfl
def c1y (i:Nat) (x:AV):AV:=match x with
 | .box _=>.loc i 0
 | _=>.undef
def seqK (x:Option Out) (f:List AV→St→Option Out):Option Out:=match x with
 | some (.normal,fr,st)=>f fr st
 | r=>r
theorem a1M (fr:List AV) (st:St) (f:List AV→St→Option Out):seqK (some (.normal,fr,st)) f=f fr st:=b9 rfl
theorem a9a (id:Nat) (fr:List AV) (st:St) (f:List AV→St→Option Out):seqK (some (.exit id,fr,st)) f=some (.exit id,fr,st):=b9 rfl
theorem b2Q (fr:List AV) (st:St) (f:List AV→St→Option Out):seqK (some (.ret,fr,st)) f=some (.ret,fr,st):=b9 rfl
theorem j0 {x x':Option Out} {f:List AV→St→Option Out} (h:x=x'):seqK x f=seqK x' f:=by rw [h]
theorem exec_seqK (call:d8) (n:Nat) (a b:ACode) (fr:List AV) (st:St):i6 call n (.seq a b) fr st=seqK (i6 call n a fr st) (i6 call n b):=by
 simp only [i6,seqK]
 split <;> rename_i h <;> simp only [h]
def finK (rs:List ResK) (x:Option Out):Option (AV×St):=match x with
 | some (.exit _,_,_)=>none
 | some (_,fr,st)=>match D9 rs fr with
  | some [v]=>some (v,st)
  | some vs=>some (.tuple vs,st)
  | none=>none
 | none=>none
theorem a06 (fn:AFn) (call:d8) (n:Nat) (args:List AV) (st:St) (h:args.length=fn.np) :
 fn.run call n args st=finK fn.results (i6 call n fn.code (args++List.replicate (fn.nv - fn.np) .undef) st):=by
 unfold AFn.run finK
 rw [if_pos h]
 cases i6 call n fn.code (args++List.replicate (fn.nv - fn.np) .undef) st with
 | none=>rfl
 | some x =>
  obtain ⟨e,fr,st'⟩:=x
  cases e <;> dsimp only <;> cases D9 fn.results fr with
  | none=>rfl
  | some vs =>
   match vs with
   | []=>rfl
   | [v]=>rfl
   | _::_::_=>rfl
theorem b2c (call:d8) (n:Nat) (fr:List AV) (st:St):i6 call n .ret fr st=some (.ret,fr,st):=by simp only [i6]
theorem a9d (call:d8) (n id:Nat) (fr:List AV) (st:St):i6 call n (.exit id) fr st=some (.exit id,fr,st):=by simp only [i6]
theorem a8X (call:d8) (n:Nat) (fr:List AV) (st:St):i6 call n .skip fr st=some (.normal,fr,st):=by simp only [i6]
end Go.Cb
set_option maxRecDepth 4000
set_option linter.unusedSimpArgs false
set_option linter.unusedVariables false
namespace Go.Cb
open Classical
def W7 (c c':d8):Prop:=∀ f as st r,c f as st=some r→c' f as st=some r
theorem c5J {c c':d8} (h:W7 c c') {k:Kind} {as:List AV} {b:AV} {st:St} {r:AV×AV×St} (hs:sem k c as b st=some r):sem k c' as b st=some r:=by
 cases k
 case call f =>
  simp only [sem,t8] at hs ⊢
  split at hs
  · rename_i hp
    rw [if_pos hp]
    obtain ⟨x,hx,rfl⟩:=AK.1 hs
    rw [h _ _ _ _ hx]
    rfl
  · cases hs
 case callA f m =>
  simp only [sem,C7] at hs ⊢
  cases hc:t8 f c (as.take m) b st with
  | none=>rw [hc] at hs; cases hs
  | some x =>
   rw [hc] at hs
   have:t8 f c' (as.take m) b st=some x:=by
    unfold t8 at hc ⊢
    split at hc
    · rename_i hp
      rw [if_pos hp]
      obtain ⟨y,hy,rfl⟩:=AK.1 hc
      rw [h _ _ _ _ hy]
      rfl
    · cases hc
   rw [this]
   exact hs
 case callV =>
  simp only [sem] at hs ⊢
  unfold L0 at hs ⊢
  split at hs
  · split at hs
    · rename_i hp
      simp only [if_pos hp]
      obtain ⟨x,hx,rfl⟩:=AK.1 hs
      rw [h _ _ _ _ hx]
      rfl
    · cases hs
  · cases hs
 all_goals exact hs
theorem b4O {c c':d8} (h:W7 c c') {o:AOper} {σ σ':Sig} (hs:E8 c o σ=some σ'):E8 c' o σ=some σ':=by
 obtain ⟨r,b',st',h1,rfl⟩:=l9 hs
 exact a2q (c5J h h1)
theorem b8a {c c':d8} (h:W7 c c') {o:AOper} {σ σ':Sig} (hs:j4 c o σ=some σ'):j4 c' o σ=some σ':=by
 unfold j4 at hs ⊢
 split at hs
 · exact b4O h hs
 · split at hs
   · split at hs
     · rename_i hc; rw [if_pos hc]; exact b4O h hs
     · rename_i hc; rw [if_neg hc]; exact hs
   · exact hs
   · cases hs
theorem a3U {c c':d8} (h:W7 c c'):∀ {os:List AOper} {σ σ':Sig},l7 c os σ=some σ'→l7 c' os σ=some σ'
 | [],_,_,hs=>hs
 | o::os,σ,σ',hs=>by
  simp only [l7] at hs ⊢
  cases hq:j4 c o σ with
  | none=>simp [hq] at hs
  | some σ1 =>
   simp only [hq] at hs
   simp only [b8a h hq]
   exact a3U h hs
theorem a4h {body body':List AV→St→Option Out} (h:∀ fr st r,body fr st=some r→body' fr st=some r):∀ {n m:Nat} {fr:List AV} {st:St} {r:Out},n≤m→P5 body n fr st=some r→P5 body' m fr st=some r
 | 0,_,_,_,_,_,hs=>by simp [P5] at hs
 | n+1,0,_,_,_,hle,_=>by omega
 | n+1,m+1,fr,st,r,hle,hs=>by
  simp only [P5] at hs ⊢
  cases hq:body fr st with
  | none=>simp [hq] at hs
  | some o =>
   rw [hq] at hs
   rw [h _ _ _ hq]
   obtain ⟨e,fr1,st1⟩:=o
   cases e with
   | normal=>exact a4h h (by omega) hs
   | exit id=>exact hs
   | ret=>exact hs
theorem E4 {c c':d8} (h:W7 c c') {n m:Nat} (hle:n≤m):∀ {x:ACode} {fr:List AV} {st:St} {r:Out},i6 c n x fr st=some r→i6 c' m x fr st=some r
 | .skip,_,_,_,hs=>hs
 | .exit _,_,_,_,hs=>hs
 | .ret,_,_,_,hs=>hs
 | .reg kill ops,fr,st,r,hs=>by
  simp only [i6] at hs ⊢
  cases hq:l7 c ops ⟨j8 kill fr,fun _=>.undef,st⟩ with
  | none=>simp [hq] at hs
  | some σ=>rw [hq] at hs; rw [a3U h hq]; exact hs
 | .test kill ops x a b,fr,st,r,hs=>by
  rw [a3q] at hs ⊢
  rw [Z3] at hs ⊢
  cases hq:l7 c ops ⟨j8 kill fr,fun _=>.undef,st⟩ with
  | none=>rw [hq] at hs; cases hs
  | some σ =>
   rw [hq] at hs
   rw [a3U h hq]
   rw [n5] at hs ⊢
   unfold br at hs ⊢
   split at hs
   · exact E4 h hle hs
   · exact E4 h hle hs
   · cases hs
 | .either kill a b,fr,st,r,hs=>by
  simp only [i6] at hs ⊢
  obtain ⟨oa,ob,ea,eb,ka,kb⟩:=a2M hs
  rw [E4 h hle ea,E4 h hle eb,a0M (ka.trans kb.symm),ka]
 | .seq a b,fr,st,r,hs=>by
  rw [exec_seqK] at hs ⊢
  cases hq:i6 c n a fr st with
  | none=>rw [hq] at hs; cases hs
  | some o =>
   rw [hq] at hs
   rw [E4 h hle hq]
   obtain ⟨e,fr1,st1⟩:=o
   cases e with
   | normal=>exact E4 h hle hs
   | exit id=>exact hs
   | ret=>exact hs
 | .blk id a,fr,st,r,hs=>by
  simp only [i6] at hs ⊢
  cases hq:i6 c n a fr st with
  | none=>rw [hq] at hs; cases hs
  | some o=>rw [hq] at hs; rw [E4 h hle hq]; exact hs
 | .loop a,fr,st,r,hs=>by
  simp only [i6] at hs ⊢
  exact a4h (fun _ _ _ hb=>E4 h hle hb) hle hs
theorem b1g {c c':d8} (h:W7 c c') {n m:Nat} (hle:n≤m) {fn:AFn} {args:List AV} {st:St} {r:AV×St} (hs:fn.run c n args st=some r):fn.run c' m args st=some r:=by
 have hl:args.length=fn.np:=by
  unfold AFn.run at hs
  split at hs
  · assumption
  · cases hs
 rw [a06 _ _ _ _ _ hl] at hs ⊢
 cases hq:i6 c n fn.code (args++List.replicate (fn.nv - fn.np) .undef) st with
 | none=>rw [hq] at hs; cases hs
 | some o=>rw [hq] at hs; rw [E4 h hle hq]; exact hs
theorem P9 {tbl:Nat→Option AFn}:∀ {n m:Nat},n≤m→W7 (k7 tbl n) (k7 tbl m)
 | 0,_,_,_,_,_,_,hs=>by simp [k7] at hs
 | n+1,0,hle,_,_,_,_,_=>by omega
 | n+1,m+1,hle,f,as,st,r,hs=>by
  simp only [k7] at hs ⊢
  cases htb:tbl f with
  | none=>simp [htb] at hs
  | some fn =>
   simp only [htb] at hs ⊢
   cases he:fn.ext with
   | some e=>simp only [he] at hs ⊢; exact hs
   | none =>
    simp only [he] at hs ⊢
    exact b1g (P9 (by omega)) (by omega) hs
def Ev (tbl:Nat→Option AFn) (f:Nat) (as:List AV) (st:St) (r:AV) (st':St):Prop:=∃ n,k7 tbl n f as st=some (r,st')
theorem Ev.ge {tbl:Nat→Option AFn} {f:Nat} {as:List AV} {st:St} {r:AV} {st':St} (h:Ev tbl f as st r st'):∃ n0,∀ n,n0≤n→k7 tbl n f as st=some (r,st') :=
 let ⟨n,hn⟩:=h; ⟨n,fun m hm=>P9 hm _ _ _ _ hn⟩
end Go.Cb
set_option maxRecDepth 4000
set_option linter.unusedVariables false
namespace Go.Cb
open Classical
section
variable {tbl:Nat→Option AFn}
def XC (tbl:Nat→Option AFn) (x:ACode) (fr:List AV) (st:St) (out:Out):Prop:=∃ n,i6 (k7 tbl n) n x fr st=some out
theorem XC.ge {x:ACode} {fr:List AV} {st:St} {out:Out} (h:XC tbl x fr st out):∃ n0,∀ n,n0≤n→i6 (k7 tbl n) n x fr st=some out :=
 let ⟨n,hn⟩:=h; ⟨n,fun m hm=>E4 (P9 hm) hm hn⟩
def LX (tbl:Nat→Option AFn) (x:ACode) (fr:List AV) (st:St) (out:Out):Prop:=∃ n k,P5 (i6 (k7 tbl n) n x) k fr st=some out
theorem LX.done {x:ACode} {fr:List AV} {st:St} {e:Ex} {fr':List AV} {st':St} (h:XC tbl x fr st (e,fr',st')) (he:e≠.normal):LX tbl x fr st (e,fr',st'):=by
 obtain ⟨n,hn⟩:=h
 refine ⟨n,1,?_⟩
 simp only [P5,hn]
 cases e with
 | normal=>exact absurd rfl he
 | exit id=>rfl
 | ret=>rfl
theorem LX.step {x:ACode} {fr fr1:List AV} {st st1:St} {out:Out} (h:XC tbl x fr st (.normal,fr1,st1)) (h':LX tbl x fr1 st1 out):LX tbl x fr st out:=by
 obtain ⟨n,hn⟩:=h
 obtain ⟨m,k,hm⟩:=h'
 refine ⟨max n m,k+1,?_⟩
 have h1:=E4 (P9 (tbl:=tbl) (Nat.le_max_left n m)) (Nat.le_max_left n m) hn
 simp only [P5,h1]
 exact a4h (fun _ _ _ hb=>E4 (P9 (Nat.le_max_right n m)) (Nat.le_max_right n m) hb) (AJ k) hm
theorem XC.loop {x:ACode} {fr:List AV} {st:St} {out:Out} (h:LX tbl x fr st out):XC tbl (.loop x) fr st out:=by
 obtain ⟨n,k,h⟩:=h
 refine ⟨max n k,?_⟩
 simp only [i6]
 exact a4h (fun _ _ _ hb=>E4 (P9 (Nat.le_max_left n k)) (Nat.le_max_left n k) hb) (Nat.le_max_right n k) h
theorem XC.seq {a b:ACode} {fr fr1:List AV} {st st1:St} {out:Out} (h:XC tbl a fr st (.normal,fr1,st1)) (h':XC tbl b fr1 st1 out):XC tbl (.seq a b) fr st out:=by
 obtain ⟨n,hn⟩:=h
 obtain ⟨m,hm⟩:=h'
 refine ⟨max n m,?_⟩
 rw [exec_seqK,E4 (P9 (Nat.le_max_left n m)) (Nat.le_max_left n m) hn,a1M]
 exact E4 (P9 (Nat.le_max_right n m)) (Nat.le_max_right n m) hm
theorem XC.blk {id:Nat} {a:ACode} {fr fr1:List AV} {st st1:St} {e:Ex} (h:XC tbl a fr st (e,fr1,st1)):XC tbl (.blk id a) fr st (if e=.exit id then .normal else e,fr1,st1):=by
 obtain ⟨n,hn⟩:=h
 refine ⟨n,?_⟩
 simp only [i6,hn]
 cases e with
 | normal=>rfl
 | exit id' =>
  by_cases hid:id'=id
  · subst hid; simp
  · simp [hid]
 | ret=>rfl
theorem XC.skip {fr:List AV} {st:St}:XC tbl .skip fr st (.normal,fr,st):=⟨0,rfl⟩
theorem XC.exit {id:Nat} {fr:List AV} {st:St}:XC tbl (.exit id) fr st (.exit id,fr,st):=⟨0,rfl⟩
theorem XC.ret {fr:List AV} {st:St}:XC tbl .ret fr st (.ret,fr,st):=⟨0,rfl⟩
theorem XC.of {x:ACode} {fr:List AV} {st:St} {out:Out} (h:∃ n0,∀ n,n0≤n→i6 (k7 tbl n) n x fr st=some out):XC tbl x fr st out :=
 let ⟨n,hn⟩:=h; ⟨n,hn n (AJ n)⟩
theorem XC.goes {x a:ACode} {fr fr1:List AV} {st st1:St} {out:Out} (h:∃ n0,∀ n,n0≤n→i6 (k7 tbl n) n x fr st=i6 (k7 tbl n) n a fr1 st1) (h':XC tbl a fr1 st1 out):XC tbl x fr st out:=by
 obtain ⟨n,hn⟩:=h
 obtain ⟨m,hm⟩:=h'.ge
 exact ⟨max n m,by rw [hn _ (Nat.le_max_left n m)]; exact hm _ (Nat.le_max_right n m)⟩
theorem Ev.of_body {f:Nat} {fn:AFn} {as:List AV} {st:St} {e:Ex} {fr':List AV} {st':St} {r:AV×St} (htb:tbl f=some fn) (he:fn.ext=none) (hl:as.length=fn.np)
 (h:XC tbl fn.code (as++List.replicate (fn.nv - fn.np) .undef) st (e,fr',st')) (hr:finK fn.results (some (e,fr',st'))=some r):Ev tbl f as st r.1 r.2:=by
 obtain ⟨n,hn⟩:=h
 refine ⟨n+1,?_⟩
 simp only [k7,htb,he]
 rw [a06 _ _ _ _ _ hl,hn,hr]
theorem Ev.of_ext {f:Nat} {fn:AFn} {as:List AV} {st:St} {e:List AV→St→Option (AV×St)} {r:AV×St} (htb:tbl f=some fn) (he:fn.ext=some e) (h:e as st=some r):Ev tbl f as st r.1 r.2 :=
 ⟨1,by simp only [k7,htb,he]; exact h⟩
end
end Go.Cb
set_option maxRecDepth 4000
set_option linter.unusedVariables false
namespace Go.Cb
open Classical
def WC {α:Type} (c:Nat→Option α) (Q:α→Prop):Prop:=∃ n0 a,(∀ n,n0≤n→c n=some a)∧Q a
def EvQ (tbl:Nat→Option AFn) (f:Nat) (as:List AV) (st:St) (Q:AV→St→Prop):Prop:=∃ r st',Ev tbl f as st r st'∧Q r st'
theorem WC.ret {α:Type} {a:α} {Q:α→Prop} (h:Q a):WC (fun _=>some a) Q:=⟨0,a,fun _ _=>rfl,h⟩
theorem WC.mono {α:Type} {c:Nat→Option α} {P Q:α→Prop} (h:WC c P) (hq:∀ a,P a→Q a):WC c Q :=
 let ⟨n,a,ha,hp⟩:=h; ⟨n,a,ha,hq a hp⟩
theorem WC.obind {α β:Type} {c:Nat→Option α} {k:Nat→α→Option β} {P:α→Prop} {Q:β→Prop} (h:WC c P) (hk:∀ a,P a→WC (fun n=>k n a) Q):WC (fun n=>Go.Cb.obind (c n) (k n)) Q:=by
 obtain ⟨n,a,ha,hp⟩:=h
 obtain ⟨m,b,hb,hq⟩:=hk a hp
 refine ⟨max n m,b,fun j hj=>?_,hq⟩
 show Go.Cb.obind (c j) (k j)=some b
 rw [ha j (by omega),n5]
 exact hb j (Nat.le_trans (Nat.le_max_right n m) hj)
theorem EvQ.mono {tbl:Nat→Option AFn} {f:Nat} {as:List AV} {st:St} {P Q:AV→St→Prop} (h:EvQ tbl f as st P) (hq:∀ r st',P r st'→Q r st'):EvQ tbl f as st Q :=
 let ⟨r,st',he,hp⟩:=h; ⟨r,st',he,hq r st' hp⟩
section
variable {tbl:Nat→Option AFn}
theorem WC.call {β:Type} {f:Nat} {as as':List AV} {bx:AV} {st:St} {k:Nat→AV×St→Option β} {P:AV→St→Prop} {Q:β→Prop}
 (h:EvQ tbl f as' st P) (hp:q7 as=true) (hw:as.map AV.weak=as') (hk:∀ r st',P r st'→WC (fun n=>k n (r,st')) Q):WC (fun n=>Go.Cb.obind (p2 (t8 f (k7 tbl n) as bx st)) (k n)) Q:=by
 obtain ⟨r,st',he,hq⟩:=h
 obtain ⟨n0,h0⟩:=he.ge
 refine WC.obind (P:=fun x=>x=(r,st')) ⟨n0,(r,st'),fun n hn=>?_,rfl⟩ (fun a ha=>ha ▸ hk r st' hq)
 simp only [t8,hp,if_true,hw,h0 n hn,AN,a1W]
theorem WC.callV {β:Type} {f:Nat} {first caps as as':List AV} {bx:AV} {st:St} {k:Nat→AV×St→Option β} {P:AV→St→Prop} {Q:β→Prop}
 (h:EvQ tbl f as' st P) (hp:q7 as=true) (hw:(first++as++caps).map AV.weak=as') (hk:∀ r st',P r st'→WC (fun n=>k n (r,st')) Q):WC (fun n=>Go.Cb.obind (p2 (L0 (k7 tbl n) (.func f first caps::as) bx st)) (k n)) Q:=by
 obtain ⟨r,st',he,hq⟩:=h
 obtain ⟨n0,h0⟩:=he.ge
 refine WC.obind (P:=fun x=>x=(r,st')) ⟨n0,(r,st'),fun n hn=>?_,rfl⟩ (fun a ha=>ha ▸ hk r st' hq)
 simp only [L0,hp,if_true,hw,h0 n hn,AN,a1W]
def a02 (id:Nat) (o:Out):Out:=match o with
 | (.exit id',fr,st)=>if id'=id then (.normal,fr,st) else (.exit id',fr,st)
 | o=>o
def blkK (id:Nat) (x:Option Out):Option Out:=match x with
 | some o=>some (a02 id o)
 | none=>none
theorem a3f (id:Nat) (o:Out):blkK id (some o)=some (a02 id o):=b9 rfl
theorem a3c (id:Nat) (fr:List AV) (st:St):a02 id (.normal,fr,st)=(.normal,fr,st):=b9 rfl
theorem a6M (id:Nat) (fr:List AV) (st:St):a02 id (.ret,fr,st)=(.ret,fr,st):=b9 rfl
theorem a4U (id id':Nat) (fr:List AV) (st:St):a02 id (.exit id',fr,st)=if id'=id then (.normal,fr,st) else (.exit id',fr,st):=b9 rfl
theorem i8 {id:Nat} {x x':Option Out} (h:x=x'):blkK id x=blkK id x':=by rw [h]
theorem a9X (call:d8) (n id:Nat) (a:ACode) (fr:List AV) (st:St):i6 call n (.blk id a) fr st=blkK id (i6 call n a fr st):=by
 simp only [i6,blkK]
 cases i6 call n a fr st with
 | none=>rfl
 | some o =>
  obtain ⟨e,fr',st'⟩:=o
  cases e with
  | normal=>rfl
  | ret=>rfl
  | exit id'=>by_cases h:id'=id <;> simp [a02,h]
theorem WC.seqK {c:Nat→Option Out} {g:Nat→List AV→St→Option Out} {P Q:Out→Prop} (h:WC c P) (hk:∀ o,P o→WC (fun n=>Go.Cb.seqK (some o) (g n)) Q):WC (fun n=>Go.Cb.seqK (c n) (g n)) Q:=by
 obtain ⟨n,a,ha,hp⟩:=h
 obtain ⟨m,b,hb,hq⟩:=hk a hp
 exact ⟨max n m,b,fun j hj=>by dsimp only; rw [ha j (by omega)]; exact hb j (by omega),hq⟩
theorem WC.blkK {id:Nat} {c:Nat→Option Out} {Q:Out→Prop} (h:WC c (fun o=>Q (a02 id o))):WC (fun n=>Go.Cb.blkK id (c n)) Q:=by
 obtain ⟨n,a,ha,hp⟩:=h
 exact ⟨n,_,fun j hj=>by dsimp only; rw [ha j hj,a3f],hp⟩
theorem WC.finK {rs:List ResK} {c:Nat→Option Out} {P:Out→Prop} {Q:AV×St→Prop} (h:WC c P) (hk:∀ o,P o→WC (fun n=>Go.Cb.finK rs (some o)) Q):WC (fun n=>Go.Cb.finK rs (c n)) Q:=by
 obtain ⟨n,a,ha,hp⟩:=h
 obtain ⟨m,b,hb,hq⟩:=hk a hp
 exact ⟨max n m,b,fun j hj=>by dsimp only; rw [ha j (by omega)]; exact hb j (by omega),hq⟩
theorem WC.of_xc {x:ACode} {fr:List AV} {st:St} {out:Out} {Q:Out→Prop} (h:XC tbl x fr st out) (hq:Q out):WC (fun n=>i6 (k7 tbl n) n x fr st) Q:=by
 obtain ⟨n,hn⟩:=h.ge
 exact ⟨n,out,hn,hq⟩
theorem WC.xc {x:ACode} {fr:List AV} {st:St} {Q:Out→Prop} (h:WC (fun n=>i6 (k7 tbl n) n x fr st) Q):∃ out,XC tbl x fr st out∧Q out:=by
 obtain ⟨n,a,ha,hq⟩:=h
 exact ⟨a,⟨n,ha n (AJ n)⟩,hq⟩
theorem WC.loop {x:ACode} {Q:Out→Prop} (I:Nat→List AV→St→Prop) {m:Nat} {fr:List AV} {st:St} (h0:I m fr st)
 (hI:∀ m fr st,I m fr st→WC (fun n=>i6 (k7 tbl n) n x fr st) (fun o=>(∃ m' fr' st',o=(.normal,fr',st')∧m' < m∧I m' fr' st')∨(o.1≠.normal∧Q o))) :
 WC (fun n=>i6 (k7 tbl n) n (.loop x) fr st) Q:=by
 have key:∀ m fr st,I m fr st→∃ out,LX tbl x fr st out∧Q out:=by
  intro m
  induction m using Nat.strongRecOn with
  | ind m ih =>
   intro fr st h
   obtain ⟨out,hx,hc⟩:=(hI m fr st h).xc
   rcases hc with ⟨m',fr',st',rfl,hlt,hi⟩|⟨hne,hq⟩
   · obtain ⟨out,hl,hq⟩:=ih m' hlt fr' st' hi
     exact ⟨out,LX.step hx hl,hq⟩
   · obtain ⟨e,fr',st'⟩:=out
     exact ⟨_,LX.done hx hne,hq⟩
 obtain ⟨out,hl,hq⟩:=key m fr st h0
 exact WC.of_xc (XC.loop hl) hq
theorem EvQ.of_body {f:Nat} {fn:AFn} {as:List AV} {st:St} {Q:AV→St→Prop} (htb:tbl f=some fn) (he:fn.ext=none) (hl:as.length=fn.np)
 (h:WC (fun n=>Go.Cb.finK fn.results (i6 (k7 tbl n) n fn.code (as++List.replicate (fn.nv - fn.np) .undef) st)) (fun r=>Q r.1 r.2)):EvQ tbl f as st Q:=by
 obtain ⟨n,a,ha,hq⟩:=h
 refine ⟨a.1,a.2,⟨n+1,?_⟩,hq⟩
 simp only [k7,htb,he]
 rw [a06 _ _ _ _ _ hl]
 exact ha n (AJ n)
theorem EvQ.of_ext {f:Nat} {fn:AFn} {as:List AV} {st:St} {e:List AV→St→Option (AV×St)} {r:AV×St} {Q:AV→St→Prop} (htb:tbl f=some fn) (he:fn.ext=some e) (h:e as st=some r) (hq:Q r.1 r.2):EvQ tbl f as st Q :=
 ⟨_,_,Ev.of_ext htb he h,hq⟩
end
end Go.Cb
set_option maxRecDepth 4000
set_option linter.unusedVariables false
namespace Go.Cb
open Classical
section
variable {tbl:Nat→Option AFn}
theorem WC.next {I:Nat→List AV→St→Prop} {m m':Nat} {fr':List AV} {st':St} {R:Out→Prop} (hm:m' < m) (hi:I m' fr' st') :
 WC (fun _=>some (Ex.normal,fr',st')) (fun o=>(∃ m' fr' st',o=(.normal,fr',st')∧m' < m∧I m' fr' st')∨(o.1≠.normal∧R o)):=WC.ret (Or.inl ⟨m',fr',st',rfl,hm,hi⟩)
theorem WC.leave {I:Nat→List AV→St→Prop} {m id:Nat} {fr':List AV} {st':St} {R:Out→Prop} (h:R (.exit id,fr',st')) :
 WC (fun _=>some (Ex.exit id,fr',st')) (fun o=>(∃ m' fr' st',o=(.normal,fr',st')∧m' < m∧I m' fr' st')∨(o.1≠.normal∧R o)):=WC.ret (Or.inr ⟨fun h=>by simp at h,h⟩)
theorem WC.leaveR {I:Nat→List AV→St→Prop} {m:Nat} {fr':List AV} {st':St} {R:Out→Prop} (h:R (.ret,fr',st')) :
 WC (fun _=>some (Ex.ret,fr',st')) (fun o=>(∃ m' fr' st',o=(.normal,fr',st')∧m' < m∧I m' fr' st')∨(o.1≠.normal∧R o)):=WC.ret (Or.inr ⟨fun h=>by simp at h,h⟩)
theorem EvQ.body {f:Nat} {fn:AFn} {as:List AV} {st:St} {Q:AV→St→Prop} (htb:tbl f=some fn) (he:fn.ext=none) (hl:as.length=fn.np)
 (h:WC (fun n=>i6 (k7 tbl n) n fn.code (as++List.replicate (fn.nv - fn.np) .undef) st) (fun o=>∃ r st',Go.Cb.finK fn.results (some o)=some (r,st')∧Q r st')):EvQ tbl f as st Q :=
 EvQ.of_body htb he hl (WC.finK h fun o ⟨r,st',hr,hq⟩=>⟨0,(r,st'),fun _ _=>hr,hq⟩)
end
end Go.Cb
set_option maxRecDepth 4000
set_option linter.unusedVariables false
namespace Go.Cb
open Classical
theorem a2n {n:Int} (h1:-9223372036854775808≤n) (h2:n < 9223372036854775808):m5 .i64 n=n:=by
 rw [C6]
 simp only [IntKind.wrap,IntKind.signed,IntKind.bits,Bool.true_and]
 split
 · rename_i h; have h:=of_decide_eq_true h; omega
 · rename_i h; have h:¬ (n % 2 ^ 64 ≥ 2 ^ (64 - 1)):=fun x=>h (decide_eq_true x); omega
theorem s9 {i:Nat} (h:i+1 < 2 ^ 63):m5 .i64 (a0v (i:Int) 1)=((i+1:Nat):Int):=by
 rw [addI_eq,a2n (by omega) (by omega)]
 omega
theorem ltN (i j:Nat):ltI (i:Int) (j:Int)=decide (i < j):=by
 rw [ltI_eq]
 by_cases h:i < j
 · simp [h]
 · simp [h]
theorem c66 (i j:Nat):eqI (i:Int) (j:Int)=decide (i=j):=by
 rw [eqI_eq]
 by_cases h:i=j
 · simp [h]
 · simp [h]; omega
theorem e9 (b:Bool):b=true∨b=false:=by cases b <;> simp
theorem U9 {sz:Nat} {xs:List (List AV)} (h:∀ r∈xs,r.length=sz):l3 sz xs=true:=by
 cases xs with
 | nil=>rfl
 | cons r rs=>simp [l3,h r (by simp)]
end Go.Cb
set_option maxRecDepth 4000
set_option linter.unusedVariables false
namespace Go.Cb
open Classical
def gV (x:AV) (want:Bool) (v:AV):AV:=match x with
 | .bool b=>if b == want then v else .tuple []
 | _=>.tuple []
theorem c2Z (v:AV):gV (.bool true) true v=v:=b9 rfl
theorem c2z (v:AV):gV (.bool false) false v=v:=b9 rfl
theorem c1T (v:AV):gV (.bool true) false v=.tuple []:=b9 rfl
theorem c2J (v:AV):gV (.bool false) true v=.tuple []:=b9 rfl
theorem b4l (want:Bool) (v:AV):gV (.tuple []) want v=.tuple []:=b9 rfl
theorem a8g (c want:Bool) (v:AV):gv (.bool c) want (some v)=some (gV (.bool c) want v):=by
 cases c <;> cases want <;> rfl
theorem a5G (x:AV) (w b want:Bool) (v:AV):gv (gV x w (.bool b)) want (some v)=some (gV (gV x w (.bool b)) want v):=by
 unfold gV
 cases x with
 | bool c=>cases c <;> cases w <;> cases b <;> cases want <;> rfl
 | _=>rfl
theorem j1 {x x':AV} {want:Bool} {e e':Option AV} (h1:x=x') (h2:x'=.bool want→e=e'):gv x want e=gv x' want e':=by
 subst h1
 unfold gv
 split
 · rename_i b
   by_cases hb:b=want
   · rw [h2 (by rw [hb])]
   · simp [hb]
 · rfl
 · rfl
theorem b4a (x:AV) (w:Bool) (v:AV):(gV x w v).weak=gV x w v.weak:=by
 unfold gV
 cases x with
 | bool c=>dsimp only; split <;> rfl
 | _=>rfl
theorem b27 (x:AV) (w:Bool) (v:AV):(gV x w v).strip=gV x w v.strip:=by
 unfold gV
 cases x with
 | bool c=>dsimp only; split <;> rfl
 | _=>rfl
theorem a9w (x:AV) (w:Bool) (v:AV):(gV x w v).stripB=gV x w v.stripB:=by
 unfold gV
 cases x with
 | bool c=>dsimp only; split <;> rfl
 | _=>rfl
theorem b6S (call:d8) (a b bx:AV) (st:St):p1 (B7 call [.bool true,a,b] bx st)=if a.plain then some a else none:=by
 unfold B7; dsimp only; by_cases h:a.plain=true <;> simp [h,p1]
theorem b64 (call:d8) (a b bx:AV) (st:St):p1 (B7 call [.bool false,a,b] bx st)=if b.plain then some b else none:=by
 unfold B7; dsimp only; by_cases h:b.plain=true <;> simp [h,p1]
theorem b37 (call:d8) (c d:Bool) (bx:AV) (st:St):p1 (B7 call [.bool c,.bool true,gV (.bool c) false (.bool d)] bx st)=some (.bool (c || d)):=by
 cases c <;> rfl
theorem b09 (call:d8) (c d:Bool) (bx:AV) (st:St):p1 (B7 call [.bool c,gV (.bool c) true (.bool d),.bool false] bx st)=some (.bool (c && d)):=by
 cases c <;> rfl
theorem b0h (b:Bool):(AV.bool b).weak=.bool b:=b9 rfl
theorem b15 (k:IntKind) (n:Int):(AV.int k n).weak=.int k n:=b9 rfl
theorem b28 (s:List Nat):(AV.str s).weak=.str s:=b9 rfl
theorem a9t (o:Bool) (xs:List (List AV)):(AV.list o xs).weak=.list false xs:=b9 rfl
theorem b1R (o f:Nat):(AV.ptr o f).weak=.ptr o f:=b9 rfl
theorem b0d:AV.nilp.weak=.nilp:=b9 rfl
theorem a9s:AV.nils.weak=.nils:=b9 rfl
theorem b42 (cs:List AV):(AV.ro cs).weak=.ro cs:=b9 rfl
theorem b1Q (i f:Nat):(AV.loc i f).weak=.loc i f:=b9 rfl
theorem b1B (o:Nat):(AV.map o).weak=.map o:=b9 rfl
theorem b0o:AV.nilm.weak=.nilm:=b9 rfl
theorem a9I (f:Nat) (a b:List AV):(AV.func f a b).weak=.func f a b:=b9 rfl
theorem a9n:AV.nilf.weak=.nilf:=b9 rfl
theorem O3 (cs:List AV):(AV.agg cs).weak=.agg (cs.map AV.weak1):=b9 rfl
theorem b4v (o f n s:Nat):(AV.sl o f n s).weak=.sl o f n s:=b9 rfl
theorem a6o (t:Nat) (v:AV):(AV.iface t v).weak=.iface t v:=b9 rfl
theorem a9V:AV.nili.weak=.nili:=b9 rfl
theorem a6I (vs:List AV):(AV.tuple vs).weak=.tuple vs:=b9 rfl
theorem a7o:AV.undef.weak=.undef:=b9 rfl
theorem b2D (cs:List AV):(AV.box cs).weak=.box cs:=b9 rfl
theorem a6F (b:Bool):(AV.bool b).weak1=.bool b:=b9 rfl
theorem a9Y (k:IntKind) (n:Int):(AV.int k n).weak1=.int k n:=b9 rfl
theorem b0k (s:List Nat):(AV.str s).weak1=.str s:=b9 rfl
theorem a6B (o:Bool) (xs:List (List AV)):(AV.list o xs).weak1=.list false xs:=b9 rfl
theorem b07 (o f n s:Nat):(AV.sl o f n s).weak1=.sl o f n s:=b9 rfl
theorem a6m (f:Nat) (a b:List AV):(AV.func f a b).weak1=.func f a b:=b9 rfl
theorem a9J (o f:Nat):(AV.ptr o f).weak1=.ptr o f:=b9 rfl
theorem a6N:AV.nilp.weak1=.nilp:=b9 rfl
theorem a7x:AV.nils.weak1=.nils:=b9 rfl
theorem Q6 (o:Nat):(AV.map o).weak1=.map o:=b9 rfl
theorem a6U:AV.nilm.weak1=.nilm:=b9 rfl
theorem a6S (b:Bool):(AV.bool b).strip=.bool b:=b9 rfl
theorem b0l (k:IntKind) (n:Int):(AV.int k n).strip=.int k n:=b9 rfl
theorem b0c (s:List Nat):(AV.str s).strip=.str s:=b9 rfl
theorem a6n (o:Bool) (xs:List (List AV)):(AV.list o xs).strip=.list o xs:=b9 rfl
theorem b0y (o f:Nat):(AV.ptr o f).strip=.ptr o f:=b9 rfl
theorem a7y:AV.nilp.strip=.nilp:=b9 rfl
theorem a7N:AV.nils.strip=.nils:=b9 rfl
theorem b1I (cs:List AV):(AV.ro cs).strip=.ro cs:=b9 rfl
theorem a9U (i f:Nat):(AV.loc i f).strip=.undef:=b9 rfl
theorem b0B (o:Nat):(AV.map o).strip=.map o:=b9 rfl
theorem a6C:AV.nilm.strip=.nilm:=b9 rfl
theorem a6E (f:Nat) (a b:List AV):(AV.func f a b).strip=.func f a b:=b9 rfl
theorem a6w:AV.nilf.strip=.nilf:=b9 rfl
theorem a9H (cs:List AV):(AV.agg cs).strip=.agg cs:=b9 rfl
theorem b1v (o f n s:Nat):(AV.sl o f n s).strip=.sl o f n s:=b9 rfl
theorem a5e (vs:List AV):(AV.tuple vs).strip=.tuple vs:=b9 rfl
theorem a4C:AV.undef.strip=.undef:=b9 rfl
theorem a4M (b:Bool):(AV.bool b).stripB=.bool b:=b9 rfl
theorem a7B (k:IntKind) (n:Int):(AV.int k n).stripB=.int k n:=b9 rfl
theorem a6H (s:List Nat):(AV.str s).stripB=.str s:=b9 rfl
theorem a4Q (o:Bool) (xs:List (List AV)):(AV.list o xs).stripB=.list o xs:=b9 rfl
theorem a6g (o f:Nat):(AV.ptr o f).stripB=.ptr o f:=b9 rfl
theorem a5w:AV.nilp.stripB=.nilp:=b9 rfl
theorem a5s:AV.nils.stripB=.nils:=b9 rfl
theorem a9F (cs:List AV):(AV.ro cs).stripB=.ro cs:=b9 rfl
theorem a6l (i f:Nat):(AV.loc i f).stripB=.loc i f:=b9 rfl
theorem a6Q (o:Nat):(AV.map o).stripB=.map o:=b9 rfl
theorem a4Y:AV.nilm.stripB=.nilm:=b9 rfl
theorem a4L (f:Nat) (a b:List AV):(AV.func f a b).stripB=.func f a b:=b9 rfl
theorem a5i:AV.nilf.stripB=.nilf:=b9 rfl
theorem a7k (cs:List AV):(AV.agg cs).stripB=.agg cs:=b9 rfl
theorem a6x (xs:List (List AV)):(AV.fresh xs).weak=.fresh xs:=b9 rfl
theorem a4x (xs:List (List AV)):(AV.fresh xs).strip=.fresh xs:=b9 rfl
theorem a3P (xs:List (List AV)):(AV.fresh xs).stripB=.fresh xs:=b9 rfl
theorem a9y (o f n s:Nat):(AV.sl o f n s).stripB=.sl o f n s:=b9 rfl
theorem a3E (vs:List AV):(AV.tuple vs).stripB=.tuple vs:=b9 rfl
theorem a3y:AV.undef.stripB=.undef:=b9 rfl
def b5m {α:Type} (K:α→Option Out) (g:List AV→St→Option Out) (a:α):Option Out:=Go.Cb.seqK (K a) g
def b52 {α:Type} (id:Nat) (K:α→Option Out) (a:α):Option Out:=Go.Cb.blkK id (K a)
theorem b9a {α:Type} (K:α→Option Out) (g:List AV→St→Option Out) (a:α):b5m K g a=Go.Cb.seqK (K a) g:=b9 rfl
theorem b6E {α:Type} (id:Nat) (K:α→Option Out) (a:α):b52 id K a=Go.Cb.blkK id (K a):=b9 rfl
theorem a5q {α:Type} (x:Option α) (f:α→Option Out) (g:List AV→St→Option Out):Go.Cb.seqK (Go.Cb.obind x f) g=Go.Cb.obind x (b5m f g):=by cases x <;> rfl
theorem a4V {α:Type} (id:Nat) (x:Option α) (f:α→Option Out):Go.Cb.blkK id (Go.Cb.obind x f)=Go.Cb.obind x (b52 id f):=by cases x <;> rfl
def a2S (call:d8) (n:Nat) (a:ACode) (fr:List AV) (st:St) (_:Unit):Option Out:=i6 call n a fr st
def b9R (A:Unit→Option Out) (g:List AV→St→Option Out) (u:Unit):Option Out:=Go.Cb.seqK (A u) g
def c0E (id:Nat) (A:Unit→Option Out) (u:Unit):Option Out:=Go.Cb.blkK id (A u)
theorem b7N (call:d8) (n:Nat) (a:ACode) (fr:List AV) (st:St) (u:Unit):a2S call n a fr st u=i6 call n a fr st:=b9 rfl
theorem b60 (A:Unit→Option Out) (g:List AV→St→Option Out) (u:Unit):b9R A g u=Go.Cb.seqK (A u) g:=b9 rfl
theorem b8L (id:Nat) (A:Unit→Option Out) (u:Unit):c0E id A u=Go.Cb.blkK id (A u):=b9 rfl
def brT (c:AV) (A B:Unit→Option Out):Option Out:=match c with
 | .bool true=>A ()
 | .bool false=>B ()
 | _=>none
theorem b2l (A B:Unit→Option Out):brT (.bool true) A B=A ():=b9 rfl
theorem b0v (A B:Unit→Option Out):brT (.bool false) A B=B ():=b9 rfl
theorem j3 {c c':AV} {A B:Unit→Option Out} (h:c=c'):brT c A B=brT c' A B:=by rw [h]
theorem b04 (c:AV) (A B:Unit→Option Out) (g:List AV→St→Option Out):Go.Cb.seqK (brT c A B) g=brT c (b9R A g) (b9R B g):=by
 cases c <;> try rfl
 rename_i b; cases b <;> rfl
theorem b1V (id:Nat) (c:AV) (A B:Unit→Option Out):Go.Cb.blkK id (brT c A B)=brT c (c0E id A) (c0E id B):=by
 cases c <;> try rfl
 rename_i b; cases b <;> rfl
theorem c6Z (call:d8) (n:Nat) (c:AV) (a b:ACode) (fr:List AV) (st:St):Go.Cb.br c (i6 call n a fr st) (i6 call n b fr st)=brT c (a2S call n a fr st) (a2S call n b fr st):=by
 cases c <;> try rfl
theorem b5Y (call:d8) (n:Nat) (kill:List Nat) (ps:List AOper) (c:Opd) (a b:ACode) (fr:List AV) (st:St) :
 i6 call n (.test kill ps c a b) fr st=a8x call ps ⟨j8 kill fr,fun _=>.undef,st⟩ fun σ=>brT (c.read σ) (a2S call n a σ.fr σ.st) (a2S call n b σ.fr σ.st):=by
 rw [a3q]
 simp only [c6Z]
def b0I (call:d8) (n:Nat) (x:ACode) (fr:List AV) (st:St):Option Out:=i6 call n (.loop x) fr st
theorem a7e (call:d8) (n:Nat) (x:ACode) (fr:List AV) (st:St):i6 call n (.loop x) fr st=Go.Cb.obind (b0I call n x fr st) some:=by
 unfold b0I; cases i6 call n (.loop x) fr st <;> rfl
theorem WC.br {c:Bool} {A B:Nat→Unit→Option Out} {Q:Out→Prop} (ht:c=true→WC (fun n=>A n ()) Q) (hf:c=false→WC (fun n=>B n ()) Q):WC (fun n=>brT (.bool c) (A n) (B n)) Q:=by
 cases c with
 | true=>exact ht rfl
 | false=>exact hf rfl
theorem WC.loopR {tbl:Nat→Option AFn} {β:Type} {x:ACode} {K:Nat→Out→Option β} {Q:β→Prop} (I:Nat→List AV→St→Prop) {m:Nat} {fr:List AV} {st:St} (h0:I m fr st)
 (hI:∀ m fr st,I m fr st→WC (fun n=>i6 (k7 tbl n) n x fr st) (fun o=>(∃ m' fr' st',o=(.normal,fr',st')∧m' < m∧I m' fr' st')∨(o.1≠.normal∧WC (fun n=>K n o) Q))) :
 WC (fun n=>Go.Cb.obind (b0I (k7 tbl n) n x fr st) (K n)) Q:=WC.obind (WC.loop I h0 hI) fun _ ho=>ho
theorem WC.g2 {β:Type} {c want:Bool} {st:St} {E:Nat→Option (AV×St)} {k:Nat→AV×St→Option β} {Q:β→Prop} (ht:c=want→WC (fun n=>Go.Cb.obind (E n) (k n)) Q) (hf:c=!want→WC (fun n=>k n (.tuple [],st)) Q) :
 WC (fun n=>Go.Cb.obind (gv2 (.bool c) want st (E n)) (k n)) Q:=by
 by_cases h:c=want
 · subst h
   have e:∀ n,gv2 (.bool c) c st (E n)=E n:=fun n=>by cases c <;> rfl
   simp only [e]
   exact ht rfl
 · have h':c=!want:=by cases c <;> cases want <;> simp_all
   have e:∀ n,gv2 (.bool c) want st (E n)=some (.tuple [],st):=fun n=>by subst h'; cases want <;> rfl
   simp only [e,n5]
   exact hf h'
end Go.Cb
set_option maxRecDepth 4000
set_option linter.unusedVariables false
set_option linter.unusedSimpArgs false
namespace Go.Cb
def W (a:AV):AV:=AV.weak (AV.stripB a)
def brE (c:AV) (call:d8) (n:Nat) (a b:ACode) (fr:List AV) (st:St):Option Out:=brT c (a2S call n a fr st) (a2S call n b fr st)
def m1 {β:Type} (a:AV) (f:AV→Option β):Option β:=obind (p1 (some (a,AV.undef,([]:St)))) f
def gm {β:Type} (x:AV) (w:Bool) (a:AV) (f:AV→Option β):Option β:=obind (gv x w (some a)) f
theorem k6 {β:Type} {a a':AV} {f:AV→Option β} (h:a=a'):m1 a f=m1 a' f:=by rw [h]
theorem j9 {β:Type} {x x' a a':AV} {w:Bool} {f:AV→Option β} (h1:x=x') (h2:x'=.bool w→a=a'):gm x w a f=gm x' w a' f:=by
 unfold gm
 rw [j1 (e:=some a) (e':=some a') h1 (fun h=>by rw [h2 h])]
end Go.Cb
namespace Go.Cb.R
open Go.Cb
theorem c5S (call:d8) (bx:AV) (st:St) (a:AV):Z6 call [a] bx st=some (a,bx,st):=b9 rfl
theorem a7u (call:d8) (bx:AV) (st:St) (o f:Nat):B9 call [.ptr o f] bx st=some (.ptr o f,bx,st):=b9 rfl
theorem a7S (call:d8) (bx:AV) (st:St) (o f:Nat):B9 call [.loc o f] bx st=some (.loc o f,bx,st):=b9 rfl
theorem a9k (call:d8) (bx:AV) (st:St) (cs:List AV):B9 call [.ro cs] bx st=some (.ro cs,bx,st):=b9 rfl
theorem a4I (call:d8) (bx:AV) (st:St) (f:Nat) (a b:List AV):B9 call [.func f a b] bx st=some (.func f a b,bx,st):=b9 rfl
theorem b4q (call:d8) (st:St) (zero:List AV):O5 zero call [] .undef st=some (.undef,.box zero,st):=b9 rfl
theorem b6v (call:d8) (st:St) (a:AV):P0 call [a] .undef st=if a.plain then some (.undef,.box a.cellsW,st) else none:=b9 rfl
theorem b2J (call:d8) (bx:AV) (st:St) (zero:List AV):M9 zero call [] bx st=some (.ptr st.length 0,bx,st++[.cells zero]):=b9 rfl
theorem b7q (call:d8) (bx:AV) (st:St) (a:AV):M8 call [a] bx st=if a.plain then some (.ptr st.length 0,bx,st++[.cells a.cellsW]) else none:=b9 rfl
theorem b3M (call:d8) (bx:AV) (st:St) (zero:List AV) (offs:List (Nat×Nat)) (as:List AV):J0 zero offs call as bx st=(y8 offs as zero).map fun cs=>(.agg cs,bx,st):=b9 rfl
theorem b1S (call:d8) (bx:AV) (st:St) (sz:Nat) (zero:List (List AV)) (at_:List Nat) (as:List AV):I3 sz zero at_ call as bx st=(s8 sz at_ as zero).map fun rs=>(.list true rs,bx,st):=b9 rfl
theorem b7l (call:d8) (st:St) (i off n:Nat) (agg:Bool) (cs:List AV):H2 i agg n call [.loc i off] (.box cs) st=(j7 agg n (cs.drop off)).map (fun v=>(v,.box cs,st)):=by unfold H2; simp only [if_true]
theorem b8T (call:d8) (bx:AV) (st:St) (o off n:Nat) (agg:Bool):B6 agg n call [.ptr o off] bx st=match st[o]? with|some (.cells cs)=>(j7 agg n (cs.drop off)).map (fun v=>(v,bx,st))|_=>none:=b9 rfl
theorem b6C (call:d8) (bx:AV) (st:St) (n:Nat) (agg:Bool) (cs:List AV):J6 agg n call [.ro cs] bx st=(j7 agg n cs).map (fun v=>(v,bx,st)):=b9 rfl
theorem b4k (call:d8) (bx:AV) (st:St) (n:Nat) (agg:Bool) (cs:List AV):C1 agg n call [.ro cs] bx st=(j7 agg n cs).map (fun v=>(v,bx,st)):=b9 rfl
theorem ldAn_ptr (call:d8) (bx:AV) (st:St) (o off n:Nat) (agg:Bool):C1 agg n call [.ptr o off] bx st=match st[o]? with|some (.cells cs)=>(j7 agg n (cs.drop off)).map (fun v=>(v,bx,st))|_=>none:=b9 rfl
theorem b33 (call:d8) (st:St) (i off:Nat) (cs:List AV):J1 i call [.loc i off] (.box cs) st=match cs[off]? with|some c=>some (c,.box (cs.set off c.weak1),st)|none=>none:=by unfold J1; simp only [if_true]; rfl
theorem b4Y (call:d8) (bx:AV) (st:St) (o off:Nat):D8 call [.ptr o off] bx st=match st[o]? with|some (.cells cs)=>(match cs[off]? with|some c=>some (c,bx,st.set o (.cells (cs.set off c.weak1)))|none=>none)|_=>none:=b9 rfl
theorem b8h (call:d8) (st:St) (i n off:Nat) (x:AV) (cs:List AV):J5 i n call [.loc i off,x] (.box cs) st=if x.plain=true∧x.cells.length=n∧off+n≤cs.length then some (.tuple [],.box (n9 cs off x.cells),st) else none:=by unfold J5; simp only [true_and]
theorem b7X (call:d8) (bx:AV) (st:St) (o off n:Nat) (x:AV):C8 n call [.ptr o off,x] bx st=match st[o]? with|some (.cells cs)=>(if x.plain=true∧x.cells.length=n∧off+n≤cs.length then some (.tuple [],bx,st.set o (.cells (n9 cs off x.cells))) else none)|_=>none:=by unfold C8; simp only [fL_eq]; rfl
theorem b3D (call:d8) (bx:AV) (st:St) (off o f:Nat):K4 off call [.ptr o f] bx st=some (.ptr o (f+off),bx,st):=b9 rfl
theorem b4d (call:d8) (bx:AV) (st:St) (off o f:Nat):K4 off call [.loc o f] bx st=some (.loc o (f+off),bx,st):=b9 rfl
theorem b6T (call:d8) (bx:AV) (st:St) (off:Nat) (cs:List AV):K4 off call [.ro cs] bx st=some (.ro (cs.drop off),bx,st):=b9 rfl
theorem c2q (call:d8) (bx:AV) (st:St) (off n:Nat) (agg:Bool) (cs:List AV):O7 off n agg call [.agg cs] bx st=if off+n≤cs.length then (j7 agg n (cs.drop off)).map (fun v=>(v,bx,st)) else none:=b9 rfl
theorem c1K (call:d8) (bx:AV) (st:St) (sz:Nat) (w:Bool) (xs:List (List AV)) (k:IntKind) (i:Int):D6 sz call [.list w xs,.int k i] bx st=if 0≤i then (match xs[i.toNat]? with|some r=>if r.length=sz then some (.ro r,bx,st) else none|none=>none) else none:=b9 rfl
theorem b8p (call:d8) (bx:AV) (st:St) (sz o f n s:Nat) (k:IntKind) (i:Int):D6 sz call [.sl o f n s,.int k i] bx st=if 0≤i∧i < (n:Int)∧s=sz then some (.ptr o (f+i.toNat*sz),bx,st) else none:=b9 rfl
theorem a9q (call:d8) (bx:AV) (st:St):C2 call [.nils] bx st=some (.int .i64 0,bx,st):=b9 rfl
theorem b35 (call:d8) (bx:AV) (st:St) (o f n s:Nat):C2 call [.sl o f n s] bx st=some (.int .i64 n,bx,st):=b9 rfl
theorem a9r (call:d8) (bx:AV) (st:St) (sz:Nat) (zero:List (List AV)) (at_:List Nat) (as:List AV):G4 sz zero at_ call as bx st=(n4 sz at_ as zero).map fun rs=>(.fresh rs,bx,st):=b9 rfl
theorem a8W (call:d8) (bx:AV) (st:St) (sz:Nat) (zero:List (List AV)) (at_:List Nat) (as:List AV):K2 sz zero at_ call as bx st=(n4 sz at_ as zero).map fun rs=>(.sl st.length 0 zero.length sz,bx,st++[.cells rs.flatten]):=b9 rfl
theorem b71 (call:d8) (bx:AV) (st:St) (k k':IntKind) (a b:Int):Z0 call [.int k a,.int k' b] bx st=if k=k' then some (.int k (b5y a b),bx,st) else none:=b9 rfl
theorem b6A (call:d8) (bx:AV) (st:St) (neg:Bool) (k k':IntKind) (a b:Int) (s t:List Nat):Y0 neg call [.agg [.int k a,.str s],.agg [.int k' b,.str t]] bx st=if k=k' then some (.bool (a8e neg a b s t),bx,st) else none:=b9 rfl
theorem a4T (sz:Nat) (rs:List (List AV)):n4 sz [] [] rs=some rs:=b9 rfl
theorem a4F (sz i:Nat) (is:List Nat) (p:AV) (ps:List AV) (rs:List (List AV)):n4 sz (i::is) (p::ps) rs=if p.plain=true∧p.cells.length=sz∧i < rs.length then n4 sz is ps (rs.set i (p.cells.map AV.cellW1)) else none:=b9 rfl
theorem b3d (call:d8) (bx:AV) (st:St) (sz bytes:Nat) (ys:List (List AV)) (gs:List AV):D0 sz bytes call (.list true []::.fresh ys::gs) bx st=if ys.isEmpty=false∧l3 sz ys=true∧ys.length*bytes≤2 ^ 47∧K5 none st.length gs=true then some (.sl st.length 0 ys.length sz,bx,st++[.cells ys.flatten]) else none:=b9 rfl
theorem a9g (call:d8) (bx:AV) (st:St) (sz bytes:Nat) (ys:List (List AV)) (gs:List AV):D0 sz bytes call (.nils::.fresh ys::gs) bx st=if ys.isEmpty=false∧l3 sz ys=true∧ys.length*bytes≤2 ^ 47∧K5 none st.length gs=true then some (.sl st.length 0 ys.length sz,bx,st++[.cells ys.flatten]) else none:=b9 rfl
theorem b4s (call:d8) (bx:AV) (st:St) (sz bytes o n s:Nat) (ys:List (List AV)) (gs:List AV):D0 sz bytes call (.sl o 0 n s::.fresh ys::gs) bx st=match st[o]? with|some (.cells xs)=>(if s=sz∧ys.isEmpty=false∧l3 sz ys=true∧xs.length=n*sz∧(n+ys.length)*bytes≤2 ^ 47∧K5 (some o) st.length gs=true then some (.sl st.length 0 (n+ys.length) sz,bx,st.set o .dead++[.cells (xs++ys.flatten)]) else none)|_=>none:=b9 rfl
theorem b4W (o:Option Nat) (n:Nat):K5 o n []=true:=b9 rfl
theorem b34 (o:Option Nat) (n p f:Nat) (gs:List AV):K5 o n (.ptr p f::gs)=(Nat.blt p n && (match o with|some o=>!Nat.beq p o|none=>true) && K5 o n gs):=b9 rfl
theorem b7f {α:Type}:([]:List (List α)).flatten=[]:=b9 rfl
theorem b77 {α:Type} (a:List α) (l:List (List α)):(a::l).flatten=a++l.flatten:=b9 rfl
theorem c1u (call:d8) (bx:AV) (st:St) (w:Bool) (xs:List (List AV)):U7 call [.list w xs] bx st=(O8 xs).map fun s=>(.str s,bx,st):=b9 rfl
theorem a9o:O8 []=some []:=b9 rfl
theorem b0m (n:Int) (rs:List (List AV)):O8 ([.int .u8 n]::rs)=if 0≤n∧n < 256 then (O8 rs).map (n.toNat::·) else none:=b9 rfl
theorem b4H (call:d8) (bx:AV) (st:St) (len sz:Nat) (cs:List AV) (k:IntKind) (i:Int):L6 len sz call [.ro cs,.int k i] bx st=if 0≤i∧i < (len:Int) then some (.ro (cs.drop (i.toNat*sz)),bx,st) else none:=b9 rfl
theorem b11 (call:d8) (bx:AV) (st:St) (len sz o f:Nat) (k:IntKind) (i:Int):L6 len sz call [.ptr o f,.int k i] bx st=if 0≤i∧i < (len:Int) then some (.ptr o (f+i.toNat*sz),bx,st) else none:=b9 rfl
theorem b1m (call:d8) (bx:AV) (st:St) (len sz o f:Nat) (k:IntKind) (i:Int):L6 len sz call [.loc o f,.int k i] bx st=if 0≤i∧i < (len:Int) then some (.loc o (f+i.toNat*sz),bx,st) else none:=b9 rfl
theorem b80 (call:d8) (bx:AV) (st:St) (s:List Nat) (k:IntKind) (i:Int):I6 call [.str s,.int k i] bx st=if 0≤i then (match s[i.toNat]? with|some b=>some (.int .u8 b,bx,st)|none=>none) else none:=b9 rfl
theorem c2X (call:d8) (bx:AV) (st:St) (lo hi:Bool) (s:List Nat) (r:List AV):M3 lo hi call (.str s::r) bx st=(D4 lo hi r s.length).map fun p=>(.str ((s.take p.2).drop p.1),bx,st):=b9 rfl
theorem b8F (call:d8) (bx:AV) (st:St) (sz:Nat) (lo hi:Bool) (o f n s:Nat) (r:List AV):K7 sz lo hi call (.sl o f n s::r) bx st=if s=sz then (slB lo hi r n).map fun p=>(.sl o (f+p.1*sz) (p.2 - p.1) s,bx,st) else none:=b9 rfl
theorem c2U (call:d8) (bx:AV) (st:St) (sz:Nat) (lo hi:Bool) (w:Bool) (xs:List (List AV)) (r:List AV):K7 sz lo hi call (.list w xs::r) bx st=if l3 sz xs then (D4 lo hi r xs.length).map fun p=>(.list false ((xs.take p.2).drop p.1),bx,st) else none:=b9 rfl
theorem c1W (call:d8) (bx:AV) (st:St) (w:Bool) (xs:List (List AV)):W5 call [.list w xs] bx st=some (.list true [],bx,st):=b9 rfl
theorem c2C (call:d8) (bx:AV) (st:St) (len sz:Nat) (lo hi:Bool) (cs r:List AV):X2 len sz lo hi call (.ro cs::r) bx st=if cs.length=len*sz then (D4 lo hi r len).map fun p=>(.list false (((a0k sz len cs).take p.2).drop p.1),bx,st) else none:=b9 rfl
theorem c2W (call:d8) (bx:AV) (st:St) (op:BinOp) (a b:AV):A9 op call [a,b] bx st=(l8 op a b).map (fun v=>(v,bx,st)):=b9 rfl
theorem b7w (call:d8) (bx:AV) (st:St) (op:BinOp) (a b:AV):R5 op call [a,b] bx st=(a7r op a b).map (fun v=>(v,bx,st)):=b9 rfl
theorem b7L (call:d8) (bx:AV) (st:St) (op:BinOp) (a b:AV):Q9 op call [a,b] bx st=(a0E op a b).map (fun v=>(v,bx,st)):=b9 rfl
theorem b7i (k:IntKind) (a b:Int):l8 .add (.int k a) (.int k b)=some (.int k (m5 k (a0v a b))):=by simp only [l8,if_true]
theorem b68 (k:IntKind) (a b:Int):l8 .sub (.int k a) (.int k b)=some (.int k (m5 k (a5z a b))):=by simp only [l8,if_true]
theorem b6M (k:IntKind) (a b:Int):l8 .mul (.int k a) (.int k b)=some (.int k (m5 k (a*b))):=by simp only [l8,if_true]
theorem b6Q (k:IntKind) (a b:Int):l8 .quo (.int k a) (.int k b)=if b=0 then none else some (.int k (k.wrap (a.tdiv b))):=by simp only [l8,if_true]
theorem b67 (k:IntKind) (a b:Int):l8 .rem (.int k a) (.int k b)=if b=0 then none else some (.int k (a.tmod b)):=by simp only [l8,if_true]
theorem b8S (k:IntKind) (a b:Int):l8 .eql (.int k a) (.int k b)=some (.bool (eqI a b)):=by simp only [l8,if_true]
theorem b8r (k:IntKind) (a b:Int):l8 .neq (.int k a) (.int k b)=some (.bool !(eqI a b)):=by simp only [l8,if_true]
theorem b7s (k:IntKind) (a b:Int):l8 .lss (.int k a) (.int k b)=some (.bool (ltI a b)):=by simp only [l8,if_true]
theorem b7R (k:IntKind) (a b:Int):l8 .leq (.int k a) (.int k b)=some (.bool !(ltI b a)):=by simp only [l8,if_true]
theorem b7S (k:IntKind) (a b:Int):l8 .gtr (.int k a) (.int k b)=some (.bool (ltI b a)):=by simp only [l8,if_true]
theorem b6U (k:IntKind) (a b:Int):l8 .geq (.int k a) (.int k b)=some (.bool !(ltI a b)):=by simp only [l8,if_true]
theorem b6y (a b:List Nat):l8 .add (.str a) (.str b)=if a.length+b.length≤2 ^ 62 then some (.str (a++b)) else none:=b9 rfl
theorem b8s (a b:List Nat):l8 .eql (.str a) (.str b)=some (.bool (eqN a b)):=b9 rfl
theorem b8J (a b:List Nat):l8 .neq (.str a) (.str b)=some (.bool !(eqN a b)):=b9 rfl
theorem b8o (a b:List Nat):l8 .lss (.str a) (.str b)=some (.bool (m3 a b)):=b9 rfl
theorem b8n (a b:Bool):a7r .eql (.bool a) (.bool b)=some (.bool (a == b)):=b9 rfl
theorem b8E (a b:Bool):a7r .neq (.bool a) (.bool b)=some (.bool !(a == b)):=b9 rfl
theorem b3I (o f:Nat):a0E .eql (.ptr o f) .nilp=some (.bool false):=b9 rfl
theorem b4b (o f:Nat):a0E .eql .nilp (.ptr o f)=some (.bool false):=b9 rfl
theorem b4h:a0E .eql .nilp .nilp=some (.bool true):=b9 rfl
theorem b3S (o f:Nat):a0E .neq (.ptr o f) .nilp=some (.bool true):=b9 rfl
theorem b4i (o f:Nat):a0E .neq .nilp (.ptr o f)=some (.bool true):=b9 rfl
theorem b4L:a0E .neq .nilp .nilp=some (.bool false):=b9 rfl
theorem b66 (call:d8) (bx:AV) (st:St) (b:Bool):T3 .not call [.bool b] bx st=some (.bool !b,bx,st):=b9 rfl
theorem b8k (call:d8) (bx:AV) (st:St) (k:IntKind) (n:Int):T3 .neg call [.int k n] bx st=some (.int k (m5 k (0 - n)),bx,st):=b9 rfl
theorem b7W (call:d8) (bx:AV) (st:St) (k k':IntKind) (n:Int):L8 k call [.int k' n] bx st=some (.int k (m5 k n),bx,st):=b9 rfl
theorem c1O (call:d8) (bx:AV) (st:St) (f n:Nat) (as:List AV):X4 f n call as bx st=if q7 as then some (.func f ((as.map AV.weak).take n) ((as.map AV.weak).drop n),bx,st) else none:=b9 rfl
theorem c2w (call:d8) (bx:AV) (st:St):a0l call [] bx st=some (.map st.length,bx,st++[.map []]):=b9 rfl
theorem c2a (call:d8) (bx:AV) (st:St) (i:Nat) (vs:List AV):L5 i call [.tuple vs] bx st=match vs[i]? with|some v=>some (v.weak,bx,st)|none=>none:=b9 rfl
theorem b6X (call:d8) (bx:AV) (st:St) (s:List Nat):M0 call [.str s] bx st=some (.int .i64 s.length,bx,st):=b9 rfl
theorem b7x (call:d8) (bx:AV) (st:St) (w:Bool) (xs:List (List AV)):C2 call [.list w xs] bx st=some (.int .i64 xs.length,bx,st):=b9 rfl
theorem c1F (call:d8) (bx:AV) (st:St) (sz bytes:Nat) (w:Bool) (xs ys:List (List AV)):O6 sz bytes call [.list true xs,.list w ys] bx st=if l3 sz xs && l3 sz ys && decide ((xs.length+ys.length)*bytes≤2 ^ 47) then some (.list true (xs++ys),bx,st) else none:=b9 rfl
theorem takeVal_t (n:Nat) (cs:List AV):j7 true n cs=if n≤cs.length then some (.agg ((cs.take n).map AV.weak1)) else none:=b9 rfl
theorem b0t (n:Nat) (c:AV) (cs:List AV):j7 false n (c::cs)=some c.weak1:=b9 rfl
theorem a7g (cs:List AV):y8 [] [] cs=some cs:=b9 rfl
theorem a7G (off n:Nat) (offs:List (Nat×Nat)) (p:AV) (ps cs:List AV):y8 ((off,n)::offs) (p::ps) cs=if p.plain=true∧p.cells.length=n∧off+n≤cs.length then y8 offs ps (n9 cs off p.cells) else none:=b9 rfl
theorem a6R (sz:Nat) (rs:List (List AV)):s8 sz [] [] rs=some rs:=b9 rfl
theorem a7c (sz i:Nat) (is:List Nat) (p:AV) (ps:List AV) (rs:List (List AV)):s8 sz (i::is) (p::ps) rs=if p.plain=true∧p.cells.length=sz∧i < rs.length then s8 sz is ps (rs.set i (p.cells.map AV.weak1)) else none:=b9 rfl
theorem b1k (cs:List AV) (off:Nat) (new:List AV):n9 cs off new=cs.take off++new++cs.drop (off+new.length):=b9 rfl
theorem a9m (n:Nat):D4 false false [] n=some (0,n):=b9 rfl
theorem b0j (l:AV) (n:Nat):D4 true false [l] n=(L2 l n).map fun l=>(l,n):=b9 rfl
theorem b0z (h:AV) (n:Nat):D4 false true [h] n=(L2 h n).map fun h=>(0,h):=b9 rfl
theorem a9Q (l h:AV) (n:Nat):D4 true true [l,h] n=match L2 h n with|some h=>(L2 l h).map (fun l=>(l,h))|none=>none:=b9 rfl
theorem b4e (k:IntKind) (i:Int) (top:Nat):L2 (.int k i) top=if 0≤i∧i≤(top:Int) then some i.toNat else none:=b9 rfl
theorem b2M (sz:Nat):l3 sz []=true:=b9 rfl
theorem b2d (sz:Nat) (r:List AV) (rs:List (List AV)):l3 sz (r::rs)=(r.length == sz):=b9 rfl
theorem b4T (i:Nat) (cs:List AV):c1y i (.box cs)=.loc i 0:=b9 rfl
theorem a7m (b:Bool):AV.plain (.bool b)=true:=b9 rfl
theorem a8a (b:Bool):AV.cells (.bool b)=[.bool b]:=b9 rfl
theorem a5r (b:Bool):AV.cellW1 (.bool b)=.bool b:=b9 rfl
theorem a5k (b:Bool):AV.cellsW (.bool b)=[.bool b]:=b9 rfl
theorem a9Z (k:IntKind) (n:Int):AV.plain (.int k n)=true:=b9 rfl
theorem a9R (k:IntKind) (n:Int):AV.cells (.int k n)=[.int k n]:=b9 rfl
theorem a7t (k:IntKind) (n:Int):AV.cellW1 (.int k n)=.int k n:=b9 rfl
theorem a7F (k:IntKind) (n:Int):AV.cellsW (.int k n)=[.int k n]:=b9 rfl
theorem a9z (s:List Nat):AV.plain (.str s)=true:=b9 rfl
theorem a9E (s:List Nat):AV.cells (.str s)=[.str s]:=b9 rfl
theorem a6D (s:List Nat):AV.cellW1 (.str s)=.str s:=b9 rfl
theorem a7C (s:List Nat):AV.cellsW (.str s)=[.str s]:=b9 rfl
theorem a7w (w:Bool) (xs:List (List AV)):AV.plain (.list w xs)=true:=b9 rfl
theorem a6r (w:Bool) (xs:List (List AV)):AV.cells (.list w xs)=[.list w xs]:=b9 rfl
theorem a9i (o f:Nat):AV.plain (.ptr o f)=true:=b9 rfl
theorem a9u (o f:Nat):AV.cells (.ptr o f)=[.ptr o f]:=b9 rfl
theorem a6Y (o f:Nat):AV.cellW1 (.ptr o f)=.ptr o f:=b9 rfl
theorem a7p (o f:Nat):AV.cellsW (.ptr o f)=[.ptr o f]:=b9 rfl
theorem a7O :AV.plain (.nilp)=true:=b9 rfl
theorem a7a :AV.cells (.nilp)=[.nilp]:=b9 rfl
theorem a5l :AV.cellW1 (.nilp)=.nilp:=b9 rfl
theorem a4W :AV.cellsW (.nilp)=[.nilp]:=b9 rfl
theorem b2t (cs:List AV):AV.plain (.ro cs)=true:=b9 rfl
theorem b2A (cs:List AV):AV.cells (.ro cs)=[.ro cs]:=b9 rfl
theorem a9b (cs:List AV):AV.cellW1 (.ro cs)=.ro cs:=b9 rfl
theorem b0e (cs:List AV):AV.cellsW (.ro cs)=[.ro cs]:=b9 rfl
theorem a9W (o:Nat):AV.plain (.map o)=true:=b9 rfl
theorem a8Y (o:Nat):AV.cells (.map o)=[.map o]:=b9 rfl
theorem a7L (o:Nat):AV.cellW1 (.map o)=.map o:=b9 rfl
theorem a6O (o:Nat):AV.cellsW (.map o)=[.map o]:=b9 rfl
theorem a6T :AV.plain (.nilm)=true:=b9 rfl
theorem a6t :AV.cells (.nilm)=[.nilm]:=b9 rfl
theorem a4Z :AV.cellW1 (.nilm)=.nilm:=b9 rfl
theorem a4E :AV.cellsW (.nilm)=[.nilm]:=b9 rfl
theorem a7n (f:Nat) (a b:List AV):AV.plain (.func f a b)=true:=b9 rfl
theorem a6K (f:Nat) (a b:List AV):AV.cells (.func f a b)=[.func f a b]:=b9 rfl
theorem a5a (f:Nat) (a b:List AV):AV.cellW1 (.func f a b)=.func f a b:=b9 rfl
theorem a4A (f:Nat) (a b:List AV):AV.cellsW (.func f a b)=[.func f a b]:=b9 rfl
theorem a7z :AV.plain (.nilf)=true:=b9 rfl
theorem a7V :AV.cells (.nilf)=[.nilf]:=b9 rfl
theorem a4H :AV.cellW1 (.nilf)=.nilf:=b9 rfl
theorem a5g :AV.cellsW (.nilf)=[.nilf]:=b9 rfl
theorem b2q (o f n s:Nat):AV.plain (.sl o f n s)=true:=b9 rfl
theorem b1K (o f n s:Nat):AV.cells (.sl o f n s)=[.sl o f n s]:=b9 rfl
theorem b0a (o f n s:Nat):AV.cellW1 (.sl o f n s)=.sl o f n s:=b9 rfl
theorem a9N (o f n s:Nat):AV.cellsW (.sl o f n s)=[.sl o f n s]:=b9 rfl
theorem a5c (t:Nat) (v:AV):AV.plain (.iface t v)=true:=b9 rfl
theorem a4O (t:Nat) (v:AV):AV.cells (.iface t v)=[.iface t v]:=b9 rfl
theorem a3o (t:Nat) (v:AV):AV.cellW1 (.iface t v)=.iface t v:=b9 rfl
theorem a3h (t:Nat) (v:AV):AV.cellsW (.iface t v)=[.iface t v]:=b9 rfl
theorem a7I :AV.plain (.nili)=true:=b9 rfl
theorem a7E :AV.cells (.nili)=[.nili]:=b9 rfl
theorem a4X :AV.cellW1 (.nili)=.nili:=b9 rfl
theorem a4P :AV.cellsW (.nili)=[.nili]:=b9 rfl
theorem a7v :AV.plain (.nils)=true:=b9 rfl
theorem a6X :AV.cells (.nils)=[.nils]:=b9 rfl
theorem a4S :AV.cellW1 (.nils)=.nils:=b9 rfl
theorem a5n :AV.cellsW (.nils)=[.nils]:=b9 rfl
theorem a5u (w:Bool) (xs:List (List AV)):AV.cellW1 (.list w xs)=.list (w && xs.isEmpty) xs:=b9 rfl
theorem plain_agg (cs:List AV):AV.plain (.agg cs)=true:=b9 rfl
theorem a9e (cs:List AV):AV.cells (.agg cs)=cs:=b9 rfl
theorem a8d (cs:List AV):AV.cellsW (.agg cs)=cs:=b9 rfl
theorem a5b (w:Bool) (xs:List (List AV)):AV.cellsW (.list w xs)=[.list (w && xs.isEmpty) xs]:=b9 rfl
theorem allPlain_n:q7 []=true:=b9 rfl
theorem allPlain_c (a:AV) (as:List AV):q7 (a::as)=(a.plain && q7 as):=b9 rfl
theorem c1C {α β:Type} (f:α→β):List.map f []=[]:=b9 rfl
theorem c3d {α β:Type} (f:α→β) (a:α) (l:List α):List.map f (a::l)=f a::l.map f:=b9 rfl
theorem b7b {α:Type} (l:List α):List.drop 0 l=l:=b9 rfl
theorem b6Z {α:Type} (n:Nat) (a:α) (l:List α):List.drop (n+1) (a::l)=l.drop n:=b9 rfl
theorem b7e {α:Type} (n:Nat):List.drop n ([]:List α)=[]:=by cases n <;> rfl
theorem b7O {α:Type} (l:List α):List.take 0 l=[]:=b9 rfl
theorem b69 {α:Type} (n:Nat) (a:α) (l:List α):List.take (n+1) (a::l)=a::l.take n:=b9 rfl
theorem b84 {α:Type} (n:Nat):List.take n ([]:List α)=[]:=by cases n <;> rfl
theorem c2S {α:Type}:([]:List α).length=0:=b9 rfl
theorem c1p {α:Type} (a:α) (l:List α):(a::l).length=l.length+1:=b9 rfl
theorem c1U {α:Type} (a:α) (l m:List α):(a::l)++m=a::(l++m):=b9 rfl
theorem c2r {α:Type} (l:List α):[]++l=l:=b9 rfl
theorem b4t {α:Type} (l:List α):l++[]=l:=List.append_nil l
theorem c1n {α:Type} (a:α) (l:List α):(a::l)[0]?=some a:=b9 rfl
theorem c2M {α:Type} (n:Nat) (a:α) (l:List α):(a::l)[n+1]?=l[n]?:=b9 rfl
theorem c1w {α:Type} (a b:α) (l:List α):(a::l).set 0 b=b::l:=b9 rfl
theorem c3g {α:Type} (n:Nat) (a b:α) (l:List α):(a::l).set (n+1) b=a::l.set n b:=b9 rfl
theorem c1Q {α:Type} (a:α):List.replicate 0 a=[]:=b9 rfl
theorem c2G {α:Type} (n:Nat) (a:α):List.replicate (n+1) a=a::List.replicate n a:=b9 rfl
theorem b72 {α β:Type} (f:α→β) (a:α):Option.map f (some a)=some (f a):=b9 rfl
theorem b73 {α β:Type} (f:α→β):Option.map f none=none:=b9 rfl
theorem c2D {α:Type}:([]:List α).isEmpty=true:=b9 rfl
theorem c1I {α:Type} (a:α) (l:List α):(a::l).isEmpty=false:=b9 rfl
theorem c28 {α:Type} (a b:α):(if True then a else b)=a:=if_pos trivial
theorem c1X {α:Type} (a b:α):(if False then a else b)=b:=if_neg (fun h=>h)
theorem c1A {α:Type} (a b:α):(if true=true then a else b)=a:=if_pos rfl
theorem c1Y {α:Type} (a b:α):(if false=true then a else b)=b:=if_neg (fun h=>by cases h)
theorem b6K:(true=false)=False:=by simp
theorem b8X:(false=true)=False:=by simp
theorem c2x:(!true)=false:=b9 rfl
theorem c27:(!false)=true:=b9 rfl
theorem c2p (b:Bool):(true && b)=b:=b9 rfl
theorem c2h (b:Bool):(b && true)=b:=by cases b <;> rfl
theorem c2T (b:Bool):(false && b)=false:=b9 rfl
theorem c1P (b:Bool):(b && false)=false:=by cases b <;> rfl
theorem c75 (b:Bool):(true || b)=true:=b9 rfl
theorem c7r (b:Bool):(b || true)=true:=by cases b <;> rfl
theorem c5Z (b:Bool):(false || b)=b:=b9 rfl
theorem c7J (b:Bool):(b || false)=b:=by cases b <;> rfl
theorem c2g (p:Prop):(p∧True)=p:=by simp
theorem c2O (p:Prop):(True∧p)=p:=by simp
theorem c2m:decide True=true:=b9 rfl
theorem c1s:decide False=false:=b9 rfl
theorem eqs {α:Type} (a:α):(a=a)=True:=by simp
theorem nn (n:Nat):(0≤(n:Int))=True:=by simp
theorem tn (n:Nat):(n:Int).toNat=n:=Int.toNat_natCast n
theorem b7D (m n:Nat):((m:Int)≤(n:Int))=(m≤n):=by simp
theorem b6Y (n:Nat):(n≤n)=True:=by simp
theorem c8g (i j:Nat):ltI (i:Int) (j:Int)=decide (i < j):=ltN i j
theorem c6j (i j:Nat):eqI (i:Int) (j:Int)=decide (i=j):=c66 i j
theorem c1J (c:AV) (call:d8) (n:Nat) (a b:ACode) (fr:List AV) (st:St):brE c call n a b fr st=brT c (a2S call n a fr st) (a2S call n b fr st):=b9 rfl
theorem c8l:(0 < (1:Nat))=True:=by simp
theorem c6t:(0 < (3:Nat))=True:=by simp
theorem c8r:(1 < (3:Nat))=True:=by simp
theorem c5P:(2 < (3:Nat))=True:=by simp
theorem il0:(0≤(0:Int))=True:=by simp
theorem it0:(0:Int).toNat=0:=b9 rfl
theorem il1:(0≤(1:Int))=True:=by simp
theorem it1:(1:Int).toNat=1:=b9 rfl
theorem il2:(0≤(2:Int))=True:=by simp
theorem it2:(2:Int).toNat=2:=b9 rfl
theorem m41:4*1=(4:Nat):=b9 rfl
theorem W_e (a:AV):W a=AV.weak (AV.stripB a):=b9 rfl
theorem c8k {β:Type} (a:AV) (f:AV→Option β):m1 a f=f a:=b9 rfl
theorem b4j {β:Type} (c w:Bool) (a:AV) (f:AV→Option β):gm (.bool c) w a f=f (gV (.bool c) w a):=by unfold gm; rw [a8g,n5]
theorem b1N {β:Type} (x:AV) (w b want:Bool) (a:AV) (f:AV→Option β):gm (gV x w (.bool b)) want a f=f (gV (gV x w (.bool b)) want a):=by unfold gm; rw [a5G,n5]
theorem b4P {β:Type} (w:Bool) (a:AV) (f:AV→Option β):gm (.tuple []) w a f=f (.tuple []):=by unfold gm; rw [a8E,n5]
theorem c1q (n:Nat):0+n=n:=Nat.zero_add n
theorem c2v (n:Nat):n+0=n:=b9 rfl
theorem b5f (n:Nat):(n == n)=true:=by simp
end Go.Cb.R
namespace Go.Cb
open Go.Cb.R
theorem SS:type_of% (And.intro (And.intro (And.intro (And.intro (And.intro (And.intro (And.intro (And.intro (@exec_seqK) (@a9X)) (And.intro (@b2c) (And.intro (@a9d) (@a8X)))) (And.intro (And.intro (@a1M) (And.intro (@a9a) (@b2Q))) (And.intro (@a3f) (And.intro (@a3c) (@a6M))))) (And.intro (And.intro (And.intro (@a4U) (@b9a)) (And.intro (@b6E) (And.intro (@a5q) (@a4V)))) (And.intro (And.intro (@b7N) (And.intro (@b60) (@b8L))) (And.intro (@b2l) (And.intro (@b0v) (@b04)))))) (And.intro (And.intro (And.intro (And.intro (@b1V) (@a7e)) (And.intro (@b4w) (And.intro (@a1W) (@n5)))) (And.intro (And.intro (@c2F) (And.intro (@c2i) (@c1D))) (And.intro (@c3a) (And.intro (@a8E) (@b6J))))) (And.intro (And.intro (And.intro (@b7g) (@b8g)) (And.intro (@b8N) (And.intro (@b05) (@c2Z)))) (And.intro (And.intro (@c2z) (And.intro (@c1T) (@c2J))) (And.intro (@b4l) (And.intro (@a8g) (@a5G))))))) (And.intro (And.intro (And.intro (And.intro (And.intro (@b4a) (@b27)) (And.intro (@a9w) (And.intro (@b6S) (@b64)))) (And.intro (And.intro (@b37) (And.intro (@b09) (@b0h))) (And.intro (@b15) (And.intro (@b28) (@a9t))))) (And.intro (And.intro (And.intro (@b1R) (@b0d)) (And.intro (@a9s) (And.intro (@b42) (@b1Q)))) (And.intro (And.intro (@b1B) (And.intro (@b0o) (@a9I))) (And.intro (@a9n) (And.intro (@O3) (@b4v)))))) (And.intro (And.intro (And.intro (And.intro (@a6o) (@a9V)) (And.intro (@a6I) (And.intro (@a7o) (@b2D)))) (And.intro (And.intro (@a6F) (And.intro (@a9Y) (@b0k))) (And.intro (@a6B) (And.intro (@b07) (@a6m))))) (And.intro (And.intro (And.intro (@a9J) (And.intro (@a6N) (@a7x))) (And.intro (@Q6) (And.intro (@a6U) (@a6S)))) (And.intro (And.intro (@b0l) (And.intro (@b0c) (@a6n))) (And.intro (@b0y) (And.intro (@a7y) (@a7N)))))))) (And.intro (And.intro (And.intro (And.intro (And.intro (And.intro (@b1I) (@a9U)) (And.intro (@b0B) (And.intro (@a6C) (@a6E)))) (And.intro (And.intro (@a6w) (And.intro (@a9H) (@b1v))) (And.intro (@a5e) (And.intro (@a4C) (@a4M))))) (And.intro (And.intro (And.intro (@a7B) (@a6H)) (And.intro (@a4Q) (And.intro (@a6g) (@a5w)))) (And.intro (And.intro (@a5s) (And.intro (@a9F) (@a6l))) (And.intro (@a6Q) (And.intro (@a4Y) (@a4L)))))) (And.intro (And.intro (And.intro (And.intro (@a5i) (@a7k)) (And.intro (@a6x) (And.intro (@a4x) (@a3P)))) (And.intro (And.intro (@a9y) (And.intro (@a3E) (@a3y))) (And.intro (@c5S) (And.intro (@a7u) (@a7S))))) (And.intro (And.intro (And.intro (@a9k) (@a4I)) (And.intro (@b4q) (And.intro (@b6v) (@b2J)))) (And.intro (And.intro (@b7q) (And.intro (@b3M) (@b1S))) (And.intro (@b7l) (And.intro (@b8T) (@b6C))))))) (And.intro (And.intro (And.intro (And.intro (And.intro (@b4k) (@ldAn_ptr)) (And.intro (@b33) (And.intro (@b4Y) (@b8h)))) (And.intro (And.intro (@b7X) (And.intro (@b3D) (@b4d))) (And.intro (@b6T) (And.intro (@c2q) (@c1K))))) (And.intro (And.intro (And.intro (@b8p) (@a9q)) (And.intro (@b35) (And.intro (@a9r) (@a8W)))) (And.intro (And.intro (@b71) (And.intro (@b6A) (@a4T))) (And.intro (@a4F) (And.intro (@b3d) (@a9g)))))) (And.intro (And.intro (And.intro (And.intro (@b4s) (@b4W)) (And.intro (@b34) (And.intro (@b7f) (@b77)))) (And.intro (And.intro (@c1u) (And.intro (@a9o) (@b0m))) (And.intro (@b4H) (And.intro (@b11) (@b1m))))) (And.intro (And.intro (And.intro (@b80) (And.intro (@c2X) (@b8F))) (And.intro (@c2U) (And.intro (@c1W) (@c2C)))) (And.intro (And.intro (@c2W) (And.intro (@b7w) (@b7L))) (And.intro (@b7i) (And.intro (@b68) (@b6M))))))))) (And.intro (And.intro (And.intro (And.intro (And.intro (And.intro (And.intro (@b6Q) (@b67)) (And.intro (@b8S) (And.intro (@b8r) (@b7s)))) (And.intro (And.intro (@b7R) (And.intro (@b7S) (@b6U))) (And.intro (@b6y) (And.intro (@b8s) (@b8J))))) (And.intro (And.intro (And.intro (@b8o) (@b8n)) (And.intro (@b8E) (And.intro (@b3I) (@b4b)))) (And.intro (And.intro (@b4h) (And.intro (@b3S) (@b4i))) (And.intro (@b4L) (And.intro (@b66) (@b8k)))))) (And.intro (And.intro (And.intro (And.intro (@b7W) (@c1O)) (And.intro (@c2w) (And.intro (@c2a) (@b6X)))) (And.intro (And.intro (@b7x) (And.intro (@c1F) (@takeVal_t))) (And.intro (@b0t) (And.intro (@a7g) (@a7G))))) (And.intro (And.intro (And.intro (@a6R) (@a7c)) (And.intro (@b1k) (And.intro (@a9m) (@b0j)))) (And.intro (And.intro (@b0z) (And.intro (@a9Q) (@b4e))) (And.intro (@b2M) (And.intro (@b2d) (@b4T))))))) (And.intro (And.intro (And.intro (And.intro (And.intro (@a7m) (@a8a)) (And.intro (@a5r) (And.intro (@a5k) (@a9Z)))) (And.intro (And.intro (@a9R) (And.intro (@a7t) (@a7F))) (And.intro (@a9z) (And.intro (@a9E) (@a6D))))) (And.intro (And.intro (And.intro (@a7C) (@a7w)) (And.intro (@a6r) (And.intro (@a9i) (@a9u)))) (And.intro (And.intro (@a6Y) (And.intro (@a7p) (@a7O))) (And.intro (@a7a) (And.intro (@a5l) (@a4W)))))) (And.intro (And.intro (And.intro (And.intro (@b2t) (@b2A)) (And.intro (@a9b) (And.intro (@b0e) (@a9W)))) (And.intro (And.intro (@a8Y) (And.intro (@a7L) (@a6O))) (And.intro (@a6T) (And.intro (@a6t) (@a4Z))))) (And.intro (And.intro (And.intro (@a4E) (And.intro (@a7n) (@a6K))) (And.intro (@a5a) (And.intro (@a4A) (@a7z)))) (And.intro (And.intro (@a7V) (And.intro (@a4H) (@a5g))) (And.intro (@b2q) (And.intro (@b1K) (@b0a)))))))) (And.intro (And.intro (And.intro (And.intro (And.intro (And.intro (@a9N) (@a5c)) (And.intro (@a4O) (And.intro (@a3o) (@a3h)))) (And.intro (And.intro (@a7I) (And.intro (@a7E) (@a4X))) (And.intro (@a4P) (And.intro (@a7v) (@a6X))))) (And.intro (And.intro (And.intro (@a4S) (@a5n)) (And.intro (@a5u) (And.intro (@plain_agg) (@a9e)))) (And.intro (And.intro (@a8d) (And.intro (@a5b) (@allPlain_n))) (And.intro (@allPlain_c) (And.intro (@c1C) (@c3d)))))) (And.intro (And.intro (And.intro (And.intro (@b7b) (@b6Z)) (And.intro (@b7e) (And.intro (@b7O) (@b69)))) (And.intro (And.intro (@b84) (And.intro (@c2S) (@c1p))) (And.intro (@c1U) (And.intro (@c2r) (@b4t))))) (And.intro (And.intro (And.intro (@c1n) (And.intro (@c2M) (@c1w))) (And.intro (@c3g) (And.intro (@c1Q) (@c2G)))) (And.intro (And.intro (@b72) (And.intro (@b73) (@c2D))) (And.intro (@c1I) (And.intro (@c28) (@c1X))))))) (And.intro (And.intro (And.intro (And.intro (And.intro (@c1A) (@c1Y)) (And.intro (@b6K) (And.intro (@b8X) (@c2x)))) (And.intro (And.intro (@c27) (And.intro (@c2p) (@c2h))) (And.intro (@c2T) (And.intro (@c1P) (@c75))))) (And.intro (And.intro (And.intro (@c7r) (@c5Z)) (And.intro (@c7J) (And.intro (@c2g) (@c2O)))) (And.intro (And.intro (@c2m) (And.intro (@c1s) (@eqs))) (And.intro (@nn) (And.intro (@tn) (@b7D)))))) (And.intro (And.intro (And.intro (And.intro (@b6Y) (@c8g)) (And.intro (@c6j) (And.intro (@c1J) (@c8l)))) (And.intro (And.intro (@c6t) (And.intro (@c8r) (@c5P))) (And.intro (@il0) (And.intro (@it0) (@il1))))) (And.intro (And.intro (And.intro (@it1) (And.intro (@il2) (@it2))) (And.intro (@m41) (And.intro (@W_e) (@c8k)))) (And.intro (And.intro (@b4j) (And.intro (@b1N) (@b4P))) (And.intro (@c1q) (And.intro (@c2v) (@b5f)))))))))):=And.intro (And.intro (And.intro (And.intro (And.intro (And.intro (And.intro (And.intro (@exec_seqK) (@a9X)) (And.intro (@b2c) (And.intro (@a9d) (@a8X)))) (And.intro (And.intro (@a1M) (And.intro (@a9a) (@b2Q))) (And.intro (@a3f) (And.intro (@a3c) (@a6M))))) (And.intro (And.intro (And.intro (@a4U) (@b9a)) (And.intro (@b6E) (And.intro (@a5q) (@a4V)))) (And.intro (And.intro (@b7N) (And.intro (@b60) (@b8L))) (And.intro (@b2l) (And.intro (@b0v) (@b04)))))) (And.intro (And.intro (And.intro (And.intro (@b1V) (@a7e)) (And.intro (@b4w) (And.intro (@a1W) (@n5)))) (And.intro (And.intro (@c2F) (And.intro (@c2i) (@c1D))) (And.intro (@c3a) (And.intro (@a8E) (@b6J))))) (And.intro (And.intro (And.intro (@b7g) (@b8g)) (And.intro (@b8N) (And.intro (@b05) (@c2Z)))) (And.intro (And.intro (@c2z) (And.intro (@c1T) (@c2J))) (And.intro (@b4l) (And.intro (@a8g) (@a5G))))))) (And.intro (And.intro (And.intro (And.intro (And.intro (@b4a) (@b27)) (And.intro (@a9w) (And.intro (@b6S) (@b64)))) (And.intro (And.intro (@b37) (And.intro (@b09) (@b0h))) (And.intro (@b15) (And.intro (@b28) (@a9t))))) (And.intro (And.intro (And.intro (@b1R) (@b0d)) (And.intro (@a9s) (And.intro (@b42) (@b1Q)))) (And.intro (And.intro (@b1B) (And.intro (@b0o) (@a9I))) (And.intro (@a9n) (And.intro (@O3) (@b4v)))))) (And.intro (And.intro (And.intro (And.intro (@a6o) (@a9V)) (And.intro (@a6I) (And.intro (@a7o) (@b2D)))) (And.intro (And.intro (@a6F) (And.intro (@a9Y) (@b0k))) (And.intro (@a6B) (And.intro (@b07) (@a6m))))) (And.intro (And.intro (And.intro (@a9J) (And.intro (@a6N) (@a7x))) (And.intro (@Q6) (And.intro (@a6U) (@a6S)))) (And.intro (And.intro (@b0l) (And.intro (@b0c) (@a6n))) (And.intro (@b0y) (And.intro (@a7y) (@a7N)))))))) (And.intro (And.intro (And.intro (And.intro (And.intro (And.intro (@b1I) (@a9U)) (And.intro (@b0B) (And.intro (@a6C) (@a6E)))) (And.intro (And.intro (@a6w) (And.intro (@a9H) (@b1v))) (And.intro (@a5e) (And.intro (@a4C) (@a4M))))) (And.intro (And.intro (And.intro (@a7B) (@a6H)) (And.intro (@a4Q) (And.intro (@a6g) (@a5w)))) (And.intro (And.intro (@a5s) (And.intro (@a9F) (@a6l))) (And.intro (@a6Q) (And.intro (@a4Y) (@a4L)))))) (And.intro (And.intro (And.intro (And.intro (@a5i) (@a7k)) (And.intro (@a6x) (And.intro (@a4x) (@a3P)))) (And.intro (And.intro (@a9y) (And.intro (@a3E) (@a3y))) (And.intro (@c5S) (And.intro (@a7u) (@a7S))))) (And.intro (And.intro (And.intro (@a9k) (@a4I)) (And.intro (@b4q) (And.intro (@b6v) (@b2J)))) (And.intro (And.intro (@b7q) (And.intro (@b3M) (@b1S))) (And.intro (@b7l) (And.intro (@b8T) (@b6C))))))) (And.intro (And.intro (And.intro (And.intro (And.intro (@b4k) (@ldAn_ptr)) (And.intro (@b33) (And.intro (@b4Y) (@b8h)))) (And.intro (And.intro (@b7X) (And.intro (@b3D) (@b4d))) (And.intro (@b6T) (And.intro (@c2q) (@c1K))))) (And.intro (And.intro (And.intro (@b8p) (@a9q)) (And.intro (@b35) (And.intro (@a9r) (@a8W)))) (And.intro (And.intro (@b71) (And.intro (@b6A) (@a4T))) (And.intro (@a4F) (And.intro (@b3d) (@a9g)))))) (And.intro (And.intro (And.intro (And.intro (@b4s) (@b4W)) (And.intro (@b34) (And.intro (@b7f) (@b77)))) (And.intro (And.intro (@c1u) (And.intro (@a9o) (@b0m))) (And.intro (@b4H) (And.intro (@b11) (@b1m))))) (And.intro (And.intro (And.intro (@b80) (And.intro (@c2X) (@b8F))) (And.intro (@c2U) (And.intro (@c1W) (@c2C)))) (And.intro (And.intro (@c2W) (And.intro (@b7w) (@b7L))) (And.intro (@b7i) (And.intro (@b68) (@b6M))))))))) (And.intro (And.intro (And.intro (And.intro (And.intro (And.intro (And.intro (@b6Q) (@b67)) (And.intro (@b8S) (And.intro (@b8r) (@b7s)))) (And.intro (And.intro (@b7R) (And.intro (@b7S) (@b6U))) (And.intro (@b6y) (And.intro (@b8s) (@b8J))))) (And.intro (And.intro (And.intro (@b8o) (@b8n)) (And.intro (@b8E) (And.intro (@b3I) (@b4b)))) (And.intro (And.intro (@b4h) (And.intro (@b3S) (@b4i))) (And.intro (@b4L) (And.intro (@b66) (@b8k)))))) (And.intro (And.intro (And.intro (And.intro (@b7W) (@c1O)) (And.intro (@c2w) (And.intro (@c2a) (@b6X)))) (And.intro (And.intro (@b7x) (And.intro (@c1F) (@takeVal_t))) (And.intro (@b0t) (And.intro (@a7g) (@a7G))))) (And.intro (And.intro (And.intro (@a6R) (@a7c)) (And.intro (@b1k) (And.intro (@a9m) (@b0j)))) (And.intro (And.intro (@b0z) (And.intro (@a9Q) (@b4e))) (And.intro (@b2M) (And.intro (@b2d) (@b4T))))))) (And.intro (And.intro (And.intro (And.intro (And.intro (@a7m) (@a8a)) (And.intro (@a5r) (And.intro (@a5k) (@a9Z)))) (And.intro (And.intro (@a9R) (And.intro (@a7t) (@a7F))) (And.intro (@a9z) (And.intro (@a9E) (@a6D))))) (And.intro (And.intro (And.intro (@a7C) (@a7w)) (And.intro (@a6r) (And.intro (@a9i) (@a9u)))) (And.intro (And.intro (@a6Y) (And.intro (@a7p) (@a7O))) (And.intro (@a7a) (And.intro (@a5l) (@a4W)))))) (And.intro (And.intro (And.intro (And.intro (@b2t) (@b2A)) (And.intro (@a9b) (And.intro (@b0e) (@a9W)))) (And.intro (And.intro (@a8Y) (And.intro (@a7L) (@a6O))) (And.intro (@a6T) (And.intro (@a6t) (@a4Z))))) (And.intro (And.intro (And.intro (@a4E) (And.intro (@a7n) (@a6K))) (And.intro (@a5a) (And.intro (@a4A) (@a7z)))) (And.intro (And.intro (@a7V) (And.intro (@a4H) (@a5g))) (And.intro (@b2q) (And.intro (@b1K) (@b0a)))))))) (And.intro (And.intro (And.intro (And.intro (And.intro (And.intro (@a9N) (@a5c)) (And.intro (@a4O) (And.intro (@a3o) (@a3h)))) (And.intro (And.intro (@a7I) (And.intro (@a7E) (@a4X))) (And.intro (@a4P) (And.intro (@a7v) (@a6X))))) (And.intro (And.intro (And.intro (@a4S) (@a5n)) (And.intro (@a5u) (And.intro (@plain_agg) (@a9e)))) (And.intro (And.intro (@a8d) (And.intro (@a5b) (@allPlain_n))) (And.intro (@allPlain_c) (And.intro (@c1C) (@c3d)))))) (And.intro (And.intro (And.intro (And.intro (@b7b) (@b6Z)) (And.intro (@b7e) (And.intro (@b7O) (@b69)))) (And.intro (And.intro (@b84) (And.intro (@c2S) (@c1p))) (And.intro (@c1U) (And.intro (@c2r) (@b4t))))) (And.intro (And.intro (And.intro (@c1n) (And.intro (@c2M) (@c1w))) (And.intro (@c3g) (And.intro (@c1Q) (@c2G)))) (And.intro (And.intro (@b72) (And.intro (@b73) (@c2D))) (And.intro (@c1I) (And.intro (@c28) (@c1X))))))) (And.intro (And.intro (And.intro (And.intro (And.intro (@c1A) (@c1Y)) (And.intro (@b6K) (And.intro (@b8X) (@c2x)))) (And.intro (And.intro (@c27) (And.intro (@c2p) (@c2h))) (And.intro (@c2T) (And.intro (@c1P) (@c75))))) (And.intro (And.intro (And.intro (@c7r) (@c5Z)) (And.intro (@c7J) (And.intro (@c2g) (@c2O)))) (And.intro (And.intro (@c2m) (And.intro (@c1s) (@eqs))) (And.intro (@nn) (And.intro (@tn) (@b7D)))))) (And.intro (And.intro (And.intro (And.intro (@b6Y) (@c8g)) (And.intro (@c6j) (And.intro (@c1J) (@c8l)))) (And.intro (And.intro (@c6t) (And.intro (@c8r) (@c5P))) (And.intro (@il0) (And.intro (@it0) (@il1))))) (And.intro (And.intro (And.intro (@it1) (And.intro (@il2) (@it2))) (And.intro (@m41) (And.intro (@W_e) (@c8k)))) (And.intro (And.intro (@b4j) (And.intro (@b1N) (@b4P))) (And.intro (@c1q) (And.intro (@c2v) (@b5f)))))))))
end Go.Cb
set_option maxRecDepth 4000
set_option linter.unusedSimpArgs false
set_option linter.unusedVariables false
namespace Go.Cb.V
open Go Go.Cb
def e7 (call:d8) (ops:List AOper) (σ:Sig) (k:Sig→Option Out):Option Out:=obind (l7 call ops σ) k
theorem runR_congr {call:d8} {ops:List AOper} {σ σ':Sig} {k:Sig→Option Out} (h:σ=σ'):e7 call ops σ k=e7 call ops σ' k:=by rw [h]
theorem b8e (call:d8) (σ:Sig) (k:Sig→Option Out):e7 call [] σ k=k σ:=b9 rfl
theorem a0Z (call:d8) (o:AOper) (os:List AOper) (σ:Sig) (k:Sig→Option Out):e7 call (o::os) σ k=obind (j4 call o σ) fun σ=>e7 call os σ k:=by
 unfold e7
 simp only [l7]
 cases j4 call o σ <;> rfl
theorem Z8:∀ (as:List Opd) (σ:Sig),(d9 as σ).st=σ.st
 | [],_=>rfl
 | x::xs,σ=>by rw [d9,Z8 xs]; cases x <;> rfl
section
variable (call:d8) (d:Dst) (as:List Opd) (os:List AOper) (σ:Sig) (k:Sig→Option Out)
theorem p7 {K:Kind} (h1:K.setSt=false):e7 call (⟨d,K,as,none,none⟩::os) σ k=obind (p1 (sem K call (as.map (·.read σ)) .undef σ.st)) fun x=>e7 call os (d.put x (d9 as σ)) k:=by
 rw [a0Z]
 simp only [j4]
 rw [P3]
 dsimp only
 cases hs:sem K call (as.map (·.read σ)) .undef σ.st with
 | none=>rfl
 | some x =>
  obtain ⟨r,b,st⟩:=x
  obtain rfl:=a3C h1 hs
  simp only [p1,n5]
  have e:({ d9 as σ with st:=σ.st }:Sig)=d9 as σ:=by
   have:=Z8 as σ
   cases h:d9 as σ
   rw [h] at this
   simp only at this
   rw [this]
  rw [e]
theorem R2 {K:Kind}:e7 call (⟨d,K,as,none,none⟩::os) σ k=obind (p2 (sem K call (as.map (·.read σ)) .undef σ.st)) fun x=>e7 call os (d.put x.1 { d9 as σ with st:=x.2 }) k:=by
 rw [a0Z]
 simp only [j4]
 rw [P3]
 dsimp only
 cases hs:sem K call (as.map (·.read σ)) .undef σ.st with
 | none=>rfl
 | some x =>
  obtain ⟨r,b,st⟩:=x
  simp only [p2,n5]
theorem b0H {K:Kind} (i:Nat):e7 call (⟨d,K,as,some i,none⟩::os) σ k=obind (sem K call (as.map (·.read σ)) (σ.fr.getD i .undef) σ.st) fun x=>e7 call os (d.put x.1 { d9 as σ with fr:=(d9 as σ).fr.set i x.2.1,st:=x.2.2 }) k:=by
 rw [a0Z]
 simp only [j4]
 rw [P3]
 dsimp only
 cases hs:sem K call (as.map (·.read σ)) (σ.fr.getD i .undef) σ.st with
 | none=>rfl
 | some x =>
  obtain ⟨r,b,st⟩:=x
  simp only [n5]
end
theorem d1p {call:d8} {d:Dst} {as:List Opd} {os:List AOper} {σ:Sig} {k:Sig→Option Out} {K:Kind} {box:Option Nat} (h:(K.setSt || K.alters || g9 as)=false) :
 e7 call (⟨d,K,as,box,none⟩::os) σ k=obind (p1 (sem K call (as.map (·.read σ)) (goK.boxOf' box σ) σ.st)) fun r=>e7 call os (d.put r σ) k:=by
 rw [a0Z,← a2I]
 simp only [a4v,goK,h]
theorem n6 {call:d8} {d:Dst} {as:List Opd} {os:List AOper} {σ:Sig} {k:Sig→Option Out} {K:Kind} {box:Option Nat} {x:Opd} {w:Bool} (h:(K.setSt || K.alters || g9 as)=false) :
 e7 call (⟨d,K,as,box,some (x,w)⟩::os) σ k=obind (gv (x.read σ) w (p1 (sem K call (as.map (·.read σ)) (goK.boxOf' box σ) σ.st))) fun r=>e7 call os (d.put r σ) k:=by
 rw [a0Z,← a2I]
 simp only [a4v,h]
theorem L9 {call:d8} {d:Dst} {as:List Opd} {os:List AOper} {σ:Sig} {k:Sig→Option Out} {K:Kind} {box:Option Nat} {x:Opd} {w:Bool} (h1:K.setSt=true) (h2:K.alters=false) (h:g9 as=false) :
 e7 call (⟨d,K,as,box,some (x,w)⟩::os) σ k=obind (gv2 (x.read σ) w σ.st (p2 (sem K call (as.map (·.read σ)) (goK.boxOf' box σ) σ.st))) fun r=>e7 call os (d.put r.1 { σ with st:=r.2 }) k:=by
 rw [a0Z,← a2I]
 simp only [a4v,h1,h2,h,Bool.true_or,Bool.or_false]
theorem c63:g9 []=false:=b9 rfl
theorem c68 (s:Nat) (xs:List Opd):g9 (.t s::xs)=g9 xs:=b9 rfl
theorem c6M (s:Nat) (xs:List Opd):g9 (.v s::xs)=g9 xs:=b9 rfl
theorem c5G (s:Nat) (xs:List Opd):g9 (.l s::xs)=g9 xs:=b9 rfl
theorem c6L (a:AV) (xs:List Opd):g9 (.c a::xs)=g9 xs:=b9 rfl
theorem b0q (call:d8) (n:Nat) (kill:List Nat) (ps:List AOper) (fr:List AV) (st:St) :
 i6 call n (.reg kill ps) fr st=e7 call ps ⟨j8 kill fr,fun _=>.undef,st⟩ fun σ=>some (.normal,σ.fr,σ.st):=by
 rw [c0g,Z3]; rfl
theorem a7T (call:d8) (n:Nat) (kill:List Nat) (ps:List AOper) (c:Opd) (a b:ACode) (fr:List AV) (st:St) :
 i6 call n (.test kill ps c a b) fr st=e7 call ps ⟨j8 kill fr,fun _=>.undef,st⟩ fun σ=>brE (c.read σ) call n a b σ.fr σ.st:=by
 rw [b5Y,Z3]; rfl
theorem c7P (s:Nat) (fr:List AV) (τ:Nat→AV) (st:St):Opd.read (.t s) ⟨fr,τ,st⟩=(τ s).weak:=b9 rfl
theorem c1o (s:Nat) (fr:List AV) (τ:Nat→AV) (st:St):Opd.read (.ts s) ⟨fr,τ,st⟩=τ s:=b9 rfl
theorem c78 (s:Nat) (fr:List AV) (τ:Nat→AV) (st:St):Opd.read (.v s) ⟨fr,τ,st⟩=(fr.getD s .undef).weak:=b9 rfl
theorem c2I (s:Nat) (fr:List AV) (τ:Nat→AV) (st:St):Opd.read (.vs s) ⟨fr,τ,st⟩=fr.getD s .undef:=b9 rfl
theorem c6b (s:Nat) (fr:List AV) (τ:Nat→AV) (st:St):Opd.read (.l s) ⟨fr,τ,st⟩=c1y s (fr.getD s .undef):=b9 rfl
theorem c8u (a:AV) (σ:Sig):Opd.read (.c a) σ=a:=b9 rfl
theorem c3c (τ:Nat→AV) (s:Nat) (a:AV) (j:Nat):q9 τ s a j=if j=s then a else τ j:=by
 unfold q9
 by_cases h:j=s
 · subst h; simp
 · rw [if_neg h,if_neg]; intro e; exact h (Nat.eq_of_beq_eq_true e)
theorem put_t (s:Nat) (a:AV) (fr:List AV) (τ:Nat→AV) (st:St):Dst.put (.t s) a ⟨fr,τ,st⟩=⟨fr,q9 τ s a.stripB,st⟩:=b9 rfl
theorem put_v (s:Nat) (a:AV) (fr:List AV) (τ:Nat→AV) (st:St):Dst.put (.v s) a ⟨fr,τ,st⟩=⟨fr.set s a.strip,τ,st⟩:=b9 rfl
theorem c1z (a:AV) (σ:Sig):Dst.put .none a σ=σ:=b9 rfl
theorem c2n (a:AV) (σ:Sig):Dst.put .bx a σ=σ:=b9 rfl
theorem c8v (σ:Sig):d9 [] σ=σ:=b9 rfl
theorem c73 (x:Opd) (xs:List Opd) (σ:Sig):d9 (x::xs) σ=d9 xs (x.spend σ):=b9 rfl
theorem c7X (s:Nat) (σ:Sig):Opd.spend (.t s) σ=σ:=b9 rfl
theorem c7b (s:Nat) (σ:Sig):Opd.spend (.v s) σ=σ:=b9 rfl
theorem c8j (s:Nat) (σ:Sig):Opd.spend (.l s) σ=σ:=b9 rfl
theorem c67 (a:AV) (σ:Sig):Opd.spend (.c a) σ=σ:=b9 rfl
theorem c2L (s:Nat) (fr:List AV) (τ:Nat→AV) (st:St):Opd.spend (.ts s) ⟨fr,τ,st⟩=⟨fr,q9 τ s (τ s).weak,st⟩:=b9 rfl
theorem c1N (s:Nat) (fr:List AV) (τ:Nat→AV) (st:St):Opd.spend (.vs s) ⟨fr,τ,st⟩=⟨fr.set s (fr.getD s .undef).weak,τ,st⟩:=b9 rfl
theorem c5E (a d:AV) (l:List AV):(a::l).getD 0 d=a:=b9 rfl
theorem c7n (a d:AV) (l:List AV) (n:Nat):(a::l).getD (n+1) d=l.getD n d:=b9 rfl
theorem c7k (fr:List AV):j8 [] fr=fr:=b9 rfl
theorem c7c (i:Nat) (is:List Nat) (fr:List AV):j8 (i::is) fr=j8 is (fr.set i .undef):=b9 rfl
section
variable (call:d8) (d:Dst) (as:List Opd) (os:List AOper) (fr:List AV) (τ:Nat→AV) (s:St) (k:Sig→Option Out)
theorem c8K :e7 call (⟨d,.mv,as,none,none⟩::os) ⟨fr,τ,s⟩ k=obind (p1 (Z6 call (as.map (·.read ⟨fr,τ,s⟩)) .undef s)) fun x=>e7 call os (d.put x (d9 as ⟨fr,τ,s⟩)) k:=p7 call d as os ⟨fr,τ,s⟩ k rfl
theorem b7C :e7 call (⟨d,.pick,as,none,none⟩::os) ⟨fr,τ,s⟩ k=obind (p1 (B7 call (as.map (·.read ⟨fr,τ,s⟩)) .undef s)) fun x=>e7 call os (d.put x (d9 as ⟨fr,τ,s⟩)) k:=p7 call d as os ⟨fr,τ,s⟩ k rfl
theorem b3e :e7 call (⟨d,.nilchk,as,none,none⟩::os) ⟨fr,τ,s⟩ k=obind (p1 (B9 call (as.map (·.read ⟨fr,τ,s⟩)) .undef s)) fun x=>e7 call os (d.put x (d9 as ⟨fr,τ,s⟩)) k:=p7 call d as os ⟨fr,τ,s⟩ k rfl
theorem b40 (z:List AV) (o:List (Nat×Nat)):e7 call (⟨d,.build z o,as,none,none⟩::os) ⟨fr,τ,s⟩ k=obind (p1 (J0 z o call (as.map (·.read ⟨fr,τ,s⟩)) .undef s)) fun x=>e7 call os (d.put x (d9 as ⟨fr,τ,s⟩)) k:=p7 call d as os ⟨fr,τ,s⟩ k rfl
theorem b1D (q:Nat) (z:List (List AV)) (t:List Nat):e7 call (⟨d,.bslice q z t,as,none,none⟩::os) ⟨fr,τ,s⟩ k=obind (p1 (I3 q z t call (as.map (·.read ⟨fr,τ,s⟩)) .undef s)) fun x=>e7 call os (d.put x (d9 as ⟨fr,τ,s⟩)) k:=p7 call d as os ⟨fr,τ,s⟩ k rfl
theorem a9M (q:Nat) (z:List (List AV)) (t:List Nat):e7 call (⟨d,.bsliceM q z t,as,none,none⟩::os) ⟨fr,τ,s⟩ k=obind (p1 (G4 q z t call (as.map (·.read ⟨fr,τ,s⟩)) .undef s)) fun x=>e7 call os (d.put x (d9 as ⟨fr,τ,s⟩)) k:=p7 call d as os ⟨fr,τ,s⟩ k rfl
theorem b6G (g:Bool) (n:Nat):e7 call (⟨d,.ldSt g n,as,none,none⟩::os) ⟨fr,τ,s⟩ k=obind (p1 (B6 g n call (as.map (·.read ⟨fr,τ,s⟩)) .undef s)) fun x=>e7 call os (d.put x (d9 as ⟨fr,τ,s⟩)) k:=p7 call d as os ⟨fr,τ,s⟩ k rfl
theorem b7o (g:Bool) (n:Nat):e7 call (⟨d,.ldRo g n,as,none,none⟩::os) ⟨fr,τ,s⟩ k=obind (p1 (J6 g n call (as.map (·.read ⟨fr,τ,s⟩)) .undef s)) fun x=>e7 call os (d.put x (d9 as ⟨fr,τ,s⟩)) k:=p7 call d as os ⟨fr,τ,s⟩ k rfl
theorem b8t (g:Bool) (n:Nat):e7 call (⟨d,.ldAn g n,as,none,none⟩::os) ⟨fr,τ,s⟩ k=obind (p1 (C1 g n call (as.map (·.read ⟨fr,τ,s⟩)) .undef s)) fun x=>e7 call os (d.put x (d9 as ⟨fr,τ,s⟩)) k:=p7 call d as os ⟨fr,τ,s⟩ k rfl
theorem b36 (g:Bool) (n:Nat):e7 call (⟨d,.ldStR g n,as,none,none⟩::os) ⟨fr,τ,s⟩ k=obind (p1 (E3 g n call (as.map (·.read ⟨fr,τ,s⟩)) .undef s)) fun x=>e7 call os (d.put x (d9 as ⟨fr,τ,s⟩)) k:=p7 call d as os ⟨fr,τ,s⟩ k rfl
theorem c3b (n:Nat):e7 call (⟨d,.fad n,as,none,none⟩::os) ⟨fr,τ,s⟩ k=obind (p1 (K4 n call (as.map (·.read ⟨fr,τ,s⟩)) .undef s)) fun x=>e7 call os (d.put x (d9 as ⟨fr,τ,s⟩)) k:=p7 call d as os ⟨fr,τ,s⟩ k rfl
theorem c2B (o n:Nat) (g:Bool):e7 call (⟨d,.fld o n g,as,none,none⟩::os) ⟨fr,τ,s⟩ k=obind (p1 (O7 o n g call (as.map (·.read ⟨fr,τ,s⟩)) .undef s)) fun x=>e7 call os (d.put x (d9 as ⟨fr,τ,s⟩)) k:=p7 call d as os ⟨fr,τ,s⟩ k rfl
theorem c2Q (n:Nat):e7 call (⟨d,.iad n,as,none,none⟩::os) ⟨fr,τ,s⟩ k=obind (p1 (D6 n call (as.map (·.read ⟨fr,τ,s⟩)) .undef s)) fun x=>e7 call os (d.put x (d9 as ⟨fr,τ,s⟩)) k:=p7 call d as os ⟨fr,τ,s⟩ k rfl
theorem b6O (l n:Nat):e7 call (⟨d,.iadA l n,as,none,none⟩::os) ⟨fr,τ,s⟩ k=obind (p1 (L6 l n call (as.map (·.read ⟨fr,τ,s⟩)) .undef s)) fun x=>e7 call os (d.put x (d9 as ⟨fr,τ,s⟩)) k:=p7 call d as os ⟨fr,τ,s⟩ k rfl
theorem b7G :e7 call (⟨d,.idxS,as,none,none⟩::os) ⟨fr,τ,s⟩ k=obind (p1 (I6 call (as.map (·.read ⟨fr,τ,s⟩)) .undef s)) fun x=>e7 call os (d.put x (d9 as ⟨fr,τ,s⟩)) k:=p7 call d as os ⟨fr,τ,s⟩ k rfl
theorem c2y (a b:Bool):e7 call (⟨d,.slS a b,as,none,none⟩::os) ⟨fr,τ,s⟩ k=obind (p1 (M3 a b call (as.map (·.read ⟨fr,τ,s⟩)) .undef s)) fun x=>e7 call os (d.put x (d9 as ⟨fr,τ,s⟩)) k:=p7 call d as os ⟨fr,τ,s⟩ k rfl
theorem c2E (n:Nat) (a b:Bool):e7 call (⟨d,.slL n a b,as,none,none⟩::os) ⟨fr,τ,s⟩ k=obind (p1 (K7 n a b call (as.map (·.read ⟨fr,τ,s⟩)) .undef s)) fun x=>e7 call os (d.put x (d9 as ⟨fr,τ,s⟩)) k:=p7 call d as os ⟨fr,τ,s⟩ k rfl
theorem c2R :e7 call (⟨d,.slZ,as,none,none⟩::os) ⟨fr,τ,s⟩ k=obind (p1 (W5 call (as.map (·.read ⟨fr,τ,s⟩)) .undef s)) fun x=>e7 call os (d.put x (d9 as ⟨fr,τ,s⟩)) k:=p7 call d as os ⟨fr,τ,s⟩ k rfl
theorem c2H (l n:Nat) (a b:Bool):e7 call (⟨d,.slA l n a b,as,none,none⟩::os) ⟨fr,τ,s⟩ k=obind (p1 (X2 l n a b call (as.map (·.read ⟨fr,τ,s⟩)) .undef s)) fun x=>e7 call os (d.put x (d9 as ⟨fr,τ,s⟩)) k:=p7 call d as os ⟨fr,τ,s⟩ k rfl
theorem c29 (o:BinOp):e7 call (⟨d,.bin o,as,none,none⟩::os) ⟨fr,τ,s⟩ k=obind (p1 (A9 o call (as.map (·.read ⟨fr,τ,s⟩)) .undef s)) fun x=>e7 call os (d.put x (d9 as ⟨fr,τ,s⟩)) k:=p7 call d as os ⟨fr,τ,s⟩ k rfl
theorem b8Y (o:BinOp):e7 call (⟨d,.binB o,as,none,none⟩::os) ⟨fr,τ,s⟩ k=obind (p1 (R5 o call (as.map (·.read ⟨fr,τ,s⟩)) .undef s)) fun x=>e7 call os (d.put x (d9 as ⟨fr,τ,s⟩)) k:=p7 call d as os ⟨fr,τ,s⟩ k rfl
theorem b8M (o:BinOp):e7 call (⟨d,.binP o,as,none,none⟩::os) ⟨fr,τ,s⟩ k=obind (p1 (Q9 o call (as.map (·.read ⟨fr,τ,s⟩)) .undef s)) fun x=>e7 call os (d.put x (d9 as ⟨fr,τ,s⟩)) k:=p7 call d as os ⟨fr,τ,s⟩ k rfl
theorem c69 (o:UnOp):e7 call (⟨d,.un o,as,none,none⟩::os) ⟨fr,τ,s⟩ k=obind (p1 (T3 o call (as.map (·.read ⟨fr,τ,s⟩)) .undef s)) fun x=>e7 call os (d.put x (d9 as ⟨fr,τ,s⟩)) k:=p7 call d as os ⟨fr,τ,s⟩ k rfl
theorem b8d (t:IntKind):e7 call (⟨d,.conv t,as,none,none⟩::os) ⟨fr,τ,s⟩ k=obind (p1 (L8 t call (as.map (·.read ⟨fr,τ,s⟩)) .undef s)) fun x=>e7 call os (d.put x (d9 as ⟨fr,τ,s⟩)) k:=p7 call d as os ⟨fr,τ,s⟩ k rfl
theorem c2V (f n:Nat):e7 call (⟨d,.mkF f n,as,none,none⟩::os) ⟨fr,τ,s⟩ k=obind (p1 (X4 f n call (as.map (·.read ⟨fr,τ,s⟩)) .undef s)) fun x=>e7 call os (d.put x (d9 as ⟨fr,τ,s⟩)) k:=p7 call d as os ⟨fr,τ,s⟩ k rfl
theorem b9e (a:Nat) (z:List AV) (b c:Bool):e7 call (⟨d,.mget a z b c,as,none,none⟩::os) ⟨fr,τ,s⟩ k=obind (p1 (P1 a z b c call (as.map (·.read ⟨fr,τ,s⟩)) .undef s)) fun x=>e7 call os (d.put x (d9 as ⟨fr,τ,s⟩)) k:=p7 call d as os ⟨fr,τ,s⟩ k rfl
theorem c2Y (n:Nat):e7 call (⟨d,.ext n,as,none,none⟩::os) ⟨fr,τ,s⟩ k=obind (p1 (L5 n call (as.map (·.read ⟨fr,τ,s⟩)) .undef s)) fun x=>e7 call os (d.put x (d9 as ⟨fr,τ,s⟩)) k:=p7 call d as os ⟨fr,τ,s⟩ k rfl
theorem b7k :e7 call (⟨d,.lenS,as,none,none⟩::os) ⟨fr,τ,s⟩ k=obind (p1 (M0 call (as.map (·.read ⟨fr,τ,s⟩)) .undef s)) fun x=>e7 call os (d.put x (d9 as ⟨fr,τ,s⟩)) k:=p7 call d as os ⟨fr,τ,s⟩ k rfl
theorem b8j :e7 call (⟨d,.lenL,as,none,none⟩::os) ⟨fr,τ,s⟩ k=obind (p1 (C2 call (as.map (·.read ⟨fr,τ,s⟩)) .undef s)) fun x=>e7 call os (d.put x (d9 as ⟨fr,τ,s⟩)) k:=p7 call d as os ⟨fr,τ,s⟩ k rfl
theorem c3e (n b:Nat):e7 call (⟨d,.app n b,as,none,none⟩::os) ⟨fr,τ,s⟩ k=obind (p1 (O6 n b call (as.map (·.read ⟨fr,τ,s⟩)) .undef s)) fun x=>e7 call os (d.put x (d9 as ⟨fr,τ,s⟩)) k:=p7 call d as os ⟨fr,τ,s⟩ k rfl
theorem c2f :e7 call (⟨d,.b2s,as,none,none⟩::os) ⟨fr,τ,s⟩ k=obind (p1 (U7 call (as.map (·.read ⟨fr,τ,s⟩)) .undef s)) fun x=>e7 call os (d.put x (d9 as ⟨fr,τ,s⟩)) k:=p7 call d as os ⟨fr,τ,s⟩ k rfl
theorem b4z (z:List AV) (o:List (Nat×Nat)) (x:Opd) (w:Bool) (h:g9 as=false):e7 call (⟨d,.build z o,as,none,some (x,w)⟩::os) ⟨fr,τ,s⟩ k=obind (gv (x.read ⟨fr,τ,s⟩) w (p1 (J0 z o call (as.map (·.read ⟨fr,τ,s⟩)) .undef s))) fun r=>e7 call os (d.put r ⟨fr,τ,s⟩) k:=n6 (by rw [h]; rfl)
theorem b1M (q:Nat) (z:List (List AV)) (t:List Nat) (x:Opd) (w:Bool) (h:g9 as=false):e7 call (⟨d,.bslice q z t,as,none,some (x,w)⟩::os) ⟨fr,τ,s⟩ k=obind (gv (x.read ⟨fr,τ,s⟩) w (p1 (I3 q z t call (as.map (·.read ⟨fr,τ,s⟩)) .undef s))) fun r=>e7 call os (d.put r ⟨fr,τ,s⟩) k:=n6 (by rw [h]; rfl)
theorem a9l (q:Nat) (z:List (List AV)) (t:List Nat) (x:Opd) (w:Bool) (h:g9 as=false):e7 call (⟨d,.bsliceM q z t,as,none,some (x,w)⟩::os) ⟨fr,τ,s⟩ k=obind (gv (x.read ⟨fr,τ,s⟩) w (p1 (G4 q z t call (as.map (·.read ⟨fr,τ,s⟩)) .undef s))) fun r=>e7 call os (d.put r ⟨fr,τ,s⟩) k:=n6 (by rw [h]; rfl)
theorem b7F (g:Bool) (n:Nat) (x:Opd) (w:Bool) (h:g9 as=false):e7 call (⟨d,.ldSt g n,as,none,some (x,w)⟩::os) ⟨fr,τ,s⟩ k=obind (gv (x.read ⟨fr,τ,s⟩) w (p1 (B6 g n call (as.map (·.read ⟨fr,τ,s⟩)) .undef s))) fun r=>e7 call os (d.put r ⟨fr,τ,s⟩) k:=n6 (by rw [h]; rfl)
theorem b9c (g:Bool) (n:Nat) (x:Opd) (w:Bool) (h:g9 as=false):e7 call (⟨d,.ldRo g n,as,none,some (x,w)⟩::os) ⟨fr,τ,s⟩ k=obind (gv (x.read ⟨fr,τ,s⟩) w (p1 (J6 g n call (as.map (·.read ⟨fr,τ,s⟩)) .undef s))) fun r=>e7 call os (d.put r ⟨fr,τ,s⟩) k:=n6 (by rw [h]; rfl)
theorem b6R (g:Bool) (n:Nat) (x:Opd) (w:Bool) (h:g9 as=false):e7 call (⟨d,.ldAn g n,as,none,some (x,w)⟩::os) ⟨fr,τ,s⟩ k=obind (gv (x.read ⟨fr,τ,s⟩) w (p1 (C1 g n call (as.map (·.read ⟨fr,τ,s⟩)) .undef s))) fun r=>e7 call os (d.put r ⟨fr,τ,s⟩) k:=n6 (by rw [h]; rfl)
theorem b38 (g:Bool) (n:Nat) (x:Opd) (w:Bool) (h:g9 as=false):e7 call (⟨d,.ldStR g n,as,none,some (x,w)⟩::os) ⟨fr,τ,s⟩ k=obind (gv (x.read ⟨fr,τ,s⟩) w (p1 (E3 g n call (as.map (·.read ⟨fr,τ,s⟩)) .undef s))) fun r=>e7 call os (d.put r ⟨fr,τ,s⟩) k:=n6 (by rw [h]; rfl)
theorem c1L (n:Nat) (x:Opd) (w:Bool) (h:g9 as=false):e7 call (⟨d,.fad n,as,none,some (x,w)⟩::os) ⟨fr,τ,s⟩ k=obind (gv (x.read ⟨fr,τ,s⟩) w (p1 (K4 n call (as.map (·.read ⟨fr,τ,s⟩)) .undef s))) fun r=>e7 call os (d.put r ⟨fr,τ,s⟩) k:=n6 (by rw [h]; rfl)
theorem c1G (o n:Nat) (g:Bool) (x:Opd) (w:Bool) (h:g9 as=false):e7 call (⟨d,.fld o n g,as,none,some (x,w)⟩::os) ⟨fr,τ,s⟩ k=obind (gv (x.read ⟨fr,τ,s⟩) w (p1 (O7 o n g call (as.map (·.read ⟨fr,τ,s⟩)) .undef s))) fun r=>e7 call os (d.put r ⟨fr,τ,s⟩) k:=n6 (by rw [h]; rfl)
theorem c2s (n:Nat) (x:Opd) (w:Bool) (h:g9 as=false):e7 call (⟨d,.iad n,as,none,some (x,w)⟩::os) ⟨fr,τ,s⟩ k=obind (gv (x.read ⟨fr,τ,s⟩) w (p1 (D6 n call (as.map (·.read ⟨fr,τ,s⟩)) .undef s))) fun r=>e7 call os (d.put r ⟨fr,τ,s⟩) k:=n6 (by rw [h]; rfl)
theorem b6V (l n:Nat) (x:Opd) (w:Bool) (h:g9 as=false):e7 call (⟨d,.iadA l n,as,none,some (x,w)⟩::os) ⟨fr,τ,s⟩ k=obind (gv (x.read ⟨fr,τ,s⟩) w (p1 (L6 l n call (as.map (·.read ⟨fr,τ,s⟩)) .undef s))) fun r=>e7 call os (d.put r ⟨fr,τ,s⟩) k:=n6 (by rw [h]; rfl)
theorem c2e (a b:Bool) (x:Opd) (w:Bool) (h:g9 as=false):e7 call (⟨d,.slS a b,as,none,some (x,w)⟩::os) ⟨fr,τ,s⟩ k=obind (gv (x.read ⟨fr,τ,s⟩) w (p1 (M3 a b call (as.map (·.read ⟨fr,τ,s⟩)) .undef s))) fun r=>e7 call os (d.put r ⟨fr,τ,s⟩) k:=n6 (by rw [h]; rfl)
theorem c2d (n:Nat) (a b:Bool) (x:Opd) (w:Bool) (h:g9 as=false):e7 call (⟨d,.slL n a b,as,none,some (x,w)⟩::os) ⟨fr,τ,s⟩ k=obind (gv (x.read ⟨fr,τ,s⟩) w (p1 (K7 n a b call (as.map (·.read ⟨fr,τ,s⟩)) .undef s))) fun r=>e7 call os (d.put r ⟨fr,τ,s⟩) k:=n6 (by rw [h]; rfl)
theorem c2A (l n:Nat) (a b:Bool) (x:Opd) (w:Bool) (h:g9 as=false):e7 call (⟨d,.slA l n a b,as,none,some (x,w)⟩::os) ⟨fr,τ,s⟩ k=obind (gv (x.read ⟨fr,τ,s⟩) w (p1 (X2 l n a b call (as.map (·.read ⟨fr,τ,s⟩)) .undef s))) fun r=>e7 call os (d.put r ⟨fr,τ,s⟩) k:=n6 (by rw [h]; rfl)
theorem c2k (o:BinOp) (x:Opd) (w:Bool) (h:g9 as=false):e7 call (⟨d,.bin o,as,none,some (x,w)⟩::os) ⟨fr,τ,s⟩ k=obind (gv (x.read ⟨fr,τ,s⟩) w (p1 (A9 o call (as.map (·.read ⟨fr,τ,s⟩)) .undef s))) fun r=>e7 call os (d.put r ⟨fr,τ,s⟩) k:=n6 (by rw [h]; rfl)
theorem b7z (o:BinOp) (x:Opd) (w:Bool) (h:g9 as=false):e7 call (⟨d,.binB o,as,none,some (x,w)⟩::os) ⟨fr,τ,s⟩ k=obind (gv (x.read ⟨fr,τ,s⟩) w (p1 (R5 o call (as.map (·.read ⟨fr,τ,s⟩)) .undef s))) fun r=>e7 call os (d.put r ⟨fr,τ,s⟩) k:=n6 (by rw [h]; rfl)
theorem b7y (o:BinOp) (x:Opd) (w:Bool) (h:g9 as=false):e7 call (⟨d,.binP o,as,none,some (x,w)⟩::os) ⟨fr,τ,s⟩ k=obind (gv (x.read ⟨fr,τ,s⟩) w (p1 (Q9 o call (as.map (·.read ⟨fr,τ,s⟩)) .undef s))) fun r=>e7 call os (d.put r ⟨fr,τ,s⟩) k:=n6 (by rw [h]; rfl)
theorem c6J (o:UnOp) (x:Opd) (w:Bool) (h:g9 as=false):e7 call (⟨d,.un o,as,none,some (x,w)⟩::os) ⟨fr,τ,s⟩ k=obind (gv (x.read ⟨fr,τ,s⟩) w (p1 (T3 o call (as.map (·.read ⟨fr,τ,s⟩)) .undef s))) fun r=>e7 call os (d.put r ⟨fr,τ,s⟩) k:=n6 (by rw [h]; rfl)
theorem b8z (t:IntKind) (x:Opd) (w:Bool) (h:g9 as=false):e7 call (⟨d,.conv t,as,none,some (x,w)⟩::os) ⟨fr,τ,s⟩ k=obind (gv (x.read ⟨fr,τ,s⟩) w (p1 (L8 t call (as.map (·.read ⟨fr,τ,s⟩)) .undef s))) fun r=>e7 call os (d.put r ⟨fr,τ,s⟩) k:=n6 (by rw [h]; rfl)
theorem c3f (f n:Nat) (x:Opd) (w:Bool) (h:g9 as=false):e7 call (⟨d,.mkF f n,as,none,some (x,w)⟩::os) ⟨fr,τ,s⟩ k=obind (gv (x.read ⟨fr,τ,s⟩) w (p1 (X4 f n call (as.map (·.read ⟨fr,τ,s⟩)) .undef s))) fun r=>e7 call os (d.put r ⟨fr,τ,s⟩) k:=n6 (by rw [h]; rfl)
theorem b76 (a:Nat) (z:List AV) (b c:Bool) (x:Opd) (w:Bool) (h:g9 as=false):e7 call (⟨d,.mget a z b c,as,none,some (x,w)⟩::os) ⟨fr,τ,s⟩ k=obind (gv (x.read ⟨fr,τ,s⟩) w (p1 (P1 a z b c call (as.map (·.read ⟨fr,τ,s⟩)) .undef s))) fun r=>e7 call os (d.put r ⟨fr,τ,s⟩) k:=n6 (by rw [h]; rfl)
theorem c1M (n:Nat) (x:Opd) (w:Bool) (h:g9 as=false):e7 call (⟨d,.ext n,as,none,some (x,w)⟩::os) ⟨fr,τ,s⟩ k=obind (gv (x.read ⟨fr,τ,s⟩) w (p1 (L5 n call (as.map (·.read ⟨fr,τ,s⟩)) .undef s))) fun r=>e7 call os (d.put r ⟨fr,τ,s⟩) k:=n6 (by rw [h]; rfl)
theorem c1Z (n b:Nat) (x:Opd) (w:Bool) (h:g9 as=false):e7 call (⟨d,.app n b,as,none,some (x,w)⟩::os) ⟨fr,τ,s⟩ k=obind (gv (x.read ⟨fr,τ,s⟩) w (p1 (O6 n b call (as.map (·.read ⟨fr,τ,s⟩)) .undef s))) fun r=>e7 call os (d.put r ⟨fr,τ,s⟩) k:=n6 (by rw [h]; rfl)
theorem b8H (i:Nat) (g:Bool) (n:Nat) (j:Nat) (h:g9 as=false):e7 call (⟨d,.ldLc i g n,as,some j,none⟩::os) ⟨fr,τ,s⟩ k=obind (p1 (H2 i g n call (as.map (·.read ⟨fr,τ,s⟩)) (fr.getD j .undef) s)) fun r=>e7 call os (d.put r ⟨fr,τ,s⟩) k:=d1p (by rw [h]; rfl)
theorem b3F (i:Nat) (g:Bool) (n:Nat) (j:Nat) (x:Opd) (w:Bool) (h:g9 as=false):e7 call (⟨d,.ldLc i g n,as,some j,some (x,w)⟩::os) ⟨fr,τ,s⟩ k=obind (gv (x.read ⟨fr,τ,s⟩) w (p1 (H2 i g n call (as.map (·.read ⟨fr,τ,s⟩)) (fr.getD j .undef) s))) fun r=>e7 call os (d.put r ⟨fr,τ,s⟩) k:=n6 (by rw [h]; rfl)
theorem b1p (z:List AV):e7 call (⟨d,.allocO z,as,none,none⟩::os) ⟨fr,τ,s⟩ k=obind (p2 (M9 z call (as.map (·.read ⟨fr,τ,s⟩)) .undef s)) fun x=>e7 call os (d.put x.1 { d9 as ⟨fr,τ,s⟩ with st:=x.2 }) k:=R2 call d as os ⟨fr,τ,s⟩ k
theorem a9f (z:List AV) (x:Opd) (w:Bool) (h:g9 as=false):e7 call (⟨d,.allocO z,as,none,some (x,w)⟩::os) ⟨fr,τ,s⟩ k=obind (gv2 (x.read ⟨fr,τ,s⟩) w s (p2 (M9 z call (as.map (·.read ⟨fr,τ,s⟩)) .undef s))) fun r=>e7 call os (d.put r.1 ⟨fr,τ,r.2⟩) k:=L9 rfl rfl h
theorem b75:e7 call (⟨d,.boxO,as,none,none⟩::os) ⟨fr,τ,s⟩ k=obind (p2 (M8 call (as.map (·.read ⟨fr,τ,s⟩)) .undef s)) fun x=>e7 call os (d.put x.1 { d9 as ⟨fr,τ,s⟩ with st:=x.2 }) k:=R2 call d as os ⟨fr,τ,s⟩ k
theorem b4Q (x:Opd) (w:Bool) (h:g9 as=false):e7 call (⟨d,.boxO,as,none,some (x,w)⟩::os) ⟨fr,τ,s⟩ k=obind (gv2 (x.read ⟨fr,τ,s⟩) w s (p2 (M8 call (as.map (·.read ⟨fr,τ,s⟩)) .undef s))) fun r=>e7 call os (d.put r.1 ⟨fr,τ,r.2⟩) k:=L9 rfl rfl h
theorem a9P (q:Nat) (z:List (List AV)) (t:List Nat):e7 call (⟨d,.bsliceO q z t,as,none,none⟩::os) ⟨fr,τ,s⟩ k=obind (p2 (K2 q z t call (as.map (·.read ⟨fr,τ,s⟩)) .undef s)) fun x=>e7 call os (d.put x.1 { d9 as ⟨fr,τ,s⟩ with st:=x.2 }) k:=R2 call d as os ⟨fr,τ,s⟩ k
theorem a7Q (q:Nat) (z:List (List AV)) (t:List Nat) (x:Opd) (w:Bool) (h:g9 as=false):e7 call (⟨d,.bsliceO q z t,as,none,some (x,w)⟩::os) ⟨fr,τ,s⟩ k=obind (gv2 (x.read ⟨fr,τ,s⟩) w s (p2 (K2 q z t call (as.map (·.read ⟨fr,τ,s⟩)) .undef s))) fun r=>e7 call os (d.put r.1 ⟨fr,τ,r.2⟩) k:=L9 rfl rfl h
theorem b85 (n b:Nat):e7 call (⟨d,.appM n b,as,none,none⟩::os) ⟨fr,τ,s⟩ k=obind (p2 (D0 n b call (as.map (·.read ⟨fr,τ,s⟩)) .undef s)) fun x=>e7 call os (d.put x.1 { d9 as ⟨fr,τ,s⟩ with st:=x.2 }) k:=R2 call d as os ⟨fr,τ,s⟩ k
theorem b4x (n b:Nat) (x:Opd) (w:Bool) (h:g9 as=false):e7 call (⟨d,.appM n b,as,none,some (x,w)⟩::os) ⟨fr,τ,s⟩ k=obind (gv2 (x.read ⟨fr,τ,s⟩) w s (p2 (D0 n b call (as.map (·.read ⟨fr,τ,s⟩)) .undef s))) fun r=>e7 call os (d.put r.1 ⟨fr,τ,r.2⟩) k:=L9 rfl rfl h
theorem b2m (n:Nat):e7 call (⟨d,.ldStSR n,as,none,none⟩::os) ⟨fr,τ,s⟩ k=obind (p2 (E6 n call (as.map (·.read ⟨fr,τ,s⟩)) .undef s)) fun x=>e7 call os (d.put x.1 { d9 as ⟨fr,τ,s⟩ with st:=x.2 }) k:=R2 call d as os ⟨fr,τ,s⟩ k
theorem b0A (n:Nat) (x:Opd) (w:Bool) (h:g9 as=false):e7 call (⟨d,.ldStSR n,as,none,some (x,w)⟩::os) ⟨fr,τ,s⟩ k=obind (gv2 (x.read ⟨fr,τ,s⟩) w s (p2 (E6 n call (as.map (·.read ⟨fr,τ,s⟩)) .undef s))) fun r=>e7 call os (d.put r.1 ⟨fr,τ,r.2⟩) k:=L9 rfl rfl h
theorem b4A (n:Nat):e7 call (⟨d,.stStA n,as,none,none⟩::os) ⟨fr,τ,s⟩ k=obind (p2 (H5 n call (as.map (·.read ⟨fr,τ,s⟩)) .undef s)) fun x=>e7 call os (d.put x.1 { d9 as ⟨fr,τ,s⟩ with st:=x.2 }) k:=R2 call d as os ⟨fr,τ,s⟩ k
theorem b20 (n:Nat) (x:Opd) (w:Bool) (h:g9 as=false):e7 call (⟨d,.stStA n,as,none,some (x,w)⟩::os) ⟨fr,τ,s⟩ k=obind (gv2 (x.read ⟨fr,τ,s⟩) w s (p2 (H5 n call (as.map (·.read ⟨fr,τ,s⟩)) .undef s))) fun r=>e7 call os (d.put r.1 ⟨fr,τ,r.2⟩) k:=L9 rfl rfl h
theorem b4f (f m:Nat):e7 call (⟨d,.callA f m,as,none,none⟩::os) ⟨fr,τ,s⟩ k=obind (p2 (C7 f m call (as.map (·.read ⟨fr,τ,s⟩)) .undef s)) fun x=>e7 call os (d.put x.1 { d9 as ⟨fr,τ,s⟩ with st:=x.2 }) k:=R2 call d as os ⟨fr,τ,s⟩ k
theorem b1T (f m:Nat) (x:Opd) (w:Bool) (h:g9 as=false):e7 call (⟨d,.callA f m,as,none,some (x,w)⟩::os) ⟨fr,τ,s⟩ k=obind (gv2 (x.read ⟨fr,τ,s⟩) w s (p2 (C7 f m call (as.map (·.read ⟨fr,τ,s⟩)) .undef s))) fun r=>e7 call os (d.put r.1 ⟨fr,τ,r.2⟩) k:=L9 rfl rfl h
theorem b4S:e7 call (⟨d,.ldStS,as,none,none⟩::os) ⟨fr,τ,s⟩ k=obind (p2 (D8 call (as.map (·.read ⟨fr,τ,s⟩)) .undef s)) fun x=>e7 call os (d.put x.1 { d9 as ⟨fr,τ,s⟩ with st:=x.2 }) k:=R2 call d as os ⟨fr,τ,s⟩ k
theorem b1J (x:Opd) (w:Bool) (h:g9 as=false):e7 call (⟨d,.ldStS,as,none,some (x,w)⟩::os) ⟨fr,τ,s⟩ k=obind (gv2 (x.read ⟨fr,τ,s⟩) w s (p2 (D8 call (as.map (·.read ⟨fr,τ,s⟩)) .undef s))) fun r=>e7 call os (d.put r.1 ⟨fr,τ,r.2⟩) k:=L9 rfl rfl h
theorem b63 (n:Nat):e7 call (⟨d,.stSt n,as,none,none⟩::os) ⟨fr,τ,s⟩ k=obind (p2 (C8 n call (as.map (·.read ⟨fr,τ,s⟩)) .undef s)) fun x=>e7 call os (d.put x.1 { d9 as ⟨fr,τ,s⟩ with st:=x.2 }) k:=R2 call d as os ⟨fr,τ,s⟩ k
theorem b4o (n:Nat) (x:Opd) (w:Bool) (h:g9 as=false):e7 call (⟨d,.stSt n,as,none,some (x,w)⟩::os) ⟨fr,τ,s⟩ k=obind (gv2 (x.read ⟨fr,τ,s⟩) w s (p2 (C8 n call (as.map (·.read ⟨fr,τ,s⟩)) .undef s))) fun r=>e7 call os (d.put r.1 ⟨fr,τ,r.2⟩) k:=L9 rfl rfl h
theorem c1x:e7 call (⟨d,.mkM,as,none,none⟩::os) ⟨fr,τ,s⟩ k=obind (p2 (a0l call (as.map (·.read ⟨fr,τ,s⟩)) .undef s)) fun x=>e7 call os (d.put x.1 { d9 as ⟨fr,τ,s⟩ with st:=x.2 }) k:=R2 call d as os ⟨fr,τ,s⟩ k
theorem b7A (x:Opd) (w:Bool) (h:g9 as=false):e7 call (⟨d,.mkM,as,none,some (x,w)⟩::os) ⟨fr,τ,s⟩ k=obind (gv2 (x.read ⟨fr,τ,s⟩) w s (p2 (a0l call (as.map (·.read ⟨fr,τ,s⟩)) .undef s))) fun r=>e7 call os (d.put r.1 ⟨fr,τ,r.2⟩) k:=L9 rfl rfl h
theorem b8Q (n:Nat):e7 call (⟨d,.mset n,as,none,none⟩::os) ⟨fr,τ,s⟩ k=obind (p2 (Y9 n call (as.map (·.read ⟨fr,τ,s⟩)) .undef s)) fun x=>e7 call os (d.put x.1 { d9 as ⟨fr,τ,s⟩ with st:=x.2 }) k:=R2 call d as os ⟨fr,τ,s⟩ k
theorem b3C (n:Nat) (x:Opd) (w:Bool) (h:g9 as=false):e7 call (⟨d,.mset n,as,none,some (x,w)⟩::os) ⟨fr,τ,s⟩ k=obind (gv2 (x.read ⟨fr,τ,s⟩) w s (p2 (Y9 n call (as.map (·.read ⟨fr,τ,s⟩)) .undef s))) fun r=>e7 call os (d.put r.1 ⟨fr,τ,r.2⟩) k:=L9 rfl rfl h
theorem b8V (f:Nat):e7 call (⟨d,.call f,as,none,none⟩::os) ⟨fr,τ,s⟩ k=obind (p2 (t8 f call (as.map (·.read ⟨fr,τ,s⟩)) .undef s)) fun x=>e7 call os (d.put x.1 { d9 as ⟨fr,τ,s⟩ with st:=x.2 }) k:=R2 call d as os ⟨fr,τ,s⟩ k
theorem b3V (f:Nat) (x:Opd) (w:Bool) (h:g9 as=false):e7 call (⟨d,.call f,as,none,some (x,w)⟩::os) ⟨fr,τ,s⟩ k=obind (gv2 (x.read ⟨fr,τ,s⟩) w s (p2 (t8 f call (as.map (·.read ⟨fr,τ,s⟩)) .undef s))) fun r=>e7 call os (d.put r.1 ⟨fr,τ,r.2⟩) k:=L9 rfl rfl h
theorem b4J:e7 call (⟨d,.callV,as,none,none⟩::os) ⟨fr,τ,s⟩ k=obind (p2 (L0 call (as.map (·.read ⟨fr,τ,s⟩)) .undef s)) fun x=>e7 call os (d.put x.1 { d9 as ⟨fr,τ,s⟩ with st:=x.2 }) k:=R2 call d as os ⟨fr,τ,s⟩ k
theorem b14 (x:Opd) (w:Bool) (h:g9 as=false):e7 call (⟨d,.callV,as,none,some (x,w)⟩::os) ⟨fr,τ,s⟩ k=obind (gv2 (x.read ⟨fr,τ,s⟩) w s (p2 (L0 call (as.map (·.read ⟨fr,τ,s⟩)) .undef s))) fun r=>e7 call os (d.put r.1 ⟨fr,τ,r.2⟩) k:=L9 rfl rfl h
theorem b3W (z:List AV) (j:Nat):e7 call (⟨d,.alloc z,as,some j,none⟩::os) ⟨fr,τ,s⟩ k=obind (O5 z call (as.map (·.read ⟨fr,τ,s⟩)) (fr.getD j .undef) s) fun x=>e7 call os (d.put x.1 { d9 as ⟨fr,τ,s⟩ with fr:=(d9 as ⟨fr,τ,s⟩).fr.set j x.2.1,st:=x.2.2 }) k:=b0H call d as os ⟨fr,τ,s⟩ k j
theorem b8O (j:Nat):e7 call (⟨d,.boxV,as,some j,none⟩::os) ⟨fr,τ,s⟩ k=obind (P0 call (as.map (·.read ⟨fr,τ,s⟩)) (fr.getD j .undef) s) fun x=>e7 call os (d.put x.1 { d9 as ⟨fr,τ,s⟩ with fr:=(d9 as ⟨fr,τ,s⟩).fr.set j x.2.1,st:=x.2.2 }) k:=b0H call d as os ⟨fr,τ,s⟩ k j
theorem b3P (i:Nat) (j:Nat):e7 call (⟨d,.ldLcS i,as,some j,none⟩::os) ⟨fr,τ,s⟩ k=obind (J1 i call (as.map (·.read ⟨fr,τ,s⟩)) (fr.getD j .undef) s) fun x=>e7 call os (d.put x.1 { d9 as ⟨fr,τ,s⟩ with fr:=(d9 as ⟨fr,τ,s⟩).fr.set j x.2.1,st:=x.2.2 }) k:=b0H call d as os ⟨fr,τ,s⟩ k j
theorem b7p (i n:Nat) (j:Nat):e7 call (⟨d,.stLc i n,as,some j,none⟩::os) ⟨fr,τ,s⟩ k=obind (J5 i n call (as.map (·.read ⟨fr,τ,s⟩)) (fr.getD j .undef) s) fun x=>e7 call os (d.put x.1 { d9 as ⟨fr,τ,s⟩ with fr:=(d9 as ⟨fr,τ,s⟩).fr.set j x.2.1,st:=x.2.2 }) k:=b0H call d as os ⟨fr,τ,s⟩ k j
theorem c5V (x:Opd) (w:Bool) (h:g9 as=false):e7 call (⟨d,.mv,as,none,some (x,w)⟩::os) ⟨fr,τ,s⟩ k=obind (gv (x.read ⟨fr,τ,s⟩) w (p1 (Z6 call (as.map (·.read ⟨fr,τ,s⟩)) .undef s))) fun r=>e7 call os (d.put r ⟨fr,τ,s⟩) k:=n6 (by rw [h]; rfl)
theorem b8b (x:Opd) (w:Bool) (h:g9 as=false):e7 call (⟨d,.pick,as,none,some (x,w)⟩::os) ⟨fr,τ,s⟩ k=obind (gv (x.read ⟨fr,τ,s⟩) w (p1 (B7 call (as.map (·.read ⟨fr,τ,s⟩)) .undef s))) fun r=>e7 call os (d.put r ⟨fr,τ,s⟩) k:=n6 (by rw [h]; rfl)
theorem b3j (x:Opd) (w:Bool) (h:g9 as=false):e7 call (⟨d,.nilchk,as,none,some (x,w)⟩::os) ⟨fr,τ,s⟩ k=obind (gv (x.read ⟨fr,τ,s⟩) w (p1 (B9 call (as.map (·.read ⟨fr,τ,s⟩)) .undef s))) fun r=>e7 call os (d.put r ⟨fr,τ,s⟩) k:=n6 (by rw [h]; rfl)
theorem b8i (x:Opd) (w:Bool) (h:g9 as=false):e7 call (⟨d,.idxS,as,none,some (x,w)⟩::os) ⟨fr,τ,s⟩ k=obind (gv (x.read ⟨fr,τ,s⟩) w (p1 (I6 call (as.map (·.read ⟨fr,τ,s⟩)) .undef s))) fun r=>e7 call os (d.put r ⟨fr,τ,s⟩) k:=n6 (by rw [h]; rfl)
theorem c1H (x:Opd) (w:Bool) (h:g9 as=false):e7 call (⟨d,.slZ,as,none,some (x,w)⟩::os) ⟨fr,τ,s⟩ k=obind (gv (x.read ⟨fr,τ,s⟩) w (p1 (W5 call (as.map (·.read ⟨fr,τ,s⟩)) .undef s))) fun r=>e7 call os (d.put r ⟨fr,τ,s⟩) k:=n6 (by rw [h]; rfl)
theorem b8y (x:Opd) (w:Bool) (h:g9 as=false):e7 call (⟨d,.lenS,as,none,some (x,w)⟩::os) ⟨fr,τ,s⟩ k=obind (gv (x.read ⟨fr,τ,s⟩) w (p1 (M0 call (as.map (·.read ⟨fr,τ,s⟩)) .undef s))) fun r=>e7 call os (d.put r ⟨fr,τ,s⟩) k:=n6 (by rw [h]; rfl)
theorem b7V (x:Opd) (w:Bool) (h:g9 as=false):e7 call (⟨d,.lenL,as,none,some (x,w)⟩::os) ⟨fr,τ,s⟩ k=obind (gv (x.read ⟨fr,τ,s⟩) w (p1 (C2 call (as.map (·.read ⟨fr,τ,s⟩)) .undef s))) fun r=>e7 call os (d.put r ⟨fr,τ,s⟩) k:=n6 (by rw [h]; rfl)
theorem c1t (x:Opd) (w:Bool) (h:g9 as=false):e7 call (⟨d,.b2s,as,none,some (x,w)⟩::os) ⟨fr,τ,s⟩ k=obind (gv (x.read ⟨fr,τ,s⟩) w (p1 (U7 call (as.map (·.read ⟨fr,τ,s⟩)) .undef s))) fun r=>e7 call os (d.put r ⟨fr,τ,s⟩) k:=n6 (by rw [h]; rfl)
end
theorem VV:type_of% (And.intro (And.intro (And.intro (And.intro (And.intro (And.intro @b8e (And.intro @b0q @a7T)) (And.intro (And.intro @c7P @c1o) (And.intro @c78 @c2I))) (And.intro (And.intro (And.intro @c6b @c8u) (And.intro @c3c @put_t)) (And.intro (And.intro @put_v @c1z) (And.intro @c2n @c8v)))) (And.intro (And.intro (And.intro (And.intro @c73 @c7X) (And.intro @c7b @c8j)) (And.intro (And.intro @c67 @c2L) (And.intro @c1N @c5E))) (And.intro (And.intro (And.intro @c7n @c7k) (And.intro @c7c @c8K)) (And.intro (And.intro @b7C @b3e) (And.intro @b40 @b1D))))) (And.intro (And.intro (And.intro (And.intro @a9M (And.intro @b6G @b7o)) (And.intro (And.intro @b8t @b36) (And.intro @c3b @c2B))) (And.intro (And.intro (And.intro @c2Q @b6O) (And.intro @b7G @c2y)) (And.intro (And.intro @c2E @c2R) (And.intro @c2H @c29)))) (And.intro (And.intro (And.intro (And.intro @b8Y @b8M) (And.intro @c69 @b8d)) (And.intro (And.intro @c2V @b9e) (And.intro @c2Y @b7k))) (And.intro (And.intro (And.intro @b8j @c3e) (And.intro @c2f @b4z)) (And.intro (And.intro @b1M @a9l) (And.intro @b7F @b9c)))))) (And.intro (And.intro (And.intro (And.intro (And.intro @b6R (And.intro @b38 @c1L)) (And.intro (And.intro @c1G @c2s) (And.intro @b6V @c2e))) (And.intro (And.intro (And.intro @c2d @c2A) (And.intro @c2k @b7z)) (And.intro (And.intro @b7y @c6J) (And.intro @b8z @c3f)))) (And.intro (And.intro (And.intro (And.intro @b76 @c1M) (And.intro @c1Z @b8H)) (And.intro (And.intro @b3F @b1p) (And.intro @a9f @b75))) (And.intro (And.intro (And.intro @b4Q @a9P) (And.intro @a7Q @b85)) (And.intro (And.intro @b4x @b2m) (And.intro @b0A @b4A))))) (And.intro (And.intro (And.intro (And.intro (And.intro @b20 @b4f) (And.intro @b1T @b4S)) (And.intro (And.intro @b1J @b63) (And.intro @b4o @c1x))) (And.intro (And.intro (And.intro @b7A @b8Q) (And.intro @b3C @b8V)) (And.intro (And.intro @b3V @b4J) (And.intro @b14 @b3W)))) (And.intro (And.intro (And.intro (And.intro @b8O @b3P) (And.intro @b7p @c63)) (And.intro (And.intro @c68 @c6M) (And.intro @c5G @c6L))) (And.intro (And.intro (And.intro @c5V @b8b) (And.intro @b3j @b8i)) (And.intro (And.intro @c1H @b8y) (And.intro @b7V @c1t))))))):=(And.intro (And.intro (And.intro (And.intro (And.intro (And.intro @b8e (And.intro @b0q @a7T)) (And.intro (And.intro @c7P @c1o) (And.intro @c78 @c2I))) (And.intro (And.intro (And.intro @c6b @c8u) (And.intro @c3c @put_t)) (And.intro (And.intro @put_v @c1z) (And.intro @c2n @c8v)))) (And.intro (And.intro (And.intro (And.intro @c73 @c7X) (And.intro @c7b @c8j)) (And.intro (And.intro @c67 @c2L) (And.intro @c1N @c5E))) (And.intro (And.intro (And.intro @c7n @c7k) (And.intro @c7c @c8K)) (And.intro (And.intro @b7C @b3e) (And.intro @b40 @b1D))))) (And.intro (And.intro (And.intro (And.intro @a9M (And.intro @b6G @b7o)) (And.intro (And.intro @b8t @b36) (And.intro @c3b @c2B))) (And.intro (And.intro (And.intro @c2Q @b6O) (And.intro @b7G @c2y)) (And.intro (And.intro @c2E @c2R) (And.intro @c2H @c29)))) (And.intro (And.intro (And.intro (And.intro @b8Y @b8M) (And.intro @c69 @b8d)) (And.intro (And.intro @c2V @b9e) (And.intro @c2Y @b7k))) (And.intro (And.intro (And.intro @b8j @c3e) (And.intro @c2f @b4z)) (And.intro (And.intro @b1M @a9l) (And.intro @b7F @b9c)))))) (And.intro (And.intro (And.intro (And.intro (And.intro @b6R (And.intro @b38 @c1L)) (And.intro (And.intro @c1G @c2s) (And.intro @b6V @c2e))) (And.intro (And.intro (And.intro @c2d @c2A) (And.intro @c2k @b7z)) (And.intro (And.intro @b7y @c6J) (And.intro @b8z @c3f)))) (And.intro (And.intro (And.intro (And.intro @b76 @c1M) (And.intro @c1Z @b8H)) (And.intro (And.intro @b3F @b1p) (And.intro @a9f @b75))) (And.intro (And.intro (And.intro @b4Q @a9P) (And.intro @a7Q @b85)) (And.intro (And.intro @b4x @b2m) (And.intro @b0A @b4A))))) (And.intro (And.intro (And.intro (And.intro (And.intro @b20 @b4f) (And.intro @b1T @b4S)) (And.intro (And.intro @b1J @b63) (And.intro @b4o @c1x))) (And.intro (And.intro (And.intro @b7A @b8Q) (And.intro @b3C @b8V)) (And.intro (And.intro @b3V @b4J) (And.intro @b14 @b3W)))) (And.intro (And.intro (And.intro (And.intro @b8O @b3P) (And.intro @b7p @c63)) (And.intro (And.intro @c68 @c6M) (And.intro @c5G @c6L))) (And.intro (And.intro (And.intro @c5V @b8b) (And.intro @b3j @b8i)) (And.intro (And.intro @c1H @b8y) (And.intro @b7V @c1t)))))))
end Go.Cb.V
set_option maxRecDepth 4000
set_option linter.unusedVariables false
set_option linter.unusedSimpArgs false
namespace Go.Cb.G
open Go Go.Cb
variable {ρ:Type}
section
noncomputable def onI (x:AV) (e:(Option ρ)) (k:IntKind→Int→(Option ρ)):(Option ρ):=AV.rec (motive_1:=fun _=>(Option ρ)) (motive_2:=fun _=>Unit) (motive_3:=fun _=>Unit)
 e (fun _=>e) (fun t n=>k t n) (fun _=>e) (fun _ _ _=>e) (fun _ _=>e) e (fun _ _=>e) (fun _ _=>e) (fun _ _=>e) (fun _=>e) e (fun _ _ _ _ _=>e) e (fun _ _=>e) (fun _ _=>e) (fun _ _ _=>e) e (fun _ _ _ _=>e) (fun _ _=>e) e
 () (fun _ _ _ _=>()) () (fun _ _ _ _=>()) x
noncomputable def c0f (x:AV) (e:(Option ρ)) (k:IntKind→Int→(Option ρ)) (l:List Nat→(Option ρ)):(Option ρ):=AV.rec (motive_1:=fun _=>(Option ρ)) (motive_2:=fun _=>Unit) (motive_3:=fun _=>Unit)
 e (fun _=>e) (fun t n=>k t n) (fun s=>l s) (fun _ _ _=>e) (fun _ _=>e) e (fun _ _=>e) (fun _ _=>e) (fun _ _=>e) (fun _=>e) e (fun _ _ _ _ _=>e) e (fun _ _=>e) (fun _ _=>e) (fun _ _ _=>e) e (fun _ _ _ _=>e) (fun _ _=>e) e
 () (fun _ _ _ _=>()) () (fun _ _ _ _=>()) x
noncomputable def onS (x:AV) (e:(Option ρ)) (k:List Nat→(Option ρ)):(Option ρ):=AV.rec (motive_1:=fun _=>(Option ρ)) (motive_2:=fun _=>Unit) (motive_3:=fun _=>Unit)
 e (fun _=>e) (fun t n=>e) (fun s=>k s) (fun _ _ _=>e) (fun _ _=>e) e (fun _ _=>e) (fun _ _=>e) (fun _ _=>e) (fun _=>e) e (fun _ _ _ _ _=>e) e (fun _ _=>e) (fun _ _=>e) (fun _ _ _=>e) e (fun _ _ _ _=>e) (fun _ _=>e) e
 () (fun _ _ _ _=>()) () (fun _ _ _ _=>()) x
noncomputable def onB (x:AV) (e:(Option ρ)) (k:Bool→(Option ρ)):(Option ρ):=AV.rec (motive_1:=fun _=>(Option ρ)) (motive_2:=fun _=>Unit) (motive_3:=fun _=>Unit)
 e (fun b=>k b) (fun t n=>e) (fun s=>e) (fun _ _ _=>e) (fun _ _=>e) e (fun _ _=>e) (fun _ _=>e) (fun _ _=>e) (fun _=>e) e (fun _ _ _ _ _=>e) e (fun _ _=>e) (fun _ _=>e) (fun _ _ _=>e) e (fun _ _ _ _=>e) (fun _ _=>e) e
 () (fun _ _ _ _=>()) () (fun _ _ _ _=>()) x
noncomputable def c8M (x:AV) (e:(Option ρ)) (k:Bool→(Option ρ)) (t:List AV→(Option ρ)):(Option ρ):=AV.rec (motive_1:=fun _=>(Option ρ)) (motive_2:=fun _=>Unit) (motive_3:=fun _=>Unit)
 e (fun b=>k b) (fun t n=>e) (fun s=>e) (fun _ _ _=>e) (fun _ _=>e) e (fun _ _=>e) (fun _ _=>e) (fun _ _=>e) (fun _=>e) e (fun _ _ _ _ _=>e) e (fun _ _=>e) (fun vs _=>t vs) (fun _ _ _=>e) e (fun _ _ _ _=>e) (fun _ _=>e) e
 () (fun _ _ _ _=>()) () (fun _ _ _ _=>()) x
noncomputable def onL (x:AV) (e:(Option ρ)) (k:List (List AV)→(Option ρ)):(Option ρ):=AV.rec (motive_1:=fun _=>(Option ρ)) (motive_2:=fun _=>Unit) (motive_3:=fun _=>Unit)
 e (fun b=>e) (fun t n=>e) (fun s=>e) (fun _ xs _=>k xs) (fun _ _=>e) e (fun _ _=>e) (fun _ _=>e) (fun _ _=>e) (fun _=>e) e (fun _ _ _ _ _=>e) e (fun _ _=>e) (fun _ _=>e) (fun _ _ _=>e) e (fun _ _ _ _=>e) (fun _ _=>e) e
 () (fun _ _ _ _=>()) () (fun _ _ _ _=>()) x
noncomputable def onP (x:AV) (e:(Option ρ)) (k:Nat→Nat→(Option ρ)):(Option ρ):=AV.rec (motive_1:=fun _=>(Option ρ)) (motive_2:=fun _=>Unit) (motive_3:=fun _=>Unit)
 e (fun b=>e) (fun t n=>e) (fun s=>e) (fun _ xs _=>e) (fun o f=>k o f) e (fun _ _=>e) (fun _ _=>e) (fun _ _=>e) (fun _=>e) e (fun _ _ _ _ _=>e) e (fun _ _=>e) (fun _ _=>e) (fun _ _ _=>e) e (fun _ _ _ _=>e) (fun _ _=>e) e
 () (fun _ _ _ _=>()) () (fun _ _ _ _=>()) x
noncomputable def b0W (x:AV) (e:(Option ρ)) (k:Nat→Nat→(Option ρ)) (l:List AV→(Option ρ)) (m:Nat→Nat→(Option ρ)):(Option ρ):=AV.rec (motive_1:=fun _=>(Option ρ)) (motive_2:=fun _=>Unit) (motive_3:=fun _=>Unit)
 e (fun b=>e) (fun t n=>e) (fun s=>e) (fun _ xs _=>e) (fun o f=>k o f) e (fun cs _=>l cs) (fun i f=>m i f) (fun _ _=>e) (fun _=>e) e (fun _ _ _ _ _=>e) e (fun _ _=>e) (fun _ _=>e) (fun _ _ _=>e) e (fun _ _ _ _=>e) (fun _ _=>e) e
 () (fun _ _ _ _=>()) () (fun _ _ _ _=>()) x
noncomputable def onR (x:AV) (e:(Option ρ)) (l:List AV→(Option ρ)):(Option ρ):=AV.rec (motive_1:=fun _=>(Option ρ)) (motive_2:=fun _=>Unit) (motive_3:=fun _=>Unit)
 e (fun b=>e) (fun t n=>e) (fun s=>e) (fun _ xs _=>e) (fun o f=>e) e (fun cs _=>l cs) (fun _ _=>e) (fun _ _=>e) (fun _=>e) e (fun _ _ _ _ _=>e) e (fun _ _=>e) (fun _ _=>e) (fun _ _ _=>e) e (fun _ _ _ _=>e) (fun _ _=>e) e
 () (fun _ _ _ _=>()) () (fun _ _ _ _=>()) x
noncomputable def b6d (x:AV) (e:(Option ρ)) (l:List AV→(Option ρ)):(Option ρ):=AV.rec (motive_1:=fun _=>(Option ρ)) (motive_2:=fun _=>Unit) (motive_3:=fun _=>Unit)
 e (fun b=>e) (fun t n=>e) (fun s=>e) (fun _ xs _=>e) (fun o f=>e) e (fun cs _=>e) (fun _ _=>e) (fun cs _=>l cs) (fun _=>e) e (fun _ _ _ _ _=>e) e (fun _ _=>e) (fun _ _=>e) (fun _ _ _=>e) e (fun _ _ _ _=>e) (fun _ _=>e) e
 () (fun _ _ _ _=>()) () (fun _ _ _ _=>()) x
noncomputable def b9t (x:AV) (e:(Option ρ)) (l:Nat→Nat→(Option ρ)):(Option ρ):=AV.rec (motive_1:=fun _=>(Option ρ)) (motive_2:=fun _=>Unit) (motive_3:=fun _=>Unit)
 e (fun b=>e) (fun t n=>e) (fun s=>e) (fun _ xs _=>e) (fun o f=>e) e (fun cs _=>e) (fun i f=>l i f) (fun cs _=>e) (fun _=>e) e (fun _ _ _ _ _=>e) e (fun _ _=>e) (fun _ _=>e) (fun _ _ _=>e) e (fun _ _ _ _=>e) (fun _ _=>e) e
 () (fun _ _ _ _=>()) () (fun _ _ _ _=>()) x
theorem a0e (x:AV) (e:(Option ρ)) (k:IntKind→Int→(Option ρ)):onI x e k=match x with|.int t n=>k t n|_=>e:=by cases x <;> rfl
theorem b39 (x:AV) (e:(Option ρ)) (k:IntKind→Int→(Option ρ)) (l:List Nat→(Option ρ)):c0f x e k l=match x with|.int t n=>k t n|.str s=>l s|_=>e:=by cases x <;> rfl
theorem a3d (x:AV) (e:(Option ρ)) (k:List Nat→(Option ρ)):onS x e k=match x with|.str s=>k s|_=>e:=by cases x <;> rfl
theorem b22 (x:AV) (e:(Option ρ)) (k:Bool→(Option ρ)):onB x e k=match x with|.bool b=>k b|_=>e:=by cases x <;> rfl
theorem c4g (x:AV) (e:(Option ρ)) (k:Bool→(Option ρ)) (t:List AV→(Option ρ)):c8M x e k t=match x with|.bool b=>k b|.tuple vs=>t vs|_=>e:=by cases x <;> rfl
theorem b2a (x:AV) (e:(Option ρ)) (k:List (List AV)→(Option ρ)):onL x e k=match x with|.list _ xs=>k xs|_=>e:=by cases x <;> rfl
theorem b8I (x:AV) (e:(Option ρ)) (k:Nat→Nat→(Option ρ)):onP x e k=match x with|.ptr o f=>k o f|_=>e:=by cases x <;> rfl
theorem a5Z (x:AV) (e:(Option ρ)) (k:Nat→Nat→(Option ρ)) (l:List AV→(Option ρ)) (m:Nat→Nat→(Option ρ)):b0W x e k l m=match x with|.ptr o f=>k o f|.ro cs=>l cs|.loc i f=>m i f|_=>e:=by cases x <;> rfl
theorem c8I (x:AV) (e:(Option ρ)) (l:List AV→(Option ρ)):onR x e l=match x with|.ro cs=>l cs|_=>e:=by cases x <;> rfl
theorem a8q (x:AV) (e:(Option ρ)) (l:List AV→(Option ρ)):b6d x e l=match x with|.box cs=>l cs|_=>e:=by cases x <;> rfl
theorem b4N (x:AV) (e:(Option ρ)) (l:Nat→Nat→(Option ρ)):b9t x e l=match x with|.loc i f=>l i f|_=>e:=by cases x <;> rfl
end
noncomputable def kIx (k:IntKind):Nat:=IntKind.rec (motive:=fun _=>Nat) 0 1 2 3 4 5 6 7 k
noncomputable def cB (b:Bool) (x y:(Option ρ)):(Option ρ):=Bool.rec (motive:=fun _=>(Option ρ)) y x b
theorem P6 (b:Bool) (x y:(Option ρ)):cB b x y=if b=true then x else y:=by cases b <;> rfl
theorem a3L (a b:IntKind):Nat.beq (kIx a) (kIx b)=decide (a=b):=by cases a <;> cases b <;> rfl
noncomputable def bo (b:Bool) (k:AV→(Option ρ)):(Option ρ):=cB b (k (.bool true)) (k (.bool false))
theorem a6V (b:Bool) (k:AV→(Option ρ)):bo b k=k (.bool b):=by cases b <;> rfl
noncomputable def a5K (n:Nat) (k:Nat→(Option ρ)):(Option ρ):=Nat.rec (motive:=fun _=>(Option ρ)) (k 0) (fun m _=>k (Nat.succ m)) n
theorem a2k (n:Nat) (k:Nat→(Option ρ)):a5K n k=k n:=by cases n <;> rfl
noncomputable def nn (a b:Int) (e:(Option ρ)) (k:Nat→Nat→(Option ρ)):(Option ρ):=Int.rec (motive:=fun _=>(Option ρ)) (fun a=>Int.rec (motive:=fun _=>(Option ρ)) (fun b=>k a b) (fun _=>e) b) (fun _=>e) a
theorem a4p (a b:Int) (e:(Option ρ)) (k:Nat→Nat→(Option ρ)):nn a b e k=match a,b with|.ofNat a,.ofNat b=>k a b|_,_=>e:=by cases a <;> cases b <;> rfl
noncomputable def eqF (x:List Nat):List Nat→Bool:=List.rec (motive:=fun _=>List Nat→Bool) (fun y=>List.rec (motive:=fun _=>Bool) true (fun _ _ _=>false) y)
 (fun a _ ih y=>List.rec (motive:=fun _=>Bool) false (fun b t _=>Bool.rec (motive:=fun _=>Bool) false (ih t) (Nat.beq a b)) y) x
theorem b2S:∀ x y:List Nat,eqF x y=eqN x y
 | [],[]=>rfl
 | [],_::_=>rfl
 | _::_,[]=>rfl
 | a::x,b::y=>by
  have ih:=b2S x y
  show (Bool.rec (motive:=fun _=>Bool) false (eqF x y) (Nat.beq a b))=(Nat.beq a b && eqN x y)
  rw [ih]
  cases Nat.beq a b <;> rfl
noncomputable def a3k {β:Type} (l:List β) (e:(Option ρ)) (k:β→(Option ρ)):Nat→(Option ρ):=List.rec (motive:=fun _=>Nat→(Option ρ)) (fun _=>e) (fun a _ ih i=>Nat.rec (motive:=fun _=>(Option ρ)) (k a) (fun j _=>ih j) i) l
theorem a2s {β:Type}:∀ (l:List β) (e:(Option ρ)) (k:β→(Option ρ)) (i:Nat),a3k l e k i=match l[i]? with|some a=>k a|none=>e
 | [],e,k,i=>by cases i <;> rfl
 | a::l,e,k,0=>rfl
 | a::l,e,k,i+1=>by
  have:=a2s l e k i
  show a3k l e k i=_
  rw [this]
  simp
noncomputable def N3 {β:Type} (l:List β):Nat:=List.rec (motive:=fun _=>Nat) 0 (fun _ _ n=>Nat.add n 1) l
theorem K1 {β:Type}:∀ l:List β,N3 l=l.length
 | []=>rfl
 | a::l=>by
  show Nat.add (N3 l) 1=_
  rw [K1 l]
  rfl
noncomputable def a7U (n:Nat):List AV→List AV:=Nat.rec (motive:=fun _=>List AV→List AV) (fun l=>l) (fun _ ih l=>List.rec (motive:=fun _=>List AV) [] (fun _ t _=>ih t) l) n
theorem a03:∀ (n:Nat) (l:List AV),a7U n l=l.drop n
 | 0,l=>rfl
 | n+1,[]=>rfl
 | n+1,a::l=>a03 n l
noncomputable def b0M {β:Type} (i:Nat) (l:List β):List β:=Nat.rec (motive:=fun _=>List β) l (fun _ ih=>List.rec (motive:=fun _=>List β) [] (fun _ t _=>t) ih) i
theorem a5F {β:Type}:∀ (i:Nat) (l:List β),b0M i l=l.drop i
 | 0,l=>rfl
 | i+1,l=>by
  have:=a5F i l
  show List.rec (motive:=fun _=>List β) [] (fun _ t _=>t) (b0M i l)=_
  rw [this,show l.drop (i+1)=(l.drop i).drop 1 by rw [List.drop_drop]]
  cases l.drop i <;> rfl
noncomputable def atO {β:Type} (l:List β) (e:(Option ρ)) (k:β→(Option ρ)) (i:Nat):(Option ρ):=List.rec (motive:=fun _=>(Option ρ)) e (fun a _ _=>k a) (b0M i l)
theorem b8l {β:Type} (l:List β) (e:(Option ρ)) (k:β→(Option ρ)) (i:Nat):atO l e k i=match l[i]? with|some a=>k a|none=>e:=by
 unfold atO
 rw [a5F]
 have h:l[i]?=(l.drop i)[0]?:=by simp
 rw [h]
 cases l.drop i <;> rfl
noncomputable def b0R {β:Type} (n:Nat) (l:List β) (k:List β→(Option ρ)):(Option ρ):=Nat.rec (motive:=fun _=>List β→(List β→(Option ρ))→(Option ρ)) (fun _ k=>k []) (fun _ ih l k=>List.rec (motive:=fun _=>(Option ρ)) (k []) (fun a t _=>ih t fun r=>k (a::r)) l) n l k
theorem a2Z {β:Type}:∀ (n:Nat) (l:List β) (k:List β→(Option ρ)),b0R n l k=k (l.take n)
 | 0,l,k=>by show k []=_; rw [List.take_zero]
 | n+1,[],k=>rfl
 | n+1,a::l,k=>a2Z n l fun r=>k (a::r)
noncomputable def b6f {β:Type} (l r:List β) (k:List β→(Option ρ)):(Option ρ):=List.rec (motive:=fun _=>(List β→(Option ρ))→(Option ρ)) (fun k=>k r) (fun a _ ih k=>ih fun t=>k (a::t)) l k
theorem a8A {β:Type} (r:List β):∀ (l:List β) (k:List β→(Option ρ)),b6f l r k=k (l++r)
 | [],k=>rfl
 | a::l,k=>a8A r l fun t=>k (a::t)
noncomputable def c2c (l:List AV) (e:(Option ρ)) (k:AV→(Option ρ)):(Option ρ):=List.rec (motive:=fun _=>(Option ρ)) e (fun a _ _=>k a) l
theorem b9u (l:List AV) (e:(Option ρ)) (k:AV→(Option ρ)):c2c l e k=match l with|a::_=>k a|[]=>e:=by cases l <;> rfl
noncomputable def w1K (x:AV) (k:AV→(Option ρ)):(Option ρ):=AV.rec (motive_1:=fun _=>(Option ρ)) (motive_2:=fun _=>Unit) (motive_3:=fun _=>Unit)
 (k .undef) (fun b=>k (.bool b)) (fun t n=>k (.int t n)) (fun s=>k (.str s)) (fun _ xs _=>k (.list false xs)) (fun o f=>k (.ptr o f)) (k .nilp) (fun cs _=>k (.ro cs)) (fun i f=>k (.loc i f)) (fun cs _=>k (.box cs)) (fun o=>k (.map o)) (k .nilm) (fun f a c _ _=>k (.func f a c)) (k .nilf) (fun cs _=>k (.agg cs)) (fun vs _=>k (.tuple vs)) (fun t v _=>k (.iface t v)) (k .nili) (fun o f n s=>k (.sl o f n s)) (fun xs _=>k (.fresh xs)) (k .nils)
 () (fun _ _ _ _=>()) () (fun _ _ _ _=>()) x
theorem b8q (x:AV) (k:AV→(Option ρ)):w1K x k=k x.weak1:=by cases x <;> rfl
noncomputable def c1h (l:List AV) (k:List AV→(Option ρ)):(Option ρ):=List.rec (motive:=fun _=>(List AV→(Option ρ))→(Option ρ)) (fun k=>k []) (fun a _ ih k=>w1K a fun w=>ih fun r=>k (w::r)) l k
theorem b4u:∀ (l:List AV) (k:List AV→(Option ρ)),c1h l k=k (l.map AV.weak1)
 | [],k=>rfl
 | a::l,k=>by
  show w1K a (fun w=>c1h l fun r=>k (w::r))=_
  rw [b8q,b4u l]
  rfl
noncomputable def a6v {β:Type} (l:List β) (e:(Option ρ)) (k:List β→(Option ρ)):(Option ρ):=List.rec (motive:=fun _=>(Option ρ)) e (fun _ l _=>List.rec (motive:=fun _=>(Option ρ)) e (fun _ l _=>List.rec (motive:=fun _=>(Option ρ)) e (fun _ l _=>List.rec (motive:=fun _=>(Option ρ)) e (fun _ l _=>List.rec (motive:=fun _=>(Option ρ)) e (fun _ l _=>List.rec (motive:=fun _=>(Option ρ)) e (fun _ l _=>List.rec (motive:=fun _=>(Option ρ)) e (fun _ l _=>List.rec (motive:=fun _=>(Option ρ)) e (fun _ l _=>k l) l) l) l) l) l) l) l) l
theorem b9j {β:Type} (l:List β) (e:(Option ρ)) (k:List β→(Option ρ)):a6v l e k=if 8≤l.length then k (l.drop 8) else e:=by
 match l with
 | []=>rfl
 | [_]=>rfl
 | [_,_]=>rfl
 | [_,_,_]=>rfl
 | [_,_,_,_]=>rfl
 | [_,_,_,_,_]=>rfl
 | [_,_,_,_,_,_]=>rfl
 | [_,_,_,_,_,_,_]=>rfl
 | _::_::_::_::_::_::_::_::t=>rw [if_pos (by simp)]; rfl
noncomputable def b47 {β:Type} (l:List β) (e:(Option ρ)) (k:β→(Option ρ)) (i:Nat):(Option ρ):=Nat.rec (motive:=fun _=>List β→(Option ρ)) (fun l=>a3k l e k (Nat.mod i 8)) (fun _ ih l=>a6v l e ih) (Nat.div i 8) l
theorem b4F {β:Type} (e:(Option ρ)) (k:β→(Option ρ)) (r:Nat):∀ (q:Nat) (l:List β),Nat.rec (motive:=fun _=>List β→(Option ρ)) (fun l=>a3k l e k r) (fun _ ih l=>a6v l e ih) q l=a3k l e k (8*q+r)
 | 0,l=>by show a3k l e k r=_; rw [Nat.mul_zero,Nat.zero_add]
 | q+1,l=>by
  show a6v l e (fun l=>Nat.rec (motive:=fun _=>List β→(Option ρ)) (fun l=>a3k l e k r) (fun _ ih l=>a6v l e ih) q l)=_
  rw [b9j,b4F e k r q (l.drop 8),a2s,a2s]
  split
  · rw [List.getElem?_drop,show 8+(8*q+r)=8*(q+1)+r by omega]
  · rw [List.getElem?_eq_none (by omega)]
theorem b3Q {β:Type} (l:List β) (e:(Option ρ)) (k:β→(Option ρ)) (i:Nat):b47 l e k i=match l[i]? with|some a=>k a|none=>e:=by
 unfold b47
 rw [b4F e k (Nat.mod i 8) (Nat.div i 8) l,a2s,show 8*Nat.div i 8+Nat.mod i 8=i from Nat.div_add_mod i 8]
noncomputable def b0Z {β:Type} (l:List β) (e:(Option ρ)) (ih:List β→(List β→(Option ρ))→(Option ρ)) (k:List β→(Option ρ)):(Option ρ):=List.rec (motive:=fun _=>(Option ρ)) e (fun a0 l _=>List.rec (motive:=fun _=>(Option ρ)) e (fun a1 l _=>List.rec (motive:=fun _=>(Option ρ)) e (fun a2 l _=>List.rec (motive:=fun _=>(Option ρ)) e (fun a3 l _=>List.rec (motive:=fun _=>(Option ρ)) e (fun a4 l _=>List.rec (motive:=fun _=>(Option ρ)) e (fun a5 l _=>List.rec (motive:=fun _=>(Option ρ)) e (fun a6 l _=>List.rec (motive:=fun _=>(Option ρ)) e (fun a7 l _=>ih l (fun r=>k (a0::a1::a2::a3::a4::a5::a6::a7::r))) l) l) l) l) l) l) l) l
theorem c4k {β:Type} (l:List β) (e:(Option ρ)) (ih:List β→(List β→(Option ρ))→(Option ρ)) (k:List β→(Option ρ)):b0Z l e ih k=if 8≤l.length then ih (l.drop 8) (fun r=>k (l.take 8++r)) else e:=by
 match l with
 | []=>rfl
 | [_]=>rfl
 | [_,_]=>rfl
 | [_,_,_]=>rfl
 | [_,_,_,_]=>rfl
 | [_,_,_,_,_]=>rfl
 | [_,_,_,_,_,_]=>rfl
 | [_,_,_,_,_,_,_]=>rfl
 | _::_::_::_::_::_::_::_::t=>rw [if_pos (by simp)]; rfl
section
variable (c:d8) (b:AV) (s:St) (f:AV→(Option ρ))
noncomputable def c1d (x y:AV):(Option ρ):=c0f x none (fun t m=>onI y none fun u n=>cB (Nat.beq (kIx t) (kIx u)) (nn m n (bo (eqI m n) f) fun a b=>bo (Nat.beq a b) f) none) (fun l=>onS y none fun r=>bo (eqF l r) f)
noncomputable def c0l (x y:AV):(Option ρ):=c0f x none (fun t m=>onI y none fun u n=>cB (Nat.beq (kIx t) (kIx u)) (nn m n (bo (!eqI m n) f) fun a b=>cB (Nat.beq a b) (f (.bool false)) (f (.bool true))) none) (fun l=>onS y none fun r=>cB (eqF l r) (f (.bool false)) (f (.bool true)))
noncomputable def a1O (op:BinOp) (g:Nat→Nat→Bool) (x y:AV):(Option ρ):=onI x (obind (p1 (sem (.bin op) c [x,y] b s)) f) (fun t m=>onI y none fun u n=>cB (Nat.beq (kIx t) (kIx u)) (nn m n (obind (p1 (sem (.bin op) c [.int t m,.int u n] b s)) f) fun a b=>bo (g a b) f) none)
noncomputable def b9M (x y:AV):(Option ρ):=onI x (obind (p1 (sem (.bin .add) c [x,y] b s)) f) (fun t m=>onI y none fun u n=>cB (Nat.beq (kIx t) (kIx u)) (nn m n (obind (p1 (sem (.bin .add) c [.int t m,.int u n] b s)) f)
 fun i j=>a5K (Nat.add i j) fun r=>cB (Nat.blt r 128) (f (.int t (.ofNat r))) (cB (Nat.beq (kIx t) 3) (cB (Nat.blt r 9223372036854775808) (f (.int t (.ofNat r))) (obind (p1 (sem (.bin .add) c [.int t m,.int u n] b s)) f)) (obind (p1 (sem (.bin .add) c [.int t m,.int u n] b s)) f))) none)
noncomputable def c0R (x y:AV):(Option ρ):=onI x (obind (p1 (sem (.bin .sub) c [x,y] b s)) f) (fun t m=>onI y none fun u n=>cB (Nat.beq (kIx t) (kIx u)) (nn m n (obind (p1 (sem (.bin .sub) c [.int t m,.int u n] b s)) f)
 fun i j=>cB (Nat.ble j i) (a5K (Nat.sub i j) fun r=>cB (Nat.blt r 128) (f (.int t (.ofNat r))) (cB (Nat.beq (kIx t) 3) (cB (Nat.blt r 9223372036854775808) (f (.int t (.ofNat r))) (obind (p1 (sem (.bin .sub) c [.int t m,.int u n] b s)) f)) (obind (p1 (sem (.bin .sub) c [.int t m,.int u n] b s)) f))) (obind (p1 (sem (.bin .sub) c [.int t m,.int u n] b s)) f)) none)
noncomputable def c0I (x:AV):(Option ρ):=onB x none fun y=>cB y (f (.bool false)) (f (.bool true))
noncomputable def b2R (x:AV):(Option ρ):=cB x.plain (f x) none
noncomputable def b6r (x y z:AV):(Option ρ):=onB x none fun v=>cB v (b2R f y) (b2R f z)
noncomputable def c1m (x:AV):(Option ρ):=b0W x (obind (p1 (sem .nilchk c [x] b s)) f) (fun o i=>f (.ptr o i)) (fun cs=>f (.ro cs)) (fun i j=>f (.loc i j))
noncomputable def b9D (d:Nat) (x:AV):(Option ρ):=b0W x none (fun o i=>a5K (Nat.add i d) fun i=>f (.ptr o i)) (fun cs=>f (.ro (a7U d cs))) (fun o i=>a5K (Nat.add i d) fun i=>f (.loc o i))
noncomputable def a4e (ag:Bool) (n:Nat) (cs:List AV):(Option ρ):=cB ag (cB (Nat.ble n (N3 cs)) (b0R n cs fun r=>c1h r fun r=>f (.agg r)) none) (c2c cs none fun x=>w1K x f)
noncomputable def b2u (x:Obj) (k:List AV→(Option ρ)):(Option ρ):=Obj.rec (motive:=fun _=>(Option ρ)) k (fun _=>none) none x
noncomputable def a6h (ag:Bool) (n:Nat) (x:AV):(Option ρ):=onP x none fun o i=>b47 s none (fun ob=>b2u ob fun cs=>a4e f ag n (a7U i cs)) o
noncomputable def a7b (ag:Bool) (n:Nat) (x:AV):(Option ρ):=onR x none fun cs=>a4e f ag n cs
noncomputable def b5d (i:Nat) (ag:Bool) (n:Nat) (x:AV):(Option ρ):=b9t x none fun j off=>b6d b none fun cs=>cB (Nat.beq i j) (a4e f ag n (a7U off cs)) none
noncomputable def b6b (x:AV):(Option ρ):=onS x none fun l=>a5K (N3 l) fun n=>f (.int .i64 (.ofNat n))
noncomputable def b53 (x:AV):(Option ρ):=onL x (obind (p1 (sem .lenL c [x] b s)) f) fun l=>a5K (N3 l) fun n=>f (.int .i64 (.ofNat n))
noncomputable def c0t (x y:AV):(Option ρ):=onS x none fun l=>onI y none fun _ n=>Int.rec (motive:=fun _=>(Option ρ)) (fun i=>atO l none (fun m=>f (.int .u8 (.ofNat m))) i) (fun _=>none) n
noncomputable def c0a (sz:Nat) (x y:AV):(Option ρ):=onL x (obind (p1 (sem (.iad sz) c [x,y] b s)) f) fun l=>onI y none fun _ n=>Int.rec (motive:=fun _=>(Option ρ)) (fun i=>atO l none (fun r=>cB (Nat.beq (N3 r) sz) (f (.ro r)) none) i) (fun _=>none) n
end
section
variable (c:d8) (b:AV) (s:St) (f:AV→(Option ρ))
theorem c5A (x y:AV):c1d f x y=obind (p1 (sem (.bin .eql) c [x,y] b s)) f:=by
 simp only [c1d,b39,a0e,a3d,P6,a6V,a4p,b2S,a3L,sem,A9]
 cases x <;> cases y <;> try rfl
 · rename_i t m u n
   by_cases h:t=u
   · subst h
     cases m <;> cases n <;> simp [l8,p1,obind,eqI]
   · simp [l8,h,p1,obind]
theorem c4j (x y:AV):c0l f x y=obind (p1 (sem (.bin .neq) c [x,y] b s)) f:=by
 simp only [c0l,b39,a0e,a3d,P6,a6V,a4p,b2S,a3L,sem,A9]
 cases x <;> cases y <;> try rfl
 · rename_i t m u n
   by_cases h:t=u
   · subst h
     cases m <;> cases n <;> simp [l8,p1,obind,eqI]
     rename_i m n
     by_cases h:m=n
     · subst h; simp
     · have e:Nat.beq m n=false:=Bool.eq_false_iff.mpr (fun q=>h (Nat.eq_of_beq_eq_true q))
       simp [e,h]
   · simp [l8,h,p1,obind]
 · rename_i l r
   simp only [l8,AN,p1,obind]
   cases eqN l r <;> rfl
theorem c0x {op:BinOp} (ho:op=.lss∨op=.leq∨op=.gtr∨op=.geq) (t:IntKind) (m:Int) (y:AV) (hy:∀ u n,y≠.int u n):l8 op (.int t m) y=none:=by
 cases y <;> first|(exfalso; exact hy _ _ rfl)|(rcases ho with rfl|rfl|rfl|rfl <;> rfl)
theorem c7e {op:BinOp} (ho:op=.lss∨op=.leq∨op=.gtr∨op=.geq) {t u:IntKind} (h:t≠u) (m n:Int):l8 op (.int t m) (.int u n)=none:=by
 rcases ho with rfl|rfl|rfl|rfl <;> simp [l8,h]
theorem a4j (op:BinOp) (g:Nat→Nat→Bool) (ho:op=.lss∨op=.leq∨op=.gtr∨op=.geq) (hg:∀ (t:IntKind) (i j:Nat),l8 op (.int t (.ofNat i)) (.int t (.ofNat j))=some (.bool (g i j))) (x y:AV):a1O c b s f op g x y=obind (p1 (sem (.bin op) c [x,y] b s)) f:=by
 simp only [a1O,a0e,P6,a6V,a4p,a3L]
 cases x <;> try rfl
 rename_i t m
 cases y
 case int u n =>
  simp only
  by_cases h:t=u
  · subst h
    simp only [decide_true,if_true]
    cases m <;> cases n <;> try rfl
    rename_i i j
    simp only [sem,A9,hg,AN,p1,obind]
  · simp only [h,decide_false,Bool.false_eq_true,if_false,sem,A9,c7e ho h,Option.map_none,p1,obind]
 all_goals (simp only [sem,A9]; rw [c0x ho _ _ _ (by simp)]; rfl)
theorem a6y (t:IntKind) {r:Nat} (h:r < 128):m5 t (Int.ofNat r)=Int.ofNat r:=by
 rw [C6]
 cases t <;> simp [IntKind.wrap,IntKind.signed,IntKind.bits] <;> omega
theorem b0C {r:Nat} (h:r < 9223372036854775808):m5 .i64 (Int.ofNat r)=Int.ofNat r:=by
 simp only [m5]
 rw [if_pos (by simpa using h)]
theorem c2j (t:IntKind):Nat.beq (kIx t) 3=true→t=.i64:=by cases t <;> decide
theorem a7J {op:BinOp} (ho:op=.add∨op=.sub) (t:IntKind) (m:Int) (y:AV) (hy:∀ u n,y≠.int u n):l8 op (.int t m) y=none:=by
 cases y <;> first|(exfalso; exact hy _ _ rfl)|(rcases ho with rfl|rfl <;> rfl)
theorem c36 (x y:AV):b9M c b s f x y=obind (p1 (sem (.bin .add) c [x,y] b s)) f:=by
 simp only [b9M,a0e,P6,a6V,a4p,a3L,a2k]
 cases x <;> try rfl
 rename_i t m
 cases y
 case int u n =>
  simp only
  by_cases h:t=u
  · subst h
    simp only [decide_true,if_true]
    cases m <;> cases n <;> try rfl
    rename_i i j
    dsimp only
    have e:∀ r,Nat.add i j=r→m5 t (Int.ofNat r)=Int.ofNat r→f (.int t (.ofNat r))=obind (p1 (sem (.bin .add) c [.int t (.ofNat i),.int t (.ofNat j)] b s)) f:=fun r hr hw=>by
     subst hr
     simp only [sem,A9,l8,if_true,a0v,hw,AN,p1,obind]
    split
    · rename_i hl
      exact e _ rfl (a6y t (by simpa using hl))
    · split
      · rename_i hk
        have:=c2j t hk
        subst this
        split
        · rename_i hl
          exact e _ rfl (b0C (by simpa using hl))
        · rfl
      · rfl
  · simp only [h,decide_false,Bool.false_eq_true,if_false,sem,A9,l8,Option.map_none,p1,obind]
 all_goals (simp only [sem,A9]; rw [a7J (.inl rfl) _ _ _ (by simp)]; rfl)
theorem c4Z (x y:AV):c0R c b s f x y=obind (p1 (sem (.bin .sub) c [x,y] b s)) f:=by
 simp only [c0R,a0e,P6,a6V,a4p,a3L,a2k]
 cases x <;> try rfl
 rename_i t m
 cases y
 case int u n =>
  simp only
  by_cases h:t=u
  · subst h
    simp only [decide_true,if_true]
    cases m <;> cases n <;> try rfl
    rename_i i j
    dsimp only
    split
    · rename_i hle
      have e:∀ r,Nat.sub i j=r→m5 t (Int.ofNat r)=Int.ofNat r→f (.int t (.ofNat r))=obind (p1 (sem (.bin .sub) c [.int t (.ofNat i),.int t (.ofNat j)] b s)) f:=fun r hr hw=>by
       subst hr
       simp only [sem,A9,l8,if_true,a5z,hle,hw,AN,p1,obind]
      split
      · rename_i hl
        exact e _ rfl (a6y t (by simpa using hl))
      · split
        · rename_i hk
          have:=c2j t hk
          subst this
          split
          · rename_i hl
            exact e _ rfl (b0C (by simpa using hl))
          · rfl
        · rfl
    · rfl
  · simp only [h,decide_false,Bool.false_eq_true,if_false,sem,A9,l8,Option.map_none,p1,obind]
 all_goals (simp only [sem,A9]; rw [a7J (.inr rfl) _ _ _ (by simp)]; rfl)
theorem c4F (x:AV):c0I f x=obind (p1 (sem (.un .not) c [x] b s)) f:=by
 simp only [c0I,b22,P6,sem]
 cases x <;> try rfl
 rename_i y; cases y <;> rfl
theorem b9O (x y z:AV):b6r f x y z=obind (p1 (sem .pick c [x,y,z] b s)) f:=by
 simp only [b6r,b2R,b22,P6,sem]
 cases x <;> try rfl
 rename_i v
 cases v
 · simp only [B7,Bool.false_eq_true,if_false]; split <;> rfl
 · simp only [B7,if_true]; split <;> rfl
theorem c3F (x:AV):c1m c b s f x=obind (p1 (sem .nilchk c [x] b s)) f:=by
 simp only [c1m,a5Z]
 cases x <;> rfl
theorem c3N (d:Nat) (x:AV):b9D f d x=obind (p1 (sem (.fad d) c [x] b s)) f:=by
 simp only [b9D,a5Z,a2k,a03]
 cases x <;> rfl
theorem a26 (ag:Bool) (n:Nat) (cs:List AV):a4e f ag n cs=match j7 ag n cs with|some v=>f v|none=>none:=by
 simp only [a4e,P6,b9u,K1,a2Z,b4u,b8q]
 cases ag
 · cases cs <;> rfl
 · simp only [j7,if_true]
   by_cases h:n≤cs.length
   · have e:Nat.ble n cs.length=true:=by simpa using h
     simp only [e,h,if_true]
   · have e:Nat.ble n cs.length=false:=Bool.eq_false_iff.mpr (fun q=>h (Nat.le_of_ble_eq_true q))
     simp only [e,h,Bool.false_eq_true,if_false]
theorem a9K (x:Obj) (k:List AV→(Option ρ)):b2u x k=match x with|.cells cs=>k cs|_=>none:=by cases x <;> rfl
theorem b18 {x:Option AV}:obind (p1 (x.map fun v=>(v,b,s))) f=match x with|some v=>f v|none=>none:=by cases x <;> rfl
theorem b2V (ag:Bool) (n:Nat) (x:AV):a6h s f ag n x=obind (p1 (sem (.ldSt ag n) c [x] b s)) f:=by
 simp only [a6h,b8I,b3Q,a9K,a26,a03]
 cases x <;> try rfl
 rename_i o i
 simp only [sem,B6]
 cases s[o]? with
 | none=>rfl
 | some ob=>cases ob <;> first|rfl|exact (b18 b s f).symm
theorem b3g (ag:Bool) (n:Nat) (x:AV):a7b f ag n x=obind (p1 (sem (.ldRo ag n) c [x] b s)) f:=by
 simp only [a7b,c8I,a26]
 cases x <;> try rfl
 exact (b18 b s f).symm
theorem c0G (i:Nat) (ag:Bool) (n:Nat) (x:AV):b5d b f i ag n x=obind (p1 (sem (.ldLc i ag n) c [x] b s)) f:=by
 simp only [b5d,b4N,a8q,a26,a03,P6]
 cases x <;> try rfl
 rename_i j off
 cases b <;> try rfl
 rename_i cs
 simp only [sem,H2]
 by_cases h:i=j
 · simp only [h,Nat.beq_refl,if_true]
   exact (b18 _ s f).symm
 · have:Nat.beq i j=false:=Bool.eq_false_iff.mpr (fun q=>h (Nat.eq_of_beq_eq_true q))
   simp only [this,h,Bool.false_eq_true,if_false]
   rfl
theorem c0W (x:AV):b6b f x=obind (p1 (sem .lenS c [x] b s)) f:=by
 simp only [b6b,a3d,a2k,K1]
 cases x <;> rfl
theorem c1f (x:AV):b53 c b s f x=obind (p1 (sem .lenL c [x] b s)) f:=by
 simp only [b53,b2a,a2k,K1]
 cases x <;> rfl
theorem c4q (x y:AV):c0t f x y=obind (p1 (sem .idxS c [x,y] b s)) f:=by
 simp only [c0t,a3d,a0e,b8l]
 cases x <;> try rfl
 cases y <;> try rfl
 rename_i l k n
 simp only [sem,I6]
 cases n with
 | ofNat i =>
  have e:(Int.ofNat i).toNat=i:=rfl
  simp only [Int.ofNat_eq_natCast,Int.natCast_nonneg,if_true,Int.toNat_natCast]
  cases l[i]? <;> rfl
 | negSucc i=>rfl
theorem c4C (sz:Nat) (x y:AV):c0a c b s f sz x y=obind (p1 (sem (.iad sz) c [x,y] b s)) f:=by
 simp only [c0a,b2a,a0e,b8l,P6,K1]
 cases x <;> try rfl
 cases y <;> try rfl
 rename_i w l k n
 simp only [sem,D6]
 cases n with
 | ofNat i =>
  simp only [Int.ofNat_eq_natCast,Int.natCast_nonneg,if_true,Int.toNat_natCast]
  cases l[i]? with
  | none=>rfl
  | some r =>
   by_cases h:r.length=sz
   · have:Nat.beq r.length sz=true:=by rw [h]; exact Nat.beq_refl sz
     simp only [this,if_true,if_pos h]
     rfl
   · have:Nat.beq r.length sz=false:=Bool.eq_false_iff.mpr (fun q=>h (Nat.eq_of_beq_eq_true q))
     simp only [this,h,Bool.false_eq_true,if_false]
     rfl
 | negSucc i=>rfl
end
noncomputable def qSb (x:AV) (k:AV→AV→(Option ρ)):(Option ρ):=AV.rec (motive_1:=fun _=>(Option ρ)) (motive_2:=fun _=>Unit) (motive_3:=fun _=>Unit)
 (k .undef .undef)
 (fun b=>k (.bool b) (.bool b))
 (fun t n=>k (.int t n) (.int t n))
 (fun s=>k (.str s) (.str s))
 (fun o xs _=>k (.list o xs) (.list false xs))
 (fun o f=>k (.ptr o f) (.ptr o f))
 (k .nilp .nilp)
 (fun cs _=>k (.ro cs) (.ro cs))
 (fun i f=>k (.loc i f) (.loc i f))
 (fun cs _=>k .undef .undef)
 (fun o=>k (.map o) (.map o))
 (k .nilm .nilm)
 (fun f a c _ _=>k (.func f a c) (.func f a c))
 (k .nilf .nilf)
 (fun cs _=>k (.agg cs) (.agg (cs.map AV.weak1)))
 (fun vs _=>k (.tuple vs) (.tuple vs))
 (fun t v _=>k (.iface t v) (.iface t v))
 (k .nili .nili)
 (fun o f n s=>k (.sl o f n s) (.sl o f n s))
 (fun xs _=>k (.fresh xs) (.fresh xs))
 (k .nils .nils)
 () (fun _ _ _ _=>()) () (fun _ _ _ _=>()) x
noncomputable def qSv (x:AV) (k:AV→AV→(Option ρ)):(Option ρ):=AV.rec (motive_1:=fun _=>(Option ρ)) (motive_2:=fun _=>Unit) (motive_3:=fun _=>Unit)
 (k .undef .undef)
 (fun b=>k (.bool b) (.bool b))
 (fun t n=>k (.int t n) (.int t n))
 (fun s=>k (.str s) (.str s))
 (fun o xs _=>k (.list o xs) (.list false xs))
 (fun o f=>k (.ptr o f) (.ptr o f))
 (k .nilp .nilp)
 (fun cs _=>k (.ro cs) (.ro cs))
 (fun i f=>k .undef .undef)
 (fun cs _=>k .undef .undef)
 (fun o=>k (.map o) (.map o))
 (k .nilm .nilm)
 (fun f a c _ _=>k (.func f a c) (.func f a c))
 (k .nilf .nilf)
 (fun cs _=>k (.agg cs) (.agg (cs.map AV.weak1)))
 (fun vs _=>k (.tuple vs) (.tuple vs))
 (fun t v _=>k (.iface t v) (.iface t v))
 (k .nili .nili)
 (fun o f n s=>k (.sl o f n s) (.sl o f n s))
 (fun xs _=>k (.fresh xs) (.fresh xs))
 (k .nils .nils)
 () (fun _ _ _ _=>()) () (fun _ _ _ _=>()) x
noncomputable def qWk (x:AV) (k:AV→(Option ρ)):(Option ρ):=AV.rec (motive_1:=fun _=>(Option ρ)) (motive_2:=fun _=>Unit) (motive_3:=fun _=>Unit)
 (k .undef)
 (fun b=>k (.bool b))
 (fun t n=>k (.int t n))
 (fun s=>k (.str s))
 (fun o xs _=>k (.list false xs))
 (fun o f=>k (.ptr o f))
 (k .nilp)
 (fun cs _=>k (.ro cs))
 (fun i f=>k (.loc i f))
 (fun cs _=>k (.box cs))
 (fun o=>k (.map o))
 (k .nilm)
 (fun f a c _ _=>k (.func f a c))
 (k .nilf)
 (fun cs _=>k (.agg (cs.map AV.weak1)))
 (fun vs _=>k (.tuple vs))
 (fun t v _=>k (.iface t v))
 (k .nili)
 (fun o f n s=>k (.sl o f n s))
 (fun xs _=>k (.fresh xs))
 (k .nils)
 () (fun _ _ _ _=>()) () (fun _ _ _ _=>()) x
theorem b6B (x:AV) (k:AV→AV→(Option ρ)):qSb x k=k (AV.stripB x) (AV.weak (AV.stripB x)):=by cases x <;> rfl
theorem c64 (x:AV) (k:AV→AV→(Option ρ)):qSv x k=k (AV.strip x) (AV.weak (AV.strip x)):=by cases x <;> rfl
theorem a1d (x:AV) (k:AV→(Option ρ)):qWk x k=k (AV.weak x):=by cases x <;> rfl
noncomputable def onT (x:AV) (k:List AV→(Option ρ)):(Option ρ):=AV.rec (motive_1:=fun _=>(Option ρ)) (motive_2:=fun _=>Unit) (motive_3:=fun _=>Unit)
 (none)
 (fun b=>none)
 (fun t n=>none)
 (fun s=>none)
 (fun o xs _=>none)
 (fun o f=>none)
 (none)
 (fun cs _=>none)
 (fun i f=>none)
 (fun cs _=>none)
 (fun o=>none)
 (none)
 (fun f a c _ _=>none)
 (none)
 (fun cs _=>none)
 (fun vs _=>k vs)
 (fun t v _=>none)
 (none)
 (fun o f n s=>none)
 (fun xs _=>none)
 (none)
 () (fun _ _ _ _=>()) () (fun _ _ _ _=>()) x
theorem c8f (x:AV) (k:List AV→(Option ρ)):onT x k=match x with|.tuple vs=>k vs|_=>none:=by cases x <;> rfl
noncomputable def c6S (x:AV) (e:(Option ρ)) (k:Bool→List (List AV)→(Option ρ)):(Option ρ):=AV.rec (motive_1:=fun _=>(Option ρ)) (motive_2:=fun _=>Unit) (motive_3:=fun _=>Unit)
 (e)
 (fun b=>e)
 (fun t n=>e)
 (fun s=>e)
 (fun o xs _=>k o xs)
 (fun o f=>e)
 (e)
 (fun cs _=>e)
 (fun i f=>e)
 (fun cs _=>e)
 (fun o=>e)
 (e)
 (fun f a c _ _=>e)
 (e)
 (fun cs _=>e)
 (fun vs _=>e)
 (fun t v _=>e)
 (e)
 (fun o f n s=>e)
 (fun xs _=>e)
 (e)
 () (fun _ _ _ _=>()) () (fun _ _ _ _=>()) x
theorem c42 (x:AV) (e:(Option ρ)) (k:Bool→List (List AV)→(Option ρ)):c6S x e k=match x with|.list o xs=>k o xs|_=>e:=by cases x <;> rfl
noncomputable def onU (x:AV) (k:(Option ρ)):(Option ρ):=AV.rec (motive_1:=fun _=>(Option ρ)) (motive_2:=fun _=>Unit) (motive_3:=fun _=>Unit)
 (k)
 (fun b=>none)
 (fun t n=>none)
 (fun s=>none)
 (fun o xs _=>none)
 (fun o f=>none)
 (none)
 (fun cs _=>none)
 (fun i f=>none)
 (fun cs _=>none)
 (fun o=>none)
 (none)
 (fun f a c _ _=>none)
 (none)
 (fun cs _=>none)
 (fun vs _=>none)
 (fun t v _=>none)
 (none)
 (fun o f n s=>none)
 (fun xs _=>none)
 (none)
 () (fun _ _ _ _=>()) () (fun _ _ _ _=>()) x
theorem c6B (x:AV) (k:(Option ρ)):onU x k=match x with|.undef=>k|_=>none:=by cases x <;> rfl
noncomputable def onC (x:AV) (k:List AV→(Option ρ)):(Option ρ):=AV.rec (motive_1:=fun _=>(Option ρ)) (motive_2:=fun _=>Unit) (motive_3:=fun _=>Unit)
 (k [.undef])
 (fun b=>k [(.bool b)])
 (fun t n=>k [(.int t n)])
 (fun s=>k [(.str s)])
 (fun o xs _=>k [(.list o xs)])
 (fun o f=>k [(.ptr o f)])
 (k [.nilp])
 (fun cs _=>k [(.ro cs)])
 (fun i f=>k [(.loc i f)])
 (fun cs _=>k [(.box cs)])
 (fun o=>k [(.map o)])
 (k [.nilm])
 (fun f a c _ _=>k [(.func f a c)])
 (k [.nilf])
 (fun cs _=>k cs)
 (fun vs _=>k [(.tuple vs)])
 (fun t v _=>k [(.iface t v)])
 (k [.nili])
 (fun o f n s=>k [(.sl o f n s)])
 (fun xs _=>k [(.fresh xs)])
 (k [.nils])
 () (fun _ _ _ _=>()) () (fun _ _ _ _=>()) x
theorem b82 (x:AV) (k:List AV→(Option ρ)):onC x k=k x.cells:=by cases x <;> rfl
noncomputable def plB (x:AV) (k:(Option ρ)):(Option ρ):=AV.rec (motive_1:=fun _=>(Option ρ)) (motive_2:=fun _=>Unit) (motive_3:=fun _=>Unit)
 (none)
 (fun b=>k)
 (fun t n=>k)
 (fun s=>k)
 (fun o xs _=>k)
 (fun o f=>k)
 (k)
 (fun cs _=>k)
 (fun i f=>none)
 (fun cs _=>none)
 (fun o=>k)
 (k)
 (fun f a c _ _=>k)
 (k)
 (fun cs _=>k)
 (fun vs _=>none)
 (fun t v _=>k)
 (k)
 (fun o f n s=>k)
 (fun xs _=>none)
 (k)
 () (fun _ _ _ _=>()) () (fun _ _ _ _=>()) x
theorem b2E (x:AV) (k:(Option ρ)):plB x k=if x.plain then k else none:=by cases x <;> rfl
noncomputable def c0o (f:AV→(Option ρ)) (d:Nat) (x:AV):(Option ρ):=onT x fun vs=>a3k vs none (fun v=>qWk v f) d
theorem c4B (c:d8) (b:AV) (s:St) (f:AV→(Option ρ)) (d:Nat) (x:AV):c0o f d x=obind (p1 (sem (.ext d) c [x] b s)) f:=by
 simp only [c0o,c8f,a2s,a1d]
 cases x <;> try rfl
 rename_i vs
 simp only [sem,L5]
 cases vs[d]? <;> rfl
noncomputable def b1x (xs:List AV) (k:List AV→(Option ρ)):(Option ρ):=List.rec (motive:=fun _=>(List AV→(Option ρ))→(Option ρ)) (fun k=>k []) (fun a _ ih k=>plB a (qWk a fun w=>ih fun ws=>k (w::ws))) xs k
theorem b0u:∀ (xs:List AV) (k:List AV→(Option ρ)),b1x xs k=if q7 xs then k (xs.map AV.weak) else none
 | [],k=>rfl
 | a::xs,k=>by
  show plB a (qWk a fun w=>b1x xs fun ws=>k (w::ws))=_
  rw [b2E,a1d,b0u xs]
  simp only [q7,AA,AG]
  by_cases h1:a.plain=true <;> by_cases h2:q7 xs=true <;> simp [h1,h2]
noncomputable def c6h (x:Option (AV×St)) (k:AV→St→(Option ρ)):(Option ρ):=Option.rec (motive:=fun _=>(Option ρ)) none (fun p=>Prod.rec (motive:=fun _=>(Option ρ)) (fun v s=>k v s) p) x
theorem c4r (x:Option (AV×St)) (k:AV→St→(Option ρ)):c6h x k=match x with|some (v,s)=>k v s|none=>none:=by cases x <;> rfl
noncomputable def b9J (c:d8) (b:AV) (s:St) (f:AV→(Option ρ)) (x y z:AV):(Option ρ):=onS x none fun l=>onI z none fun _ m=>onI y (obind (p1 (sem (.slS true true) c [x,y,z] b s)) f) fun _ i=>nn i m (obind (p1 (sem (.slS true true) c [x,y,z] b s)) f) fun i m =>
 cB (Nat.ble m (N3 l)) (cB (Nat.ble i m) (b0R (Nat.sub m i) (b0M i l) fun r=>f (.str r)) none) none
theorem c3v (c:d8) (b:AV) (s:St) (f:AV→(Option ρ)) (x y z:AV):b9J c b s f x y z=obind (p1 (sem (.slS true true) c [x,y,z] b s)) f:=by
 simp only [b9J,a3d,a0e,a4p,P6,a2Z,a5F,K1]
 cases x <;> try rfl
 cases z <;> try rfl
 cases y <;> try rfl
 rename_i l _ m _ i
 cases i <;> cases m <;> try rfl
 rename_i i m
 simp only [sem,M3,D4,L2,Int.ofNat_eq_natCast,Int.natCast_nonneg,true_and,Int.toNat_natCast,Int.ofNat_le,Nat.ble_eq]
 by_cases h1:m≤l.length
 · simp only [h1,if_true]
   by_cases h2:i≤m
   · simp only [h2,if_true,AN,p1,obind]
     rw [List.drop_take]
     rfl
   · simp only [h2,if_false]
     rfl
 · simp only [h1,if_false]
   rfl
noncomputable def b5Q (sz:Nat) (l:List (List AV)):Bool:=List.rec (motive:=fun _=>Bool) true (fun r _ _=>Nat.beq (N3 r) sz) l
theorem b91 (sz:Nat) (l:List (List AV)):b5Q sz l=l3 sz l:=by
 cases l with
 | nil=>rfl
 | cons r l =>
  show Nat.beq (N3 r) sz=(r.length == sz)
  rw [K1,Bool.eq_iff_iff]
  simp
noncomputable def c0b (b:AV) (s:St) (f:AV×AV×St→(Option ρ)) (d e:Nat) (x y:AV):(Option ρ):=c6S x none fun o xs=>onL y none fun ys=>cB o (cB (b5Q d xs) (cB (b5Q d ys) (cB (Nat.ble (Nat.mul (Nat.add (N3 xs) (N3 ys)) e) 140737488355328) (b6f xs ys fun r=>f (.list true r,b,s)) none) none) none) none
theorem c46 (c:d8) (b:AV) (s:St) (f:AV×AV×St→(Option ρ)) (d e:Nat) (x y:AV):c0b b s f d e x y=obind (sem (.app d e) c [x,y] b s) f:=by
 simp only [c0b,c42,b2a,P6,b91,K1,a8A]
 cases x <;> try rfl
 rename_i o xs
 cases y <;> try (cases o <;> rfl)
 rename_i o2 ys
 cases o <;> try rfl
 simp only [sem,O6,if_true]
 have e1:(Nat.ble (Nat.mul (Nat.add xs.length ys.length) e) 140737488355328)=decide ((xs.length+ys.length)*e≤2 ^ 47):=by
  rw [Bool.eq_iff_iff]
  simp
 rw [e1]
 cases l3 d xs <;> cases l3 d ys <;> try rfl
 simp only [Bool.true_and,if_true]
 split <;> rfl
noncomputable def b2f (b:AV) (s:St) (f:AV×AV×St→(Option ρ)) (d:List AV):(Option ρ):=onU b (f (.undef,.box d,s))
theorem b89 (c:d8) (b:AV) (s:St) (f:AV×AV×St→(Option ρ)) (d:List AV):b2f b s f d=obind (sem (.alloc d) c [] b s) f:=by
 simp only [b2f,c6B]
 cases b <;> rfl
noncomputable def b5P (cs:List AV) (off:Nat) (new:List AV) (k:List AV→(Option ρ)):(Option ρ):=b0R off cs fun a=>b6f new (a7U (Nat.add off (N3 new)) cs) fun t=>b6f a t k
theorem b4Z (cs:List AV) (off:Nat) (new:List AV) (k:List AV→(Option ρ)):b5P cs off new k=k (n9 cs off new):=by
 simp only [b5P,a2Z,a8A,a03,K1,n9,AW]
 rfl
noncomputable def b5k (b:AV) (s:St) (f:AV×AV×St→(Option ρ)) (i d:Nat) (x y:AV):(Option ρ):=b9t x none fun j off=>b6d b none fun cs=>cB (Nat.beq i j) (plB y (onC y fun new=>cB (Nat.beq (N3 new) d) (cB (Nat.ble (Nat.add off d) (N3 cs)) (b5P cs off new fun r=>f (.tuple [],.box r,s)) none) none)) none
theorem c2t (a b:Nat):(Nat.beq a b=true)=(a=b):=by simp
theorem c1v (a b:Nat):(Nat.ble a b=true)=(a≤b):=by simp
theorem b9r (c:d8) (b:AV) (s:St) (f:AV×AV×St→(Option ρ)) (i d:Nat) (x y:AV):b5k b s f i d x y=obind (sem (.stLc i d) c [x,y] b s) f:=by
 simp only [b5k,b4N,a8q,P6,b2E,b82,K1,b4Z,c2t,c1v]
 cases x <;> try rfl
 rename_i j off
 cases b <;> try rfl
 rename_i cs
 simp only [sem,J5]
 by_cases h1:i=j <;> by_cases h2:y.plain=true <;> by_cases h3:y.cells.length=d <;> by_cases h4:off+d≤cs.length <;> simp [h1,h2,h3,h4,obind]
noncomputable def b06 {β:Type} (l:List β) (i:Nat) (x:β) (k:List β→(Option ρ)):(Option ρ):=List.rec (motive:=fun _=>Nat→(List β→(Option ρ))→(Option ρ)) (fun _ k=>k []) (fun a t ih i k=>Nat.rec (motive:=fun _=>(Option ρ)) (k (x::t)) (fun j _=>ih j fun r=>k (a::r)) i) l i k
theorem b3B {β:Type} (x:β):∀ (l:List β) (i:Nat) (k:List β→(Option ρ)),b06 l i x k=k (l.set i x)
 | [],_,_=>rfl
 | a::l,0,k=>rfl
 | a::l,i+1,k=>b3B x l i fun r=>k (a::r)
noncomputable def b9p {β:Type} (l:List β) (i:Nat) (x:β) (k:List β→(Option ρ)):(Option ρ):=Nat.rec (motive:=fun _=>List β→(List β→(Option ρ))→(Option ρ)) (fun l k=>b06 l (Nat.mod i 8) x k) (fun _ ih l k=>b0Z l (k l) ih k) (Nat.div i 8) l k
theorem b31 {β:Type} (x:β) (r:Nat):∀ (q:Nat) (l:List β) (k:List β→(Option ρ)),Nat.rec (motive:=fun _=>List β→(List β→(Option ρ))→(Option ρ)) (fun l k=>b06 l r x k) (fun _ ih l k=>b0Z l (k l) ih k) q l k=k (l.set (8*q+r) x)
 | 0,l,k=>by show b06 l r x k=_; rw [b3B,Nat.mul_zero,Nat.zero_add]
 | q+1,l,k=>by
  show b0Z l (k l) (fun l k=>Nat.rec (motive:=fun _=>List β→(List β→(Option ρ))→(Option ρ)) (fun l k=>b06 l r x k) (fun _ ih l k=>b0Z l (k l) ih k) q l k) k=_
  rw [c4k]
  split
  · rename_i h
    rw [b31 x r q (l.drop 8)]
    congr 1
    rw [show 8*(q+1)+r=8+(8*q+r) by omega]
    conv=>rhs; rw [← List.take_append_drop 8 l]
    rw [List.set_append_right _ _ (by rw [AO]; omega),AO,Nat.min_eq_left h,Nat.add_sub_cancel_left]
  · rename_i h
    rw [List.set_eq_of_length_le (by omega)]
theorem c3C {β:Type} (x:β) (l:List β) (i:Nat) (k:List β→(Option ρ)):b9p l i x k=k (l.set i x):=by
 unfold b9p
 rw [b31 x (Nat.mod i 8) (Nat.div i 8) l k,show 8*Nat.div i 8+Nat.mod i 8=i from Nat.div_add_mod i 8]
noncomputable def b5O (s:St) (f:AV×St→(Option ρ)) (d:Nat) (x y:AV):(Option ρ):=onP x none fun o off=>b47 s none (fun ob=>b2u ob fun cs=>plB y (onC y fun new=>cB (Nat.beq (N3 new) d) (cB (Nat.ble (Nat.add off d) (N3 cs)) (b5P cs off new fun r=>b9p s o (.cells r) fun s=>f (.tuple [],s)) none) none)) o
theorem b9S (c:d8) (b:AV) (s:St) (f:AV×St→(Option ρ)) (d:Nat) (x y:AV):b5O s f d x y=obind (p2 (sem (.stSt d) c [x,y] b s)) f:=by
 simp only [b5O,b8I,b3Q,a9K,P6,b2E,b82,K1,b4Z,c3C,c2t,c1v]
 cases x <;> try rfl
 rename_i o off
 simp only [sem,C8,fL_eq]
 cases s[o]? with
 | none=>rfl
 | some ob =>
  cases ob <;> try rfl
  rename_i cs
  by_cases h2:y.plain=true <;> by_cases h3:y.cells.length=d <;> by_cases h4:off+d≤cs.length <;> simp [h2,h3,h4,obind,p2]
noncomputable def bW (v w:Bool) (x y:(Option ρ)):(Option ρ):=Bool.rec (motive:=fun _=>(Option ρ)) (Bool.rec (motive:=fun _=>(Option ρ)) x y w) (Bool.rec (motive:=fun _=>(Option ρ)) y x w) v
theorem c9j (v w:Bool) (x y:(Option ρ)):bW v w x y=if v == w then x else y:=by cases v <;> cases w <;> rfl
theorem nb (i j:Nat):(!Nat.blt j i)=Nat.ble i j:=by
 have h1:(Nat.blt j i=true) ↔ j < i:=by simp
 have h2:(Nat.ble i j=true) ↔ i≤j:=by simp
 cases hb:Nat.blt j i <;> cases hc:Nat.ble i j <;> simp only [hb,hc,true_iff,false_iff,Bool.false_eq_true] at h1 h2 <;> first|rfl|omega
theorem c7I (c:d8) (b:AV) (s:St) (f:AV→(Option ρ)) (x y:AV):a1O c b s f .lss Nat.blt x y=obind (p1 (sem (.bin .lss) c [x,y] b s)) f:=a4j c b s f .lss _ (by simp) (fun t i j=>by simp [l8,ltI]) x y
theorem c7Q (c:d8) (b:AV) (s:St) (f:AV→(Option ρ)) (x y:AV):a1O c b s f .leq Nat.ble x y=obind (p1 (sem (.bin .leq) c [x,y] b s)) f:=a4j c b s f .leq _ (by simp) (fun t i j=>by simp only [l8,if_true,Int.ofNat_eq_natCast]; rw [show ∀ a b:Nat,ltI (a:Int) (b:Int)=Nat.blt a b from fun _ _=>rfl,nb]) x y
theorem c6k (c:d8) (b:AV) (s:St) (f:AV→(Option ρ)) (x y:AV):a1O c b s f .gtr (fun i j=>Nat.blt j i) x y=obind (p1 (sem (.bin .gtr) c [x,y] b s)) f:=a4j c b s f .gtr _ (by simp) (fun t i j=>by simp [l8,ltI]) x y
theorem c8a (c:d8) (b:AV) (s:St) (f:AV→(Option ρ)) (x y:AV):a1O c b s f .geq (fun i j=>Nat.ble j i) x y=obind (p1 (sem (.bin .geq) c [x,y] b s)) f:=a4j c b s f .geq _ (by simp) (fun t i j=>by simp only [l8,if_true,Int.ofNat_eq_natCast]; rw [show ∀ a b:Nat,ltI (a:Int) (b:Int)=Nat.blt a b from fun _ _=>rfl,nb]) x y
end Go.Cb.G
set_option maxRecDepth 4000
set_option linter.unusedVariables false
namespace Go.Cb.G
open Go Go.Cb
inductive W8 (α:Type) where
 | mk (x0 x1 x2 x3 x4 x5 x6 x7:α)
abbrev Fr:=W8 (W8 AV)
def pk8 {α:Type} (i:Nat) (w:W8 α):α:=match w with
 | .mk x0 x1 x2 x3 x4 x5 x6 x7=>match i with
  | 0=>x0
  | 1=>x1
  | 2=>x2
  | 3=>x3
  | 4=>x4
  | 5=>x5
  | 6=>x6
  | _=>x7
def st8 {α:Type} (i:Nat) (x:α) (w:W8 α):W8 α:=match w with
 | .mk x0 x1 x2 x3 x4 x5 x6 x7=>match i with
  | 0=>.mk x x1 x2 x3 x4 x5 x6 x7
  | 1=>.mk x0 x x2 x3 x4 x5 x6 x7
  | 2=>.mk x0 x1 x x3 x4 x5 x6 x7
  | 3=>.mk x0 x1 x2 x x4 x5 x6 x7
  | 4=>.mk x0 x1 x2 x3 x x5 x6 x7
  | 5=>.mk x0 x1 x2 x3 x4 x x6 x7
  | 6=>.mk x0 x1 x2 x3 x4 x5 x x7
  | _=>.mk x0 x1 x2 x3 x4 x5 x6 x
theorem lt8 {i:Nat} (h:i < 8):i=0∨i=1∨i=2∨i=3∨i=4∨i=5∨i=6∨i=7:=by omega
theorem b9d {α:Type} {i j:Nat} (hi:i < 8) (hj:j < 8) (x:α) (w:W8 α):pk8 j (st8 i x w)=if j=i then x else pk8 j w:=by
 cases w
 rcases lt8 hi with rfl|rfl|rfl|rfl|rfl|rfl|rfl|rfl <;> rcases lt8 hj with rfl|rfl|rfl|rfl|rfl|rfl|rfl|rfl <;> rfl
def U6 (i:Nat) (fr:Fr):AV:=pk8 (i % 8) (pk8 (i / 8) fr)
def a1l (i:Nat) (x:AV) (fr:Fr):Fr:=st8 (i / 8) (st8 (i % 8) x (pk8 (i / 8) fr)) fr
theorem c3O {i j:Nat} (hi:i < 64) (hj:j < 64) (x:AV) (fr:Fr):U6 j (a1l i x fr)=if j=i then x else U6 j fr:=by
 unfold U6 a1l
 rw [b9d (by omega) (by omega)]
 by_cases h:j / 8=i / 8
 · rw [if_pos h,b9d (by omega) (by omega),← h]
   by_cases h2:j % 8=i % 8
   · rw [if_pos h2,if_pos (by omega)]
   · rw [if_neg h2,if_neg (by omega)]
 · rw [if_neg h,if_neg (by intro e; exact h (by rw [e]))]
def toL (nv:Nat) (fr:Fr):List AV:=(List.range nv).map fun i=>U6 i fr
theorem c3m (nv:Nat) (fr:Fr):(toL nv fr).length=nv:=by simp [toL]
theorem P4 {i nv:Nat} (h:i < nv) (fr:Fr):(toL nv fr).getD i .undef=U6 i fr:=by simp [toL,List.getD,h]
theorem a2g {i nv:Nat} (h:i < nv) (hn:nv≤64) (x:AV) (fr:Fr):(toL nv fr).set i x=toL nv (a1l i x fr):=by
 apply List.ext_getElem
 · simp [toL]
 · intro j h1 h2
   have hj:j < nv:=by simpa [toL] using h1
   rw [List.getElem_set]
   simp only [toL,List.getElem_map,List.getElem_range]
   rw [c3O (by omega) (by omega)]
   by_cases e:i=j
   · rw [if_pos e,if_pos e.symm]
   · rw [if_neg e,if_neg (fun q=>e q.symm)]
theorem a4N {i nv:Nat} (h:¬ i < nv) (x:AV) (fr:Fr):(toL nv fr).set i x=toL nv fr:=List.set_eq_of_length_le (by rw [c3m]; omega)
noncomputable def b1F {α β:Type} (i:Nat) (e:β) (Q:α→β) (x0 x1 x2 x3 x4 x5 x6 x7:α):β :=
 Nat.rec (motive:=fun _=>β) (Q x0) (fun i _=>Nat.rec (motive:=fun _=>β) (Q x1) (fun i _=>Nat.rec (motive:=fun _=>β) (Q x2) (fun i _=>Nat.rec (motive:=fun _=>β) (Q x3) (fun i _=>Nat.rec (motive:=fun _=>β) (Q x4) (fun i _=>Nat.rec (motive:=fun _=>β) (Q x5) (fun i _=>Nat.rec (motive:=fun _=>β) (Q x6) (fun i _=>Nat.rec (motive:=fun _=>β) (Q x7) (fun i _=>e) i) i) i) i) i) i) i) i
theorem a1q {α β:Type} {G:β→Prop} {i:Nat} {e:β} {Q:α→β} {x0 x1 x2 x3 x4 x5 x6 x7:α} (he:G e) (h0:i=0→G (Q x0)) (h1:i=1→G (Q x1)) (h2:i=2→G (Q x2)) (h3:i=3→G (Q x3)) (h4:i=4→G (Q x4)) (h5:i=5→G (Q x5)) (h6:i=6→G (Q x6)) (h7:i=7→G (Q x7)):G (b1F i e Q x0 x1 x2 x3 x4 x5 x6 x7):=by
 match i,h0,h1,h2,h3,h4,h5,h6,h7 with
 | 0,h,_,_,_,_,_,_,_=>exact h rfl
 | 1,_,h,_,_,_,_,_,_=>exact h rfl
 | 2,_,_,h,_,_,_,_,_=>exact h rfl
 | 3,_,_,_,h,_,_,_,_=>exact h rfl
 | 4,_,_,_,_,h,_,_,_=>exact h rfl
 | 5,_,_,_,_,_,h,_,_=>exact h rfl
 | 6,_,_,_,_,_,_,h,_=>exact h rfl
 | 7,_,_,_,_,_,_,_,h=>exact h rfl
 | _+8,_,_,_,_,_,_,_,_=>exact he
abbrev Gt (ρ:Type):=Fr→(AV→Option ρ)→Option ρ
abbrev Wr (ρ:Type):=AV→Fr→(Fr→Option ρ)→Option ρ
section
variable {ρ β:Type}
noncomputable def a23 (i:Nat) (e:β) (Q:Gt ρ→β):β:=b1F (i / 8) e (fun o:Fr→(W8 AV→Option ρ)→Option ρ=>b1F (i % 8) e (fun n:W8 AV→(AV→Option ρ)→Option ρ=>Q fun fr k=>o fr fun w=>n w k)
 (fun w k=>W8.rec (motive:=fun _=>Option ρ) (fun x0 x1 x2 x3 x4 x5 x6 x7=>k x0) w)
 (fun w k=>W8.rec (motive:=fun _=>Option ρ) (fun x0 x1 x2 x3 x4 x5 x6 x7=>k x1) w)
 (fun w k=>W8.rec (motive:=fun _=>Option ρ) (fun x0 x1 x2 x3 x4 x5 x6 x7=>k x2) w)
 (fun w k=>W8.rec (motive:=fun _=>Option ρ) (fun x0 x1 x2 x3 x4 x5 x6 x7=>k x3) w)
 (fun w k=>W8.rec (motive:=fun _=>Option ρ) (fun x0 x1 x2 x3 x4 x5 x6 x7=>k x4) w)
 (fun w k=>W8.rec (motive:=fun _=>Option ρ) (fun x0 x1 x2 x3 x4 x5 x6 x7=>k x5) w)
 (fun w k=>W8.rec (motive:=fun _=>Option ρ) (fun x0 x1 x2 x3 x4 x5 x6 x7=>k x6) w)
 (fun w k=>W8.rec (motive:=fun _=>Option ρ) (fun x0 x1 x2 x3 x4 x5 x6 x7=>k x7) w))
 (fun w k=>W8.rec (motive:=fun _=>Option ρ) (fun x0 x1 x2 x3 x4 x5 x6 x7=>k x0) w)
 (fun w k=>W8.rec (motive:=fun _=>Option ρ) (fun x0 x1 x2 x3 x4 x5 x6 x7=>k x1) w)
 (fun w k=>W8.rec (motive:=fun _=>Option ρ) (fun x0 x1 x2 x3 x4 x5 x6 x7=>k x2) w)
 (fun w k=>W8.rec (motive:=fun _=>Option ρ) (fun x0 x1 x2 x3 x4 x5 x6 x7=>k x3) w)
 (fun w k=>W8.rec (motive:=fun _=>Option ρ) (fun x0 x1 x2 x3 x4 x5 x6 x7=>k x4) w)
 (fun w k=>W8.rec (motive:=fun _=>Option ρ) (fun x0 x1 x2 x3 x4 x5 x6 x7=>k x5) w)
 (fun w k=>W8.rec (motive:=fun _=>Option ρ) (fun x0 x1 x2 x3 x4 x5 x6 x7=>k x6) w)
 (fun w k=>W8.rec (motive:=fun _=>Option ρ) (fun x0 x1 x2 x3 x4 x5 x6 x7=>k x7) w)
theorem N0 {G:β→Prop} {i:Nat} {e:β} {Q:Gt ρ→β} (hi:i < 64) (he:G e) (h:∀ g:Gt ρ,(∀ fr k,g fr k=k (U6 i fr))→G (Q g)):G (a23 i e Q):=by
 refine a1q he ?_ ?_ ?_ ?_ ?_ ?_ ?_ ?_ <;> intro h1 <;> refine a1q he ?_ ?_ ?_ ?_ ?_ ?_ ?_ ?_ <;> intro h2 <;> refine h _ (fun fr k=>?_) <;> unfold U6 <;> rw [h1,h2] <;> cases fr with
  | mk w0 w1 w2 w3 w4 w5 w6 w7=>first|(cases w0; rfl)|(cases w1; rfl)|(cases w2; rfl)|(cases w3; rfl)|(cases w4; rfl)|(cases w5; rfl)|(cases w6; rfl)|(cases w7; rfl)
noncomputable def a8u (i:Nat) (e:β) (Q:Wr ρ→β):β:=b1F (i / 8) e (fun o:Fr→(W8 AV→(W8 AV→Option ρ)→Option ρ)→(Fr→Option ρ)→Option ρ=>b1F (i % 8) e (fun n:AV→W8 AV→(W8 AV→Option ρ)→Option ρ=>Q fun x fr k=>o fr (n x) k)
 (fun y w k=>W8.rec (motive:=fun _=>Option ρ) (fun x0 x1 x2 x3 x4 x5 x6 x7=>k (.mk y x1 x2 x3 x4 x5 x6 x7)) w)
 (fun y w k=>W8.rec (motive:=fun _=>Option ρ) (fun x0 x1 x2 x3 x4 x5 x6 x7=>k (.mk x0 y x2 x3 x4 x5 x6 x7)) w)
 (fun y w k=>W8.rec (motive:=fun _=>Option ρ) (fun x0 x1 x2 x3 x4 x5 x6 x7=>k (.mk x0 x1 y x3 x4 x5 x6 x7)) w)
 (fun y w k=>W8.rec (motive:=fun _=>Option ρ) (fun x0 x1 x2 x3 x4 x5 x6 x7=>k (.mk x0 x1 x2 y x4 x5 x6 x7)) w)
 (fun y w k=>W8.rec (motive:=fun _=>Option ρ) (fun x0 x1 x2 x3 x4 x5 x6 x7=>k (.mk x0 x1 x2 x3 y x5 x6 x7)) w)
 (fun y w k=>W8.rec (motive:=fun _=>Option ρ) (fun x0 x1 x2 x3 x4 x5 x6 x7=>k (.mk x0 x1 x2 x3 x4 y x6 x7)) w)
 (fun y w k=>W8.rec (motive:=fun _=>Option ρ) (fun x0 x1 x2 x3 x4 x5 x6 x7=>k (.mk x0 x1 x2 x3 x4 x5 y x7)) w)
 (fun y w k=>W8.rec (motive:=fun _=>Option ρ) (fun x0 x1 x2 x3 x4 x5 x6 x7=>k (.mk x0 x1 x2 x3 x4 x5 x6 y)) w))
 (fun w u k=>W8.rec (motive:=fun _=>Option ρ) (fun x0 x1 x2 x3 x4 x5 x6 x7=>u x0 fun y=>k (.mk y x1 x2 x3 x4 x5 x6 x7)) w)
 (fun w u k=>W8.rec (motive:=fun _=>Option ρ) (fun x0 x1 x2 x3 x4 x5 x6 x7=>u x1 fun y=>k (.mk x0 y x2 x3 x4 x5 x6 x7)) w)
 (fun w u k=>W8.rec (motive:=fun _=>Option ρ) (fun x0 x1 x2 x3 x4 x5 x6 x7=>u x2 fun y=>k (.mk x0 x1 y x3 x4 x5 x6 x7)) w)
 (fun w u k=>W8.rec (motive:=fun _=>Option ρ) (fun x0 x1 x2 x3 x4 x5 x6 x7=>u x3 fun y=>k (.mk x0 x1 x2 y x4 x5 x6 x7)) w)
 (fun w u k=>W8.rec (motive:=fun _=>Option ρ) (fun x0 x1 x2 x3 x4 x5 x6 x7=>u x4 fun y=>k (.mk x0 x1 x2 x3 y x5 x6 x7)) w)
 (fun w u k=>W8.rec (motive:=fun _=>Option ρ) (fun x0 x1 x2 x3 x4 x5 x6 x7=>u x5 fun y=>k (.mk x0 x1 x2 x3 x4 y x6 x7)) w)
 (fun w u k=>W8.rec (motive:=fun _=>Option ρ) (fun x0 x1 x2 x3 x4 x5 x6 x7=>u x6 fun y=>k (.mk x0 x1 x2 x3 x4 x5 y x7)) w)
 (fun w u k=>W8.rec (motive:=fun _=>Option ρ) (fun x0 x1 x2 x3 x4 x5 x6 x7=>u x7 fun y=>k (.mk x0 x1 x2 x3 x4 x5 x6 y)) w)
theorem a1x {G:β→Prop} {i:Nat} {e:β} {Q:Wr ρ→β} (hi:i < 64) (he:G e) (h:∀ g:Wr ρ,(∀ x fr k,g x fr k=k (a1l i x fr))→G (Q g)):G (a8u i e Q):=by
 refine a1q he ?_ ?_ ?_ ?_ ?_ ?_ ?_ ?_ <;> intro h1 <;> refine a1q he ?_ ?_ ?_ ?_ ?_ ?_ ?_ ?_ <;> intro h2 <;> refine h _ (fun x fr k=>?_) <;> unfold a1l <;> rw [h1,h2] <;> cases fr with
  | mk w0 w1 w2 w3 w4 w5 w6 w7=>first|(cases w0; rfl)|(cases w1; rfl)|(cases w2; rfl)|(cases w3; rfl)|(cases w4; rfl)|(cases w5; rfl)|(cases w6; rfl)|(cases w7; rfl)
noncomputable def b5e (i:Nat) (Q:(List AV→(AV→Option ρ)→Option ρ)→β):β:=Nat.rec (motive:=fun _=>((List AV→(AV→Option ρ)→Option ρ)→β)→β)
 (fun Q=>Q fun l k=>List.rec (motive:=fun _=>Option ρ) none (fun a _ _=>k a) l)
 (fun _ ih Q=>ih fun r=>Q fun l k=>List.rec (motive:=fun _=>Option ρ) none (fun _ t _=>r t k) l) i Q
theorem a0d {G:β→Prop}:∀ (i:Nat) {Q:(List AV→(AV→Option ρ)→Option ρ)→β},(∀ r:List AV→(AV→Option ρ)→Option ρ,(∀ l k,r l k=match l[i]? with|some a=>k a|none=>none)→G (Q r))→G (b5e i Q)
 | 0,Q,h=>h _ fun l k=>by cases l <;> rfl
 | i+1,Q,h=>a0d i fun r hr=>h _ fun l k=>by
  cases l with
  | nil=>rfl
  | cons a t=>show r t k=_; rw [hr]; simp
end
abbrev U:AV:=.undef
def u8:W8 AV:=.mk U U U U U U U U
noncomputable def b9y {ρ:Type} (l:List AV) (k:W8 AV→Option ρ):Option ρ:=List.rec (motive:=fun _=>Option ρ) (k (.mk U U U U U U U U)) (fun y0 l _=>List.rec (motive:=fun _=>Option ρ) (k (.mk y0 U U U U U U U)) (fun y1 l _=>List.rec (motive:=fun _=>Option ρ) (k (.mk y0 y1 U U U U U U)) (fun y2 l _=>List.rec (motive:=fun _=>Option ρ) (k (.mk y0 y1 y2 U U U U U)) (fun y3 l _=>List.rec (motive:=fun _=>Option ρ) (k (.mk y0 y1 y2 y3 U U U U)) (fun y4 l _=>List.rec (motive:=fun _=>Option ρ) (k (.mk y0 y1 y2 y3 y4 U U U)) (fun y5 l _=>List.rec (motive:=fun _=>Option ρ) (k (.mk y0 y1 y2 y3 y4 y5 U U)) (fun y6 l _=>List.rec (motive:=fun _=>Option ρ) (k (.mk y0 y1 y2 y3 y4 y5 y6 U)) (fun y7 l _=>List.rec (motive:=fun _=>Option ρ) (k (.mk y0 y1 y2 y3 y4 y5 y6 y7)) (fun _ _ _=>none) l) l) l) l) l) l) l) l) l
theorem c8T (i:Nat):pk8 i u8=U:=by
 show (match i with|0=>U|1=>U|2=>U|3=>U|4=>U|5=>U|6=>U|_=>U)=U
 split <;> rfl
theorem c3S {ρ:Type} {l:List AV} {k:W8 AV→Option ρ} {r:ρ} (h:b9y l k=some r):∃ w:W8 AV,k w=some r∧l.length≤8∧∀ i,i < 8→pk8 i w=l.getD i .undef:=by
 match l,h with
 | [],h=>exact ⟨_,h,by simp,fun i hi=>by rcases lt8 hi with rfl|rfl|rfl|rfl|rfl|rfl|rfl|rfl <;> rfl⟩
 | [y0],h=>exact ⟨_,h,by simp,fun i hi=>by rcases lt8 hi with rfl|rfl|rfl|rfl|rfl|rfl|rfl|rfl <;> rfl⟩
 | [y0,y1],h=>exact ⟨_,h,by simp,fun i hi=>by rcases lt8 hi with rfl|rfl|rfl|rfl|rfl|rfl|rfl|rfl <;> rfl⟩
 | [y0,y1,y2],h=>exact ⟨_,h,by simp,fun i hi=>by rcases lt8 hi with rfl|rfl|rfl|rfl|rfl|rfl|rfl|rfl <;> rfl⟩
 | [y0,y1,y2,y3],h=>exact ⟨_,h,by simp,fun i hi=>by rcases lt8 hi with rfl|rfl|rfl|rfl|rfl|rfl|rfl|rfl <;> rfl⟩
 | [y0,y1,y2,y3,y4],h=>exact ⟨_,h,by simp,fun i hi=>by rcases lt8 hi with rfl|rfl|rfl|rfl|rfl|rfl|rfl|rfl <;> rfl⟩
 | [y0,y1,y2,y3,y4,y5],h=>exact ⟨_,h,by simp,fun i hi=>by rcases lt8 hi with rfl|rfl|rfl|rfl|rfl|rfl|rfl|rfl <;> rfl⟩
 | [y0,y1,y2,y3,y4,y5,y6],h=>exact ⟨_,h,by simp,fun i hi=>by rcases lt8 hi with rfl|rfl|rfl|rfl|rfl|rfl|rfl|rfl <;> rfl⟩
 | [y0,y1,y2,y3,y4,y5,y6,y7],h=>exact ⟨_,h,by simp,fun i hi=>by rcases lt8 hi with rfl|rfl|rfl|rfl|rfl|rfl|rfl|rfl <;> rfl⟩
 | _::_::_::_::_::_::_::_::_::_,h=>cases h
def fr0 (w:W8 AV):Fr:=.mk w u8 u8 u8 u8 u8 u8 u8
theorem c8z {w:W8 AV} {l:List AV} {np nv:Nat} (hw:∀ i,i < 8→pk8 i w=l.getD i .undef) (hl:l.length=np) (h8:l.length≤8) (hnp:np≤nv) (hn:nv≤64):toL nv (fr0 w)=l++List.replicate (nv - np) .undef:=by
 apply List.ext_getElem
 · simp [toL,hl]; omega
 · intro j h1 h2
   have hj:j < nv:=by simpa [toL] using h1
   have hg:U6 j (fr0 w)=l.getD j .undef:=by
    unfold U6
    rcases Nat.lt_or_ge j 8 with h|h
    · rw [show j / 8=0 by omega,show j % 8=j by omega]
      exact hw j h
    · have:pk8 (j / 8) (fr0 w)=u8:=by
       rcases lt8 (show j / 8 < 8 by omega) with e|e|e|e|e|e|e|e <;> rw [e] <;> first|(exfalso; omega)|rfl
      rw [this,c8T,List.getD_eq_getElem?_getD,List.getElem?_eq_none (by omega)]
      rfl
   simp only [toL,List.getElem_map,List.getElem_range,hg]
   rw [List.getElem_append]
   split
   · rename_i h; simp [List.getD,h]
   · rename_i h; rw [List.getD_eq_getElem?_getD,List.getElem?_eq_none (by omega)]; simp
end Go.Cb.G
set_option maxRecDepth 4000
set_option linter.unusedVariables false
namespace Go.Cb.G
open Go Go.Cb
abbrev RO:=Option (AV×Fr×St)
abbrev Rd:=List AV→Fr→(AV→RO)→RO
inductive Src where
 | w (l:Nat)|s (l:Nat)|d (l:Nat)|k (a:AV)|q (a:AV)
abbrev Scope:=List (Nat×Src)
noncomputable def G8 (s:Nat) (sc:Scope):Option Src:=List.rec (motive:=fun _=>Option Src) none (fun p _ ih=>Prod.rec (motive:=fun _=>Option Src) (fun t x=>Bool.rec (motive:=fun _=>Option Src) ih (some x) (Nat.beq t s)) p) sc
theorem a1Y (s t:Nat) (x:Src) (sc:Scope):G8 s ((t,x)::sc)=if t=s then some x else G8 s sc:=by
 show Bool.rec (motive:=fun _=>Option Src) (G8 s sc) (some x) (Nat.beq t s)=_
 by_cases h:t=s
 · rw [if_pos h,show Nat.beq t s=true by simpa using h]
 · rw [if_neg h,show Nat.beq t s=false from Bool.eq_false_iff.2 fun q=>h (Nat.eq_of_beq_eq_true q)]
def lv (env:List AV) (l:Nat):Option AV:=env.reverse[l]?
theorem d6q {env:List AV} {l:Nat} {a:AV} (x:AV) (h:lv env l=some a):lv (x::env) l=some a:=by
 unfold lv at *
 rw [List.reverse_cons,List.getElem?_append_left (by
  rcases Nat.lt_or_ge l env.reverse.length with q|q
  · exact q
  · rw [List.getElem?_eq_none q] at h; cases h)]
 exact h
theorem b83 (x:AV) (env:List AV):lv (x::env) env.length=some x:=by
 unfold lv
 rw [List.reverse_cons,List.getElem?_append_right (by simp)]
 simp
theorem b0J {env:List AV} {l d:Nat} {a:AV} (hd:env.length=d) (h:lv env l=some a):env[d - 1 - l]?=some a:=by
 unfold lv at h
 have hl:l < env.length:=by
  rcases Nat.lt_or_ge l env.reverse.length with q|q
  · simpa using q
  · rw [List.getElem?_eq_none q] at h; cases h
 rw [List.getElem?_reverse hl,hd] at h
 exact h
def SrcOK (env:List AV) (v:AV):Src→Prop
 | .w l=>∃ a,lv env l=some a∧v.weak=a
 | .s l=>∃ a,lv env l=some a∧v=a
 | .d l=>∃ a,lv env l=some a∧v.weak=a.weak
 | .k a=>v=a
 | .q a=>v.weak=a
theorem SrcOK.push {env:List AV} {v:AV} {x:Src} (y:AV) (h:SrcOK env v x):SrcOK (y::env) v x:=by
 cases x <;> simp only [SrcOK] at*<;> first|exact h|(obtain ⟨a,h1,h2⟩:=h; exact ⟨a,d6q y h1,h2⟩)
structure Ag (nv dep:Nat) (sc:Scope) (env:List AV) (fr:Fr) (σ:Sig):Prop where
 f:σ.fr=toL nv fr
 d:env.length=dep
 nb:∀ s,(σ.τ s).stripB=σ.τ s
 t:∀ s x,G8 s sc=some x→SrcOK env (σ.τ s) x
noncomputable def d2q (x:AV) (y z:RO):RO:=AV.rec (motive_1:=fun _=>RO) (motive_2:=fun _=>Unit) (motive_3:=fun _=>Unit)
 z (fun _=>z) (fun _ _=>z) (fun _=>z) (fun _ _ _=>z) (fun _ _=>z) z (fun _ _=>z) (fun _ _=>z) (fun _ _=>y) (fun _=>z) z (fun _ _ _ _ _=>z) z (fun _ _=>z) (fun _ _=>z) (fun _ _ _=>z) z (fun _ _ _ _=>z) (fun _ _=>z) z
 () (fun _ _ _ _=>()) () (fun _ _ _ _=>()) x
noncomputable def c01 (i:Nat) (x:AV) (k:AV→RO):RO:=d2q x (k (.loc i 0)) (k .undef)
theorem c4D (i:Nat) (x:AV) (k:AV→RO):c01 i x k=k (match x with|.box _=>.loc i 0|_=>.undef):=by cases x <;> rfl
section
variable {β:Type}
noncomputable def rdK (nv dep:Nat) (sc:Scope) (x:Opd) (e:β) (Q:Rd→β):β :=
 match x with
 | .t s=>match G8 s sc with
  | some (.w l)=>b5e (dep - 1 - l) fun r=>Q fun env _ k=>r env k
  | some (.s l)|some (.d l)=>b5e (dep - 1 - l) fun r=>Q fun env _ k=>r env fun x=>qWk x k
  | some (.k a)=>Q fun _ _ k=>k a.weak
  | some (.q a)=>Q fun _ _ k=>k a
  | none=>e
 | .ts s=>match G8 s sc with
  | some (.s l)=>b5e (dep - 1 - l) fun r=>Q fun env _ k=>r env k
  | some (.k a)=>Q fun _ _ k=>k a
  | _=>e
 | .v i=>match Nat.blt i nv with
  | true=>a23 i e fun g=>Q fun _ fr k=>g fr fun x=>qWk x k
  | false=>e
 | .vs i=>match Nat.blt i nv with
  | true=>a23 i e fun g=>Q fun _ fr k=>g fr k
  | false=>e
 | .l i=>match Nat.blt i nv with
  | true=>a23 i e fun g=>Q fun _ fr k=>g fr fun x=>c01 i x k
  | false=>e
 | .c a=>Q fun _ _ k=>k a
def c6f (nv dep:Nat) (sc:Scope) (x:Opd) (r:Rd):Prop:=∀ env fr σ,Ag nv dep sc env fr σ→∀ k,r env fr k=k (x.read σ)
theorem S5 {i n:Nat} (h:Nat.blt i n=true):i < n:=by simpa using h
theorem a5N {G:β→Prop} {nv dep:Nat} {sc:Scope} {x:Opd} {e:β} {Q:Rd→β} (hn:nv≤64) (he:G e) (h:∀ r,c6f nv dep sc x r→G (Q r)):G (rdK nv dep sc x e Q):=by
 unfold rdK
 cases x with
 | t s =>
  dsimp only
  cases hs:G8 s sc with
  | none=>exact he
  | some y =>
   cases y with
   | w l =>
    refine a0d _ fun r hr=>h _ fun env fr σ ha k=>?_
    obtain ⟨a,h1,h2⟩:=ha.t _ _ hs
    show r env k=_
    rw [hr,b0J ha.d h1,← h2]; rfl
   | s l =>
    refine a0d _ fun r hr=>h _ fun env fr σ ha k=>?_
    obtain ⟨a,h1,h2⟩:=ha.t _ _ hs
    show r env _=_
    rw [hr,b0J ha.d h1]
    show qWk a k=_
    rw [a1d,← h2]; rfl
   | d l =>
    refine a0d _ fun r hr=>h _ fun env fr σ ha k=>?_
    obtain ⟨a,h1,h2⟩:=ha.t _ _ hs
    show r env _=_
    rw [hr,b0J ha.d h1]
    show qWk a k=_
    rw [a1d,← h2]; rfl
   | k a =>
    refine h _ fun env fr σ ha k=>?_
    have:=ha.t _ _ hs
    show k a.weak=k (σ.τ s).weak
    rw [show σ.τ s=a from this]
   | q a =>
    refine h _ fun env fr σ ha k=>?_
    have:=ha.t _ _ hs
    show k a=k (σ.τ s).weak
    rw [show (σ.τ s).weak=a from this]
 | ts s =>
  dsimp only
  cases hs:G8 s sc with
  | none=>exact he
  | some y =>
   cases y with
   | s l =>
    refine a0d _ fun r hr=>h _ fun env fr σ ha k=>?_
    obtain ⟨a,h1,h2⟩:=ha.t _ _ hs
    show r env k=_
    rw [hr,b0J ha.d h1,← h2]; rfl
   | k a =>
    refine h _ fun env fr σ ha k=>?_
    have:=ha.t _ _ hs
    show k a=k (σ.τ s)
    rw [show σ.τ s=a from this]
   | _=>exact he
 | v i =>
  dsimp only
  cases hb:Nat.blt i nv with
  | false=>exact he
  | true =>
   have hi:=S5 hb
   refine N0 (by omega) he fun g hg=>h _ fun env fr σ ha k=>?_
   show g fr (fun x=>qWk x k)=k (σ.fr.getD i .undef).weak
   rw [hg,a1d,ha.f,P4 hi]
 | vs i =>
  dsimp only
  cases hb:Nat.blt i nv with
  | false=>exact he
  | true =>
   have hi:=S5 hb
   refine N0 (by omega) he fun g hg=>h _ fun env fr σ ha k=>?_
   show g fr k=k (σ.fr.getD i .undef)
   rw [hg,ha.f,P4 hi]
 | l i =>
  dsimp only
  cases hb:Nat.blt i nv with
  | false=>exact he
  | true =>
   have hi:=S5 hb
   refine N0 (by omega) he fun g hg=>h _ fun env fr σ ha k=>?_
   show g fr (fun x=>c01 i x k)=_
   rw [hg,c4D]
   show _=k (match σ.fr.getD i .undef with|.box _=>.loc i 0|_=>.undef)
   rw [ha.f,P4 hi]
 | c a=>exact h _ fun _ _ _ _ _=>rfl
def rdL (nv dep:Nat) (sc:Scope) (rd:Opd→β→(Rd→β)→β):List Opd→β→(List Rd→β)→β
 | [],_,Q=>Q []
 | x::xs,e,Q=>rd x e fun r=>rdL nv dep sc rd xs e fun rs=>Q (r::rs)
def b0V (nv dep:Nat) (sc:Scope):List Opd→List Rd→Prop
 | [],[]=>True
 | x::xs,r::rs=>c6f nv dep sc x r∧b0V nv dep sc xs rs
 | _,_=>False
theorem b21 {G:β→Prop} {nv dep:Nat} {sc:Scope} (hn:nv≤64):∀ {xs:List Opd} {e:β} {Q:List Rd→β},G e→(∀ rs,b0V nv dep sc xs rs→G (Q rs))→G (rdL nv dep sc (fun x e Q=>rdK nv dep sc x e Q) xs e Q)
 | [],e,Q,he,h=>h [] trivial
 | x::xs,e,Q,he,h=>by
  unfold rdL
  exact a5N hn he fun r hr=>b21 hn he fun rs hrs=>h _ ⟨hr,hrs⟩
end
def a1t:List Rd→List AV→Fr→(List AV→RO)→RO
 | [],_,_,k=>k []
 | r::rs,env,fr,k=>r env fr fun x=>a1t rs env fr fun xs=>k (x::xs)
theorem a1a {nv dep:Nat} {sc:Scope} {env:List AV} {fr:Fr} {σ:Sig} (ha:Ag nv dep sc env fr σ):∀ {xs:List Opd} {rs:List Rd} {k:List AV→RO},b0V nv dep sc xs rs→a1t rs env fr k=k (xs.map (·.read σ))
 | [],[],k,_=>rfl
 | x::xs,r::rs,k,h=>by
  show r env fr _=_
  rw [h.1 env fr σ ha,a1a ha h.2]
  rfl
 | [],_::_,_,h=>h.elim
 | _::_,[],_,h=>h.elim
section
variable {β:Type}
abbrev RdA:=List AV→Fr→(List AV→RO)→RO
noncomputable def c0c (rs:List Rd) (Q:RdA→β):β:=List.rec (motive:=fun _=>(RdA→β)→β) (fun Q=>Q fun _ _ k=>k []) (fun r _ ih Q=>ih fun ra=>Q fun env fr k=>r env fr fun x=>ra env fr fun xs=>k (x::xs)) rs Q
theorem a3r {G:β→Prop}:∀ {rs:List Rd} {Q:RdA→β},(∀ ra:RdA,(∀ env fr k,ra env fr k=a1t rs env fr k)→G (Q ra))→G (c0c rs Q)
 | [],Q,h=>h _ fun _ _ _=>rfl
 | r::rs,Q,h=>a3r (rs:=rs) fun ra hra=>h _ fun env fr k=>by
  show r env fr _=r env fr _
  congr
  funext x
  exact hra _ _ _
abbrev KF:=d8→List AV→Fr→AV→St→(AV→AV→St→RO)→RO
def c0y (kd:Kind) (rs:List Rd) (kf:KF):Prop:=∀ c env fr b s K,kf c env fr b s K=a1t rs env fr fun as=>obind (sem kd c as b s) fun p=>K p.1 p.2.1 p.2.2
theorem r7 {kd:Kind} (h1:kd.setSt=false) (h2:kd.alters=false) (c:d8) (as:List AV) (b:AV) (s:St) (K:AV→AV→St→RO):obind (p1 (sem kd c as b s)) (fun r=>K r b s)=obind (sem kd c as b s) fun p=>K p.1 p.2.1 p.2.2:=by
 cases hs:sem kd c as b s with
 | none=>rfl
 | some p =>
  obtain ⟨r,b',s'⟩:=p
  have e1:=a3C h1 hs
  have e2:=a2j h2 hs
  subst e1 e2
  rfl
theorem b1a {kd:Kind} (h2:kd.alters=false) (c:d8) (as:List AV) (b:AV) (s:St) (K:AV→AV→St→RO):obind (p2 (sem kd c as b s)) (fun r=>K r.1 b r.2)=obind (sem kd c as b s) fun p=>K p.1 p.2.1 p.2.2:=by
 cases hs:sem kd c as b s with
 | none=>rfl
 | some p =>
  obtain ⟨r,b',s'⟩:=p
  have e2:=a2j h2 hs
  subst e2
  rfl
noncomputable def b1H (c:d8) (s:St) (K:AV→St→RO) (i:Nat) (xs:List AV):RO:=b1x xs fun ws=>c6h (c i ws s) fun v s=>K v s
noncomputable def b5r (c:d8) (b:AV) (s:St) (f:AV→RO) (g:Bool) (d:Nat) (x:AV):RO:=b0W x (obind (p1 (sem (.ldAn g d) c [x] b s)) f) (fun o i=>a6h s f g d (.ptr o i)) (fun cs=>a7b f g d (.ro cs)) (fun _ _=>obind (p1 (sem (.ldAn g d) c [x] b s)) f)
theorem c0p (c:d8) (b:AV) (s:St) (f:AV→RO) (g:Bool) (d:Nat) (x:AV):b5r c b s f g d x=obind (p1 (sem (.ldAn g d) c [x] b s)) f:=by
 unfold b5r
 rw [a5Z]
 cases x <;> try rfl
 · rename_i o i
   show a6h s f g d (.ptr o i)=_
   rw [b2V c b s]; rfl
 · rename_i cs
   show a7b f g d (.ro cs)=_
   rw [b3g c b s]; rfl
noncomputable def c0u (kd:Kind) (ra:RdA) (Q:KF→β):β:=match kd.alters with
 | true=>Q fun c env fr b s K=>ra env fr fun as=>obind (sem kd c as b s) fun p=>a1L p.1 fun r=>a1L p.2.1 fun b=>fL p.2.2 fun s=>K r b s
 | false=>match kd.setSt with
  | true=>Q fun c env fr b s K=>ra env fr fun as=>obind (p2 (sem kd c as b s)) fun p=>a1L p.1 fun r=>fL p.2 fun s=>K r b s
  | false=>Q fun c env fr b s K=>ra env fr fun as=>obind (p1 (sem kd c as b s)) fun x=>a1L x fun r=>K r b s
noncomputable def b5j (kd:Kind) (rs:List Rd) (Q:KF→β):β :=
 match kd,rs with
 | .mv,[x]=>Q fun c env fr b s K=>x env fr fun x=>K x b s
 | .bin .eql,[x,y]=>Q fun c env fr b s K=>x env fr fun x=>y env fr fun y=>c1d (fun r=>K r b s) x y
 | .bin .neq,[x,y]=>Q fun c env fr b s K=>x env fr fun x=>y env fr fun y=>c0l (fun r=>K r b s) x y
 | .bin .lss,[x,y]=>Q fun c env fr b s K=>x env fr fun x=>y env fr fun y=>a1O c b s (fun r=>K r b s) .lss Nat.blt x y
 | .bin .leq,[x,y]=>Q fun c env fr b s K=>x env fr fun x=>y env fr fun y=>a1O c b s (fun r=>K r b s) .leq Nat.ble x y
 | .bin .gtr,[x,y]=>Q fun c env fr b s K=>x env fr fun x=>y env fr fun y=>a1O c b s (fun r=>K r b s) .gtr (fun i j=>Nat.blt j i) x y
 | .bin .geq,[x,y]=>Q fun c env fr b s K=>x env fr fun x=>y env fr fun y=>a1O c b s (fun r=>K r b s) .geq (fun i j=>Nat.ble j i) x y
 | .bin .add,[x,y]=>Q fun c env fr b s K=>x env fr fun x=>y env fr fun y=>b9M c b s (fun r=>K r b s) x y
 | .bin .sub,[x,y]=>Q fun c env fr b s K=>x env fr fun x=>y env fr fun y=>c0R c b s (fun r=>K r b s) x y
 | .un .not,[x]=>Q fun c env fr b s K=>x env fr fun x=>c0I (fun r=>K r b s) x
 | .nilchk,[x]=>Q fun c env fr b s K=>x env fr fun x=>c1m c b s (fun r=>K r b s) x
 | .lenS,[x]=>Q fun c env fr b s K=>x env fr fun x=>b6b (fun r=>K r b s) x
 | .lenL,[x]=>Q fun c env fr b s K=>x env fr fun x=>b53 c b s (fun r=>K r b s) x
 | .idxS,[x,y]=>Q fun c env fr b s K=>x env fr fun x=>y env fr fun y=>c0t (fun r=>K r b s) x y
 | .pick,[x,y,z]=>Q fun c env fr b s K=>x env fr fun x=>y env fr fun y=>z env fr fun z=>b6r (fun r=>K r b s) x y z
 | .fad d,[x]=>Q fun c env fr b s K=>x env fr fun x=>b9D (fun r=>K r b s) d x
 | .iad d,[x,y]=>Q fun c env fr b s K=>x env fr fun x=>y env fr fun y=>c0a c b s (fun r=>K r b s) d x y
 | .ldSt g d,[x]=>Q fun c env fr b s K=>x env fr fun x=>a6h s (fun r=>K r b s) g d x
 | .ldRo g d,[x]=>Q fun c env fr b s K=>x env fr fun x=>a7b (fun r=>K r b s) g d x
 | .ldAn g d,[x]=>Q fun c env fr b s K=>x env fr fun x=>b5r c b s (fun r=>K r b s) g d x
 | .ldLc i g d,[x]=>Q fun c env fr b s K=>x env fr fun x=>b5d b (fun r=>K r b s) i g d x
 | .ext d,[x]=>Q fun c env fr b s K=>x env fr fun x=>c0o (fun r=>K r b s) d x
 | .slS true true,[x,y,z]=>Q fun c env fr b s K=>x env fr fun x=>y env fr fun y=>z env fr fun z=>b9J c b s (fun r=>K r b s) x y z
 | .app d e,[x,y]=>Q fun c env fr b s K=>x env fr fun x=>y env fr fun y=>c0b b s (fun p=>K p.1 p.2.1 p.2.2) d e x y
 | .alloc d,[]=>Q fun c env fr b s K=>b2f b s (fun p=>K p.1 p.2.1 p.2.2) d
 | .stLc i d,[x,y]=>Q fun c env fr b s K=>x env fr fun x=>y env fr fun y=>b5k b s (fun p=>K p.1 p.2.1 p.2.2) i d x y
 | .stSt d,[x,y]=>Q fun c env fr b s K=>x env fr fun x=>y env fr fun y=>b5O s (fun p=>K p.1 b p.2) d x y
 | .call f,rs=>c0c rs fun ra=>Q fun c env fr b s K=>ra env fr fun as=>b1H c s (fun v s=>K v b s) f as
 | kd,rs=>c0c rs fun ra=>c0u kd ra Q
theorem b7P {G:β→Prop} {kd:Kind} {rs:List Rd} {ra:RdA} {Q:KF→β} (hra:∀ env fr k,ra env fr k=a1t rs env fr k) (h:∀ kf,c0y kd rs kf→G (Q kf)):G (c0u kd ra Q):=by
 unfold c0u
 cases h2:kd.alters with
 | true=>exact h _ fun c env fr b s K=>by rw [hra]; simp only [fNew_eq,fL_eq]
 | false =>
  cases h1:kd.setSt with
  | true =>
   refine h _ fun c env fr b s K=>?_
   rw [hra]; simp only [fNew_eq,fL_eq]
   congr; funext as
   exact b1a h2 c as b s K
  | false =>
   refine h _ fun c env fr b s K=>?_
   rw [hra]; simp only [fNew_eq]
   congr; funext as
   exact r7 h1 h2 c as b s K
theorem S6 (x:Rd) (env:List AV) (fr:Fr) (k:List AV→RO):a1t [x] env fr k=x env fr fun x=>k [x]:=rfl
theorem M6 (x y:Rd) (env:List AV) (fr:Fr) (k:List AV→RO):a1t [x,y] env fr k=x env fr fun x=>y env fr fun y=>k [x,y]:=rfl
theorem b7T (x y z:Rd) (env:List AV) (fr:Fr) (k:List AV→RO):a1t [x,y,z] env fr k=x env fr fun x=>y env fr fun y=>z env fr fun z=>k [x,y,z]:=rfl
theorem b58 {G:β→Prop} {kd:Kind} {rs:List Rd} {Q:KF→β} (h:∀ kf,c0y kd rs kf→G (Q kf)):G (b5j kd rs Q):=by
 unfold b5j
 split
 · exact h _ fun c env fr b s K=>rfl
 · exact h _ fun c env fr b s K=>by rw [M6]; congr; funext x; congr; funext y; rw [c5A c b s]; exact r7 rfl rfl ..
 · exact h _ fun c env fr b s K=>by rw [M6]; congr; funext x; congr; funext y; rw [c4j c b s]; exact r7 rfl rfl ..
 · exact h _ fun c env fr b s K=>by rw [M6]; congr; funext x; congr; funext y; rw [c7I c b s]; exact r7 rfl rfl ..
 · exact h _ fun c env fr b s K=>by rw [M6]; congr; funext x; congr; funext y; rw [c7Q c b s]; exact r7 rfl rfl ..
 · exact h _ fun c env fr b s K=>by rw [M6]; congr; funext x; congr; funext y; rw [c6k c b s]; exact r7 rfl rfl ..
 · exact h _ fun c env fr b s K=>by rw [M6]; congr; funext x; congr; funext y; rw [c8a c b s]; exact r7 rfl rfl ..
 · exact h _ fun c env fr b s K=>by rw [M6]; congr; funext x; congr; funext y; rw [c36 c b s]; exact r7 rfl rfl ..
 · exact h _ fun c env fr b s K=>by rw [M6]; congr; funext x; congr; funext y; rw [c4Z c b s]; exact r7 rfl rfl ..
 · exact h _ fun c env fr b s K=>by rw [S6]; congr; funext x; rw [c4F c b s]; exact r7 rfl rfl ..
 · exact h _ fun c env fr b s K=>by rw [S6]; congr; funext x; rw [c3F c b s]; exact r7 rfl rfl ..
 · exact h _ fun c env fr b s K=>by rw [S6]; congr; funext x; rw [c0W c b s]; exact r7 rfl rfl ..
 · exact h _ fun c env fr b s K=>by rw [S6]; congr; funext x; rw [c1f c b s]; exact r7 rfl rfl ..
 · exact h _ fun c env fr b s K=>by rw [M6]; congr; funext x; congr; funext y; rw [c4q c b s]; exact r7 rfl rfl ..
 · exact h _ fun c env fr b s K=>by rw [b7T]; congr; funext x; congr; funext y; congr; funext z; rw [b9O c b s]; exact r7 rfl rfl ..
 · exact h _ fun c env fr b s K=>by rw [S6]; congr; funext x; rw [c3N c b s]; exact r7 rfl rfl ..
 · exact h _ fun c env fr b s K=>by rw [M6]; congr; funext x; congr; funext y; rw [c4C c b s]; exact r7 rfl rfl ..
 · exact h _ fun c env fr b s K=>by rw [S6]; congr; funext x; rw [b2V c b s]; exact r7 rfl rfl ..
 · exact h _ fun c env fr b s K=>by rw [S6]; congr; funext x; rw [b3g c b s]; exact r7 rfl rfl ..
 · exact h _ fun c env fr b s K=>by rw [S6]; congr; funext x; rw [c0p c b s]; exact r7 rfl rfl ..
 · exact h _ fun c env fr b s K=>by rw [S6]; congr; funext x; rw [c0G c b s]; exact r7 rfl rfl ..
 · exact h _ fun c env fr b s K=>by rw [S6]; congr; funext x; rw [c4B c b s]; exact r7 rfl rfl ..
 · exact h _ fun c env fr b s K=>by rw [b7T]; congr; funext x; congr; funext y; congr; funext z; rw [c3v c b s]; exact r7 rfl rfl ..
 · exact h _ fun c env fr b s K=>by rw [M6]; congr; funext x; congr; funext y; exact c46 c b s ..
 · exact h _ fun c env fr b s K=>b89 c b s ..
 · exact h _ fun c env fr b s K=>by rw [M6]; congr; funext x; congr; funext y; exact b9r c b s ..
 · exact h _ fun c env fr b s K=>by rw [M6]; congr; funext x; congr; funext y; rw [b9S c b s]; exact b1a rfl ..
 · refine a3r fun ra hra=>h _ fun c env fr b s K=>?_
   rw [hra]
   congr; funext as
   show b1H c s (fun v s=>K v b s) _ as=_
   unfold b1H
   rw [b0u]
   simp only [sem,t8]
   split
   · rw [c4r]
     cases c _ (as.map AV.weak) s <;> rfl
   · rfl
 · exact a3r fun ra hra=>b7P hra h
end
end Go.Cb.G
