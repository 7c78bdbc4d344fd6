import Derived.Test.YthbikoodicigeaaGreatDoorChecked
import Derived.Shelf.RegionOpenPlain
import Derived.WalkKit
import Derived.Handy
import Derived.Conc.LoneSelectN
import Derived.Test.YthbikoodicigeaaGreatDoorCm
import Derived.Deep.RegionHeld
/-
 the queue's operations on its channel: Put, Len, All, for what awake does.
-/
set_option maxRecDepth 100000
set_option linter.unusedVariables false
set_option linter.unusedSimpArgs false
namespace Go.Cb.CodeA
open Go Go.Cb Go.Proofs Go.RowKit Go.Shelf Go.Conc
set_option maxHeartbeats 4000000 in
theorem sel_to {R:Goroutine→World→Prop} {k:List Item} {cs:List Frame} {w:World} {t:Array Value} {C s r:Nat} {m:Value} {t0 t1 t2:TypeId} {p0 p1 p2:String} {f0 f1 f2:Array Edge}
 (h11:t[11]?=some (.chan (some C))) (h12:t[12]?=some m) (hs:t.size=27) (hc:w.heap[C]?=some (.chan 4 #[] false s r false))
 (h:LoneTo Tryz.prog R (G ((base 29).at ⟨((t.setIfInBounds 13 (.tuple #[goInt 0,.bool false])).setIfInBounds 14 (goInt 0)).setIfInBounds 15 (.bool true),[]⟩ k) cs) (w.setChan C 4 #[m] false (s+1) r false)) :
 LoneTo Tryz.prog R (G ((base 29).at ⟨t,[]⟩ (.code (.region 5 #[{ dst:=some 13,op:=.select #[{ chan:=.tmp 11,send:=some (.tmp 12),elem:=79 }] false,type:=t0,pos:=p0,after:=f0,guard:=none },{ dst:=some 14,op:=.extract (.tmp 13) 0,type:=t1,pos:=p1,after:=f1,guard:=none },{ dst:=some 15,op:=.binOp .eql 3 (.tmp 14) (.const (.int .i64 0)) 3,type:=t2,pos:=p2,after:=f2,guard:=none }] false)::k)) cs) w:=by
 have e11:t[11]?.getD undef=.chan (some C):=by rw [h11]; rfl
 have e12:t[12]?.getD undef=m:=by rw [h12]; rfl
 obtain ⟨z,hz⟩:∃ z,Tryz.prog.info? 79=some z∧z.zero=some (.agg #[.int .u64 0,.string ByteArray.empty,.int .u8 0,.int .i64 0,.string ByteArray.empty,.slice none 0 0,.slice none 0 0]):=by
  have h:(Tryz.prog.info? 79).map (·.zero)=some (some (.agg #[.int .u64 0,.string ByteArray.empty,.int .u8 0,.int .i64 0,.string ByteArray.empty,.slice none 0 0,.slice none 0 0])):=by kernel_rfl
  obtain ⟨i,hi,hb⟩:=Option.map_eq_some_iff.1 h
  exact ⟨i,hi,hb⟩
 refine LoneTo.goes (n:=1) ?_
 s_reg
 s_stop
 refine LoneTo.step (step_lone_select_send_room (c:=C) (v:=m) (z':=.agg #[.int .u64 0,.string ByteArray.empty,.int .u8 0,.int .i64 0,.string ByteArray.empty,.slice none 0 0,.slice none 0 0]) (cap:=4) (buf:=#[]) (s:=s) (r:=r) (tm:=false) (w₁:=w) (es:=_) (stepG_comm (cases:=#[scase C m (.agg #[.int .u64 0,.string ByteArray.empty,.int .u8 0,.int .i64 0,.string ByteArray.empty,.slice none 0 0,.slice none 0 0])]) (blocking:=false) (shape:=.select) (w':=w) rfl rfl (by decide) ?_) hc (by simp)) ?_
 · simp [execOp,scase,Act.eval,e11,e12,hz.1,hz.2]
   rfl
 rw [Frame.finish_at]
 walk_nrm
 refine LoneTo.goes (n:=3) ?_
 s_op
 s_op
 s_c stepG_region_end
 s_stop
 exact h

abbrev mM (doc:ByteArray):Value:=.agg #[.int .u64 0,.string doc,.int .u8 6,.int .i64 0,.string ByteArray.empty,.slice none 0 0,.slice none 0 0]
set_option maxHeartbeats 4000000 in
theorem put_c (doc:ByteArray) (C s r:Nat) (w:World) (hlt:C+1 < w.heap.size) (hq:w.heap[C+1]?=some (.cells #[.chan (some C),.int .u64 0] 126 (0,0))) (hc:w.heap[C]?=some (.chan 4 #[] false s r false)) :
 Calls Tryz.prog 29 #[.pointer (some ⟨C+1,0,none⟩),mM doc] w fun e w'=>e=.returned (.tuple #[.int .u64 1,.int .i64 0])∧w'=((w.alloc (.cells #[.int .u64 0,.string doc,.int .u8 6,.int .i64 0,.string ByteArray.empty,.slice none 0 0,.slice none 0 0] 79)).setChan C 4 #[mM doc] false (s+1) r false).drew:=by
 refine calls_of_loneTo fun cs=>?_
 have e:Frame.enter Tryz.prog 29 #[.pointer (some ⟨C+1,0,none⟩),mM doc] .normal=(base 29).at ⟨#[.pointer (some ⟨C+1,0,none⟩),mM doc]++Array.replicate 25 undef,[]⟩ [.code (Tryz.f29.body.getD .skip)]:=by
  simp [Frame.enter,Frame.at,Tryz.func29,base,Tryz.f29]
 rw [e]
 have k0:w.cell? ⟨C+1,0,none⟩=some (.chan (some C)):=by simp [World.cell?,hq]
 simp only [Tryz.f29,Option.getD_some,Array.replicate_succ,Array.replicate_zero,List.push_toArray,List.append_toArray,List.nil_append,List.cons_append]
 refine LoneTo.seq (LoneTo.wp ?_)
 go_wp2
 refine LoneTo.seq (LoneTo.wp ?_)
 go_wp2
 refine LoneTo.seq (LoneTo.wp ?_)
 go_wp2
 generalize hW:w.alloc (.cells #[.int .u64 0,.string doc,.int .u8 6,.int .i64 0,.string ByteArray.empty,.slice none 0 0,.slice none 0 0] 79)=W1
 have hq1:W1.heap[C+1]?=some (.cells #[.chan (some C),.int .u64 0] 126 (0,0)):=by rw [← hW,Below.heap_alloc _ _ _ hlt]; exact hq
 have hc1:W1.heap[C]?=some (.chan 4 #[] false s r false):=by rw [← hW,Below.heap_alloc _ _ _ (by omega)]; exact hc
 refine LoneTo.seq (sel_to (m:=mM doc) rfl rfl rfl hc1 ?_)
 have hlt1:C < W1.heap.size:=(Array.getElem?_eq_some_iff.1 hc1).1
 have hq2:(W1.setChan C 4 #[mM doc] false (s+1) r false).heap[C+1]?=some (.cells #[.chan (some C),.int .u64 0] 126 (0,0)):=by
  simp only [World.setChan]; rw [Array.getElem?_setIfInBounds_ne (by omega)]; exact hq1
 have hc2:=heap_setChan W1 C 4 #[mM doc] false (s+1) r false hlt1
 generalize W1.setChan C 4 #[mM doc] false (s+1) r false=W2 at hq2 hc2 ⊢
 have k2:W2.cell? ⟨C+1,0,none⟩=some (.chan (some C)):=by simp [World.cell?,hq2]
 have k3:W2.cell? ⟨C+1,1,none⟩=some (.int .u64 0):=by simp [World.cell?,hq2]
 have hl:=fun ty=>run_len_chan (P:=Tryz.prog) (w:=W2.drew) 124 ty Tryz.underlying124 hc2
 refine LoneTo.block (LoneTo.cond (t:=true) rfl ?_)
 simp only [↓reduceIte]
 refine LoneTo.wp ?_
 simp only [List.setIfInBounds_toArray,List.set_cons_zero,List.set_cons_succ]
 go_wp2
 go_region
 go_wp2
 intro todo
 exact LoneTo.done ⟨.returned (.tuple #[.int .u64 1,.int .i64 0]),_,rfl,⟨rfl,rfl⟩,rfl,rfl,rfl,rfl,_,Tryz.func29,by simp [results,Tryz.f29,Frame.at]⟩
abbrev bM (doc:ByteArray):Array Value:=#[.int .u64 0,.string doc,.int .u8 6,.int .i64 0,.string ByteArray.empty,.slice none 0 0,.slice none 0 0]
abbrev bE:Array Value:=#[.int .u8 6,.int .i64 0,.string ByteArray.empty,.slice none 0 0,.slice none 0 0]
abbrev vE:Value:=.agg bE
/-- a step that turns nothing but block C -/
structure Stp (C:Nat) (W W':World):Prop where
 size:W.heap.size≤W'.heap.size
 os:W'.os=W.os
 out:W'.output=W.output
 keep:∀ b,b < W.heap.size→b≠C→W'.heap[b]?=W.heap[b]?
theorem Stp.refl (C:Nat) (W:World):Stp C W W:=⟨Nat.le_refl _,rfl,rfl,fun _ _ _=>rfl⟩
theorem Stp.trans {C:Nat} {X Y Z:World} (h:Stp C X Y) (k:Stp C Y Z):Stp C X Z:=⟨Nat.le_trans h.size k.size,k.os.trans h.os,k.out.trans h.out,fun b hb hc=>(k.keep b (Nat.lt_of_lt_of_le hb h.size) hc).trans (h.keep b hb hc)⟩
theorem Stp.alloc {C:Nat} {X Y:World} (h:Stp C X Y) (o:_root_.Go.Obj):Stp C X (Y.alloc o):=h.trans ⟨by simp,rfl,rfl,fun b hb _=>Below.heap_alloc _ _ _ hb⟩
theorem Stp.drew {C:Nat} {X Y:World} (h:Stp C X Y):Stp C X Y.drew:=h.trans ⟨Nat.le_refl _,rfl,rfl,fun _ _ _=>rfl⟩
theorem Stp.below {C:Nat} {X Y Z:World} (h:Stp C X Y) (hb:Below Y.heap.size Y Z):Stp C X Z:=h.trans ⟨hb.size,hb.os,hb.output,fun b hb' _=>hb.block b hb'⟩
theorem Stp.chan {C:Nat} {X Y:World} (h:Stp C X Y) (cap:Nat) (buf:Array Value) (cl:Bool) (s r:Nat) (tm:Bool):Stp C X (Y.setChan C cap buf cl s r tm):=h.trans ⟨by simp [World.setChan],rfl,rfl,fun b hb hc=>by simp only [World.setChan]; rw [Array.getElem?_setIfInBounds_ne (by omega)]⟩
theorem put_s (doc:ByteArray) (C s r:Nat) (w0 w:World) (hw:Stp C w0 w) (hlt:C+1 < w.heap.size) (hq:w.heap[C+1]?=some (.cells #[.chan (some C),.int .u64 0] 126 (0,0))) (hc:w.heap[C]?=some (.chan 4 #[] false s r false)) :
 Calls Tryz.prog 29 #[.pointer (some ⟨C+1,0,none⟩),.agg (bM doc)] w fun e w'=>e=.returned (.tuple #[.int .u64 1,.int .i64 0])∧Stp C w0 w'∧w'.heap[C]?=some (.chan 4 #[mM doc] false (s+1) r false) :=
 (put_c doc C s r w hlt hq hc).mono fun e w' ⟨he,hw'⟩=>⟨he,by rw [hw']; exact ((hw.alloc _).chan _ _ _ _ _ _).drew,by
  rw [hw']; exact heap_setChan (w.alloc _) C 4 #[mM doc] false (s+1) r false (by simp; omega)⟩
set_option maxHeartbeats 4000000 in
theorem add_c (doc:ByteArray) (C s r:Nat) (w:World) (hlt:C+1 < w.heap.size) (hq:w.heap[C+1]?=some (.cells #[.chan (some C),.int .u64 0] 126 (0,0))) (hc:w.heap[C]?=some (.chan 4 #[] false s r false)) (hr:w.cell? ⟨C+2,5,none⟩=some (.pointer (some ⟨C+1,0,none⟩))) :
 Calls Tryz.prog 7 #[.pointer (some ⟨C+2,0,none⟩),.string doc,vE] w fun e w'=>e=.returned (.tuple #[.int .u64 1,.int .i64 0])∧Stp C w w'∧w'.heap[C]?=some (.chan 4 #[mM doc] false (s+1) r false):=by
 have hlt2:C+2 < w.heap.size:=block_lt_of_cell hr
 have hp:=put_s doc C s r w (w.alloc (.cells bE 37)).drew ((Stp.refl C w).alloc _).drew (by simp; omega) ((Below.heap_alloc _ _ _ hlt).trans hq) ((Below.heap_alloc _ _ _ (by omega)).trans hc)
 clear hlt hq hc
 go_enter Tryz.func7,Tryz.ntmps7
 go_wp2
 go_region_with (go_at_call 29; refine hp.mono ?_; rintro e w' ⟨rfl,hst,hch⟩)
 all_goals go_wp2
 all_goals go_ret2
 all_goals exact ⟨rfl,hst,hch⟩
end Go.Cb.CodeA
/-
 the queue's All, where one thing waits.
-/
set_option maxRecDepth 100000
set_option linter.unusedVariables false
set_option linter.unusedSimpArgs false
namespace Go.Cb.CodeA
open Go Go.Cb Go.Proofs Go.RowKit Go.Shelf Go.Conc
set_option maxHeartbeats 4000000 in
theorem len_c (C s r:Nat) (m:Value) (w:World) (hq:w.heap[C+1]?=some (.cells #[.chan (some C),.int .u64 0] 126 (0,0))) (hc:w.heap[C]?=some (.chan 4 #[m] false s r false)) :
 Calls Tryz.prog 65 #[.pointer (some ⟨C+1,0,none⟩)] w fun e w'=>e=.returned (.int .i64 1)∧w=w':=by
 have k0:w.cell? ⟨C+1,0,none⟩=some (.chan (some C)):=by simp [World.cell?,hq]
 have hl:=fun ty=>run_len_chan (P:=Tryz.prog) (w:=w) 124 ty Tryz.underlying124 hc
 clear hq hc
 go_enter Tryz.func65,Tryz.ntmps65
 go_wp2
 go_returns
 exact ⟨rfl,rfl⟩
abbrev zM:Value:=.agg #[.int .u64 0,.string ByteArray.empty,.int .u8 0,.int .i64 0,.string ByteArray.empty,.slice none 0 0,.slice none 0 0]
theorem info79:(Tryz.prog.info? 79).map (fun i=>(i.zero,i.size,i.bytes))=some (some zM,7,104):=by kernel_rfl
def ops6 (p:String):Array Oper:=#[{ dst:=some 18,op:=Op.move (Operand.tmp 0),type:=75,pos:=p,after:=#[],guard:=none },
 { dst:=some 19,op:=Op.nilCheck (Operand.tmp 18),type:=0,pos:=p,after:=#[{ on:=0,ground:=Ground.data }],guard:=none },
 { dst:=some 20,op:=Op.fieldAddr 126 (Operand.tmp 19) 0,type:=0,pos:=p,after:=#[{ on:=1,ground:=Ground.data }],guard:=none },
 { dst:=some 21,op:=Op.load 124 (Operand.tmp 20),type:=124,pos:=p,after:=#[{ on:=2,ground:=Ground.data }],guard:=none },
 { dst:=some 22,op:=Op.load 79 (Operand.tmp 4),type:=79,pos:=p,after:=#[],guard:=none },
 { dst:=none,op:=Op.send (Operand.tmp 21) (Operand.tmp 22),type:=0,pos:=p,after:=#[{ on:=3,ground:=Ground.data },{ on:=4,ground:=Ground.data }],guard:=none }]
theorem ops6_ord (p:String):allOrd .any (ops6 p) (ops6 p).size (Array.replicate (ops6 p).size false)=[[0,1,2,3,4,5],[0,1,2,4,3,5],[0,1,4,2,3,5],[0,4,1,2,3,5],[4,0,1,2,3,5]]:=by kernel_rfl
theorem follows:Tryz.prog.follows .mixedOrders=true:=by kernel_rfl
set_option maxHeartbeats 4000000 in
theorem snd_to {R:Goroutine→World→Prop} {k:List Item} {cs:List Frame} {p:String} {doc:ByteArray} {C bx s r:Nat} {w:World} {x1 x2 x3 x5 x6 x7 x8 x9 x10 x11 x12 x13 x14 x15 x16 x17 x18 x19 x20 x21 x22 x23 x24:Value} (hq:w.cell? ⟨C+1,0,none⟩=some (.chan (some C))) (hc:w.heap[C]?=some (.chan 4 #[] false s r false)) (hbx:w.heap[bx]?=some (.cells (bM doc) 79 (0,0)))
 (h:LoneTo Tryz.prog R (G ((base 41).at ⟨#[.pointer (some ⟨C+1,0,none⟩),x1,x2,x3,.pointer (some ⟨bx,0,none⟩),x5,x6,x7,x8,x9,x10,x11,x12,x13,x14,x15,x16,x17,.pointer (some ⟨C+1,0,none⟩),.pointer (some ⟨C+1,0,none⟩),.pointer (some ⟨C+1,0,none⟩),.chan (some C),mM doc,x23,x24],[]⟩ k) cs) (w.drew.setChan C 4 #[mM doc] false (s+1) r false)) :
 LoneTo Tryz.prog R (G ((base 41).at ⟨#[.pointer (some ⟨C+1,0,none⟩),x1,x2,x3,.pointer (some ⟨bx,0,none⟩),x5,x6,x7,x8,x9,x10,x11,x12,x13,x14,x15,x16,x17,x18,x19,x20,x21,x22,x23,x24],[]⟩ (.code (.region 6 (ops6 p) true)::k)) cs) w:=by
 refine LoneTo.goes (n:=1) ?_
 s_in
 rw [stepG_region_draw]
 simp only [goes_go]
 refine ⟨trivial,?_⟩
 s_stop
 have hmem:=schedule_mem follows (ops6 p) (w.tape w.drawn (.order (base 41).fn 6))
 rw [ops6_ord] at hmem
 generalize Region.schedule (Tryz.prog.follows .mixedOrders) (ops6 p) (w.tape w.drawn (.order (base 41).fn 6))=l at hmem ⊢
 change LoneTo Tryz.prog R _ w.drew
 have hc':w.drew.heap[C]?=some (.chan 4 #[] false s r false):=hc
 have hk:∀ (i:Nat) (v:Value),(bM doc)[i]?=some v→w.cell? ⟨bx,i,none⟩=some v:=fun i v hv=>by simp only [World.cell?,hbx]; simpa using hv
 have b0:=hk 0 _ rfl
 have b1:=hk 1 _ rfl
 have b2:=hk 2 _ rfl
 have b3:=hk 3 _ rfl
 have b4:=hk 4 _ rfl
 have b5:=hk 5 _ rfl
 have b6:=hk 6 _ rfl
 clear hk
 simp only [ops6]
 simp only [List.mem_cons,List.not_mem_nil,or_false] at hmem
 rcases hmem with rfl|rfl|rfl|rfl|rfl
 all_goals (
  refine LoneTo.goes (n:=5) ?_
  s_op
  s_op
  s_op
  s_op
  s_op
  s_stop
  refine LoneTo.step (step_lone_send_room (c:=C) (cap:=4) (buf:=#[]) (s:=s) (r:=r) (tm:=false) (stepG_comm (cases:=#[scase C (mM doc) (.tuple #[])]) (blocking:=true) (shape:=.send) (w':=w.drew) rfl rfl (by decide) (by simp [execOp,scase,Act.eval])) hc' (by simp)) ?_
  rw [Frame.finish_at]
  walk_nrm
  refine LoneTo.goes (n:=1) ?_
  s_c stepG_region_end
  s_stop
  exact h)
def AllPost (doc:ByteArray) (C s r:Nat) (w:World) (e:Ending) (w':World):Prop:=∃ B cap cur,e=.returned (.slice (some ⟨B,0,none⟩) 1 cap)∧Stp C w w'∧w'.heap[C]?=some (.chan 4 #[mM doc] false (s+1) (r+1) false)∧w.heap.size≤B∧w'.heap[B]?=some (.cells cur 79 (0,0))∧cur.toList.take 7=(bM doc).toList
set_option maxHeartbeats 4000000 in
theorem all_c (doc:ByteArray) (C s r:Nat) (w:World) (hlt:C+1 < w.heap.size) (hq:w.heap[C+1]?=some (.cells #[.chan (some C),.int .u64 0] 126 (0,0))) (hc:w.heap[C]?=some (.chan 4 #[mM doc] false s r false)) :
 Calls Tryz.prog 41 #[.pointer (some ⟨C+1,0,none⟩)] w (AllPost doc C s r w):=by
 refine calls_of_loneTo (fun cs=>?_) (fun w' ⟨_,_,_,h,_⟩=>by cases h)
 have e:Frame.enter Tryz.prog 41 #[.pointer (some ⟨C+1,0,none⟩)] .normal=(base 41).at ⟨#[.pointer (some ⟨C+1,0,none⟩)]++Array.replicate 24 undef,[]⟩ [.code (Tryz.f41.body.getD .skip)]:=by
  simp [Frame.enter,Frame.at,Tryz.func41,base,Tryz.f41]
 rw [e]
 have k0:w.cell? ⟨C+1,0,none⟩=some (.chan (some C)):=by simp [World.cell?,hq]
 simp only [Tryz.f41,Option.getD_some,Array.replicate_succ,Array.replicate_zero,List.push_toArray,List.append_toArray,List.nil_append,List.cons_append]
 refine LoneTo.seq (LoneTo.wp ?_)
 go_wp2
 refine LoneTo.seq (LoneTo.wp ?_)
 go_wp2
 refine LoneTo.seq (LoneTo.seq (LoneTo.wp ?_))
 go_wp2_with (go_at_call 65; refine (len_c C s r (mM doc) w hq hc).mono ?_; rintro e w' ⟨rfl,rfl⟩)
 refine LoneTo.block (LoneTo.loop (LoneTo.seq (LoneTo.wp ?_)))
 go_wp2
 refine LoneTo.seq (LoneTo.cond (t:=true) rfl ?_)
 simp only [↓reduceIte]
 refine LoneTo.skip (LoneTo.seq (LoneTo.block (LoneTo.seq ?_)))
 refine LoneTo.goes (n:=5) ?_
 s_reg
 s_op
 s_op
 s_op
 s_op
 s_stop
 refine LoneTo.step (step_lone_recv_buf false (c:=C) (z:=.agg #[.int .u64 0,.string ByteArray.empty,.int .u8 0,.int .i64 0,.string ByteArray.empty,.slice none 0 0,.slice none 0 0]) (cap:=4) (buf:=#[mM doc]) (s:=s) (r:=r) (tm:=false) (stepG_comm (cases:=#[rcase C (.agg #[.int .u64 0,.string ByteArray.empty,.int .u8 0,.int .i64 0,.string ByteArray.empty,.slice none 0 0,.slice none 0 0])]) (blocking:=true) (shape:=.recv false) (w':=w) rfl rfl (by decide) ?_) hc (by simp)) ?_
 · simp [go_sem,rcase]
   rfl
 have hw2:Stp C w (w.setChan C 4 ((#[mM doc]:Array Value).extract 1 (#[mM doc]:Array Value).size) false s (r+1) false):=(Stp.refl C w).chan _ _ _ _ _ _
 have hc2:=heap_setChan w C 4 ((#[mM doc]:Array Value).extract 1 (#[mM doc]:Array Value).size) false s (r+1) false (by omega)
 generalize w.setChan C 4 ((#[mM doc]:Array Value).extract 1 (#[mM doc]:Array Value).size) false s (r+1) false=W2 at hw2 hc2 ⊢
 have hc2:W2.heap[C]?=some (.chan 4 #[] false s (r+1) false):=hc2
 have hq2:=(hw2.keep (C+1) hlt (by omega)).trans hq
 rw [Frame.finish_at]
 simp only [got]
 walk_nrm
 refine LoneTo.goes (n:=3) ?_
 s_op
 s_op
 s_c stepG_region_end
 s_stop
 refine LoneTo.seq (LoneTo.wp ?_)
 have hown:=World.ownsRow_nil ((W2.alloc (.cells (bM doc) 79)).alloc (.cells (bM doc) 79)) w.heap.size 79 7
 obtain ⟨i0,hi,hz0,hz1,hz2⟩:=info_parts info79
 have hnews:∀ (j:Nat) (u:Value),(bM doc).toList[j]?=some u→((W2.alloc (.cells (bM doc) 79)).alloc (.cells (bM doc) 79)).cell? ((⟨W2.heap.size+1,0,none⟩:Addr).add j)=some u:=fun j u hj=>by
  have h:((W2.alloc (.cells (bM doc) 79)).alloc (.cells (bM doc) 79)).heap[W2.heap.size+1]?=some (.cells (bM doc) 79 (0,0)):=by
   have:=heap_alloc_new (W2.alloc (.cells (bM doc) 79)) (.cells (bM doc) 79)
   rwa [World.size_alloc] at this
  rw [Addr.add_lit]
  simp only [World.cell?,h]
  simpa using hj
 go_wp2_with (at_builtin; refine wpList_append_own _ rfl _ _ 52 rfl w.heap.size 79 i0 zM 7 104 Tryz.underlying52 hi hz0 hz1 hz2 rfl (by decide) _ _ _ rfl hown ⟨W2.heap.size+1,0,none⟩ 1 1 (bM doc).toList rfl rfl hnews (by simp [Value.oneCell']) (by decide) (by decide) (by have:=hw2.size; simp; omega) ?_; intro v' w1 hown' hgrow hnil')
 have hgrow:((W2.alloc (.cells (bM doc) 79)).alloc (.cells (bM doc) 79)).grownBy w1 none:=hgrow
 have hw1:Stp C w w1:=((hw2.alloc (.cells (bM doc) 79)).alloc (.cells (bM doc) 79)).trans ⟨hgrow.size,hgrow.os,hgrow.output,fun b hb _=>hgrow.block b hb (by simp)⟩
 have hlt2:C < W2.heap.size:=(Array.getElem?_eq_some_iff.1 hc2).1
 have hbel:Below W2.heap.size W2 ((W2.alloc (.cells (bM doc) 79)).alloc (.cells (bM doc) 79)):=((Below.refl _ W2).alloc (Nat.le_refl _) _).alloc (by simp) _
 have hold:∀ b,b < W2.heap.size→w1.heap[b]?=W2.heap[b]?:=fun b hb=>(hgrow.block b (Nat.lt_of_lt_of_le hb hbel.size) (by simp)).trans (hbel.block b hb)
 have hc3:=(hold C hlt2).trans hc2
 have hq3:=(hold (C+1) (by have:=hw2.size; omega)).trans hq2
 have hsz2:((W2.alloc (.cells (bM doc) 79)).alloc (.cells (bM doc) 79)).heap.size=W2.heap.size+1+1:=by rw [World.size_alloc,World.size_alloc]
 have hb3:w1.heap[W2.heap.size]?=some (.cells (bM doc) 79 (0,0)):=(hgrow.block _ (by omega) (by simp)).trans ((Below.heap_alloc _ _ _ (by rw [World.size_alloc]; omega)).trans (heap_alloc_new _ _))
 have k3:w1.cell? ⟨C+1,0,none⟩=some (.chan (some C)):=by simp [World.cell?,hq3]
 refine snd_to (doc:=doc) k3 hc3 hb3 ?_
 have hw4:Stp C w (w1.drew.setChan C 4 #[mM doc] false (s+1) (r+1) false):=hw1.drew.chan _ _ _ _ _ _
 have hc4:=heap_setChan w1.drew C 4 #[mM doc] false (s+1) (r+1) false (by have:=hw1.size; show C < w1.heap.size; omega)
 have hl4:∀ b,b≠C→(w1.drew.setChan C 4 #[mM doc] false (s+1) (r+1) false).heap[b]?=w1.heap[b]?:=fun b hb=>by
  simp only [World.setChan]; rw [Array.getElem?_setIfInBounds_ne (by omega)]; rfl
 obtain ⟨hx,⟨rfl,h0⟩|⟨B,cap,cur,rfl,hB,hcur,hn,hm,hsz,htk⟩⟩:=hown'
 · omega
 have hBC:B≠C:=by omega
 have hcur4:=(hl4 B hBC).trans hcur
 generalize w1.drew.setChan C 4 #[mM doc] false (s+1) (r+1) false=W4 at hw4 hc4 hcur4 ⊢
 refine LoneTo.inBlock (LoneTo.wp ?_)
 go_wp2
 refine LoneTo.again (LoneTo.seq (LoneTo.wp ?_))
 go_wp2
 refine LoneTo.seq (LoneTo.cond (t:=false) rfl ?_)
 simp only [Bool.false_eq_true,↓reduceIte]
 refine LoneTo.exit rfl ?_
 refine LoneTo.seq (LoneTo.wp ?_)
 go_wp2
 refine LoneTo.wp ?_
 go_wp2
 intro todo
 exact LoneTo.done ⟨.returned (.slice (some ⟨B,0,none⟩) 1 cap),_,rfl,⟨B,cap,cur,rfl,hw4,hc4,hB,hcur4,htk⟩,rfl,rfl,rfl,rfl,_,Tryz.func41,by simp [results,Tryz.f41,Frame.at]⟩
end Go.Cb.CodeA
/-
 the replica's View at the world's level, where one mutation waits.
-/
set_option maxRecDepth 100000
set_option linter.unusedVariables false
set_option linter.unusedSimpArgs false
namespace Go.Cb.CodeA
open Go Go.Cb Go.Proofs Go.RowKit Go.Shelf Go.Conc
theorem eqS (w:World):(binOp .eql 22 (.slice none 0 0) (.slice none 0 0)).run Tryz.prog w=.ok (.bool true) w:=by
 simp only [binOp]
 have h:∀ d,(Op.equalIn (d+1) 22 (.slice none 0 0) (.slice none 0 0)).run Tryz.prog w=.ok true w:=fun d=>by simp [Op.equalIn,run_underlying Tryz.underlying22]
 simp [Op.equal,h 9999,show Op.maxDepth=9999+1 from rfl]
set_option maxHeartbeats 1000000 in
theorem clone_c (w:World):Calls Tryz.prog 37 #[.slice none 0 0] w fun e w'=>e=.returned (.slice none 0 0)∧w=w':=by
 have h:=eqS
 go_enter Tryz.func37,Tryz.ntmps37
 go_wp2
 go_returns
 exact ⟨rfl,rfl⟩
abbrev bR (S C:Nat):Array Value:=#[.pointer (some ⟨S,0,none⟩),.slice none 0 0,.slice none 0 0,.slice none 0 0,.int .u64 0,.pointer (some ⟨C+1,0,none⟩)]
/-- what the Do of a mutation does, as seen from the world -/
structure DoP (C:Nat) (w W:World) (D:World→Addr→Nat→Prop) (e:Ending) (W':World):Prop where
 ex:∃ b cp av,e=.returned (.tuple #[.agg #[.slice (some b) 1 cp],av])∧D W' b cp
 size:W.heap.size≤W'.heap.size
 keep:∀ k,k < W.heap.size→(w.heap.size≤k∨k=C∨k=C+1∨k=C+2)→W'.heap[k]?=W.heap[k]?
structure VwP (doc:ByteArray) (C:Nat) (w:World) (D:World→World→Addr→Nat→Prop) (e:Ending) (W':World):Prop where
 ex:∃ W2 W3 b cp,e=.returned (.agg #[.slice (some b) 1 cp,.bool false,.slice none 0 0])∧Stp C w W2∧w.heap.size+2≤W2.heap.size∧(∃ s r,W2.heap[C]?=some (.chan 4 #[mM doc] false s r false))∧D W2 W3 b cp∧W3.heap.size≤W'.heap.size∧W'.os=W3.os∧W'.output=W3.output∧(∀ k,k < W3.heap.size→k≠w.heap.size→k≠w.heap.size+1→W'.heap[k]?=W3.heap[k]?)
set_option maxHeartbeats 4000000 in
theorem view_g (doc:ByteArray) (C S s r:Nat) (w:World) (D:World→World→Addr→Nat→Prop) (hq:w.heap[C+1]?=some (.cells #[.chan (some C),.int .u64 0] 126 (0,0))) (hr:w.heap[C+2]?=some (.cells (bR S C) 81 (0,0))) (hc:w.heap[C]?=some (.chan 4 #[mM doc] false s r false))
 (hdo:∀ W s' r',Stp C w W→W.heap[C]?=some (.chan 4 #[mM doc] false s' r' false)→Calls Tryz.prog 42 #[.pointer (some ⟨S,0,none⟩),.agg #[.slice none 0 0],.string doc,vE] W (DoP C w W (D W))) :
 Calls Tryz.prog 22 #[.pointer (some ⟨C+2,0,none⟩)] w (VwP doc C w D):=by
 have hlt:C+2 < w.heap.size:=(Array.getElem?_eq_some_iff.1 hr).1
 have hcell:∀ W:World,W.heap[C+2]?=some (.cells (bR S C) 81 (0,0))→∀ (i:Nat) (v:Value),(bR S C)[i]?=some v→W.cell? ⟨C+2,i,none⟩=some v:=fun W h i v hv=>by
  simp only [World.cell?,h]; simpa using hv
 have k3:=hcell w hr 3 _ rfl
 have k5:=hcell w hr 5 _ rfl
 have hwb:Stp C w ((w.alloc (.cells #[.slice none 0 0,.bool false,.slice none 0 0] 60)).alloc (.cells #[.slice none 0 0] 56)):=((Stp.refl C w).alloc _).alloc _
 have hall:=all_c doc C s r ((w.alloc (.cells #[.slice none 0 0,.bool false,.slice none 0 0] 60)).alloc (.cells #[.slice none 0 0] 56)) (by simp; omega) ((hwb.keep _ (by omega) (by omega)).trans hq)
  (((Below.heap_alloc _ _ _ (by simp; omega)).trans (Below.heap_alloc _ _ _ (by omega))).trans hc)
 go_enter Tryz.func22,Tryz.ntmps22
 go_wp2_with (go_at_call 41; refine hall.mono ?_; rintro e W1 ⟨B,cap,cur,rfl,hst1,hch1,hB,hcur,htk⟩)
 have hs1:w.heap.size+2≤W1.heap.size:=by have:=hst1.size; simpa using this
 have hw1:Stp C w W1:=hwb.trans hst1
 have hr1:=(hw1.keep (C+2) hlt (by omega)).trans hr
 have j0:=hcell W1 hr1 0 _ rfl
 have hx1:W1.heap[w.heap.size+1]?=some (.cells #[.slice none 0 0] 56 (0,0)):=(hst1.keep _ (by simp) (by omega)).trans (by
  have:=heap_alloc_new (w.alloc (.cells #[.slice none 0 0,.bool false,.slice none 0 0] 60)) (.cells #[.slice none 0 0] 56)
  rwa [World.size_alloc] at this)
 have hkst:W1.cell? ⟨w.heap.size+1,0,none⟩=some (.slice none 0 0):=by simp [World.cell?,hx1]
 have hkb:∀ (i:Nat) (v:Value),(bM doc).toList[i]?=some v→W1.cell? ⟨B,i,none⟩=some v:=fun i v hv=>by
  simp only [World.cell?,hcur]
  simp only [Option.isSome_none,Bool.false_eq_true,if_false]
  have hv':(cur.toList.take 7)[i]?=some v:=by rw [htk]; exact hv
  rw [List.getElem?_take] at hv'
  split at hv'
  · simpa using hv'
  · cases hv'
 have b0:=hkb 0 _ rfl
 have b1:=hkb 1 _ rfl
 have b2:=hkb 2 _ rfl
 have b3:=hkb 3 _ rfl
 have b4:=hkb 4 _ rfl
 have b5:=hkb 5 _ rfl
 have b6:=hkb 6 _ rfl
 have hB1:B < W1.heap.size:=(Array.getElem?_eq_some_iff.1 hcur).1
 clear hkb
 refine wp_loop_rounds 2 ?_
 rw [rounds_succ]
 go_wp2
 have hd:=hdo (W1.alloc (.cells (bM doc) 79)).drew _ _ (hw1.alloc _).drew ((Below.heap_alloc _ _ _ (by omega)).trans hch1)
 have hx0:W1.heap[w.heap.size]?=some (.cells #[.slice none 0 0,.bool false,.slice none 0 0] 60 (0,0)):=(hst1.keep _ (by simp; omega) (by omega)).trans ((Below.heap_alloc _ _ _ (by simp)).trans (heap_alloc_new _ _))
 have hlt3:w.heap.size+1 < W1.heap.size:=by omega
 have hlt4:C+2 < W1.heap.size:=by omega
 have ne1:¬ w.heap.size+1=C+2:=by omega
 have ne2:¬ w.heap.size+1=W1.heap.size:=by omega
 refine wp_region_held_drew (S:=(fun w'=>w'.cell? ⟨C+2,0,none⟩=some (.pointer (some ⟨S,0,none⟩))∧w'.cell? ⟨W1.heap.size,1,none⟩=some (.string doc)∧w'.cell? ⟨W1.heap.size,2,none⟩=some (.int .u8 6)∧w'.cell? ⟨W1.heap.size,3,none⟩=some (.int .i64 0)∧w'.cell? ⟨W1.heap.size,4,none⟩=some (.string ByteArray.empty)∧w'.cell? ⟨W1.heap.size,5,none⟩=some (.slice none 0 0)∧w'.cell? ⟨W1.heap.size,6,none⟩=some (.slice none 0 0))) (by kernel_rfl) (by simp [*,World.cell?_alloc_some]) (fun hHeld=>?_)
 refine wpAnyH_take (i:=0) (v:=(.pointer (some ⟨C+2,0,none⟩))) rfl (by kernel_rfl) (by kernel_rfl) (by kernel_rfl) (fun _ _ _ h=>h) (Or.inl ⟨by rfl,by intro w hSw; go_simp⟩) hHeld ?_
 simp only [Act.put,List.setIfInBounds_toArray,List.set_cons_zero,List.set_cons_succ]
 refine wpAnyH_take (i:=1) (v:=(.pointer (some ⟨C+2,0,none⟩))) rfl (by kernel_rfl) (by kernel_rfl) (by kernel_rfl) (fun _ _ _ h=>h) (Or.inl ⟨by rfl,by intro w hSw; go_simp⟩) hHeld ?_
 simp only [Act.put,List.setIfInBounds_toArray,List.set_cons_zero,List.set_cons_succ]
 refine wpAnyH_take (i:=2) (v:=(.pointer (some ⟨C+2,0,none⟩))) rfl (by kernel_rfl) (by kernel_rfl) (by kernel_rfl) (fun _ _ _ h=>h) (Or.inl ⟨by rfl,by intro w hSw; go_simp⟩) hHeld ?_
 simp only [Act.put,List.setIfInBounds_toArray,List.set_cons_zero,List.set_cons_succ]
 refine wpAnyH_take (i:=3) (v:=(.pointer (some ⟨S,0,none⟩))) rfl (by kernel_rfl) (by kernel_rfl) (by kernel_rfl) (fun _ _ _ h=>h) (Or.inl ⟨by rfl,by intro w hSw; go_simp⟩) hHeld ?_
 simp only [Act.put,List.setIfInBounds_toArray,List.set_cons_zero,List.set_cons_succ]
 refine wpAnyH_take (i:=5) (v:=(.pointer (some ⟨W1.heap.size,1,none⟩))) rfl (by kernel_rfl) (by kernel_rfl) (by kernel_rfl) (fun _ _ _ h=>h) (Or.inl ⟨by rfl,by intro w hSw; go_simp⟩) hHeld ?_
 simp only [Act.put,List.setIfInBounds_toArray,List.set_cons_zero,List.set_cons_succ]
 refine wpAnyH_take (i:=6) (v:=(.string doc)) rfl (by kernel_rfl) (by kernel_rfl) (by kernel_rfl) (fun _ _ _ h=>h) (Or.inl ⟨by rfl,by intro w hSw; go_simp⟩) hHeld ?_
 simp only [Act.put,List.setIfInBounds_toArray,List.set_cons_zero,List.set_cons_succ]
 refine wpAnyH_take (i:=7) (v:=(.pointer (some ⟨W1.heap.size,2,none⟩))) rfl (by kernel_rfl) (by kernel_rfl) (by kernel_rfl) (fun _ _ _ h=>h) (Or.inl ⟨by rfl,by intro w hSw; go_simp⟩) hHeld ?_
 simp only [Act.put,List.setIfInBounds_toArray,List.set_cons_zero,List.set_cons_succ]
 refine wpAnyH_take (i:=8) (v:=vE) rfl (by kernel_rfl) (by kernel_rfl) (by kernel_rfl) (fun _ _ _ h=>h) (Or.inl ⟨by rfl,by intro w hSw; go_simp⟩) hHeld ?_
 simp only [Act.put,List.setIfInBounds_toArray,List.set_cons_zero,List.set_cons_succ]
 refine wpAnyH_ready (rs:=[4]) (by kernel_rfl) (by simp) (AllReadyH.cons rfl (fun K hK=>?_) AllReadyH.nil)
 go_simp
 refine hK.out _ _ hHeld (fun hHeld=>?_)
 clear hK K
 refine wpAnyH_ready (rs:=[9]) (by kernel_rfl) (by simp) (AllReadyH.cons rfl (fun K hK=>?_) AllReadyH.nil)
 go_simp
 refine hd.mono ?_; rintro e W3 ⟨⟨b,cp,av,rfl,hD⟩,hsz,hkp⟩
 have hs3:W1.heap.size+1≤W3.heap.size:=by simpa using hsz
 have hm3:W3.heap[W1.heap.size]?=some (.cells (bM doc) 79 (0,0)):=(hkp _ (by simp) (by omega)).trans (heap_alloc_new W1 _)
 have hr3:W3.heap[C+2]?=some (.cells (bR S C) 81 (0,0)):=(hkp _ (by simp; omega) (by omega)).trans ((Below.heap_alloc W1 _ _ (by omega)).trans hr1)
 have hx3:W3.heap[w.heap.size+1]?=some (.cells #[.slice none 0 0] 56 (0,0)):=(hkp _ (by simp; omega) (by omega)).trans ((Below.heap_alloc W1 _ _ (by omega)).trans hx1)
 have hy3:W3.heap[w.heap.size]?=some (.cells #[.slice none 0 0,.bool false,.slice none 0 0] 60 (0,0)):=(hkp _ (by simp; omega) (by omega)).trans ((Below.heap_alloc W1 _ _ (by omega)).trans hx0)
 have hcm:∀ (i:Nat) (v:Value),(bM doc)[i]?=some v→W3.cell? ⟨W1.heap.size,i,none⟩=some v:=fun i v hv=>by
  simp only [World.cell?,hm3]; simpa using hv
 have n1:=hcm 1 _ rfl
 have n2:=hcm 2 _ rfl
 have n3:=hcm 3 _ rfl
 have n4:=hcm 4 _ rfl
 have n5:=hcm 5 _ rfl
 have n6:=hcm 6 _ rfl
 have n0:=hcell W3 hr3 0 _ rfl
 have nx:W3.cell? ⟨w.heap.size+1,0,none⟩=some (.slice none 0 0):=by simp [World.cell?,hx3]
 have nf:W3.frozen? ⟨w.heap.size+1,0,none⟩=false:=by simp [World.frozen?,hx3]
 clear hcm
 refine hK.out _ _ ⟨n0,n1,n2,n3,n4,n5,n6⟩ (fun hHeld=>?_)
 clear hK K
 refine wpAnyH_take (i:=10) (v:=(.tuple #[.agg #[.slice (some b) 1 cp],av])) rfl (by kernel_rfl) (by kernel_rfl) (by kernel_rfl) (fun _ _ _ h=>h) (Or.inl ⟨by rfl,by intro w hSw; go_simp⟩) hHeld ?_
 simp only [Act.put,List.setIfInBounds_toArray,List.set_cons_zero,List.set_cons_succ]
 refine wpAnyH_take (i:=11) (v:=(.agg #[.slice (some b) 1 cp])) rfl (by kernel_rfl) (by kernel_rfl) (by kernel_rfl) (fun _ _ _ h=>h) (Or.inl ⟨by rfl,by intro w hSw; go_simp⟩) hHeld ?_
 simp only [Act.put,List.setIfInBounds_toArray,List.set_cons_zero,List.set_cons_succ]
 refine wpAnyH_take (i:=12) (v:=av) rfl (by kernel_rfl) (by kernel_rfl) (by kernel_rfl) (fun _ _ _ h=>h) (Or.inl ⟨by rfl,by intro w hSw; go_simp⟩) hHeld ?_
 simp only [Act.put,List.setIfInBounds_toArray,List.set_cons_zero,List.set_cons_succ]
 refine wpAnyH_ready (rs:=[13]) (by kernel_rfl) (by simp) (AllReadyH.cons rfl (fun K hK=>?_) AllReadyH.nil)
 go_simp
 refine hK.out _ _ ⟨?_,?_,?_,?_,?_,?_,?_⟩ (fun hHeld=>?_)
 · exact (World.cell?_setCell_far _ _ _ _ ne1).trans n0
 · exact (World.cell?_setCell_far _ _ _ _ ne2).trans n1
 · exact (World.cell?_setCell_far _ _ _ _ ne2).trans n2
 · exact (World.cell?_setCell_far _ _ _ _ ne2).trans n3
 · exact (World.cell?_setCell_far _ _ _ _ ne2).trans n4
 · exact (World.cell?_setCell_far _ _ _ _ ne2).trans n5
 · exact (World.cell?_setCell_far _ _ _ _ ne2).trans n6
 clear hK K
 refine wpAnyH_done (by kernel_rfl) ?_ _
 clear hHeld
 have hx4:(W3.setCell ⟨w.heap.size+1,0,none⟩ (.slice (some b) 1 cp)).heap[w.heap.size+1]?=some (.cells #[.slice (some b) 1 cp] 56 (0,0)):=by
  have hl:w.heap.size+1 < W3.heap.size:=(Array.getElem?_eq_some_iff.1 hx3).1
  simp only [World.setCell,Array.getElem?_modify,hx3]
  simp
 have hk4:∀ k,k≠w.heap.size+1→(W3.setCell ⟨w.heap.size+1,0,none⟩ (.slice (some b) 1 cp)).heap[k]?=W3.heap[k]?:=fun k hk=>Below.heap_setCell _ _ _ _ hk
 have hz4:(W3.setCell ⟨w.heap.size+1,0,none⟩ (.slice (some b) 1 cp)).heap.size=W3.heap.size:=by simp [World.setCell]
 have ho4:(W3.setCell ⟨w.heap.size+1,0,none⟩ (.slice (some b) 1 cp)).os=W3.os:=rfl
 have hp4:(W3.setCell ⟨w.heap.size+1,0,none⟩ (.slice (some b) 1 cp)).output=W3.output:=rfl
 generalize W3.setCell ⟨w.heap.size+1,0,none⟩ (.slice (some b) 1 cp)=W4 at hx4 hk4 hz4 ho4 hp4 ⊢
 go_wp2
 rw [rounds_succ]
 go_wp2
 have hr4:=(hk4 (C+2) (by omega)).trans hr3
 have hy4:=(hk4 w.heap.size (by omega)).trans hy3
 have y1:W4.cell? ⟨w.heap.size+1,0,none⟩=some (.slice (some b) 1 cp):=by simp [World.cell?,hx4]
 have y2:=hcell W4 hr4 2 _ rfl
 have z0:W4.cell? ⟨w.heap.size,0,none⟩=some (.slice none 0 0):=by simp [World.cell?,hy4]
 have z1:W4.cell? ⟨w.heap.size,1,none⟩=some (.bool false):=by simp [World.cell?,hy4]
 have z2:W4.cell? ⟨w.heap.size,2,none⟩=some (.slice none 0 0):=by simp [World.cell?,hy4]
 have zf:∀ i,W4.frozen? ⟨w.heap.size,i,none⟩=false:=fun i=>by simp [World.frozen?,hy4]
 have zf0:=zf 0
 have zf1:=zf 1
 have zf2:=zf 2
 clear zf hcell
 have ne3:¬ w.heap.size=C+2:=by omega
 have ne4:¬ w.heap.size=w.heap.size+1:=by omega
 go_region_held (fun w'=>w'.cell? ⟨w.heap.size+1,0,none⟩=some (.slice (some b) 1 cp)∧w'.cell? ⟨C+2,2,none⟩=some (.slice none 0 0)) (first|(exact ⟨((World.cell?_setCell_far _ _ _ _ ne4).trans ((World.cell?_setCell_far _ _ _ _ ne4).trans ((World.cell?_setCell_far _ _ _ _ ne4).trans y1))),((World.cell?_setCell_far _ _ _ _ ne3).trans ((World.cell?_setCell_far _ _ _ _ ne3).trans ((World.cell?_setCell_far _ _ _ _ ne3).trans y2)))⟩)|(exact ⟨y1,y2⟩))
  (first|(go_at_call 37; refine (clone_c _).mono ?_; rintro e W5 ⟨rfl,rfl⟩))
 go_wp2
 have hl4:w.heap.size < W4.heap.size:=(Array.getElem?_eq_some_iff.1 hy4).1
 have hfin:(((W4.setCell ⟨w.heap.size,0,none⟩ (.slice (some b) 1 cp)).setCell ⟨w.heap.size,1,none⟩ (.bool false)).setCell ⟨w.heap.size,2,none⟩ (.slice none 0 0)).drew.heap[w.heap.size]?=some (.cells #[.slice (some b) 1 cp,.bool false,.slice none 0 0] 60 (0,0)):=by
  show (((W4.setCell ⟨w.heap.size,0,none⟩ (.slice (some b) 1 cp)).setCell ⟨w.heap.size,1,none⟩ (.bool false)).setCell ⟨w.heap.size,2,none⟩ (.slice none 0 0)).heap[w.heap.size]?=_
  simp only [World.setCell,Array.getElem?_modify,hy4]
  simp
 have hk5:∀ k,k≠w.heap.size→(((W4.setCell ⟨w.heap.size,0,none⟩ (.slice (some b) 1 cp)).setCell ⟨w.heap.size,1,none⟩ (.bool false)).setCell ⟨w.heap.size,2,none⟩ (.slice none 0 0)).drew.heap[k]?=W4.heap[k]?:=fun k hk =>
  (Below.heap_setCell _ _ _ _ hk).trans ((Below.heap_setCell _ _ _ _ hk).trans (Below.heap_setCell _ _ _ _ hk))
 have hz5:(((W4.setCell ⟨w.heap.size,0,none⟩ (.slice (some b) 1 cp)).setCell ⟨w.heap.size,1,none⟩ (.bool false)).setCell ⟨w.heap.size,2,none⟩ (.slice none 0 0)).drew.heap.size=W4.heap.size:=by
  show (((W4.setCell ⟨w.heap.size,0,none⟩ (.slice (some b) 1 cp)).setCell ⟨w.heap.size,1,none⟩ (.bool false)).setCell ⟨w.heap.size,2,none⟩ (.slice none 0 0)).heap.size=_
  simp [World.setCell]
 have ho5:(((W4.setCell ⟨w.heap.size,0,none⟩ (.slice (some b) 1 cp)).setCell ⟨w.heap.size,1,none⟩ (.bool false)).setCell ⟨w.heap.size,2,none⟩ (.slice none 0 0)).drew.os=W4.os:=rfl
 have hp5:(((W4.setCell ⟨w.heap.size,0,none⟩ (.slice (some b) 1 cp)).setCell ⟨w.heap.size,1,none⟩ (.bool false)).setCell ⟨w.heap.size,2,none⟩ (.slice none 0 0)).drew.output=W4.output:=rfl
 generalize (((W4.setCell ⟨w.heap.size,0,none⟩ (.slice (some b) 1 cp)).setCell ⟨w.heap.size,1,none⟩ (.bool false)).setCell ⟨w.heap.size,2,none⟩ (.slice none 0 0)).drew=W5 at hfin hk5 hz5 ho5 hp5 ⊢
 have r0:W5.cell? ⟨w.heap.size,0,none⟩=some (.slice (some b) 1 cp):=by simp [World.cell?,hfin]
 have r1:W5.cell? ⟨w.heap.size,1,none⟩=some (.bool false):=by simp [World.cell?,hfin]
 have r2:W5.cell? ⟨w.heap.size,2,none⟩=some (.slice none 0 0):=by simp [World.cell?,hfin]
 refine bodyPost_ret (v:=.agg #[.slice (some b) 1 cp,.bool false,.slice none 0 0]) (by simp [results,Tryz.f22,go_sem,r0,r1,r2]) rfl ?_
 exact ⟨_,W3,b,cp,rfl,(hw1.alloc _).drew,by show _≤(W1.alloc _).heap.size; rw [World.size_alloc]; omega,⟨_,_,(Below.heap_alloc _ _ _ (by omega)).trans hch1⟩,hD,by rw [hz5,hz4]; exact Nat.le_refl _,ho5.trans ho4,hp5.trans hp4,fun k hk h1 h2=>(hk5 k h1).trans (hk4 k h2)⟩
end Go.Cb.CodeA
