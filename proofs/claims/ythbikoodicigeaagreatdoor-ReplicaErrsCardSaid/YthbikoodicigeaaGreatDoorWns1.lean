import Derived.Test.YthbikoodicigeaaGreatDoorChecked
import Derived.RangeFuncBox
import Derived.RangeFuncWrites
import Derived.RangeFuncLeaves
import Derived.Shelf.Abstract
import Derived.Shelf.RegionOpen
import Derived.WalkKit
import Derived.OwnWalkIn
import Derived.TacticsInMore
import Derived.LoopNIn
import Derived.LoopIn
import Derived.Maps.AppendAt
import Derived.Sort.OwnSorted
/-
 slices.Values, AppendSeq, Collect, Sorted over texts: walked.
-/
set_option maxRecDepth 100000
set_option linter.unusedVariables false
set_option linter.unusedSimpArgs false
namespace Go.Cb.CodeA
open Go Go.Proofs Go.RowKit Go.Shelf Go.Maps Go.Sort
attribute [local go_sem] Oper.semAt_some
abbrev Tx:=List UInt8
def uptoK {α:Type} (f:Nat→α) (k:Nat):List α:=(List.range k).map f
theorem uptoK_succ {α:Type} (f:Nat→α) (k:Nat):uptoK f (k+1)=uptoK f k++[f k]:=by simp [uptoK,List.range_succ]
theorem uptoK_length {α:Type} (f:Nat→α) (k:Nat):(uptoK f k).length=k:=by simp [uptoK]
theorem uptoK_take (zs:List Tx) {k:Nat} (hk:k≤zs.length):uptoK (fun j=>zs[j]?.getD []) k=zs.take k:=by
 apply List.ext_getElem
 · simp [uptoK,hk]
 · intro i h1 h2
   have:i < zs.length:=by simp [uptoK] at h1; omega
   simp [uptoK,this]
/-- the texts zs in block b, from off on -/
def TxAt (b off:Nat) (zs:List Tx) (W:World):Prop:=∀ j,j < zs.length→W.cell? ⟨b,off+j,none⟩=some (.string ⟨(zs[j]?.getD []).toArray⟩)
set_option maxHeartbeats 2000000 in
theorem vals1_in (F:Fence) (n:Nat) (h7:F.fn 58) (hro:F.round=none) (hn:1≤n) (l Bs b off cap:Nat) (zs:List Tx) (hreach:zs.length*16≤140737488351232) (Kp:World→World→Prop) (hK:∀ W W',Kp W W'→TxAt b off zs W→TxAt b off zs W') (J Jx:List Tx→World→Prop)
 (hY:∀ pre x W,J pre W→pre.length < zs.length→YieldAt F (n - 1) Tryz.prog l #[.string ⟨x.toArray⟩] W fun e W' =>
  (e=.returned (.bool true)∧J (pre++[x]) W'∧Kp W W')∨(e=.returned (.bool false)∧Jx (pre++[x]) W'))
 (W:World) (hBs:W.cell? ⟨Bs,0,none⟩=some (.slice (some ⟨b,off,none⟩) zs.length cap)) (hc:TxAt b off zs W) (h0:J [] W) :
 CallsIn F n Tryz.prog 58 #[.func (.yield l) #[] #[],.pointer (some ⟨Bs,0,none⟩)] W fun e W'=>(∃ v,e=.returned v) ∧
  ((∃ ys,ys=uptoK (fun j=>zs[j]?.getD []) zs.length∧J ys W')∨(∃ pre,(∃ k,k≤zs.length∧pre=uptoK (fun j=>zs[j]?.getD []) k)∧Jx pre W')):=by
 refine callsIn_of_wp Tryz.func58 rfl h7 ?_ hro
 simp only [Tryz.ntmps58,List.size_toArray,List.length_cons,List.length_nil,Nat.reduceAdd,Nat.reduceSub,Array.replicate_succ,Array.replicate_zero,List.push_toArray,List.append_toArray,List.nil_append,List.cons_append]
 gi_wp2
 gi_loopw [7] (fun i wr=>∃ k:Nat,k≤zs.length∧i=.int .i64 k∧J (uptoK (fun j=>zs[j]?.getD []) k) wr∧TxAt b off zs wr)
  (fun i _=>zs.length - (intOf i).toNat)
 case atStart=>exact ⟨0,Nat.zero_le _,rfl,h0,hc⟩
 case round =>
  obtain ⟨k,hk,rfl,hJs,hnx⟩:=hrel
  by_cases hlt:k < zs.length
  · obtain ⟨fn,tmps,assign,body,hy,hR⟩:=hY _ (zs[k]) wr hJs (by rw [uptoK_length]; exact hlt)
    have hz:zs[k]?.getD []=zs[k]:=by simp [hlt]
    have hcx':=hnx k hlt
    gi_wp2
    refine hR.mono ?_
    rintro e W3 (⟨rfl,hJ3,hk3⟩|⟨rfl,hJx3⟩)
    · gi_wp2
      go_roundw
      case rel=>exact ⟨k+1,by omega,by simp,by rw [uptoK_succ,hz]; exact hJ3,hK _ _ hk3 hnx⟩
      case measure=>simp [intOf]; omega
    · gi_wp2
      refine bodyPost_ret (results_none rfl _ _ _) rfl ?_
      exact ⟨⟨_,rfl⟩,.inr ⟨_,⟨k+1,by omega,by rw [uptoK_succ,hz]⟩,hJx3⟩⟩
  · obtain rfl:k=zs.length:=by omega
    gi_wp2
    go_end0
    exact ⟨⟨_,rfl⟩,.inl ⟨_,rfl,hJs⟩⟩
set_option maxHeartbeats 1000000 in
theorem vals0_in (F:Fence) (n:Nat) (h7:F.fn 58) (hro:F.round=none) (l Bs cap:Nat) (a:Option Addr) (J:List Tx→World→Prop) (W:World) (hBs:W.cell? ⟨Bs,0,none⟩=some (.slice a 0 cap)) (h0:J [] W) :
 CallsIn F n Tryz.prog 58 #[.func (.yield l) #[] #[],.pointer (some ⟨Bs,0,none⟩)] W fun e W'=>(∃ v,e=.returned v)∧J [] W':=by
 refine callsIn_of_wp Tryz.func58 rfl h7 ?_ hro
 simp only [Tryz.ntmps58,List.size_toArray,List.length_cons,List.length_nil,Nat.reduceAdd,Nat.reduceSub,Array.replicate_succ,Array.replicate_zero,List.push_toArray,List.append_toArray,List.nil_append,List.cons_append]
 gi_wp2
 gi_loopw [7] (fun i wr=>i=.int .i64 0∧J [] wr) (fun _ _=>0)
 case atStart=>exact ⟨rfl,h0⟩
 case round =>
  obtain ⟨rfl,hJs⟩:=hrel
  gi_wp2
  go_end0
  exact ⟨⟨_,rfl⟩,hJs⟩
set_option maxHeartbeats 1000000 in
theorem vals_in (F:Fence) (n:Nat) (h5:F.fn 33) (hro:F.round=none) (a:Option Addr) (len cap:Nat) (w:World) :
 CallsIn F n Tryz.prog 33 #[.slice a len cap] w fun e w'=>e=.returned (.func (.func 58) #[] #[.pointer (some ⟨w.heap.size,0,none⟩)])∧w'=w.alloc (.cells #[.slice a len cap] 22):=by
 refine callsIn_of_wp Tryz.func33 rfl h5 ?_ hro
 simp only [Tryz.ntmps33,List.size_toArray,List.length_cons,List.length_nil,Nat.reduceAdd,Nat.reduceSub,Array.replicate_succ,Array.replicate_zero,List.push_toArray,List.append_toArray,List.nil_append,List.cons_append]
 gi_wp2
 go_ret
 exact ⟨rfl,rfl⟩
/-- the slice value sv holds the texts zs -/
def TxS (W:World) (sv:Value) (zs:List Tx):Prop:=∃ a cap,sv=.slice a zs.length cap∧(zs≠[]→∃ b off,a=some ⟨b,off,none⟩∧TxAt b off zs W)
theorem vals_stops (F:Fence) (n:Nat) (h7:F.fn 58) (hro:F.round=none) (hn:1≤n) (Bs:Nat) (sv:Value) (zs:List Tx) (hreach:zs.length*16≤140737488351232) (Kp:World→World→Prop) (hK:∀ b off,(∃ cap,sv=.slice (some ⟨b,off,none⟩) zs.length cap)→∀ W W',Kp W W'→TxAt b off zs W→TxAt b off zs W') (w:World) (hBs:Bs < w.heap.size)
 (hc:w.cell? ⟨Bs,0,none⟩=some sv) (hI:∀ W,Below w.heap.size w W→TxS W sv zs) :
 SeqStopsK F n Tryz.prog 58 #[.pointer (some ⟨Bs,0,none⟩)] (fun x:Tx=>#[Value.string ⟨x.toArray⟩]) Kp (fun ys=>ys=zs) (fun pre=>pre <+: zs) zs.length w:=fun l J Jx W hW _ _ hY h0=>by
 have hc':=(hW.cell (p:=⟨Bs,0,none⟩) hBs).trans hc
 obtain ⟨a,cap,rfl,hx⟩:=hI W hW
 by_cases hz:zs=[]
 · subst hz
   exact (vals0_in F n h7 hro l Bs cap a J W hc' h0).mono fun e W' ⟨he,hj⟩=>⟨he,.inl ⟨_,rfl,hj⟩⟩
 · obtain ⟨b,off,rfl,hat⟩:=hx hz
   refine (vals1_in F n h7 hro hn l Bs b off cap zs hreach Kp (hK b off ⟨cap,rfl⟩) J Jx hY W hc' hat h0).mono ?_
   rintro e W' ⟨he,⟨ys,rfl,hj⟩|⟨pre,⟨k,hk,rfl⟩,hj⟩⟩
   · exact ⟨he,.inl ⟨_,by rw [uptoK_take zs (Nat.le_refl _),List.take_length],hj⟩⟩
   · exact ⟨he,.inr ⟨_,by rw [uptoK_take zs hk]; exact List.take_prefix _ _,hj⟩⟩
end Go.Cb.CodeA
set_option maxRecDepth 100000
set_option linter.unusedVariables false
set_option linter.unusedSimpArgs false
namespace Go.Cb.CodeA
open Go Go.Proofs Go.RowKit Go.Shelf Go.Maps Go.Sort
attribute [local go_sem] Oper.semAt_some
abbrev vS (x:Tx):Value:=.string ⟨x.toArray⟩
theorem info9:(Tryz.prog.info? 9).map (fun i=>(i.zero,i.size,i.bytes))=some (some (.string ByteArray.empty),1,16):=by kernel_rfl
set_option maxHeartbeats 4000000 in
/-- slices.AppendSeq(nil, slices.Values(zs)) -/
theorem app_in (F:Fence) (n:Nat) (h94:F.fn 94) (h58:F.fn 58) (hro:F.round=none) (hn:3≤n) (zs:List Tx) (hlen:zs.length≤1000) (Bs:Nat) (sv:Value) (w:World) (hBs:Bs < w.heap.size) (hc:w.cell? ⟨Bs,0,none⟩=some sv) (hI:∀ W,Below w.heap.size w W→TxS W sv zs)
 (hbl:∀ b off cap,sv=.slice (some ⟨b,off,none⟩) zs.length cap→zs≠[]→b < w.heap.size) :
 CallsIn F n Tryz.prog 94 #[.slice none 0 0,.func (.func 58) #[] #[.pointer (some ⟨Bs,0,none⟩)]] w fun e W'=>∃ v,e=.returned v∧W'.ownsRow w.heap.size 9 1 v zs.length (zs.map vS)∧(v=.slice none 0 0 ↔ zs=[])∧Below w.heap.size w W':=by
 have h1:1≤n:=by omega
 have hm:1000≤maxLen:=by decide
 obtain ⟨i0,hi,hz0,hz1,hz2⟩:=info_parts info9
 refine callsIn_of_wp_marks Tryz.func94 rfl h94 ?_ hro
 simp only [Tryz.ntmps94,List.size_toArray,List.length_cons,List.length_nil,Nat.reduceAdd,Nat.reduceSub,Array.replicate_succ,Array.replicate_zero,List.push_toArray,List.append_toArray,List.nil_append,List.cons_append]
 gi_wp2
 have bO:=Boxed.new w 22 (.slice none 0 0)
 have hB0:Below w.heap.size w (w.alloc (.cells #[.slice none 0 0] 22)):=(Below.refl _ w).alloc (Nat.le_refl _) _
 refine wpIn_rangeFunc_ownG hro h1 (gf:=58) (lb:=#[.pointer (some ⟨Bs,0,none⟩)]) rfl h58 (enters_of Tryz.func58 (by kernel_rfl) rfl)
  (vals_stops F (n - 1) h58 hro (by omega) Bs sv zs (by omega) (Below w.heap.size) (fun b off hs W W' hk hat j hj=>by
   obtain ⟨cap,hs⟩:=hs
   refine (hk.cell (p:=⟨b,off+j,none⟩) (hbl b off cap hs (by rintro rfl; simp at hj))).trans (hat j hj)) _ (by simp; omega) ((hB0.cell (p:=⟨Bs,0,none⟩) hBs).trans hc) (fun W hW=>hI W (hB0.trans (hW.mono (by simp))))) belowK_t (belowK_b (by simp)) (Below.refl _ _) (fun _=>rfl)
  (fun pre W=>(∃ v,Boxed W w.heap.size 22 v∧W.ownsRow w.heap.size 9 1 v pre.length (pre.map vS)∧(v=.slice none 0 0 ↔ pre=[]))∧Below w.heap.size w W)
  (fun _ _ _=>False)
  (OwnFrom.and (Own.from (holdsRow_own w.heap.size w.heap.size 22 9 1 (fun pre=>pre.length) (fun pre=>pre.map vS) (fun pre v=>v=.slice none 0 0 ↔ pre=[])) _) (ownFrom_below (Nat.le_refl _) (by simp)))
  (fun _ _ _ _ _ hs _ _=>hs)
  ⟨⟨_,bO,World.ownsRow_nil _ _ _ _,by simp⟩,hB0⟩
  (fun x=>{ tmps:=#[.slice none 0 0,.func (.func 58) #[] #[.pointer (some ⟨Bs,0,none⟩)],.pointer (some ⟨w.heap.size,0,none⟩),undef,.slice none 0 0,vS x,.func (.func 58) #[] #[.pointer (some ⟨Bs,0,none⟩)],vS x,undef,undef,undef,undef,undef],defers:=[] }) ?assign ?body ?done ?stop
 case assign =>
  intro l x W K hK
  gi_wp2
  exact hK
 case body =>
  rintro l pre x W ⟨⟨v,hv,hrow,hnil⟩,hB⟩ hlt
  have hc:=hv.cell
  gi_wp2_with (gi_at_builtin; refine wpListIn_append_own _ rfl _ _ 22 rfl w.heap.size 9 i0 (.string ByteArray.empty) 1 16 Tryz.underlying22 hi hz0 hz1 hz2 rfl (by decide) _ _ _ rfl (hrow.alloc _) ⟨W.heap.size,0,none⟩ 1 1 [vS x] rfl rfl (cell_one_new _ _ _) (by simp [Value.oneCell']) (by omega) (by omega) (by have:=hB.size; simp; omega) ?_; intro v' w1 hown' hgrow _; obtain ⟨g',cap',rfl⟩:=ownsRow_succ hown'; obtain ⟨hv1,hv2,hr2,hk2,hb2⟩:=hv.appended (by decide) hrow hB.size (Nat.le_refl _) hown' hgrow; have hc1:=hv1.cell; have hf1:=hv1.frozen)
  exact ⟨hk2.from _,hb2,⟨_,hv2,by simpa using hr2,by simp⟩,hB.trans hb2⟩
 case done =>
  rintro D ys W hD rfl ⟨⟨v,hv,hrow,hnil⟩,hB⟩ hK
  have hc:=hv.cell
  gi_wp2
  refine ⟨by simp,.inl ⟨_,_,rfl,run_takeDeferred hK,?_⟩⟩
  exact ⟨_,results_tmp rfl _ _ _,v,rfl,ownsRow_putObj hrow _ hK rfl,hnil,hB.trans (belowK_b (w:=w) (Nat.le_refl _) W D _ _ (by simp at hD; omega) hK rfl rfl)⟩
 case stop =>
  rintro D c pre W _ _ h _
  exact h.elim
end Go.Cb.CodeA
set_option maxRecDepth 100000
set_option linter.unusedVariables false
set_option linter.unusedSimpArgs false
namespace Go.Cb.CodeA
open Go Go.Proofs Go.RowKit Go.Shelf Go.Maps Go.Sort
attribute [local go_sem] Oper.semAt_some
set_option maxHeartbeats 2000000 in
theorem coll_in (F:Fence) (n:Nat) (h56:F.fn 56) (h94:F.fn 94) (h58:F.fn 58) (hro:F.round=none) (hn:4≤n) (zs:List Tx) (hlen:zs.length≤1000) (Bs:Nat) (sv:Value) (w:World) (hBs:Bs < w.heap.size) (hc:w.cell? ⟨Bs,0,none⟩=some sv) (hI:∀ W,Below w.heap.size w W→TxS W sv zs)
 (hbl:∀ b off cap,sv=.slice (some ⟨b,off,none⟩) zs.length cap→zs≠[]→b < w.heap.size) :
 CallsIn F n Tryz.prog 56 #[.func (.func 58) #[] #[.pointer (some ⟨Bs,0,none⟩)]] w fun e W'=>∃ v,e=.returned v∧W'.ownsRow w.heap.size 9 1 v zs.length (zs.map vS)∧(v=.slice none 0 0 ↔ zs=[])∧Below w.heap.size w W':=by
 have h1:1≤n:=by omega
 refine callsIn_of_wp Tryz.func56 rfl h56 ?_ hro
 simp only [Tryz.ntmps56,List.size_toArray,List.length_cons,List.length_nil,Nat.reduceAdd,Nat.reduceSub,Array.replicate_succ,Array.replicate_zero,List.push_toArray,List.append_toArray,List.nil_append,List.cons_append]
 gi_wp2_with (gi_at_call 94; refine (app_in F (n - 1) h94 h58 hro (by omega) zs hlen Bs sv _ hBs hc hI hbl).mono ?_; rintro e W ⟨v,rfl,hrow,hnil,hb⟩)
 go_ret
 exact ⟨_,rfl,hrow,hnil,hb⟩
/-- slices.Sort's two contracts, inside a fence -/
def SortsF (F:Fence) (m:Nat):Prop :=
 (∀ (blk off cap:Nat) (ss:List Tx) (W:World),Holds encStr W blk off ss.toArray→blk < W.heap.size→ss.length < 4611686018427387904 →
  CallsIn F m Tryz.prog 57 #[.slice (some ⟨blk,off,none⟩) ss.length cap] W fun e w'=>e=.returned (.tuple #[])∧∃ k os,w'=grow (putRow encStr (Sort.ahead W k) blk off (ss.mergeSort fun x y=>decide (x≤y)).toArray) os) ∧
 (∀ (p:Option Addr) (cap:Nat) (W:World),CallsIn F m Tryz.prog 57 #[.slice p 0 cap] W fun e w'=>e=.returned (.tuple #[])∧w'=W)
set_option maxHeartbeats 2000000 in
/-- slices.Sorted(slices.Values(zs)) -/
theorem srt_in (F:Fence) (n:Nat) (h32:F.fn 32) (h57:F.fn 57) (h56:F.fn 56) (h94:F.fn 94) (h58:F.fn 58) (hro:F.round=none) (hn:5≤n) (hsort:SortsF F (n - 1)) (zs:List Tx) (hlen:zs.length≤1000) (Bs:Nat) (sv:Value) (w:World) (hBs:Bs < w.heap.size) (hc:w.cell? ⟨Bs,0,none⟩=some sv) (hI:∀ W,Below w.heap.size w W→TxS W sv zs)
 (hbl:∀ b off cap,sv=.slice (some ⟨b,off,none⟩) zs.length cap→zs≠[]→b < w.heap.size) :
 CallsIn F n Tryz.prog 32 #[.func (.func 58) #[] #[.pointer (some ⟨Bs,0,none⟩)]] w fun e w'=>∃ v:Value,e=.returned v ∧
  w'.ownsRow w.heap.size 9 1 v zs.length ((zs.mergeSort (fun x y=>decide (x≤y))).map encStr)∧(v=.slice none 0 0 ↔ zs=[])∧Below w.heap.size w w':=by
 have h1:1≤n:=by omega
 refine callsIn_of_wp Tryz.func32 rfl h32 ?_ hro
 simp only [Tryz.ntmps32,List.size_toArray,List.length_cons,List.length_nil,Nat.reduceAdd,Nat.reduceSub,Array.replicate_succ,Array.replicate_zero,List.push_toArray,List.append_toArray,List.nil_append,List.cons_append]
 gi_wp2_with (gi_at_call 56; refine (coll_in F (n - 1) h56 h94 h58 hro (by omega) zs hlen Bs sv _ hBs hc hI hbl).mono ?_; rintro e W ⟨v,rfl,hrow,hnil,hb⟩)
 rcases hrow.2 with ⟨rfl,hz⟩|⟨gb,cap,cur,rfl,hbase,hgb,r1,r2,r3,r4⟩
 · have hss:zs=[]:=List.eq_nil_of_length_eq_zero hz
   subst hss
   gi_wp2_with (gi_at_call 57; refine (hsort.2 none 0 W).mono ?_; rintro e w' ⟨rfl,rfl⟩)
   go_ret
   exact ⟨.slice none 0 0,rfl,by simpa using hrow,by simp,hb⟩
 · have hH:Holds encStr W gb 0 zs.toArray:=holds_of_block hgb (by simpa using r4)
   have hgl:gb < W.heap.size:=(Array.getElem?_eq_some_iff.1 hgb).1
   have hsz:zs.length < 4611686018427387904:=by omega
   have cS:=hsort.1 gb 0 cap zs W hH hgl hsz
   gi_wp2_with (gi_at_call 57; refine cS.mono ?_; rintro e w' ⟨rfl,nn,os,rfl⟩)
   go_ret
   exact ⟨_,rfl,ownsRow_sorted (by simp) hbase hgb r1 r2 r3,hnil,hb.grown (grownBy_sorted _) hb.size (fun j hj=>by cases hj; exact hbase)⟩
end Go.Cb.CodeA
