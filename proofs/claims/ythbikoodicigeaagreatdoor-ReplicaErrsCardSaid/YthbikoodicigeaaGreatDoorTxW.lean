/-
 columbary/lex.text at a text without a backslash: a walk.
-/
import Derived.Test.YthbikoodicigeaaGreatDoorLayQ
import Derived.WalkKit
import Derived.BigCall
import Derived.Lib.Hide
import Derived.Test.YthbikoodicigeaaGreatDoorXAms4
set_option linter.unusedVariables false
namespace Go.Cb.CodeA
open Go Go.Proofs Go.RowKit
def uptoB:List UInt8→Option (List UInt8)
 | []=>none
 | x::t=>if x=34 then some [] else if x=10 then none else if x=92 then none else (uptoB t).map (x::·)
/-- what holds ahead of each round -/
def TxInv (s:ByteArray) (b:List UInt8) (w:World) (vi:Value) (wr:World):Prop :=
 ∃ (k:Nat) (acc:List UInt8),vi=.int .i64 k∧1≤k∧acc.length≤k∧Lib.IsBuilder 369 5 (w.heap.size+1) (w.heap.size+1) (Lib.byteCells acc) wr∧wr.heap[w.heap.size]?=some (.cells #[.int .u8 0,.string ⟨#[]⟩,.int .i64 0,.int .i64 0] 228 (0,0))∧Below w.heap.size w wr∧w.heap.size+2≤wr.heap.size∧(uptoB (s.data.toList.drop k)).map (acc++·)=some b∧acc.length+1=k

set_option maxHeartbeats 4000000 in
set_option maxRecDepth 1000000 in
theorem text_walk (s:ByteArray) (b:List UInt8) (w:World) (h1:1≤s.size) (hup:uptoB (s.data.toList.drop 1)=some b) (hb:b.length≤200) :
 Calls Tryz.prog 248 #[.string s] w fun e w'=>e=.returned (.tuple #[.agg #[.int .u8 3,.string ⟨b.toArray⟩,.int .i64 0,.int .i64 0],.int .i64 (b.length+2:Nat),.int .i64 0,.int .i64 0])∧Below w.heap.size w w':=by
 go_enter Tryz.func248,Tryz.ntmps248
 go_wp2
 go_loopw [7] (fun vi wr=>TxInv s b w vi wr) (fun vi wr=>s.size - (Lib.intOf vi).toNat)
 case atStart =>
  refine ⟨1,[],rfl,by omega,by simp,?_,?_,((Below.refl _ w).alloc (Nat.le_refl _) _).alloc (by simp) _,by simp,by rw [hup]; rfl,rfl⟩
  · have:=Lib.fresh_isBuilder 369 5 (w.alloc (.cells #[.int .u8 0,.string ⟨#[]⟩,.int .i64 0,.int .i64 0] 228))
    rw [show (w.alloc (.cells #[.int .u8 0,.string ⟨#[]⟩,.int .i64 0,.int .i64 0] 228)).heap.size=w.heap.size+1 by simp] at this
    exact this
  · rw [Below.heap_alloc _ _ _ (by simp)]
    exact heap_alloc_new w _
 case round =>
  obtain ⟨k,acc,rfl,hk1,hak,hI,hres,hbel,hsz,hu,hka⟩:=hrel
  have hab:acc.length≤200:=by
   cases hz:uptoB (s.data.toList.drop k) with
   | none=>rw [hz] at hu; cases hu
   | some z=>rw [hz] at hu; simp at hu; subst hu; simp at hb; omega
  have HR:=Lib.hid hres
  have HU:=Lib.hid hu
  have HK:=Lib.hid hka
  have hk2:k≤201:=by omega
  clear hres hu hka hup
  by_cases hk:k < s.size
  · have HD:Hid (s.data.toList.drop k=s[k]::s.data.toList.drop (k+1)):=Lib.hid (by rw [List.drop_eq_getElem_cons (by simpa using hk)]; rfl)
    by_cases c1:s[k]=34
    · have hc1:((s[k].toNat:Int) == 34)=true:=by rw [c1]; rfl
      have hacc:acc=b:=by
       have:=HU.out
       rw [HD.out,uptoB,if_pos c1] at this
       simpa using this
      clear c1
      subst hacc
      have hl:decide (200 < ((Lib.byteCells acc).length:Int))=false:=by rw [Lib.byteCells_length]; simp; omega
      go_wp2_with (first
       | (go_at_call 286; refine (Go.Proofs.Any.Builder_Len lays170 (w.heap.size+1) (w.heap.size+1) _ _ hI).mono ?_; rintro e w' ⟨rfl,rfl⟩)
       | (go_at_call 287; refine (Go.Proofs.Any.Builder_String_any lays169 bx169 (w.heap.size+1) (w.heap.size+1) _ _ hI (by omega)).mono ?_))
      rintro e w2 ⟨rfl,b2⟩
      have hq:=b2.block w.heap.size (by omega)
      rw [HR.out] at hq
      have q0:w2.cell? ⟨w.heap.size,0,none⟩=some (.int .u8 0):=by rw [Lib.cell_of_heap hq]; rfl
      have q1:w2.cell? ⟨w.heap.size,1,none⟩=some (.string ⟨#[]⟩):=by rw [Lib.cell_of_heap hq]; rfl
      have q2:w2.cell? ⟨w.heap.size,2,none⟩=some (.int .i64 0):=by rw [Lib.cell_of_heap hq]; rfl
      have q3:w2.cell? ⟨w.heap.size,3,none⟩=some (.int .i64 0):=by rw [Lib.cell_of_heap hq]; rfl
      have f0:w2.frozen? ⟨w.heap.size,0,none⟩=false:=by simp [World.frozen?,hq]
      have f1:w2.frozen? ⟨w.heap.size,1,none⟩=false:=by simp [World.frozen?,hq]
      have f2:w2.frozen? ⟨w.heap.size,2,none⟩=false:=by simp [World.frozen?,hq]
      have f3:w2.frozen? ⟨w.heap.size,3,none⟩=false:=by simp [World.frozen?,hq]
      have HQ:=Lib.hid hq
      clear hq
      go_wp2
      refine bodyPost_ret (v:=.tuple #[.agg #[.int .u8 3,.string ⟨acc.toArray⟩,.int .i64 0,.int .i64 0],.int .i64 (k+1),.int .i64 0,.int .i64 0]) (by simp [results,Tryz.results248,go_sem,q0,q1,q2,q3]) rfl ⟨?_,((((hbel.trans (b2.mono (by omega))).setCell (p:=⟨w.heap.size,0,none⟩) (Nat.le_refl _) _).setCell (p:=⟨w.heap.size,1,none⟩) (Nat.le_refl _) _).setCell (p:=⟨w.heap.size,2,none⟩) (Nat.le_refl _) _).setCell (p:=⟨w.heap.size,3,none⟩) (Nat.le_refl _) _⟩
      rw [show ((acc.length+2:Nat):Int)=(k:Int)+1 by have:=HK.out; omega]
    · have hU:=HU.out
      rw [HD.out,uptoB,if_neg c1] at hU
      have c2:s[k]≠10:=fun e=>by rw [if_pos e] at hU; cases hU
      rw [if_neg c2] at hU
      have c3:s[k]≠92:=fun e=>by rw [if_pos e] at hU; cases hU
      rw [if_neg c3] at hU
      have ne:∀ x:UInt8,s[k]≠x→((s[k].toNat:Int) == (x.toNat:Int))=false:=fun x h=>by
       rw [beq_eq_false_iff_ne]
       intro e
       exact h (UInt8.toNat_inj.1 (by omega))
      have d1:((s[k].toNat:Int) == 34)=false:=ne 34 c1
      have d2:((s[k].toNat:Int) == 10)=false:=ne 10 c2
      have d3:((s[k].toNat:Int) == 92)=false:=ne 92 c3
      have HV:=Lib.hid hU
      clear hU ne c1 c2 c3
      go_wp2_with (go_at_call 288; refine (Go.Proofs.Any.Builder_WriteByte lays167 bx167 (w.heap.size+1) (w.heap.size+1) _ _ _ hI (by rw [Lib.byteCells_length]; omega) (by omega)).mono ?_)
      rintro e w2 ⟨rfl,g1,b2⟩
      go_wp2
      go_roundw
      case rel =>
       have hq:=b2.block w.heap.size (by omega)
       refine ⟨k+1,acc++[s[k]],by go_num,by omega,by simp; omega,.inr ?_,by rw [hq]; exact HR.out,hbel.trans (b2.mono (by omega)),by have:=b2.size; omega,?_,by simp; exact HK.out⟩
       · rw [Lib.byteCells_append]; exact g1
       · have:=HV.out
         cases hz:uptoB (s.data.toList.drop (k+1)) with
         | none=>rw [hz] at this; cases this
         | some z=>rw [hz] at this; simpa using this
      case measure=>simp [Lib.intOf]; omega
  · have:=HU.out
    rw [List.drop_of_length_le (by simpa using hk)] at this
    cases this
end Go.Cb.CodeA
