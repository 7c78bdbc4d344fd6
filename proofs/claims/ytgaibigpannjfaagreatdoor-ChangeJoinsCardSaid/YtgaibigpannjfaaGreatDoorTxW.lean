import Derived.Test.YtgaibigpannjfaaGreatDoorLayQ
import Derived.WalkKit
import Derived.BigCall
import Derived.Lib.Hide
import Derived.Test.YtgaibigpannjfaaGreatDoorXAms3
set_option linter.all false
namespace Go.Cb.CodeA
open Go Go.Proofs Go.RowKit
def a1F:List UInt8→Option (List UInt8)
 | []=>none
 | x::t=>if x=34 then some []else if x=10 then none else if x=92 then none else(a1F t).map (x::·)
def d98 (s:ByteArray) (b:List UInt8) (w:World) (l:Value) (j:World):Prop :=
 ∃ (k:Nat) (i:List UInt8),l=.int .i64 k∧1≤k∧i.length≤k∧Lib.IsBuilder 320 5 (w.heap.size+1) (w.heap.size+1) (Lib.byteCells i) j∧j.heap[w.heap.size]?=some (.cells #[.int .u8 0,.string ⟨#[]⟩,.int .i64 0,.int .i64 0] 169 (0,0))∧Below w.heap.size w j∧w.heap.size+2≤j.heap.size∧(a1F (s.data.toList.drop k)).map (i++·)=some b∧i.length+1=k
set_option maxHeartbeats 4000000 in
set_option maxRecDepth 1000000 in
theorem b6N (s:ByteArray) (b:List UInt8) (w:World) (h1:1≤s.size) (F:a1F (s.data.toList.drop 1)=some b) (Z:b.length≤200) :
 Calls Tryz.prog 195 #[.string s] w fun e w'=>e=.returned (.tuple #[.agg #[.int .u8 3,.string ⟨b.toArray⟩,.int .i64 0,.int .i64 0],.int .i64 (b.length+2:Nat),.int .i64 0,.int .i64 0])∧Below w.heap.size w w':=by
 go_enter Tryz.func195,Tryz.ntmps195
 go_wp2
 go_loopw [7] (fun N V=>d98 s b w N V) (fun N V=>s.size - (Lib.intOf N).toNat)
 case atStart =>
  refine⟨1,[],rfl,by omega,by simp,?_,?_,((Below.refl _ w).alloc (Nat.le_refl _) _).alloc (by simp) _,by simp,by rw[F]; rfl,rfl⟩
  · have:=Lib.fresh_isBuilder 320 5 (w.alloc (.cells #[.int .u8 0,.string ⟨#[]⟩,.int .i64 0,.int .i64 0] 169));rw[show(w.alloc (.cells #[.int .u8 0,.string ⟨#[]⟩,.int .i64 0,.int .i64 0] 169)).heap.size=w.heap.size+1 by simp]at this;exact this
  · rw[Below.heap_alloc _ _ _ (by simp)];exact heap_alloc_new w _
 case round =>
  obtain⟨k,i,rfl,a1,Y,M,y,u,b0,hu,E⟩:=hrel;have X:i.length≤200:=by
   cases G:a1F (s.data.toList.drop k)with
   | none=>rw[G]at hu; cases hu
   | some z=>rw[G]at hu; simp at hu; subst hu; simp at Z; omega
  have U:=Lib.hid y;have I:=Lib.hid hu;have S:=Lib.hid E;have a2:k≤201:=by omega
  clear y hu E F;by_cases hk:k < s.size
  · have O:Hid (s.data.toList.drop k=s[k]::s.data.toList.drop (k+1)):=Lib.hid (by rw[List.drop_eq_getElem_cons (by simpa using hk)]; rfl);by_cases c1:s[k]=34
    · have a0:((s[k].toNat:Int) == 34)=true:=by rw[c1]; rfl
      have C:i=b:=by have:=I.out;rw[O.out,a1F,if_pos c1]at this;simpa using this
      clear c1;subst C;have hl:decide (200 < ((Lib.byteCells i).length:Int))=false:=by rw[Lib.byteCells_length]; simp; omega
      go_wp2_with (first
       | (go_at_call 239; refine(Go.Proofs.Any.Builder_Len c3o (w.heap.size+1) (w.heap.size+1) _ _ M).mono ?_; rintro e w' ⟨rfl,rfl⟩)
       | (go_at_call 240; refine(Go.Proofs.Any.Builder_String_any c2H d9I (w.heap.size+1) (w.heap.size+1) _ _ M (by omega)).mono ?_))
      rintro e t ⟨rfl,B⟩;have j:=B.block w.heap.size (by omega);rw[U.out]at j;have q0:t.cell? ⟨w.heap.size,0,none⟩=some (.int .u8 0):=by rw[Lib.cell_of_heap j]; rfl
      have q1:t.cell? ⟨w.heap.size,1,none⟩=some (.string ⟨#[]⟩):=by rw[Lib.cell_of_heap j]; rfl
      have q2:t.cell? ⟨w.heap.size,2,none⟩=some (.int .i64 0):=by rw[Lib.cell_of_heap j]; rfl
      have q3:t.cell? ⟨w.heap.size,3,none⟩=some (.int .i64 0):=by rw[Lib.cell_of_heap j]; rfl
      have f0:t.frozen? ⟨w.heap.size,0,none⟩=false:=by simp[World.frozen?,j]
      have f1:t.frozen? ⟨w.heap.size,1,none⟩=false:=by simp[World.frozen?,j]
      have f2:t.frozen? ⟨w.heap.size,2,none⟩=false:=by simp[World.frozen?,j]
      have f3:t.frozen? ⟨w.heap.size,3,none⟩=false:=by simp[World.frozen?,j]
      have HQ:=Lib.hid j;clear j
      go_wp2
      refine bodyPost_ret (v:=.tuple #[.agg #[.int .u8 3,.string ⟨i.toArray⟩,.int .i64 0,.int .i64 0],.int .i64 (k+1),.int .i64 0,.int .i64 0]) (by simp[results,Tryz.results195,go_sem,q0,q1,q2,q3]) rfl ⟨?_,((((u.trans (B.mono (by omega))).setCell (p:=⟨w.heap.size,0,none⟩) (Nat.le_refl _) _).setCell (p:=⟨w.heap.size,1,none⟩) (Nat.le_refl _) _).setCell (p:=⟨w.heap.size,2,none⟩) (Nat.le_refl _) _).setCell (p:=⟨w.heap.size,3,none⟩) (Nat.le_refl _) _⟩;rw[show((i.length+2:Nat):Int)=(k:Int)+1 by have:=S.out; omega]
    · have l:=I.out;rw[O.out,a1F,if_neg c1]at l;have J:s[k]≠10:=fun e=>by rw[if_pos e]at l; cases l
      rw[if_neg J]at l;have L:s[k]≠92:=fun e=>by rw[if_pos e]at l; cases l
      rw[if_neg L]at l;have ne:∀ x:UInt8,s[k]≠x→((s[k].toNat:Int) == (x.toNat:Int))=false:=fun x h=>by rw[beq_eq_false_iff_ne];intro e;exact h (UInt8.toNat_inj.1 (by omega))
      have d1:((s[k].toNat:Int) == 34)=false:=ne 34 c1;have d2:((s[k].toNat:Int) == 10)=false:=ne 10 J;have d3:((s[k].toNat:Int) == 92)=false:=ne 92 L;have W:=Lib.hid l;clear l ne c1 J L
      go_wp2_with (go_at_call 241; refine(Go.Proofs.Any.Builder_WriteByte b27 d9D (w.heap.size+1) (w.heap.size+1) _ _ _ M (by rw[Lib.byteCells_length]; omega) (by omega)).mono ?_)
      rintro e t ⟨rfl,g1,B⟩
      go_wp2
      go_roundw
      case rel =>
       have j:=B.block w.heap.size (by omega);refine⟨k+1,i++[s[k]],by go_num,by omega,by simp; omega,.inr ?_,by rw[j]; exact U.out,u.trans (B.mono (by omega)),by have:=B.size; omega,?_,by simp; exact S.out⟩
       · rw[Lib.byteCells_append]; exact g1
       · have:=W.out;cases G:a1F (s.data.toList.drop (k+1))with
         | none=>rw[G]at this; cases this
         | some z=>rw[G]at this; simpa using this
      case measure=>simp[Lib.intOf]; omega
  · have:=I.out;rw[List.drop_of_length_le (by simpa using hk)]at this;cases this
end Go.Cb.CodeA
