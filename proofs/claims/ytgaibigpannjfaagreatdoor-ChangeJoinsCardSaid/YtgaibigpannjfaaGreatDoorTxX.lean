import Derived.Test.YtgaibigpannjfaaGreatDoorTxW
import Derived.Test.YtgaibigpannjfaaGreatDoorStrD
import Derived.Test.YtgaibigpannjfaaGreatDoorXAms3
import Derived.Lib.AtoiErrMem
set_option maxRecDepth 4000
set_option linter.all false
namespace Go.Cb
open Go Go.Proofs Go.RowKit
theorem Tr.below {g:Gh} {w w':World} (A:Nat→Prop) (i:Below w.heap.size w w') (j:∀ b f,g.cl b f→b < w.heap.size):Tr A g w g w' :=
 ⟨⟨Nat.le_refl _,fun _ _=>rfl,fun _ _=>rfl,fun _ _ h=>h,fun b f h=>i.cell (p:=ad b f) (j b f h)⟩,i.size,⟨i.os,i.output⟩,fun b h hs _=>⟨⟨i.block b h,fun _ x=>x⟩,hs⟩⟩
theorem a3W {g:Gh} {w w':World} {st:St} {res:AV} {v:Value} {e:Ending} (i:SRel g w st) (y:e=.returned v) (l:Below w.heap.size w w') (z:Rel g w' res v) (t:∀ xs,res≠.list true xs) (u:∀ cs,res≠.agg cs):CallPost g w st res e w':=by have j:=Tr.below No l i.cli;exact⟨v,g,y,i.evolve j.ext rfl j.size (fun b p h=>⟨h,l.block b (i.inn b p h),fun _ x=>x⟩) (fun _ _ x=>x) (fun _ _ x=>.inl x),j,ValOK.mk' z t u⟩
end Go.Cb
namespace Go.Cb.CodeA
open Go Go.Cb Go.Proofs Go.RowKit
theorem a7M:∀ (l:List UInt8) (b:List Nat),upto (l.map UInt8.toNat)=some b→∃ b',a1F l=some b'∧b'.map UInt8.toNat=b
 | [],_,h=>by cases h
 | x::t,b,h=>by
  have e:∀ n:UInt8,Nat.beq x.toNat n.toNat=decide (x=n):=fun n=>by
   by_cases z:x=n
   · subst z; simp
   · rw[decide_eq_false z,← Bool.not_eq_true,Nat.beq_eq];exact fun h=>z (UInt8.toNat_inj.1 h)
  have B:=e 34;have e2:=e 10;have C:=e 92;rw[show(34:UInt8).toNat=34 from rfl]at B;rw[show(10:UInt8).toNat=10 from rfl]at e2;rw[show(92:UInt8).toNat=92 from rfl]at C;rw[List.map_cons,upto,B,e2,C]at h;rw[a1F];by_cases i:x=34
  · rw[decide_eq_true i,if_pos rfl]at h;cases h;exact⟨[],if_pos i,rfl⟩
  by_cases j:x=10
  · rw[decide_eq_false i,decide_eq_true j]at h; cases h
  by_cases u:x=92
  · rw[decide_eq_false i,decide_eq_false j,decide_eq_true u]at h; cases h
  rw[decide_eq_false i,decide_eq_false j,decide_eq_false u]at h;rw[if_neg i,if_neg j,if_neg u];obtain⟨c,F,rfl⟩:=Option.map_eq_some_iff.1 (show(upto (t.map UInt8.toNat)).map (x.toNat::·)=some b from h);obtain⟨E,y,rfl⟩:=a7M t c F;exact⟨x::E,by rw[y]; rfl,rfl⟩
theorem c2W (gt:List (Nat×List AV)):L9 Tryz.prog gt 195 a4p:=by
 intro args st res st' h B g w vs z _ j;unfold a4p at h;split at h
 case h_2=>cases h
 rename_i t;cases hu:upto t with
 | none=>rw[hu]at h; cases h
 | some b =>
  rw[hu]at h;dsimp only at h;split at h
  case isFalse=>cases h
  rename_i y;simp only[Bool.and_eq_true,Nat.ble_eq]at y;simp only[Option.some.injEq,Prod.mk.injEq]at h;obtain⟨rfl,rfl⟩:=h;simp only[RelL,Rel]at j;obtain⟨_,_,rfl,⟨s,rfl,i⟩,rfl⟩:=j;obtain⟨l,hl⟩:∃ l,s.data.toList=l:=⟨_,rfl⟩
  rw[hl]at i;match l,i with
  | x::l,i =>
   simp only[List.map_cons,List.cons.injEq]at i;obtain⟨G,rfl⟩:=i;obtain⟨b',u,rfl⟩:=a7M _ _ hu;have F:s.size=l.length+1:=by rw[Lib.size_eq,hl]; rfl
   simp only[List.length_map]at y;refine(b6N s b' w (by omega) (by rw[hl]; exact u) y).mono fun e w' ⟨E,C⟩=>a3W z E C ?_ (by simp) (by simp)
   simp only[Rel,RelL];exact⟨_,rfl,_,_,rfl,⟨_,rfl,⟨_,_,rfl,rfl,_,_,rfl,⟨_,rfl,by simp⟩,_,_,rfl,rfl,_,_,rfl,rfl,rfl⟩,by simp[Value.oneCell']⟩,_,_,rfl,by simp,_,_,rfl,rfl,_,_,rfl,rfl,rfl⟩
theorem a9A (c:Nat) (z:c≤255):∀ (l:List UInt8) (i:Nat),(match a4b c (l.map UInt8.toNat) i with|some k=>(k:Int) - i|none=>-1)=Lib.indexByte l (UInt8.ofNat c)∧∀ k,a4b c (l.map UInt8.toNat) i=some k→i≤k
 | [],i=>⟨rfl,fun k h=>by cases h⟩
 | x::l,i=>by
  have ex:(x == UInt8.ofNat c)=Nat.beq x.toNat c:=by
   rw[Bool.eq_iff_iff,beq_iff_eq,Nat.beq_eq];constructor
   · intro h; rw[h]; simp; omega
   · intro h; rw[← h]; simp
  rw[List.map_cons,a4b,Lib.indexByte,ex];cases B:Nat.beq x.toNat c with
  | true=>exact⟨by simp,fun k h=>by simp at h; omega⟩
  | false =>
   obtain⟨u,y⟩:=a9A c z l (i+1);rw[← u];cases j:a4b c (l.map UInt8.toNat) (i+1)with
   | none=>exact⟨by simp[j],fun k h=>by simp[j]at h⟩
   | some k =>
    have:=y k j;refine⟨?_,fun C h=>by simp[j]at h; omega⟩;simp only[Bool.false_eq_true,if_false,j];have t:((k:Int) - ((i+1:Nat):Int))+1=(k:Int) - i:=by omega
    have e2:¬ (((k:Int) - ((i+1:Nat):Int)) == -1)=true:=by rw[beq_iff_eq]; omega
    rw[if_neg e2,t]
theorem c6T (gt:List (Nat×List AV)):L9 Tryz.prog gt 190 a4e:=by
 intro args st res st' h l g w vs j _ i;unfold a4e at h;split at h
 case h_2=>cases h
 rename_i s c;cases c with
 | negSucc n=>cases h
 | ofNat n =>
  dsimp only at h;split at h
  case isFalse=>cases h
  rename_i hn;simp only[Nat.ble_eq]at hn;simp only[Option.some.injEq,Prod.mk.injEq]at h;obtain⟨rfl,rfl⟩:=h;simp only[RelL,Rel]at i;obtain⟨_,_,rfl,⟨s,rfl,rfl⟩,_,_,rfl,rfl,rfl⟩:=i;refine(Any.stringslite_IndexByte c7Q s (.ofNat n) w).mono fun e w' ⟨u,x⟩=>?_
  subst x;refine a3W j u (Below.refl _ _) ?_ (by simp) (by simp);simp only[Rel];have t:=(a9A n hn s.data.toList 0).1;rw[show(Int.ofNat n).toNat.toUInt8=UInt8.ofNat n from rfl,← t];cases a4b n (s.data.toList.map UInt8.toNat) 0<;>simp
theorem c1h (gt:List (Nat×List AV)):L9 Tryz.prog gt 289 a1o:=by
 intro args st res st' h z g w vs u _ i;unfold a1o at h;split at h
 case h_2=>cases h
 rename_i s;match s,h with
 | [],h=>cases h
 | x::t,h =>
  dsimp only at h;split at h
  case isFalse=>cases h
  rename_i j;simp only[Nat.ble_eq]at j;split at h
  case h_2=>cases h
  rename_i v C;simp only[Option.some.injEq,Prod.mk.injEq]at h;obtain⟨rfl,rfl⟩:=h;simp only[RelL,Rel]at i;obtain⟨_,_,rfl,⟨s,rfl,l⟩,_,_,rfl,rfl,_,_,rfl,rfl,rfl⟩:=i;have hs:(x::t).map UInt8.ofNat=s.data.toList:=by
   rw[← l,List.map_map];have:(UInt8.ofNat ∘ UInt8.toNat)=id:=by funext y; simp
   rw[this,List.map_id]
  rw[hs]at C;have E:s.size=t.length+1:=by rw[Lib.size_eq,← hs]; simp
  refine(Any.internal_strconv_ParseUint_10_b64 c2C s (by omega) (by omega) w).mono fun e w' ⟨B,F⟩=>?_
  subst F;rw[C]at B;refine a3W u B (Lib.bytesWorld_below _ _ _) ?_ (by simp) (by simp);simp only[Rel,RelL,Lib.uintTuple];exact⟨_,rfl,_,_,rfl,rfl,_,_,rfl,rfl,rfl⟩
end Go.Cb.CodeA
