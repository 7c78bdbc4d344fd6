/-
 lex.text, stringslite.IndexByte, strconv.ParseUint: their answers by the walk and by the library's contracts.
-/
import Derived.Test.YthbikoodicigeaaGreatDoorTxW
import Derived.Test.YthbikoodicigeaaGreatDoorStrD
import Derived.Test.YthbikoodicigeaaGreatDoorXAms4
import Derived.Lib.AtoiErrMem
set_option maxRecDepth 4000
set_option linter.unusedSimpArgs false
set_option linter.unusedVariables false
namespace Go.Cb
open Go Go.Proofs Go.RowKit
theorem Tr.below {g:Gh} {w w':World} (A:Nat→Prop) (hb:Below w.heap.size w w') (hc:∀ b f,g.cl b f→b < w.heap.size):Tr A g w g w' :=
 ⟨⟨Nat.le_refl _,fun _ _=>rfl,fun _ _=>rfl,fun _ _ h=>h,fun b f h=>hb.cell (p:=ad b f) (hc b f h)⟩,hb.size,⟨hb.os,hb.output⟩,fun b h hs _=>⟨⟨hb.block b h,fun _ x=>x⟩,hs⟩⟩
theorem post_below {g:Gh} {w w':World} {st:St} {res:AV} {v:Value} {e:Ending} (hst:SRel g w st) (he:e=.returned v) (hb:Below w.heap.size w w') (hr:Rel g w' res v) (h1:∀ xs,res≠.list true xs) (h2:∀ cs,res≠.agg cs):CallPost g w st res e w':=by
 have ht:=Tr.below No hb hst.cli
 exact ⟨v,g,he,hst.evolve ht.ext rfl ht.size (fun b p h=>⟨h,hb.block b (hst.inn b p h),fun _ x=>x⟩) (fun _ _ x=>x) (fun _ _ x=>.inl x),ht,ValOK.mk' hr h1 h2⟩
end Go.Cb
namespace Go.Cb.CodeA
open Go Go.Cb Go.Proofs Go.RowKit
theorem upto_bytes:∀ (l:List UInt8) (b:List Nat),upto (l.map UInt8.toNat)=some b→∃ b',uptoB l=some b'∧b'.map UInt8.toNat=b
 | [],_,h=>by cases h
 | x::t,b,h=>by
  have e:∀ n:UInt8,Nat.beq x.toNat n.toNat=decide (x=n):=fun n=>by
   by_cases hx:x=n
   · subst hx; simp
   · rw [decide_eq_false hx,← Bool.not_eq_true,Nat.beq_eq]
     exact fun h=>hx (UInt8.toNat_inj.1 h)
  have e1:=e 34
  have e2:=e 10
  have e3:=e 92
  rw [show (34:UInt8).toNat=34 from rfl] at e1
  rw [show (10:UInt8).toNat=10 from rfl] at e2
  rw [show (92:UInt8).toNat=92 from rfl] at e3
  rw [List.map_cons,upto,e1,e2,e3] at h
  rw [uptoB]
  by_cases h1:x=34
  · rw [decide_eq_true h1,if_pos rfl] at h
    cases h
    exact ⟨[],if_pos h1,rfl⟩
  by_cases h2:x=10
  · rw [decide_eq_false h1,decide_eq_true h2] at h; cases h
  by_cases h3:x=92
  · rw [decide_eq_false h1,decide_eq_false h2,decide_eq_true h3] at h; cases h
  rw [decide_eq_false h1,decide_eq_false h2,decide_eq_false h3] at h
  rw [if_neg h1,if_neg h2,if_neg h3]
  obtain ⟨c,hc,rfl⟩:=Option.map_eq_some_iff.1 (show (upto (t.map UInt8.toNat)).map (x.toNat::·)=some b from h)
  obtain ⟨c',hc',rfl⟩:=upto_bytes t c hc
  exact ⟨x::c',by rw [hc']; rfl,rfl⟩
theorem text_ok (gt:List (Nat×List AV)):ExtOK Tryz.prog gt 248 textX:=by
 intro args st res st' h hweak g w vs hst _ hrel
 unfold textX at h
 split at h
 case h_2=>cases h
 rename_i t
 cases hu:upto t with
 | none=>rw [hu] at h; cases h
 | some b =>
  rw [hu] at h
  dsimp only at h
  split at h
  case isFalse=>cases h
  rename_i hc
  simp only [Bool.and_eq_true,Nat.ble_eq] at hc
  simp only [Option.some.injEq,Prod.mk.injEq] at h
  obtain ⟨rfl,rfl⟩:=h
  simp only [RelL,Rel] at hrel
  obtain ⟨_,_,rfl,⟨s,rfl,hsb⟩,rfl⟩:=hrel
  obtain ⟨l,hl⟩:∃ l,s.data.toList=l:=⟨_,rfl⟩
  rw [hl] at hsb
  match l,hsb with
  | x::l,hsb =>
   simp only [List.map_cons,List.cons.injEq] at hsb
   obtain ⟨hx,rfl⟩:=hsb
   obtain ⟨b',hb',rfl⟩:=upto_bytes _ _ hu
   have hsz:s.size=l.length+1:=by rw [Lib.size_eq,hl]; rfl
   simp only [List.length_map] at hc
   refine (text_walk s b' w (by omega) (by rw [hl]; exact hb') hc).mono fun e w' ⟨he,hb⟩=>post_below hst he hb ?_ (by simp) (by simp)
   simp only [Rel,RelL]
   exact ⟨_,rfl,_,_,rfl,⟨_,rfl,⟨_,_,rfl,rfl,_,_,rfl,⟨_,rfl,by simp⟩,_,_,rfl,rfl,_,_,rfl,rfl,rfl⟩,by simp [Value.oneCell']⟩,_,_,rfl,by simp,_,_,rfl,rfl,_,_,rfl,rfl,rfl⟩
theorem idxb_list (c:Nat) (hc:c≤255):∀ (l:List UInt8) (i:Nat),(match idxbF c (l.map UInt8.toNat) i with|some k=>(k:Int) - i|none=>-1)=Lib.indexByte l (UInt8.ofNat c)∧∀ k,idxbF c (l.map UInt8.toNat) i=some k→i≤k
 | [],i=>⟨rfl,fun k h=>by cases h⟩
 | x::l,i=>by
  have ex:(x == UInt8.ofNat c)=Nat.beq x.toNat c:=by
   rw [Bool.eq_iff_iff,beq_iff_eq,Nat.beq_eq]
   constructor
   · intro h; rw [h]; simp; omega
   · intro h; rw [← h]; simp
  rw [List.map_cons,idxbF,Lib.indexByte,ex]
  cases hb:Nat.beq x.toNat c with
  | true=>exact ⟨by simp,fun k h=>by simp at h; omega⟩
  | false =>
   obtain ⟨h1,h2⟩:=idxb_list c hc l (i+1)
   rw [← h1]
   cases hq:idxbF c (l.map UInt8.toNat) (i+1) with
   | none=>exact ⟨by simp [hq],fun k h=>by simp [hq] at h⟩
   | some k =>
    have:=h2 k hq
    refine ⟨?_,fun k' h=>by simp [hq] at h; omega⟩
    simp only [Bool.false_eq_true,if_false,hq]
    have e1:((k:Int) - ((i+1:Nat):Int))+1=(k:Int) - i:=by omega
    have e2:¬ (((k:Int) - ((i+1:Nat):Int)) == -1)=true:=by rw [beq_iff_eq]; omega
    rw [if_neg e2,e1]
theorem idxb_ok (gt:List (Nat×List AV)):ExtOK Tryz.prog gt 243 idxbX:=by
 intro args st res st' h hweak g w vs hst _ hrel
 unfold idxbX at h
 split at h
 case h_2=>cases h
 rename_i s c
 cases c with
 | negSucc n=>cases h
 | ofNat n =>
  dsimp only at h
  split at h
  case isFalse=>cases h
  rename_i hn
  simp only [Nat.ble_eq] at hn
  simp only [Option.some.injEq,Prod.mk.injEq] at h
  obtain ⟨rfl,rfl⟩:=h
  simp only [RelL,Rel] at hrel
  obtain ⟨_,_,rfl,⟨s,rfl,rfl⟩,_,_,rfl,rfl,rfl⟩:=hrel
  refine (Any.stringslite_IndexByte lays217 s (.ofNat n) w).mono fun e w' ⟨he,hw⟩=>?_
  subst hw
  refine post_below hst he (Below.refl _ _) ?_ (by simp) (by simp)
  simp only [Rel]
  have h1:=(idxb_list n hn s.data.toList 0).1
  rw [show (Int.ofNat n).toNat.toUInt8=UInt8.ofNat n from rfl,← h1]
  cases idxbF n (s.data.toList.map UInt8.toNat) 0 <;> simp
theorem puint_ok (gt:List (Nat×List AV)):ExtOK Tryz.prog gt 327 puintX:=by
 intro args st res st' h hweak g w vs hst _ hrel
 unfold puintX at h
 split at h
 case h_2=>cases h
 rename_i s
 match s,h with
 | [],h=>cases h
 | x::t,h =>
  dsimp only at h
  split at h
  case isFalse=>cases h
  rename_i hlen
  simp only [Nat.ble_eq] at hlen
  split at h
  case h_2=>cases h
  rename_i v hv
  simp only [Option.some.injEq,Prod.mk.injEq] at h
  obtain ⟨rfl,rfl⟩:=h
  simp only [RelL,Rel] at hrel
  obtain ⟨_,_,rfl,⟨s,rfl,hsb⟩,_,_,rfl,rfl,_,_,rfl,rfl,rfl⟩:=hrel
  have hs:(x::t).map UInt8.ofNat=s.data.toList:=by
   rw [← hsb,List.map_map]
   have:(UInt8.ofNat ∘ UInt8.toNat)=id:=by funext y; simp
   rw [this,List.map_id]
  rw [hs] at hv
  have hsz:s.size=t.length+1:=by
   rw [Lib.size_eq,← hs]; simp
  refine (Any.internal_strconv_ParseUint_10_b64 lays287 s (by omega) (by omega) w).mono fun e w' ⟨he,hw⟩=>?_
  subst hw
  rw [hv] at he
  refine post_below hst he (Lib.bytesWorld_below _ _ _) ?_ (by simp) (by simp)
  simp only [Rel,RelL,Lib.uintTuple]
  exact ⟨_,rfl,_,_,rfl,rfl,_,_,rfl,rfl,rfl⟩
end Go.Cb.CodeA
