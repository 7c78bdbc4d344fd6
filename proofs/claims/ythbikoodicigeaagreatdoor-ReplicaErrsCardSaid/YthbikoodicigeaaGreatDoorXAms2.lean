import Derived.Test.YthbikoodicigeaaGreatDoorXAms1
import Derived.Great.BuildSlice
import Derived.Orders
/-
 THE ABSTRACT MACHINE, part 15: slices written out; maps written; calls.
-/
set_option maxRecDepth 4000
set_option linter.unusedVariables false
namespace Go.Cb
open Classical

theorem flatten_len {sz:Nat}:∀ {rs:List (List AV)},(∀ r∈rs,r.length=sz)→rs.flatten.length=rs.length*sz
 | [],_=>by simp
 | r::rs,h=>by
  rw [List.flatten_cons,List.length_append,flatten_len (fun x hx=>h x (by simp [hx])),h r (by simp),List.length_cons,Nat.succ_mul]; omega

theorem flatten_set {sz:Nat} {c:List AV} (hc:c.length=sz):∀ {rs:List (List AV)} {i:Nat},(∀ r∈rs,r.length=sz)→i < rs.length→(rs.set i c).flatten=setSeg rs.flatten (i*sz) c
 | [],_,_,h=>by simp at h
 | r::rs,0,hr,_=>by
  have h0:=hr r (by simp)
  simp only [List.set_cons_zero,List.flatten_cons,setSeg,Nat.zero_mul,List.take_zero,List.nil_append,Nat.zero_add]
  rw [List.drop_append_of_le_length (by omega),List.drop_of_length_le (by omega),List.nil_append]
 | r::rs,i+1,hr,h=>by
  have h0:=hr r (by simp)
  have ih:=flatten_set hc (rs:=rs) (i:=i) (fun x hx=>hr x (by simp [hx])) (by simpa using h)
  simp only [List.set_cons_succ,List.flatten_cons,ih,setSeg]
  have e1:(i+1)*sz=r.length+i*sz:=by rw [Nat.succ_mul]; omega
  have t1:r.take (r.length+i*sz)=r:=List.take_of_length_le (by omega)
  have t2:r.drop (r.length+i*sz+c.length)=[]:=List.drop_of_length_le (by omega)
  rw [e1,List.take_append,t1,show r.length+i*sz - r.length=i*sz by omega,List.drop_append,t2,show r.length+i*sz+c.length - r.length=i*sz+c.length by omega]
  simp [List.append_assoc]

theorem zeros_flat (z:Array Value):∀ len:Nat,((Array.range (len*z.size)).map (z[· % z.size]!)).toList=(List.replicate len z.toList).flatten
 | 0=>by simp
 | len+1=>by
  have ih:=zeros_flat z len
  rw [Array.toList_map,Array.toList_range] at ih ⊢
  rw [Nat.succ_mul,List.range_add,List.map_append,ih,List.replicate_succ',List.flatten_append]
  congr 1
  rw [List.map_map]
  simp only [List.flatten_cons,List.flatten_nil,List.append_nil]
  apply List.ext_getElem
  · simp
  · intro i h1 h2
    simp only [List.length_map,List.length_range] at h1
    simp only [List.getElem_map,List.getElem_range,Function.comp]
    have e:(len*z.size+i) % z.size=i:=by
     rw [Nat.add_comm,Nat.add_mul_mod_self_right,Nat.mod_eq_of_lt h1]
    rw [e,Array.getElem_toList]
    exact getElem!_pos z i h1

section
variable {c:Cx} {g:Gh} {w:World} {pr:Nat→Option Pl} {bx:Nat→Nat} {σ:Sig} {a:Act} {o:Oper} {call:CallT} {b b' r:AV} {st st':St} {fr as:List AV}

theorem fillRows_rel {sz:Nat}:∀ {is:List Nat} {ps:List AV} {rs rs':List (List AV)} {arr:Array Value} {vs:List Value},
 fillRows sz is ps rs=some rs'→ArgsOK g w bx fr ps vs→(∀ x∈rs,x.length=sz)→RelL g w rs.flatten arr.toList→(∀ u∈arr.toList,u.oneCell'=true) →
 ∃ arr',Instr.fill (fun i=>some (i*sz,sz)) arr (is.zip vs)=some arr'∧(∀ x∈rs',x.length=sz)∧RelL g w rs'.flatten arr'.toList∧(∀ u∈arr'.toList,u.oneCell'=true)∧rs'.length=rs.length
 | [],[],rs,rs',arr,vs,h,ha,hr,hl,h1=>by
  simp only [fillRows,Option.some.injEq] at h
  subst h
  exact ⟨arr,by simp [Instr.fill],hr,hl,h1,rfl⟩
 | i::is,p::ps,rs,rs',arr,vs,h,ha,hr,hl,h1=>by
  simp only [fillRows] at h
  split at h
  · rename_i hc
    obtain ⟨hplain,hlen,hi⟩:=hc
    cases ha with
    | cons h2 h3 =>
     rename_i v vs
     have hcell:=(cells_ok h2 hplain).weak
     have hcl:(p.cells.map AV.weak1).length=sz:=by simpa using hlen
     have hvl:v.cells.toList.length=v.cells.size:=by simp
     have hsz:v.cells.size=sz:=by have:=hcell.rel.length; omega
     have hfl:=flatten_len hr
     have hal:rs.flatten.length=arr.size:=hl.length.trans (by simp)
     have hle:i*sz+sz≤arr.size:=by
      rw [← hal,hfl,← Nat.succ_mul]; exact Nat.mul_le_mul_right _ hi
     have hf:=fill_one v (i*sz) arr (by omega)
     obtain ⟨r1,r2⟩:=row_set (off:=i*sz) hl h1 hcell.rel hcell.one
     rw [hvl,← hf] at r1 r2
     rw [← flatten_set hcl hr hi] at r1
     obtain ⟨arr',e1,e2,e3,e4,e5⟩:=fillRows_rel h h3 (fun x hx=>by
      rcases List.mem_or_eq_of_mem_set hx with hx|hx
      · exact hr x hx
      · rw [hx]; exact hcl) r1 r2
     refine ⟨arr',?_,e2,e3,e4,by rw [e5,List.length_set]⟩
     simp only [List.zip_cons_cons,Instr.fill]
     rw [if_neg (by simp; omega)]
     exact e1
  · cases h
 | [],_::_,_,_,_,_,h,_,_,_,_=>by simp [fillRows] at h
 | _::_,[],_,_,_,_,h,_,_,_,_=>by simp [fillRows] at h

theorem bslice_ok (fx:Fx c) (h:S c g w pr bx σ a) {t e len sz:Nat} {parts:Array (Nat×Operand)} {ie:TypeInfo} {z:Value} {zero rs:List (List AV)} {z1:List AV} {is:List Nat} {d:Dst}
 (ho:o.op=.buildSlice t len parts) (hu:c.P.underlying t=some (.slice e)) (hie:c.P.info? e=some ie) (hz:ie.zero=some z) (hsz:ie.size=sz) (hzs:z.cells.size=sz) (hsmall:len*sz≤2 ^ 24) (hpos:len*sz≠0)
 (hz1:constsOK z.cells.toList z1=true) (hzero:zero=List.replicate len z1) (his:parts.toList.map (·.1)=is) (hr:ArgsOK g w bx σ.fr as (parts.toList.map fun p=>a.eval p.2)) (hs:fillRows sz is as zero=some rs)
 (hd:dstOK c o.dst d=true) (hsome:o.dst.isSome=true) {next:Act→World→Prop} {Q:Exit→Act→World→Prop} (hnext:Post c g w a (d.put (.list true rs) σ) next):o.wp c.P a w next Q:=by
 subst hsz; subst his
 obtain ⟨q1,q2,_⟩:=constsOK_rel hz1 g w
 have hz1l:z1.length=ie.size:=by rw [q1.length,Array.length_toList]; exact hzs
 have hrows0:∀ x∈zero,x.length=ie.size:=fun x hx=>by rw [hzero] at hx; rw [List.eq_of_mem_replicate hx]; exact hz1l
 have hrep:∀ n,RelL g w (List.replicate n z1).flatten (List.replicate n z.cells.toList).flatten∧∀ u∈(List.replicate n z.cells.toList).flatten,u.oneCell'=true:=by
  intro n
  induction n with
  | zero=>simp [RelL]
  | succ n ih =>
   rw [List.replicate_succ,List.replicate_succ,List.flatten_cons,List.flatten_cons]
   exact ⟨q1.append ih.1,fun u hu=>(List.mem_append.1 hu).elim (q2 u) (ih.2 u)⟩
 have hz0:=zeros_flat z.cells len
 obtain ⟨arr,e1,e2,e3,e4,e5⟩:=fillRows_rel (arr:=(Array.range (len*z.cells.size)).map (z.cells[· % z.cells.size]!)) hs hr hrows0 (by rw [hz0,hzero]; exact (hrep len).1) (by rw [hz0]; exact (hrep len).2)
 rw [hzs] at e1
 rw [← zip_parts] at e1
 have hrun:=run_buildSlice (P:=c.P) w t e len (parts.map fun (i,x)=>(i,a.eval x)) arr ie z hu hie hz (by omega) hpos (by
  rw [hzs,show (parts.map fun (i,x)=>(i,a.eval x)).toList=parts.toList.map fun p=>(p.1,a.eval p.2) by simp]; exact e1)
 have hlen:rs.length=len:=by rw [e5,hzero,List.length_replicate]
 have hal:arr.toList.length=len*ie.size:=by rw [← e3.length,flatten_len e2,hlen]
 let g2:=g.claim w.heap.size 0 (len*ie.size)
 have hnew:=heap_alloc_new w (_root_.Go.Obj.cells arr e)
 have he:Ext g w g2 (w.alloc (.cells arr e)):=⟨Nat.le_refl _,fun _ _=>rfl,fun _ _=>rfl,fun b f hf=>.inl hf,fun b f hf=>World.cell?_alloc_lt _ _ _ (h.st.cli b f hf)⟩
 have hsame:∀ b,b < w.heap.size→Same g w g2 (w.alloc (.cells arr e)) b:=fun b hb=>⟨heap_alloc_old w _ hb,fun f hf=>by
  rcases hf with hf|⟨e',_⟩
  · exact hf
  · omega⟩
 have hrel:Rel g2 (w.alloc (.cells arr e)) (.list true rs) (.slice (some (ad w.heap.size 0)) len len):=by
  simp only [Rel]
  refine ⟨_,_,_,rfl,hlen.symm,Nat.le_refl _,fun h=>(by cases h),fun _=>⟨w.heap.size,0,ie.size,rfl,?_⟩⟩
  refine RelRows.mk e2 (e3.ext he _ _) (fun j u hj=>?_) e4 (fun j hj=>.inr ⟨rfl,by omega,by omega⟩)
  show (w.alloc (.cells arr e)).cell? (ad w.heap.size (0+j))=some u
  rw [Nat.zero_add,cell_of_row _ _ j arr e (0,0) hnew,← Array.getElem?_toList]
  exact hj
 unfold Oper.wp
 rw [show (execOp a.eval o).run c.P w=.ok (.value (.slice (some ⟨w.heap.size,0,none⟩) len len)) (w.alloc (.cells arr e)) by
  simp only [execOp,ho,Sem.run_bind,hrun,Result.andThen_ok,Sem.run_pure]]
 have hstr:SRel g2 (w.alloc (.cells arr e)) σ.st:=h.st.evolve he rfl (by simp) (fun b q hq=>⟨hq,hsame b (h.st.inn b q hq)⟩) (fun _ _ x=>x) (fun b f hf=>by
  rcases hf with hf|⟨e',_⟩
  · exact .inl hf
  · right; simp; omega)
 refine hnext _ _ g2 pr bx (defers_put _ _ _) ?_ ⟨he,by simp,Env.alloc w _ (by intro c t z e; cases e; rfl),fun b hb hs' _=>⟨hsame b hb,hs'⟩⟩
 have:=eff_put fx h hd hsome he hstr (pr2:=pr) (fun b p hb _=>⟨hb,hsame b (h.fr.prv b p hb).2.1⟩)
  (fun b p hb=>⟨(h.fr.prv b p hb).1,by have:=(h.fr.prv b p hb).2.1; simp; omega,(h.fr.prv b p hb).2.2⟩) (by simp) h.stA (r:=.list true rs) (v:=.slice (some ⟨w.heap.size,0,none⟩) len len)
  ⟨hrel,fun zs _=>.inl ⟨_,_,rfl⟩,fun _ ez=>(by cases ez)⟩
 have est:({ d.put (.list true rs) σ with st:=σ.st }:Sig)=d.put (.list true rs) σ:=by cases d <;> simp [Dst.put]
 rw [est] at this
 exact this

/-! maps written -/
theorem RelM.length {es:List (AV×AV)} {l:List MapEntry} (h:RelM g w es l):es.length=l.length:=by
 induction h with
 | nil=>rfl
 | cons _ _ _ _ ih=>simp [ih]
theorem RelM.push {es:List (AV×AV)} {l:List MapEntry} (h:RelM g w es l) {k v:AV} {e:MapEntry} (hk:Rel g w k e.key) (hv:Rel g w v e.val) (hn:v.weak=v):RelM g w (es++[(k,v)]) (l++[e]):=by
 induction h with
 | nil=>exact .cons hk hv hn .nil
 | cons a1 a2 a3 _ ih=>exact .cons a1 a2 a3 ih
theorem RelM.set {es:List (AV×AV)} {l:List MapEntry} (h:RelM g w es l):∀ {i:Nat} {k v:AV} {e:MapEntry},Rel g w k e.key→Rel g w v e.val→v.weak=v→RelM g w (es.set i (k,v)) (l.set i e):=by
 induction h with
 | nil=>intro i k v e _ _ _; exact .nil
 | cons a1 a2 a3 a4 ih =>
  intro i k v e hk hv hn
  cases i with
  | zero=>exact .cons hk hv hn a4
  | succ i=>exact .cons a1 a2 a3 (ih hk hv hn)

theorem weak_weak (x:AV):x.weak.weak=x.weak:=by
 cases x <;> simp only [AV.weak]
 rw [List.map_map]
 congr 1
 apply List.map_congr_left
 intro y _
 cases y <;> rfl

theorem sameBits_now {d:TypeDesc} {u v:Value} (h:Instr.sameNow d u v=some true) (n:Nat):Instr.sameBits n v u=true:=by
 unfold Instr.sameNow at h
 split at h
 · split at h
   · rename_i e
     simp only [Option.some.injEq,beq_iff_eq] at h
     subst e; subst h
     simp [Instr.sameBits]
   · cases h
 · simp only [Option.some.injEq] at h
   rw [MapKept.bytes_beq] at h
   subst h
   simp only [Instr.sameBits]
   rw [MapKept.bytes_beq]
 · simp only [Option.some.injEq,beq_iff_eq] at h
   subst h
   simp [Instr.sameBits]
 · cases h

theorem map_put (h:S c g w pr bx σ a) {oo:Nat} {es es':List (AV×AV)} {ents ents':Array MapEntry} {clock clock':Nat} (hb:σ.st[oo]?=some (.map es)) (hrole:g.sr (g.m oo)=some (oo,none)) (hnc:∀ f,¬ g.cl (g.m oo) f)
 (hh:w.heap[g.m oo]?=some (.map ents clock)) (hrel:RelM g w es' ents'.toList) {next:Act→World→Prop} {Q:Exit→Act→World→Prop}
 (hwp:next a { w with heap:=w.heap.setIfInBounds (g.m oo) (.map ents' clock') }→o.wp c.P a w next Q) (hnext:Post c g w a { σ with st:=σ.st.set oo (.map es') } next):o.wp c.P a w next Q:=by
 have hoo:oo < g.n:=by rw [h.st.n]; exact (List.getElem?_eq_some_iff.1 hb).1
 have henv:Env w { w with heap:=w.heap.setIfInBounds (g.m oo) (.map ents' clock') }:=⟨rfl,rfl⟩
 generalize hw2:({ w with heap:=w.heap.setIfInBounds (g.m oo) (.map ents' clock') }:World)=w2 at *
 have hnew:w2.heap[g.m oo]?=some (.map ents' clock'):=by rw [← hw2]; exact (MapKept.heap_set hh).1
 have hold:∀ b,b≠g.m oo→w2.heap[b]?=w.heap[b]?:=fun b hb=>by rw [← hw2]; exact (MapKept.heap_set hh).2 b hb
 have hsz:w2.heap.size=w.heap.size:=by rw [← hw2]; simp
 have he:Ext g w g w2:=⟨Nat.le_refl _,fun _ _=>rfl,fun _ _=>rfl,fun _ _ x=>x,fun b f hf=>World.cell?_of_block (hold b fun e=>hnc f (e ▸ hf))⟩
 have hsame:∀ b,b≠g.m oo→Same g w g w2 b:=fun b hb=>⟨hold b hb,fun _ x=>x⟩
 have hprb:∀ b q,pr b=some q→b≠g.m oo:=fun b q hq e=>by
  have:=(h.fr.prv _ _ hq).1
  rw [e,hrole] at this; cases this
 refine hwp ?_
 refine hnext a _ g pr bx rfl ⟨?_,⟨?_,fun o' ob ho'=>?_,fun b q hq=>by rw [hsz]; exact h.st.inn b q hq,fun b f hf=>by rw [hsz]; exact h.st.cli b f hf⟩,h.gl.ext he,fun b hb=>h.fresh b (by omega),h.stA⟩
  ⟨he,by omega,henv,fun b _ hs' _=>⟨hsame b (fun e=>by rw [e,hrole] at hs'; cases hs'),hs'⟩⟩
 · exact h.fr.change (fun _=>True) he (fun b q hq _=>⟨hq,hsame b (hprb b q hq)⟩) (fun b q hq=>by rw [hsz]; exact h.fr.prv b q hq) (fun j t' ht=>.inl ⟨⟨trivial,trivial,fun _=>trivial⟩,rfl⟩) (fun t' ht=>.inl ⟨trivial,rfl⟩) rfl (fun j ds hj=>⟨ds,hj⟩) h.fr.bxs
 · rw [List.length_set]; exact h.st.n
 · by_cases e:o'=oo
   · subst e
     rw [List.getElem?_set_self (by rw [← h.st.n]; exact hoo)] at ho'
     simp only [Option.some.injEq] at ho'
     subst ho'
     exact ⟨hrole,hnc,ents',clock',hnew,hrel.ext he⟩
   · rw [List.getElem?_set_ne (Ne.symm e)] at ho'
     refine (h.st.obj o' ob ho').mono (by rw [h.st.n]; exact (List.getElem?_eq_some_iff.1 ho').1) he fun b k hb=>⟨hb,hsame b fun e2=>?_⟩
     rw [e2,hrole] at hb
     simp only [Option.some.injEq,Prod.mk.injEq] at hb
     exact e hb.1.symm

theorem mset_ok (h:S c g w pr bx σ a) {t kt et oo kc:Nat} {m k x:Operand} {kv xv:AV} {es es':List (AV×AV)} (ho:o.op=.mapUpdate t m k x∨o.op=.insert t m k x) (hu:c.P.underlying t=some (.map kt et)) (hk:keyClass c.P kc kt=true)
 (hb:σ.st[oo]?=some (.map es)) (hm:a.eval m=.map (some (g.m oo))) (hkv:ArgOK g w bx σ.fr No kv (a.eval k)) (hxv:ArgOK g w bx σ.fr No xv (a.eval x)) (hp:xv.plain=true) (hd:o.dst=none)
 (hs:(match mfind kc kv es 0 with
  | some (some (i,_))=>some (es.set i (kv,xv.weak))
  | some none=>(eqKey kc kv kv).bind fun _=>some (es++[(kv,xv.weak)])
  | none=>none)=some es') {next:Act→World→Prop} {Q:Exit→Act→World→Prop} (hnext:Post c g w a { σ with st:=σ.st.set oo (.map es') } next):o.wp c.P a w next Q:=by
 have hoo:oo < g.n:=by rw [h.st.n]; exact (List.getElem?_eq_some_iff.1 hb).1
 obtain ⟨d,hdd⟩:∃ d,c.P.underlying kt=some d:=by
  unfold keyClass at hk
  cases hd:c.P.underlying kt with
  | none=>simp [hd] at hk
  | some d=>exact ⟨d,rfl⟩
 obtain ⟨hrole,hnc,ents,clock,hh,hes⟩:=h.st.obj oo _ hb
 have hgo:=MapKept.run_getObj_map (P:=c.P) hh
 have hck:=run_checkKey_any (P:=c.P) (w:=w) hk false (a.eval k)
 have hxr:=(hxv.plain hp).rel.weak
 have hkey:(∃ z,eqKey kc kv kv=some z)∨es≠[]→∃ y z,eqKey kc kv y=some z:=by
  rintro (⟨z,hz⟩|hne)
  · exact ⟨kv,z,hz⟩
  · cases es with
    | nil=>exact absurd rfl hne
    | cons e es =>
     obtain ⟨k0,v0⟩:=e
     cases hq:eqKey kc kv k0 with
     | none=>simp [mfind,hq] at hs
     | some z=>exact ⟨k0,z,hq⟩
 have hkr:Rel g w kv (a.eval k):=by
  have:∃ y z,eqKey kc kv y=some z:=by
   apply hkey
   cases es with
   | nil =>
    left
    simp only [mfind] at hs
    cases hq:eqKey kc kv kv with
    | none=>simp [hq] at hs
    | some z=>exact ⟨z,rfl⟩
   | cons=>right; simp
  obtain ⟨y,z,hz⟩:=this
  exact hkv.rel (fun i f e=>by subst e; simp [eqKey] at hz) (fun cs e=>by subst e; simp [eqKey] at hz)
 -- the new row of entries
 obtain ⟨ents',clock',hrun,hrel⟩:∃ (ents':Array MapEntry) (clock':Nat),(execOp a.eval o).run c.P w=.ok .skip { w with heap:=w.heap.setIfInBounds (g.m oo) (.map ents' clock') }∧RelM g w es' ents'.toList:=by
  have upd:∀ W',(Instr.mapUpdate t (.map (some (g.m oo))) (a.eval k) (a.eval x)).run c.P w=.ok () W'→(execOp a.eval o).run c.P w=.ok .skip W':=fun W' hW=>by
   rcases ho with ho|ho <;> simp only [execOp,ho,hm,Sem.run_bind,hW,Result.andThen_ok,Sem.run_pure]
  have hset:=fun (ob:_root_.Go.Obj)=>MapKept.run_setObj_map (P:=c.P) ob hh
  cases hf:mfind kc kv es 0 with
  | none=>simp [hf] at hs
  | some r0 =>
   have hmf:=mfind_now hdd hk hkr hes hf
   cases r0 with
   | none =>
    simp only [hf] at hs
    obtain ⟨z,_,hs⟩:=Option.bind_eq_some_iff.1 hs
    simp only [Option.some.injEq] at hs
    subst hs
    have hfk:=MapKept.run_findKey (P:=c.P) (w:=w) hdd hmf
    refine ⟨ents.push { key:=a.eval k,val:=a.eval x,born:=clock },clock+1,upd _ ?_,?_⟩
    · simp [Instr.mapUpdate,run_underlying hu,hgo,hck,hfk,hset]
    · rw [Array.toList_push]
      exact hes.push hkr hxr (weak_weak _)
   | some p =>
    obtain ⟨i,v⟩:=p
    simp only [hf,Option.some.injEq] at hs
    subst hs
    obtain ⟨e,he1,_,he2,_,_,he3⟩:=hmf
    simp only [Nat.sub_zero] at he1
    have hfk:=MapKept.run_findKey (P:=c.P) (w:=w) hdd he2
    have hei:ents[i]?=some e:=by simpa using he1
    have hkt:(Instr.keyThatStays e.key (a.eval k)).run c.P w=.ok (a.eval k) w:=by
     simp [Instr.keyThatStays,sameBits_now he3]
    refine ⟨ents.modify i fun e=>{ e with key:=a.eval k,val:=a.eval x },clock,upd _ ?_,?_⟩
    · simp [Instr.mapUpdate,run_underlying hu,hgo,hck,hfk,hset,hei,hkt]
    · have hl:(ents.modify i fun e=>{ e with key:=a.eval k,val:=a.eval x }).toList=ents.toList.set i { e with key:=a.eval k,val:=a.eval x }:=by
       apply List.ext_getElem?
       intro j
       rw [Array.getElem?_toList,Array.getElem?_modify,List.getElem?_set]
       by_cases ej:i=j
       · subst ej
         rw [if_pos rfl,if_pos rfl,hei]
         rw [if_pos (by simpa using (List.getElem?_eq_some_iff.1 he1).1)]
         rfl
       · rw [if_neg ej,if_neg ej,Array.getElem?_toList]
      rw [hl]
      exact hes.set hkr hxr (weak_weak _)
 refine map_put (clock':=clock') h hb hrole hnc hh hrel (fun hn=>?_) hnext
 unfold Oper.wp
 rw [hrun]
 simpa only [Oper.upon,hd,Act.put] using hn
theorem RelM.erase {es:List (AV×AV)} {l:List MapEntry} (h:RelM g w es l):∀ {i:Nat},RelM g w (es.eraseIdx i) (l.eraseIdx i):=by
 induction h with
 | nil=>intro i; exact .nil
 | cons a1 a2 a3 a4 ih =>
  intro i
  cases i with
  | zero=>exact a4
  | succ i=>exact .cons a1 a2 a3 ih

theorem mdel_ok (h:S c g w pr bx σ a) {t kt et oo kc:Nat} {m k:Operand} {kv:AV} {es es':List (AV×AV)} {at_:Array TypeId} (ho:o.op=.call { callee:=.builtin .delete,args:=#[m,k],argTypes:=at_ }) (hat:at_[0]?=some t)
 (hu:c.P.underlying t=some (.map kt et)) (hk:keyClass c.P kc kt=true)
 (hb:σ.st[oo]?=some (.map es)) (hm:a.eval m=.map (some (g.m oo))) (hkv:ArgOK g w bx σ.fr No kv (a.eval k)) (hd:o.dst=none)
 (hs:(match mfind kc kv es 0 with
  | some (some (i,_))=>some (es.eraseIdx i)
  | some none=>some es
  | none=>none)=some es') {next:Act→World→Prop} {Q:Exit→Act→World→Prop} (hnext:Post c g w a { σ with st:=σ.st.set oo (.map es') } next):o.wp c.P a w next Q:=by
 obtain ⟨d,hdd⟩:∃ d,c.P.underlying kt=some d:=by
  unfold keyClass at hk
  cases hd:c.P.underlying kt with
  | none=>simp [hd] at hk
  | some d=>exact ⟨d,rfl⟩
 obtain ⟨hrole,hnc,ents,clock,hh,hes⟩:=h.st.obj oo _ hb
 have hgo:=MapKept.run_getObj_map (P:=c.P) hh
 have hck:=fun (e:Bool)=>run_checkKey_any (P:=c.P) (w:=w) hk e (a.eval k)
 have hset:=fun (ob:_root_.Go.Obj)=>MapKept.run_setObj_map (P:=c.P) ob hh
 -- what is found
 have hfind:∀ z,mfind kc kv es 0=some z→match z with
  | none=>Instr.findNow d (a.eval k) ents.toList 0=some none
  | some (j,v)=>∃ v',Instr.findNow d (a.eval k) ents.toList 0=some (some (j,v'))∧j < ents.size:=by
  intro z hf
  cases hes':es with
  | nil =>
   rw [hes'] at hes hf
   simp only [mfind,Option.some.injEq] at hf
   subst hf
   cases hl:ents.toList with
   | nil=>rfl
   | cons x l=>rw [hl] at hes; cases hes
  | cons e es2 =>
   obtain ⟨k0,v0⟩:=e
   have hkr:Rel g w kv (a.eval k):=by
    have:∃ z,eqKey kc kv k0=some z:=by
     rw [hes'] at hf
     cases hq:eqKey kc kv k0 with
     | none=>simp [mfind,hq] at hf
     | some z=>exact ⟨z,rfl⟩
    obtain ⟨z,hz⟩:=this
    exact hkv.rel (fun i f e=>by subst e; simp [eqKey] at hz) (fun cs e=>by subst e; simp [eqKey] at hz)
   have hmf:=mfind_now hdd hk hkr hes hf
   cases z with
   | none=>exact hmf
   | some p =>
    obtain ⟨j,v⟩:=p
    obtain ⟨e,he1,_,he2,_⟩:=hmf
    simp only [Nat.sub_zero] at he1
    exact ⟨_,he2,by have:=(List.getElem?_eq_some_iff.1 he1).1; simpa using this⟩
 obtain ⟨ents',hrun,hrel⟩:∃ (ents':Array MapEntry),(Builtin.delete_ at_ o.type #[.map (some (g.m oo)),a.eval k]).run c.P w=.ok (.tuple #[]) { w with heap:=w.heap.setIfInBounds (g.m oo) (.map ents' clock) }∧RelM g w es' ents'.toList:=by
  cases hf:mfind kc kv es 0 with
  | none=>simp [hf] at hs
  | some r0 =>
   have hf2:=hfind _ hf
   cases r0 with
   | none =>
    simp only [hf,Option.some.injEq] at hs
    subst hs
    have hfk:=MapKept.run_findKey (P:=c.P) (w:=w) hdd hf2
    exact ⟨ents,by simp [Builtin.delete_,hat,run_underlying hu,hgo,hck,hfk,hset],hes⟩
   | some p =>
    obtain ⟨i,v⟩:=p
    simp only [hf,Option.some.injEq] at hs
    subst hs
    obtain ⟨v',hf2,hi⟩:=hf2
    have hfk:=MapKept.run_findKey (P:=c.P) (w:=w) hdd hf2
    refine ⟨ents.eraseIdxIfInBounds i,by simp [Builtin.delete_,hat,run_underlying hu,hgo,hck,hfk,hset],?_⟩
    rw [Array.eraseIdxIfInBounds,dif_pos hi,Array.toList_eraseIdx]
    exact hes.erase
 refine map_put (clock':=clock) h hb hrole hnc hh hrel (fun hn=>?_) hnext
 have hx:(execOp a.eval o).run c.P w=.ok (.value (.tuple #[])) { w with heap:=w.heap.setIfInBounds (g.m oo) (.map ents' clock) }:=by
  unfold execOp
  simp only [ho,resolve,invoke,builtin,Sem.run_bind,Sem.run_pure,Result.andThen_ok,List.map_toArray,List.map_cons,List.map_nil,hm,hrun]
 unfold Oper.wp
 rw [hx]
 simpa only [Oper.upon,hd,Act.put] using hn
end
end Go.Cb
/-
 THE ABSTRACT MACHINE, part 16: values that move with their spare room; boxes and objects made of a value; calls.
-/
set_option maxRecDepth 4000
set_option linter.unusedVariables false
namespace Go.Cb
open Classical

section
variable {c:Cx} {g:Gh} {w:World} {pr:Nat→Option Pl} {bx:Nat→Nat} {σ:Sig} {a:Act} {o:Oper} {call:CallT} {b b' r:AV} {st st':St} {fr as:List AV}

theorem cells_okW {mine:Nat→Prop} {x:AV} {v:Value} (h:ArgOK g w bx fr mine x v) (hp:x.plain=true):RowOK g w x.cellsW v.cells.toList:=by
 have hm:=cells_okM h hp
 have hv:=h.plain hp
 cases x with
 | agg cs =>
  have hr:=hv.rel
  simp only [Rel] at hr
  obtain ⟨arr,rfl,h1,h2⟩:=hr
  exact ⟨h1,h2,fun k y u hy hu=>hv.agg cs rfl arr rfl k y u hy (by simpa [Value.cells] using hu)⟩
 | list own xs =>
  have hr:=hv.rel
  simp only [Rel] at hr
  obtain ⟨a0,n,cap,rfl,hrest⟩:=hr
  refine ⟨by simp only [AV.cellsW,Value.cells,RelL]; exact ⟨_,[],rfl,by simp only [Rel]; exact ⟨a0,n,cap,rfl,hrest⟩,rfl⟩,by simp [Value.cells,Value.oneCell'],fun k y u hy hu ys e=>?_⟩
  obtain rfl:k=0:=by cases k with|zero=>rfl|succ k=>simp [AV.cellsW] at hy
  simp [AV.cellsW] at hy
  simp [Value.cells] at hu
  subst hu
  rw [← hy] at e
  simp only [AV.list.injEq,Bool.and_eq_true,List.isEmpty_iff] at e
  obtain ⟨⟨rfl,rfl⟩,rfl⟩:=e
  rcases hv.own [] rfl with ⟨a1,n1,h1⟩|⟨_,_,_,_,_,_,_,_,_,h1,_⟩
  · exact ⟨a1,n1,h1⟩
  · exact absurd rfl h1
 | undef=>simp [AV.plain] at hp
 | loc=>simp [AV.plain] at hp
 | box=>simp [AV.plain] at hp
 | tuple=>simp [AV.plain] at hp
 | fresh=>simp [AV.plain] at hp
 | _ =>
  refine ⟨hm.rel,hm.one,fun k y u hy _ ys e=>?_⟩
  obtain rfl:k=0:=by cases k with|zero=>rfl|succ k=>simp [AV.cellsW] at hy
  simp [AV.cellsW] at hy
  rw [← hy] at e
  cases e

theorem spend_loc (h:S c g w pr bx σ a) {x:Operand} {p:Opd} (hp:opdOK c x p=true) {i f:Nat} (hv:p.read σ=.loc i f):p.spend σ=σ:=by
 cases hsrc:p.src with
 | some src=>exact (spend_ok h hp hsrc src).2.1 i f hv
 | none=>cases p <;> simp_all [Opd.src,Opd.spend]

theorem mv_ok (fx:Fx c) (h:S c g w pr bx σ a) {x:Operand} {p:Opd} {d:Dst} (ho:o.op=.move x∨o.op=.assign x) (hp:opdOK c x p=true) (hd:dstOK c o.dst d=true)
 {next:Act→World→Prop} {Q:Exit→Act→World→Prop} (hnext:Post c g w a (d.put (p.read σ) (p.spend σ)) next):o.wp c.P a w next Q:=by
 obtain ⟨pr1,hS,hA,_⟩:=arg_spend h hp d.pl
 have hrun:(execOp a.eval o).run c.P w=.ok (.value (a.eval x)) w:=by rcases ho with ho|ho <;> simp [execOp,ho]
 have hA':ArgOK g w bx (p.spend σ).fr (fun b=>pr1 b=some d.pl) (p.read σ) (a.eval x):=by
  cases hv:p.read σ <;> rw [hv] at hA <;> first
   | exact hA
   | (rw [spend_loc h hp hv]; exact hA)
 unfold Oper.wp
 rw [hrun]
 exact hnext _ _ g pr1 bx (defers_put _ _ _) (put_ok fx hS hd (r:=p.read σ) (v:=a.eval x) hA' fun _ x=>x) (Tr.refl _ _ _)

theorem slO_ok (fx:Fx c) (h:S c g w pr bx σ a) {t e sz:Nat} {x lo:Operand} {p0 p1:Opd} {d:Dst} (ho:o.op=.slice t x (some lo) none none) (hu:c.P.underlying t=some (.slice e)) (hn:sizeB c e=some sz)
 (hp0:opdOK c x p0=true) (hp1:opdN c lo p1=true) (hd:dstOK c o.dst d=true) {own:Bool} {xs:List (List AV)} {k:IntKind} {l:Int} (e0:p0.read σ=.list own xs) (e1:p1.read σ=.int k l)
 (hrows:rowsOk sz xs=true) (hl0:0≤l) (hl1:l < xs.length)
 {next:Act→World→Prop} {Q:Exit→Act→World→Prop} (hnext:Post c g w a (d.put (.list own (xs.drop l.toNat)) (p0.spend σ)) next):o.wp c.P a w next Q:=by
 obtain ⟨pr1,hS,hA,_⟩:=arg_spend h hp0 d.pl
 rw [e0] at hA
 have hA:ValOK g w (fun b=>pr1 b=some d.pl) (.list own xs) (a.eval x):=hA
 have hY:=read_ok h hp1
 rw [e1] at hY
 have hY:ValOK g w No (.int k l) (a.eval lo):=hY
 have ev:a.eval lo=.int k l:=by simpa [Rel] using hY.rel
 have hr:=hA.rel
 simp only [Rel] at hr
 obtain ⟨a0,n,cap,ex,rfl,hcap,hnil,hx⟩:=hr
 obtain ⟨j,rfl⟩:=Int.eq_ofNat_of_zero_le hl0
 have hj:j < xs.length:=by omega
 have hne:xs≠[]:=by intro h0; subst h0; simp at hj
 obtain ⟨bb,f,sz',rfl,hrr⟩:=hx hne
 obtain rfl:sz'=sz:=by
  cases xs with
  | nil=>exact absurd rfl hne
  | cons row rest =>
   simp only [rowsOk,beq_iff_eq] at hrows
   simp only [RelRows] at hrr
   omega
 have hrun:(execOp a.eval o).run c.P w=.ok (.value (.slice (some (ad bb (f+j*sz'))) (xs.length - j) (cap - j))) w:=by
  have hb:bounds true false [AV.int k j] xs.length=some (j,xs.length):=by
   simp [bounds,bound,Nat.le_of_lt hj]
  obtain ⟨⟨h',hq,rfl⟩,_,_⟩:=bounds_ok (P:=c.P) (g:=g) (w:=w) (bx:=bx) (fr:=σ.fr) (isS:=true) (low:=some (a.eval lo)) (high:=none) (cap:=cap) hb (.cons hY .nil) hcap
  simp [execOp,ho,ex,Instr.sliceAt,Instr.slice,run_underlying hu,hq,run_sizeOf (w:=w) hn,show cap≠j by omega,Addr.add_ad]
 have hdr:(xs.drop j).length=xs.length - j:=List.length_drop
 have hV:ValOK g w (fun b=>pr1 b=some d.pl) (.list own (xs.drop j)) (.slice (some (ad bb (f+j*sz'))) (xs.length - j) (cap - j)):=by
  refine ⟨?_,fun ys ey=>?_,fun _ ey=>by cases ey⟩
  · simp only [Rel]
    exact ⟨_,_,_,rfl,hdr.symm,by omega,fun h=>(by cases h),fun _=>⟨bb,f+j*sz',sz',rfl,hrr.drop j⟩⟩
  · cases ey
    rcases hA.own xs rfl with ⟨a1,n1,h1⟩|⟨b,n1,cap1,sz1,arr,T,f0,h1,hm,hx1,hr1,hh,hs1,hc1,hcl⟩
    · rw [ex] at h1
      simp only [Value.slice.injEq] at h1
      obtain ⟨_,rfl,h1⟩:=h1
      subst h1
      exact .inl ⟨_,_,rfl⟩
    · rw [ex] at h1
      simp only [Value.slice.injEq] at h1
      obtain ⟨h2,rfl,rfl⟩:=h1
      have h2:bb=b∧f=f0:=by simpa [ad] using h2
      obtain ⟨rfl,rfl⟩:=h2
      obtain rfl:sz1=sz':=by
       cases xs with
       | nil=>exact absurd rfl hne
       | cons row rest =>
        have:=hr1 row (by simp)
        simp only [rowsOk,beq_iff_eq] at hrows
        omega
      have hcj:f+j*sz1+(cap - j)*sz1=f+cap*sz1:=by rw [Nat.add_assoc,← Nat.add_mul]; congr 2; omega
      have hnj:f+j*sz1+(xs.length - j)*sz1=f+xs.length*sz1:=by rw [Nat.add_assoc,← Nat.add_mul]; congr 2; omega
      exact .inr ⟨bb,_,_,sz1,arr,T,f+j*sz1,rfl,hm,by intro h0; rw [h0] at hdr; simp at hdr; omega,fun r hr=>hr1 r (List.mem_of_mem_drop hr),hh,by rw [hcj]; exact hs1,by omega,fun q hq=>hcl q (by rw [hnj] at hq; exact hq)⟩
 unfold Oper.wp
 rw [hrun]
 exact hnext _ _ g pr1 bx (defers_put _ _ _) (put_ok fx hS hd (r:=.list own (xs.drop (j:Int).toNat)) hV fun _ x=>x) (Tr.refl _ _ _)

theorem run_box {elem:TypeId} {x:Operand} (ho:o.op=.box elem x) :
 (execOp a.eval o).run c.P w=.ok (.value (.pointer (some (ad w.heap.size 0)))) (w.alloc (.cells (a.eval x).cells elem)):=by
 simp [execOp,ho,Instr.box,newVar,newRow]
theorem run_alloc {elem:TypeId} {z:Value} (ho:o.op=.alloc elem) (hz:(c.P.info? elem).bind (·.zero)=some z) :
 (execOp a.eval o).run c.P w=.ok (.value (.pointer (some (ad w.heap.size 0)))) (w.alloc (.cells z.cells elem)):=by
 obtain ⟨i,hi,hz⟩:=Option.bind_eq_some_iff.1 hz
 simp [execOp,ho,Instr.alloc,newVar,newRow,zeroValue,typeInfo,hi,hz]

theorem nbox_ok (fx:Fx c) (h:S c g w pr bx σ a) {i s:Nat} (hds:o.dst=some s) (hs:c.slots[i]?=some s) (hi:i∈c.bxs) (hu:σ.fr.getD i .undef=.undef) {cs:List AV} {arr:Array Value} {T:TypeId}
 (hrun:(execOp a.eval o).run c.P w=.ok (.value (.pointer (some (ad w.heap.size 0)))) (w.alloc (.cells arr T))) (hr:RowOK g w cs arr.toList) {next:Act→World→Prop} {Q:Exit→Act→World→Prop}
 (hnext:Post c g w a { σ with fr:=σ.fr.set i (.box cs) } next):o.wp c.P a w next Q:=by
 obtain ⟨pr',bx',hS⟩:=newbox_ok fx h hs hi hu (T:=T) hr
 unfold Oper.wp
 rw [hrun,Oper.upon_value,hds]
 exact hnext _ _ g pr' bx' rfl hS (Tr.alloc _ h.st.cli _)

theorem nobj_ok (fx:Fx c) (h:S c g w pr bx σ a) {d:Dst} (hd:dstOK c o.dst d=true) {ob:Obj} {O:_root_.Go.Obj} {r:AV} {v:Value} (hrun:(execOp a.eval o).run c.P w=.ok (.value v) (w.alloc O))
 {cap:Nat} (hz:∀ c t z,O=.cells c t z→z=(0,0)) (hob:Ext g w (g.more w.heap.size cap) (w.alloc O)→ObjOK (g.more w.heap.size cap) (w.alloc O) g.n ob)
 (hr:(r=.ptr σ.st.length 0∧v=.pointer (some (ad w.heap.size 0)))∨(r=.map σ.st.length∧v=.map (some w.heap.size))∨(∃ k sz,r=.sl σ.st.length 0 k sz∧v=.slice (some (ad w.heap.size 0)) k k∧k*sz=cap)) {next:Act→World→Prop} {Q:Exit→Act→World→Prop}
 (hnext:Post c g w a (d.put r { σ with st:=σ.st++[ob] }) next):o.wp c.P a w next Q:=by
 obtain ⟨hS,htr,hm,hlt⟩:=more_ok h (O:=O) hz hob
 unfold Oper.wp
 rw [hrun,Oper.upon_value]
 refine hnext _ _ _ pr bx (defers_put _ _ _) (put_ok fx hS hd (mine:=No) (r:=r) (v:=v) ?_ fun _ x=>x.elim) htr
 rcases hr with ⟨rfl,rfl⟩|⟨rfl,rfl⟩|⟨k,sz,rfl,rfl,hk⟩
 · exact (show ValOK _ _ No (.ptr _ _) _ from ValOK.mk' (by simp only [Rel]; exact ⟨hlt,by rw [hm]⟩) (by simp) (by simp))
 · exact (show ValOK _ _ No (.map _) _ from ValOK.mk' (by simp only [Rel]; exact ⟨hlt,by rw [hm]⟩) (by simp) (by simp))
 · exact (show ValOK _ _ No (.sl _ _ _ _) _ from ValOK.mk' (by simp only [Rel]; exact ⟨hlt,k,by rw [hm],Nat.le_refl _,by simp [Gh.more,h.st.n,hk]⟩) (by simp) (by simp))

/-! calls -/

def CallPost (g:Gh) (w:World) (st':St) (res:AV) (e:Ending) (w':World):Prop :=
 ∃ v g',e=.returned v∧SRel g' w' st'∧Tr No g w g' w'∧ValOK g' w' (fun b=>g'.sr b=none∧b < w'.heap.size∧(w.heap.size≤b∨g.sr b≠none)) res v

def enterB (P:Program) (f:Nat):Bool:=match P.funcs[f]? with
 | some fn=>!(fn.name == "runtime.NumGoroutine") && fn.body.isSome
 | none=>false

theorem run_enter {P:Program} {f:FuncId} (h:enterB P f=true) (args:Array Value) (w:World):(callFunc f args).run P w=.ok (.enter f args) w:=by
 unfold enterB at h
 split at h
 · rename_i fn hf
   simp only [Bool.and_eq_true,Bool.not_eq_true'] at h
   obtain ⟨h1,h2⟩:=h
   have h2:fn.body.isNone=false:=by cases hb:fn.body <;> simp_all
   simp only [callFunc,Sem.run_bind,run_program,Result.andThen_ok,hf,h1,h2,Bool.false_eq_true,if_false,Sem.run_pure]
 · cases h

def CallOK (P:Program) (gt:List (Nat×List AV)) (call:CallT):Prop :=
 ∀ (f:Nat) (args:List AV) (st:St) (res:AV) (st':St),call f args st=some (res,st')→(∀ x∈args,x.weak=x) →
  enterB P (vf f)=true∧∀ (g:Gh) (w:World) (vs:List Value),SRel g w st→Globs gt g w→RelL g w args vs→Calls P (vf f) vs.toArray w (CallPost g w st' res)

theorem put_st (d:Dst) (r:AV) (σ:Sig) (st':St):d.put r { σ with st:=st' }={ d.put r σ with st:=st' }:=by cases d <;> rfl

theorem enter_ok (fx:Fx c) (h:S c g w pr bx σ a) {f:FuncId} {vs:Array Value} {res:AV} {d:Dst} (hrun:(execOp a.eval o).run c.P w=.ok (.enter f vs) w)
 (hc:Calls c.P f vs w (CallPost g w st' res)) (hd:dstOK c o.dst d=true) {next:Act→World→Prop} {Q:Exit→Act→World→Prop} (hnext:Post c g w a (d.put res { σ with st:=st' }) next):o.wp c.P a w next Q:=by
 unfold Oper.wp
 rw [hrun,Oper.upon_enter]
 refine hc.mono fun e w' he=>?_
 obtain ⟨v,g',rfl,hst,htr,hv⟩:=he
 show next (a.put o.dst v) w'
 have hnl:∀ i f,res≠.loc i f:=fun i f e=>by rw [e] at hv; exact hv.rel
 have hstA:∀ b p,g'.sr b=some p→c.A b:=fun b p hb=>by
  rcases Nat.lt_or_ge b w.heap.size with hlt|hge
  · cases hq:g.sr b with
    | some q=>exact h.stA b q hq
    | none=>have:=(htr.keep b hlt hq (fun x=>x)).2; rw [hb] at this; cases this
  · exact h.fresh b hge
 have hkeep:∀ b p,pr b=some p→Same g w g' w' b∧g'.sr b=none:=fun b p hb=>by
  obtain ⟨h1,h2,_⟩:=h.fr.prv b p hb
  exact htr.keep b h2 h1 (fun x=>x)
 cases hdst:o.dst with
 | none =>
  have hdn:d=.none:=by cases d <;> simp_all [dstOK]
  subst hdn
  refine hnext _ _ g' pr bx rfl ⟨h.fr.evolve htr,hst,h.gl.ext htr.ext,fun b hb=>h.fresh b (Nat.le_trans htr.size hb),hstA⟩ (htr.wider fun _ x=>x.elim)
 | some s =>
  rw [← hdst]
  let pr2:Nat→Option Pl:=fun b=>if pr b=none∧g'.sr b=none∧b < w'.heap.size∧(w.heap.size≤b∨g.sr b≠none) then some d.pl else pr b
  have hpr2:∀ b p,pr b=some p→pr2 b=some p:=fun b p hb=>by
   simp only [pr2]
   rw [if_neg (by rw [hb]; simp)]
   exact hb
  refine hnext _ _ g' pr2 bx (defers_put _ _ _) (put_st d res σ st' ▸ eff_put fx h hd (by rw [hdst]; rfl) htr.ext hst (fun b p hb _=>⟨hpr2 b p hb,(hkeep b p hb).1⟩) (fun b p hb=>?_) htr.size hstA ?_) (htr.wider fun _ x=>x.elim)
  · simp only [pr2] at hb
    split at hb
    · rename_i hcond
      obtain ⟨_,h2,h3,h4⟩:=hcond
      refine ⟨h2,h3,?_⟩
      rcases h4 with h4|h4
      · exact h.fresh b h4
      · cases hq:g.sr b with
        | none=>exact absurd hq h4
        | some q=>exact h.stA b q hq
    · obtain ⟨h1,h2,h3⟩:=h.fr.prv b p hb
      exact ⟨(hkeep b p hb).2,Nat.lt_of_lt_of_le h2 htr.size,h3⟩
  · refine ArgOK.of_val (hv.mono (Ext.refl _ _) fun b hb=>⟨?_,rfl,fun _ x=>x⟩) hnl
    have hn:pr b=none:=by
     cases hq:pr b with
     | none=>rfl
     | some q =>
      obtain ⟨h1,h2,_⟩:=h.fr.prv b q hq
      rcases hb.2.2 with h4|h4
      · omega
      · exact absurd h1 h4
    simp only [pr2]
    rw [if_pos ⟨hn,hb⟩]

/-! rows that may be written over -/

theorem OwnN.own {x:AV} {v:Value} {mine:Nat→Prop} (h:OwnN x v):OwnC g w mine x v:=fun xs e=>.inl (h xs e)

theorem cellW1_okN {mine:Nat→Prop} {x:AV} {v:Value} (h:OwnC g w mine x v):OwnN x.cellW1 v:=by
 intro xs e
 cases x <;> simp only [AV.cellW1] at e <;> try (cases e; done)
 rename_i o ys
 simp only [AV.list.injEq,Bool.and_eq_true,List.isEmpty_iff] at e
 obtain ⟨⟨rfl,rfl⟩,rfl⟩:=e
 rcases h [] rfl with h1|⟨_,_,_,_,_,_,_,_,_,h1,_⟩
 · exact h1
 · exact absurd rfl h1
theorem Rel.cellW1 {x:AV} {v:Value} (h:Rel g w x v):Rel g w x.cellW1 v:=by
 cases x <;> first|exact h|(simp only [AV.cellW1,Rel] at h ⊢; exact h)
theorem RelL.cellW1:∀ {as:List AV} {vs:List Value},RelL g w as vs→RelL g w (as.map AV.cellW1) vs
 | [],_,h=>h
 | x::as,_,h=>by
  simp only [RelL,List.map_cons] at h ⊢
  obtain ⟨v,r,e,h1,h2⟩:=h
  exact ⟨v,r,e,h1.cellW1,RelL.cellW1 h2⟩
theorem cells_okW1 {mine:Nat→Prop} {x:AV} {v:Value} (h:ArgOK g w bx fr mine x v) (hp:x.plain=true):RowOK g w (x.cells.map AV.cellW1) v.cells.toList:=by
 have hm:=cells_okM h hp
 refine ⟨hm.rel.cellW1,hm.one,fun k y u hy hu=>?_⟩
 rw [List.getElem?_map] at hy
 obtain ⟨z,hz,rfl⟩:=Option.map_eq_some_iff.1 hy
 exact cellW1_okN (hm.own k z u hz hu)

theorem row_setO {cs ds:List AV} {us vs:List Value} {off:Nat} (h:RowOK g w cs us) (hd:RowOK g w ds vs) (hle:off+vs.length≤us.length):RowOK g w (setSeg cs off ds) (us.take off++vs++us.drop (off+vs.length)):=by
 obtain ⟨r1,r2⟩:=row_set (off:=off) h.rel h.one hd.rel hd.one
 refine ⟨r1,r2,fun k x v hx hv=>?_⟩
 have hl1:=h.rel.length
 have hl2:=hd.rel.length
 unfold setSeg at hx
 have hx':=seg_get (by omega) hx
 have hv':=seg_get (by omega) hv
 rcases hx' with ⟨z1,z2⟩|⟨z1,z2,z3⟩|⟨z1,z2⟩
 · rcases hv' with ⟨_,v2⟩|⟨v1,_⟩|⟨v1,_⟩
   · exact h.own k x v z2 v2
   · omega
   · omega
 · rcases hv' with ⟨v1,_⟩|⟨_,_,v3⟩|⟨v1,_⟩
   · omega
   · exact hd.own _ x v z3 v3
   · omega
 · rcases hv' with ⟨v1,_⟩|⟨_,v1,_⟩|⟨_,v2⟩
   · omega
   · omega
   · exact h.own k x v z2 v2

inductive RowsW (g:Gh) (w:World):List AV→List Value→Prop where
 | nil:RowsW g w [] []
 | cons {p:AV} {v:Value} {ps:List AV} {vs:List Value} (h:p.plain=true→RowOK g w (p.cells.map AV.cellW1) v.cells.toList) (t:RowsW g w ps vs):RowsW g w (p::ps) (v::vs)

theorem fillRowsM_rel {sz:Nat}:∀ {is:List Nat} {ps:List AV} {rs rs':List (List AV)} {arr:Array Value} {vs:List Value},
 fillRowsM sz is ps rs=some rs'→RowsW g w ps vs→(∀ x∈rs,x.length=sz)→RowOK g w rs.flatten arr.toList →
 ∃ arr',Instr.fill (fun i=>some (i*sz,sz)) arr (is.zip vs)=some arr'∧(∀ x∈rs',x.length=sz)∧RowOK g w rs'.flatten arr'.toList∧rs'.length=rs.length
 | [],[],rs,rs',arr,vs,h,ha,hr,hl=>by
  simp only [fillRowsM,Option.some.injEq] at h
  subst h
  exact ⟨arr,by simp [Instr.fill],hr,hl,rfl⟩
 | i::is,p::ps,rs,rs',arr,vs,h,ha,hr,hl=>by
  simp only [fillRowsM] at h
  split at h
  · rename_i hc
    obtain ⟨hplain,hlen,hi⟩:=hc
    cases ha with
    | cons h2 h3 =>
     rename_i v vs
     have hcell:=h2 hplain
     have hcl:(p.cells.map AV.cellW1).length=sz:=by simpa using hlen
     have hvl:v.cells.toList.length=v.cells.size:=by simp
     have hsz:v.cells.size=sz:=by have:=hcell.rel.length; omega
     have hfl:=flatten_len hr
     have hal:rs.flatten.length=arr.size:=hl.rel.length.trans (by simp)
     have hle:i*sz+sz≤arr.size:=by
      rw [← hal,hfl,← Nat.succ_mul]; exact Nat.mul_le_mul_right _ hi
     have hf:=fill_one v (i*sz) arr (by omega)
     have r1:=row_setO (off:=i*sz) hl hcell (by simp; omega)
     rw [hvl,← hf] at r1
     rw [← flatten_set hcl hr hi] at r1
     obtain ⟨arr',e1,e2,e3,e5⟩:=fillRowsM_rel h h3 (fun x hx=>by
      rcases List.mem_or_eq_of_mem_set hx with hx|hx
      · exact hr x hx
      · rw [hx]; exact hcl) r1
     refine ⟨arr',?_,e2,e3,by rw [e5,List.length_set]⟩
     simp only [List.zip_cons_cons,Instr.fill]
     rw [if_neg (by simp; omega)]
     exact e1
  · cases h
 | [],_::_,_,_,_,_,h,_,_,_=>by simp [fillRowsM] at h
 | _::_,[],_,_,_,_,h,_,_,_=>by simp [fillRowsM] at h

theorem bsliceM_ok (fx:Fx c) (h:S c g w pr bx σ a) {t e len sz:Nat} {parts:Array (Nat×Operand)} {ie:TypeInfo} {z:Value} {zero rs:List (List AV)} {z1:List AV} {is:List Nat} {q:Opd} {x:Operand} {d:Dst}
 (ho:o.op=.buildSlice t len parts) (hu:c.P.underlying t=some (.slice e)) (hie:c.P.info? e=some ie) (hz:ie.zero=some z) (hsz:ie.size=sz) (hzs:z.cells.size=sz) (hsmall:len*sz≤2 ^ 24) (hpos:len*sz≠0)
 (hz1:constsOK z.cells.toList z1=true) (hzero:zero=List.replicate len z1) (his:parts.toList.map (·.1)=is) (hx:parts.toList.map (·.2)=[x]) (hq:opdOK c x q=true) (hs:fillRowsM sz is [q.read σ] zero=some rs)
 (hd:dstOK c o.dst d=true) (hsome:o.dst.isSome=true) {next:Act→World→Prop} {Q:Exit→Act→World→Prop} (hnext:Post c g w a (d.put (.fresh rs) (q.spend σ)) next):o.wp c.P a w next Q:=by
 subst hsz; subst his
 obtain ⟨pr1,hS,hA,_⟩:=arg_spend h hq .fly
 have hst1:(q.spend σ).st=σ.st:=by cases q <;> rfl
 have hev:parts.toList.map (fun p=>a.eval p.2)=[a.eval x]:=by
  have:=congrArg (List.map a.eval) hx
  simpa using this
 have hr:RowsW g w [q.read σ] (parts.toList.map fun p=>a.eval p.2):=by
  rw [hev]
  exact .cons (fun hp=>cells_okW1 hA hp) .nil
 obtain ⟨q1,q2,q3⟩:=constsOK_rel hz1 g w
 have hz1l:z1.length=ie.size:=by rw [q1.length,Array.length_toList]; exact hzs
 have hrows0:∀ x∈zero,x.length=ie.size:=fun x hx=>by rw [hzero] at hx; rw [List.eq_of_mem_replicate hx]; exact hz1l
 have hrep:∀ n,RowOK g w (List.replicate n z1).flatten (List.replicate n z.cells.toList).flatten:=by
  intro n
  induction n with
  | zero=>exact ⟨by simp [RelL],by simp,by simp⟩
  | succ n ih =>
   rw [List.replicate_succ,List.replicate_succ,List.flatten_cons,List.flatten_cons]
   exact RowOK.append ⟨q1,q2,q3⟩ ih
 have hz0:=zeros_flat z.cells len
 obtain ⟨arr,e1,e2,e3,e5⟩:=fillRowsM_rel (arr:=(Array.range (len*z.cells.size)).map (z.cells[· % z.cells.size]!)) hs hr hrows0 (by rw [hz0,hzero]; exact hrep len)
 rw [hzs] at e1
 rw [← zip_parts] at e1
 have hrun:=run_buildSlice (P:=c.P) w t e len (parts.map fun (i,x)=>(i,a.eval x)) arr ie z hu hie hz (by omega) hpos (by
  rw [hzs,show (parts.map fun (i,x)=>(i,a.eval x)).toList=parts.toList.map fun p=>(p.1,a.eval p.2) by simp]; exact e1)
 have hlen:rs.length=len:=by rw [e5,hzero,List.length_replicate]
 have hal:arr.toList.length=len*ie.size:=by rw [← e3.rel.length,flatten_len e2,hlen]
 let g2:=g.claim w.heap.size 0 (len*ie.size)
 have hnew:=heap_alloc_new w (_root_.Go.Obj.cells arr e)
 have he:Ext g w g2 (w.alloc (.cells arr e)):=⟨Nat.le_refl _,fun _ _=>rfl,fun _ _=>rfl,fun b f hf=>.inl hf,fun b f hf=>World.cell?_alloc_lt _ _ _ (h.st.cli b f hf)⟩
 have hsame:∀ b,b < w.heap.size→Same g w g2 (w.alloc (.cells arr e)) b:=fun b hb=>⟨heap_alloc_old w _ hb,fun f hf=>by
  rcases hf with hf|⟨e',_⟩
  · exact hf
  · omega⟩
 have hcell:∀ j,(w.alloc (.cells arr e)).cell? (ad w.heap.size j)=arr.toList[j]?:=fun j=>by
  rw [cell_of_row _ _ j arr e (0,0) hnew,← Array.getElem?_toList]
 have hrel:Rel g2 (w.alloc (.cells arr e)) (.fresh rs) (.slice (some (ad w.heap.size 0)) len len):=by
  simp only [Rel]
  refine ⟨_,_,_,ie.size,rfl,hlen.symm,Nat.le_refl _,RelRows.mk e2 (e3.rel.ext he _ _) (fun j u hj=>?_) e3.one (fun j hj=>.inr ⟨rfl,by omega,by omega⟩),fun k ys hk=>?_⟩
  · show (w.alloc (.cells arr e)).cell? (ad w.heap.size (0+j))=some u
    rw [Nat.zero_add,hcell]
    exact hj
  · obtain ⟨v,hv,_⟩:=e3.rel.get hk
    obtain ⟨a0,n0,hv0⟩:=e3.own k _ v hk hv ys rfl
    have hkl:=(List.getElem?_eq_some_iff.1 hv).1
    refine ⟨.inr ⟨rfl,by omega,by omega⟩,a0,n0,?_⟩
    rw [hcell,hv,hv0]
 unfold Oper.wp
 rw [show (execOp a.eval o).run c.P w=.ok (.value (.slice (some ⟨w.heap.size,0,none⟩) len len)) (w.alloc (.cells arr e)) by
  simp only [execOp,ho,Sem.run_bind,hrun,Result.andThen_ok,Sem.run_pure]]
 have hstr:SRel g2 (w.alloc (.cells arr e)) σ.st:=h.st.evolve he rfl (by simp) (fun b q hq=>⟨hq,hsame b (h.st.inn b q hq)⟩) (fun _ _ x=>x) (fun b f hf=>by
  rcases hf with hf|⟨e',_⟩
  · exact .inl hf
  · right; simp; omega)
 refine hnext _ _ g2 pr1 bx (defers_put _ _ _) ?_ ⟨he,by simp,Env.alloc w _ (by intro c t z e; cases e; rfl),fun b hb hs' _=>⟨hsame b hb,hs'⟩⟩
 have:=eff_put fx hS hd hsome he hstr (pr2:=pr1) (fun b p hb _=>⟨hb,hsame b (hS.fr.prv b p hb).2.1⟩)
  (fun b p hb=>⟨(hS.fr.prv b p hb).1,by have:=(hS.fr.prv b p hb).2.1; simp; omega,(hS.fr.prv b p hb).2.2⟩) (by simp) hS.stA (r:=.fresh rs) (v:=.slice (some ⟨w.heap.size,0,none⟩) len len)
  ⟨hrel,fun zs ez=>(by cases ez),fun _ ez=>(by cases ez)⟩
 have est:∀ (τ:Sig),τ.st=σ.st→({ d.put (.fresh rs) τ with st:=σ.st }:Sig)=d.put (.fresh rs) τ:=fun τ hτ=>by cases d <;> simp [Dst.put,← hτ]
 rw [est _ hst1] at this
 exact this

theorem bsliceO_ok (fx:Fx c) (h:S c g w pr bx σ a) {t e len sz:Nat} {parts:Array (Nat×Operand)} {ie:TypeInfo} {z:Value} {zero rs:List (List AV)} {z1:List AV} {is:List Nat} {q:Opd} {x:Operand} {d:Dst}
 (ho:o.op=.buildSlice t len parts) (hu:c.P.underlying t=some (.slice e)) (hie:c.P.info? e=some ie) (hz:ie.zero=some z) (hsz:ie.size=sz) (hzs:z.cells.size=sz) (hsmall:len*sz≤2 ^ 24) (hpos:len*sz≠0)
 (hz1:constsOK z.cells.toList z1=true) (hzero:zero=List.replicate len z1) (his:parts.toList.map (·.1)=is) (hx:parts.toList.map (·.2)=[x]) (hq:opdOK c x q=true) (hs:fillRowsM sz is [q.read σ] zero=some rs)
 (hd:dstOK c o.dst d=true) (hsome:o.dst.isSome=true) {next:Act→World→Prop} {Q:Exit→Act→World→Prop} (hnext:Post c g w a (d.put (.sl σ.st.length 0 len sz) { q.spend σ with st:=σ.st++[.cells rs.flatten] }) next):o.wp c.P a w next Q:=by
 subst hsz; subst his
 obtain ⟨pr1,hS,hA,_⟩:=arg_spend h hq .fly
 have hst1:(q.spend σ).st=σ.st:=by cases q <;> rfl
 have hev:parts.toList.map (fun p=>a.eval p.2)=[a.eval x]:=by
  have:=congrArg (List.map a.eval) hx
  simpa using this
 have hr:RowsW g w [q.read σ] (parts.toList.map fun p=>a.eval p.2):=by
  rw [hev]
  exact .cons (fun hp=>cells_okW1 hA hp) .nil
 obtain ⟨q1,q2,q3⟩:=constsOK_rel hz1 g w
 have hz1l:z1.length=ie.size:=by rw [q1.length,Array.length_toList]; exact hzs
 have hrows0:∀ x∈zero,x.length=ie.size:=fun x hx=>by rw [hzero] at hx; rw [List.eq_of_mem_replicate hx]; exact hz1l
 have hrep:∀ n,RowOK g w (List.replicate n z1).flatten (List.replicate n z.cells.toList).flatten:=by
  intro n
  induction n with
  | zero=>exact ⟨by simp [RelL],by simp,by simp⟩
  | succ n ih =>
   rw [List.replicate_succ,List.replicate_succ,List.flatten_cons,List.flatten_cons]
   exact RowOK.append ⟨q1,q2,q3⟩ ih
 have hz0:=zeros_flat z.cells len
 obtain ⟨arr,e1,e2,e3,e5⟩:=fillRowsM_rel (arr:=(Array.range (len*z.cells.size)).map (z.cells[· % z.cells.size]!)) hs hr hrows0 (by rw [hz0,hzero]; exact hrep len)
 rw [hzs] at e1
 rw [← zip_parts] at e1
 have hrun:=run_buildSlice (P:=c.P) w t e len (parts.map fun (i,x)=>(i,a.eval x)) arr ie z hu hie hz (by omega) hpos (by
  rw [hzs,show (parts.map fun (i,x)=>(i,a.eval x)).toList=parts.toList.map fun p=>(p.1,a.eval p.2) by simp]; exact e1)
 have hlen:rs.length=len:=by rw [e5,hzero,List.length_replicate]
 have hal:arr.toList.length=len*ie.size:=by rw [← e3.rel.length,flatten_len e2,hlen]
 have har:arr.size=len*ie.size:=by rw [← hal,Array.length_toList]
 have hexec:(execOp a.eval o).run c.P w=.ok (.value (.slice (some (ad w.heap.size 0)) len len)) (w.alloc (.cells arr e)):=by
  simp only [execOp,ho,Sem.run_bind,hrun,Result.andThen_ok,Sem.run_pure]
 rw [← hst1] at hnext
 exact nobj_ok fx hS hd hexec (cap:=arr.size) (by intro c t z e; cases e; rfl) (newobj_cells hS e3) (.inr (.inr ⟨len,ie.size,rfl,rfl,har.symm⟩)) hnext

noncomputable def Gh.grow (g:Gh) (od:Option Nat) (bb cpv:Nat):Gh where
 n:=g.n+1
 m:=fun o=>if o=g.n then bb else g.m o
 cl:=g.cl
 sr:=fun b=>if b=bb then some (g.n,none) else match g.sr b with
  | some (o,some k)=>if od=some o then some (g.n,some k) else some (o,some k)
  | r=>r
 cp:=fun o=>if o=g.n then cpv else g.cp o

theorem grow_sr {od:Option Nat} {bb cpv b o:Nat} {k:Option Nat} (h:g.sr b=some (o,k)) (hb:b≠bb) (ho:od≠some o):(g.grow od bb cpv).sr b=some (o,k):=by
 simp only [Gh.grow]
 rw [if_neg hb,h]
 cases k with
 | none=>rfl
 | some k=>simp only; rw [if_neg ho]
theorem grow_sr_od {bb cpv b o k:Nat} (h:g.sr b=some (o,some k)) (hb:b≠bb):(g.grow (some o) bb cpv).sr b=some (g.n,some k):=by
 simp only [Gh.grow]
 rw [if_neg hb,h]
 simp
theorem grow_sr_none {od:Option Nat} {bb cpv b:Nat} (h:g.sr b=none) (hb:b≠bb):(g.grow od bb cpv).sr b=none:=by
 simp only [Gh.grow]
 rw [if_neg hb,h]
theorem grow_sr_inv {od:Option Nat} {bb cpv b:Nat} {p:Nat×Option Nat} (h:(g.grow od bb cpv).sr b=some p):b=bb∨∃ q,g.sr b=some q:=by
 simp only [Gh.grow] at h
 split at h
 · exact .inl ‹_›
 · cases hq:g.sr b with
   | none=>rw [hq] at h; cases h
   | some q=>exact .inr ⟨q,rfl⟩

theorem growM (h:S c g w pr bx σ a) {w2:World} {od:Option Nat} {bb cpv:Nat} {cs:List AV} {st2:St} (henv:Env w w2) (hsz:w.heap.size≤w2.heap.size) (hbb:bb < w2.heap.size)
 (hold:∀ b,b≠bb→b < w.heap.size→w2.heap[b]?=w.heap[b]?) (hnc:∀ f,¬ g.cl bb f) (hbr:bb=w.heap.size∨∃ o,od=some o∧g.sr bb=some (o,none))
 (hl2:st2.length=g.n+1) (hst2:∀ x ob,st2[x]?=some ob→(x=g.n∧ob=.cells cs)∨ob=.dead∨(σ.st[x]?=some ob∧od≠some x))
 (hob:Ext g w (g.grow od bb cpv) w2→ObjOK (g.grow od bb cpv) w2 g.n (.cells cs)) :
 S c (g.grow od bb cpv) w2 pr bx { σ with st:=st2 } a∧Tr c.A g w (g.grow od bb cpv) w2:=by
 have he:Ext g w (g.grow od bb cpv) w2:=⟨by simp [Gh.grow],fun o ho=>by simp [Gh.grow,Nat.ne_of_lt ho],fun o ho=>by simp [Gh.grow,Nat.ne_of_lt ho],fun _ _ h=>h,
  fun b f hf=>World.cell?_of_block (hold b (fun e=>hnc f (e ▸ hf)) (h.st.cli b f hf))⟩
 have hsame:∀ b,b≠bb→b < w.heap.size→Same g w (g.grow od bb cpv) w2 b:=fun b h1 h2=>⟨hold b h1 h2,fun _ x=>x⟩
 have hnb:∀ b,b < w.heap.size→g.sr b=none→b≠bb:=fun b hb hs e=>by
  subst e
  rcases hbr with rfl|⟨o,_,ho⟩
  · omega
  · rw [hs] at ho; cases ho
 have htr:Tr No g w (g.grow od bb cpv) w2:=⟨he,hsz,henv,fun b hb hs _=>⟨hsame b (hnb b hb hs) hb,grow_sr_none hs (hnb b hb hs)⟩⟩
 have hA:c.A bb:=by
  rcases hbr with rfl|⟨o,_,ho⟩
  · exact h.fresh _ (Nat.le_refl _)
  · exact h.stA _ _ ho
 refine ⟨⟨h.fr.evolve htr,⟨hl2.symm ▸ rfl,fun x ob hx=>?_,fun b p hb=>?_,fun b f hf=>Nat.lt_of_lt_of_le (h.st.cli b f hf) hsz⟩,h.gl.ext he,fun b hb=>h.fresh b (Nat.le_trans hsz hb),fun b p hb=>?_⟩,htr.wider fun _ x=>x.elim⟩
 · rcases hst2 x ob hx with ⟨rfl,rfl⟩|rfl|⟨h1,h2⟩
   · exact hob he
   · trivial
   · refine (h.st.obj x ob h1).mono (by rw [h.st.n]; exact (List.getElem?_eq_some_iff.1 h1).1) he fun b k hb=>?_
     have hlt:=h.st.inn b _ hb
     have hne:b≠bb:=fun e=>by
      subst e
      rcases hbr with rfl|⟨o,ho1,ho2⟩
      · omega
      · rw [hb] at ho2
        simp only [Option.some.injEq,Prod.mk.injEq] at ho2
        exact h2 (ho1.trans (by rw [ho2.1]))
     exact ⟨grow_sr hb hne h2,hsame b hne hlt⟩
 · rcases grow_sr_inv hb with rfl|⟨q,hq⟩
   · exact hbb
   · exact Nat.lt_of_lt_of_le (h.st.inn b q hq) hsz
 · rcases grow_sr_inv hb with rfl|⟨q,hq⟩
   · exact hA
   · exact h.stA b q hq

theorem append_new {t ty e:TypeId} {i:TypeInfo} {z:Value} (hu:c.P.underlying t=some (.slice e)) (hi:c.P.info? e=some i) (hz:i.zero=some z) (hzs:z.cells.size=i.size) (hb1:0 < i.bytes)
 {a0:Option Addr} {n cap m c1:Nat} {us vs:List Value} {a1:Addr} (hnil:a0=none→cap=0) (hle:n≤cap) (ul:us.length=n*i.size) (uc:∀ b0,a0=some b0→∀ (j:Nat) u,us[j]?=some u→w.cell? (b0.add j)=some u)
 (vl:vs.length=m*i.size) (vc:∀ (j:Nat) u,vs[j]?=some u→w.cell? (a1.add j)=some u) (hm:0 < m) (hroom:¬ n+m≤cap) (hb:(n+m)*i.bytes≤140737488355328) :
 ∃ (C:Array Value) (cap':Nat),(Builtin.append_ #[t,t] ty #[.slice a0 n cap,.slice (some a1) m c1]).run c.P w =
  .ok (.slice (some (ad w.heap.size 0)) (n+m) cap') (w.drew.alloc (.cells C e))∧C.toList.take ((n+m)*i.size)=us++vs∧C.size=cap'*i.size∧n+m≤cap'∧cap'≤maxLen:=by
 have hsmall:n+m≤140737488355328:=Nat.le_trans (Nat.le_mul_of_pos_right _ hb1) hb
 have hml:n+m≤maxLen:=by unfold maxLen; omega
 have hge:=grownCap_ge w (n+m) cap e
 have hlen:(us++vs).length=(n+m)*i.size:=by rw [List.length_append,ul,vl,Nat.add_mul]
 have hzl:∀ k,(Builtin.zeroCells z.cells k).size=k*i.size:=fun k=>by rw [size_zeroCells,hzs]
 cases a0 with
 | none =>
  have hc0:=hnil rfl
  obtain rfl:n=0:=by omega
  subst hc0
  have hu0:us=[]:=List.eq_nil_of_length_eq_zero (by simpa using ul)
  subst hu0
  simp only [Nat.zero_add] at hge hb hsmall hml ⊢
  refine ⟨_,_,run_append_nil (P:=c.P) w t ty e i z hu hi hz a1 m c1 vs vl vc hm (by omega) (by omega),?_,?_,hge,grownCap_le_maxLen w m 0 e hml⟩
  · rw [Array.toList_append,List.toList_toArray,List.nil_append,← vl,List.take_left]
  · rw [Array.size_append,hzl,List.size_toArray,vl,← Nat.add_mul]
    congr 1; omega
 | some b0 =>
  refine ⟨_,_,run_append_grow (P:=c.P) w t ty e i z hu hi hz b0 n cap us ul (uc b0 rfl) a1 m c1 vs vl vc (by omega) (by omega) (growslice_fits (by omega) hb),?_,?_,hge,grownCap_le_maxLen w _ cap e hml⟩
  · simp only [Array.toList_append,List.append_assoc]
    rw [← List.append_assoc,← hlen]
    exact List.take_left
  · simp only [Array.size_append,List.size_toArray,hzl,ul,vl,← Nat.add_mul]
    congr 1; omega

theorem appM_ok (fx:Fx c) (h:S c g w pr bx σ a) {t e sz bytes:Nat} {i:TypeInfo} {z:Value} {x y:Operand} {p0 p1:Opd} {gs:List AV} {d:Dst} {at_:Array TypeId}
 (ho:o.op=.call { callee:=.builtin .append,args:=#[x,y],argTypes:=at_ }) (hat:at_=#[t,t]) (hu:c.P.underlying t=some (.slice e)) (hi:c.P.info? e=some i) (hz:i.zero=some z) (hsz:i.size=sz) (hby:i.bytes=bytes)
 (hzs:z.cells.size=sz) (hb1:0 < bytes) (hp0:opdOK c x p0=true) (hp1:opdN c y p1=true) (hd:dstOK c o.dst d=true) {b b' r:AV} {st':St}
 (hs:semAppM sz bytes call (p0.read σ::p1.read σ::gs) b σ.st=some (r,b',st'))
 {next:Act→World→Prop} {Q:Exit→Act→World→Prop} (hnext:Post c g w a (d.put r { p0.spend σ with st:=st' }) next):o.wp c.P a w next Q:=by
 subst hsz; subst hby
 have h47:(2:Nat) ^ 47=140737488355328:=by decide
 obtain ⟨pr1,hS,hA,_⟩:=arg_spend h hp0 d.pl
 have hY:=read_ok h hp1
 have hst1:(p0.spend σ).st=σ.st:=by cases p0 <;> rfl
 -- the rows that are added
 have rows:∀ (ys:List (List AV)),p1.read σ=.fresh ys→rowsOk i.size ys=true →
  ∃ c1 bb vs,a.eval y=.slice (some (ad bb 0)) ys.length c1∧vs.length=ys.length*i.size∧RelL g w ys.flatten vs∧(∀ v∈vs,v.oneCell'=true)∧(∀ (k:Nat) (x:AV) (v:Value),ys.flatten[k]?=some x→vs[k]?=some v→OwnN x v) ∧
   ∀ (j:Nat) u,vs[j]?=some u→w.cell? ((ad bb 0).add j)=some u:=by
  intro ys e1 hrw
  rw [e1] at hY
  have hr:Rel g w (.fresh ys) (a.eval y):=ValOK.rel hY
  simp only [Rel] at hr
  obtain ⟨bb,n,c1,sz',ev,rfl,hc1,hrows,hN⟩:=hr
  have hlen:=rows_len hrw hrows
  have hvals:∃ us,us.length=ys.length*i.size∧RelL g w ys.flatten us∧w.rangeAt bb 0 us∧(∀ u∈us,u.oneCell'=true):=by
   cases ys with
   | nil=>exact ⟨[],by simp,by simp [RelL],fun j v hv=>by simp at hv,by simp⟩
   | cons y0 ys =>
    obtain rfl:sz'=i.size:=by have h1:=hrows.all y0 (by simp); have h2:=hlen y0 (by simp); omega
    obtain ⟨us,u1,u2,u3,u4,_⟩:=hrows.vals
    exact ⟨us,u1,u2,u3,u4⟩
  obtain ⟨vs,u1,u2,u3,u4⟩:=hvals
  refine ⟨c1,bb,vs,ev,u1,u2,u4,fun k x v hx hv zs e2=>?_,fun j u hj=>?_⟩
  · subst e2
    obtain ⟨_,a0,n0,hc⟩:=hN k zs hx
    have:=u3 k v hv
    rw [Nat.zero_add] at this
    rw [show (⟨bb,k,none⟩:Addr)=ad bb k from rfl,hc] at this
    exact ⟨a0,n0,(Option.some.inj this).symm⟩
  · rw [Addr.add_ad]
    exact u3 j u hj
 -- what comes out
 have fin:∀ (od:Option Nat) (bb cpv k:Nat) (w2:World) (cs:List AV) (st2:St) (cap':Nat),Env w w2→w.heap.size≤w2.heap.size→bb < w2.heap.size→(∀ b,b≠bb→b < w.heap.size→w2.heap[b]?=w.heap[b]?)→(∀ f,¬ g.cl bb f) →
  (bb=w.heap.size∨∃ o,od=some o∧g.sr bb=some (o,none))→st2.length=g.n+1→(∀ x ob,st2[x]?=some ob→(x=g.n∧ob=.cells cs)∨ob=.dead∨(σ.st[x]?=some ob∧od≠some x)) →
  (Ext g w (g.grow od bb cpv) w2→ObjOK (g.grow od bb cpv) w2 g.n (.cells cs))→k≤cap'→cap'*i.size=cpv →
  (Builtin.append_ #[t,t] o.type #[a.eval x,a.eval y]).run c.P w=.ok (.slice (some (ad bb 0)) k cap') w2→r=.sl σ.st.length 0 k i.size→st'=st2→o.wp c.P a w next Q:=by
  intro od bb cpv k w2 cs st2 cap' f1 f2 f3 f4 f5 f6 f7 f8 f9 f10 f11 hrun er es
  subst er; subst es
  obtain ⟨hS2,htr⟩:=growM hS f1 f2 f3 f4 f5 f6 f7 (by rw [hst1]; exact f8) f9
  have hrun':=run_append_op (c:=c) (w:=w) ho hat rfl rfl hrun
  unfold Oper.wp
  rw [hrun',Oper.upon_value]
  refine hnext _ _ _ pr1 bx (defers_put _ _ _) (put_ok fx hS2 hd (mine:=No) ?_ fun _ x=>x.elim) htr
  refine (show ValOK _ _ No (.sl _ _ _ _) _ from ValOK.mk' ?_ (by simp) (by simp))
  simp only [Rel]
  rw [← h.st.n]
  exact ⟨by simp [Gh.grow],cap',by simp [Gh.grow],f10,by simp [Gh.grow,f11]⟩
 have hstl:σ.st.length=g.n:=h.st.n.symm
 have last:∀ (st0:St) (cs:List AV) (x:Nat) (ob:Obj),st0.length=σ.st.length→¬ x < σ.st.length→(st0++[Obj.cells cs])[x]?=some ob→x=g.n∧ob=.cells cs:=by
  intro st0 cs x ob hl0 hge hx
  rw [List.getElem?_append_right (by omega)] at hx
  have hx0:x - st0.length=0:=by
   rcases Nat.eq_zero_or_pos (x - st0.length) with h0|h0
   · exact h0
   · rw [List.getElem?_eq_none (by simp; omega)] at hx; cases hx
  rw [hx0] at hx
  simp at hx
  exact ⟨by omega,hx.symm⟩
 unfold semAppM at hs
 split at hs <;> first|cases hs; done|skip
 · rename_i ys gs' heq
   simp only [List.cons.injEq] at heq
   obtain ⟨e0,e1,rfl⟩:=heq
   split at hs <;> first|cases hs; done|skip
   rename_i hcond
   obtain ⟨hne,hrw,hbb,_⟩:=hcond
   simp only [Option.some.injEq,Prod.mk.injEq] at hs
   obtain ⟨rfl,rfl,rfl⟩:=hs
   have hm:0 < ys.length:=by cases ys with|nil=>simp at hne|cons _ _=>simp
   obtain ⟨c1,by_,vs,ev,vl,vr,v1,vo,vc⟩:=rows ys e1 hrw
   rw [e0] at hA
   have hA:ValOK g w (fun b=>pr1 b=some d.pl) (.list true []) (a.eval x):=hA
   obtain ⟨a0,n0,eu,hn0⟩:∃ a0 n0,a.eval x=.slice a0 n0 n0∧n0=0:=by
    have hr:=hA.rel
    simp only [Rel] at hr
    obtain ⟨ad',n',cap',eu,rfl,_⟩:=hr
    rcases hA.own [] rfl with ⟨a2,n2,h2⟩|⟨_,_,_,_,_,_,_,_,_,h2,_⟩
    · rw [eu] at h2
      simp only [Value.slice.injEq] at h2
      obtain ⟨rfl,h3,h4⟩:=h2
      exact ⟨ad',n2,by rw [eu,h4,h3],h3.symm⟩
    · exact absurd rfl h2
   subst hn0
   obtain ⟨C,cap',hrun,hC,hCs,hcap',hcm⟩:=append_new (c:=c) (w:=w) (ty:=o.type) hu hi hz hzs hb1 (a0:=a0) (n:=0) (cap:=0) (m:=ys.length) (c1:=c1) (us:=[]) (vs:=vs) (a1:=ad by_ 0) (fun _=>rfl) (Nat.le_refl _) (by simp) (by simp) vl vc hm (by omega) (by rw [Nat.zero_add,← h47]; exact hbb)
   rw [← eu,← ev] at hrun
   simp only [Nat.zero_add,List.nil_append] at hrun hC hcap'
   have hnew:(w.drew.alloc (.cells C e)).heap[w.heap.size]?=some (.cells C e (0,0)):=heap_alloc_new w.drew _
   have hyl:ys.flatten.length=ys.length*i.size:=by rw [vr.length,vl]
   refine fin none w.heap.size C.size ys.length (w.drew.alloc (.cells C e)) ys.flatten _ cap' ((Env.drawn (w:=w) (w':=w.drew) rfl rfl rfl).trans (Env.alloc w.drew _ (by intro c t z e; cases e; rfl))) (by simp) (by simp)
    (fun b _ hb=>heap_alloc_old w.drew _ hb) (fun f hf=>Nat.lt_irrefl _ (h.st.cli _ f hf)) (.inl rfl) (by rw [List.length_append,← h.st.n]; rfl) (fun x ob hx=>?_) (fun he=>?_) hcap' hCs.symm hrun rfl rfl
   · by_cases hlt:x < σ.st.length
     · rw [List.getElem?_append_left hlt] at hx
       exact .inr (.inr ⟨hx,by simp⟩)
     · exact .inl (last σ.st _ x ob rfl hlt hx)
   · refine ⟨by simp [Gh.grow],fun f hf=>?_,C,e,by simp only [Gh.grow,if_true]; exact hnew,by simp [Gh.grow],?_,?_,fun k x v hx hv=>?_⟩
     · simp only [Gh.grow,if_true] at hf
       exact Nat.lt_irrefl _ (h.st.cli _ f hf)
     · rw [hyl,hC]; exact vr.ext he _ _
     · rw [hyl,hC]; exact v1
     · refine OwnN.own (vo k x v hx ?_)
       rw [← hC,List.getElem?_take,if_pos (by rw [← hyl]; exact (List.getElem?_eq_some_iff.1 hx).1)]
       simpa using hv
 · rename_i ys gs' heq
   simp only [List.cons.injEq] at heq
   obtain ⟨e0,e1,rfl⟩:=heq
   split at hs <;> first|cases hs; done|skip
   rename_i hcond
   obtain ⟨hne,hrw,hbb,_⟩:=hcond
   simp only [Option.some.injEq,Prod.mk.injEq] at hs
   obtain ⟨rfl,rfl,rfl⟩:=hs
   have hm:0 < ys.length:=by cases ys with|nil=>simp at hne|cons _ _=>simp
   obtain ⟨c1,by_,vs,ev,vl,vr,v1,vo,vc⟩:=rows ys e1 hrw
   rw [e0] at hA
   have hA:ValOK g w (fun b=>pr1 b=some d.pl) .nils (a.eval x):=hA
   have eu:a.eval x=.slice none 0 0:=by
    have hr:=hA.rel
    simpa [Rel] using hr
   obtain ⟨C,cap',hrun,hC,hCs,hcap',hcm⟩:=append_new (c:=c) (w:=w) (ty:=o.type) hu hi hz hzs hb1 (a0:=none) (n:=0) (cap:=0) (m:=ys.length) (c1:=c1) (us:=[]) (vs:=vs) (a1:=ad by_ 0) (fun _=>rfl) (Nat.le_refl _) (by simp) (by simp) vl vc hm (by omega) (by rw [Nat.zero_add,← h47]; exact hbb)
   rw [← eu,← ev] at hrun
   simp only [Nat.zero_add,List.nil_append] at hrun hC hcap'
   have hnew:(w.drew.alloc (.cells C e)).heap[w.heap.size]?=some (.cells C e (0,0)):=heap_alloc_new w.drew _
   have hyl:ys.flatten.length=ys.length*i.size:=by rw [vr.length,vl]
   refine fin none w.heap.size C.size ys.length (w.drew.alloc (.cells C e)) ys.flatten _ cap' ((Env.drawn (w:=w) (w':=w.drew) rfl rfl rfl).trans (Env.alloc w.drew _ (by intro c t z e; cases e; rfl))) (by simp) (by simp)
    (fun b _ hb=>heap_alloc_old w.drew _ hb) (fun f hf=>Nat.lt_irrefl _ (h.st.cli _ f hf)) (.inl rfl) (by rw [List.length_append,← h.st.n]; rfl) (fun x ob hx=>?_) (fun he=>?_) hcap' hCs.symm hrun rfl rfl
   · by_cases hlt:x < σ.st.length
     · rw [List.getElem?_append_left hlt] at hx
       exact .inr (.inr ⟨hx,by simp⟩)
     · exact .inl (last σ.st _ x ob rfl hlt hx)
   · refine ⟨by simp [Gh.grow],fun f hf=>?_,C,e,by simp only [Gh.grow,if_true]; exact hnew,by simp [Gh.grow],?_,?_,fun k x v hx hv=>?_⟩
     · simp only [Gh.grow,if_true] at hf
       exact Nat.lt_irrefl _ (h.st.cli _ f hf)
     · rw [hyl,hC]; exact vr.ext he _ _
     · rw [hyl,hC]; exact v1
     · refine OwnN.own (vo k x v hx ?_)
       rw [← hC,List.getElem?_take,if_pos (by rw [← hyl]; exact (List.getElem?_eq_some_iff.1 hx).1)]
       simpa using hv
 · rename_i gs' heq
   simp only [List.cons.injEq] at heq
   obtain ⟨e0,e1,rfl⟩:=heq
   split at hs <;> first|cases hs; done|skip
   simp only [Option.some.injEq,Prod.mk.injEq] at hs
   obtain ⟨rfl,rfl,rfl⟩:=hs
   rw [e0] at hA
   have hA:ValOK g w (fun b=>pr1 b=some d.pl) .nils (a.eval x):=hA
   have eu:a.eval x=.slice none 0 0:=by
    have hr:=hA.rel
    simpa [Rel] using hr
   rw [e1] at hY
   have ev:a.eval y=.slice none 0 0:=by
    have hr:Rel g w .nils (a.eval y):=ValOK.rel hY
    simpa [Rel] using hr
   have hrun:=run_append_op (c:=c) (w:=w) ho hat eu ev (run_append_none (P:=c.P) t o.type e i hu hi none none 0 0 0 (Nat.le_refl _))
   have hsp:({ p0.spend σ with st:=σ.st }:Sig)=p0.spend σ:=by rw [← hst1]
   rw [hsp] at hnext
   unfold Oper.wp
   rw [hrun,Oper.upon_value,← eu]
   exact hnext _ _ g pr1 bx (defers_put _ _ _) (put_ok fx hS hd hA fun _ x=>x) (Tr.refl _ _ _)
 · rename_i oo n s' ys gs' heq
   simp only [List.cons.injEq] at heq
   obtain ⟨e0,e1,rfl⟩:=heq
   split at hs <;> first|cases hs; done|skip
   rename_i xs hx
   split at hs <;> first|cases hs; done|skip
   rename_i hcond
   obtain ⟨rfl,hne,hrw,hxl,hbb,_⟩:=hcond
   simp only [Option.some.injEq,Prod.mk.injEq] at hs
   obtain ⟨rfl,rfl,rfl⟩:=hs
   have hm:0 < ys.length:=by cases ys with|nil=>simp at hne|cons _ _=>simp
   obtain ⟨c1,by_,vs,ev,vl,vr,v1,vo,vc⟩:=rows ys e1 hrw
   have hyl:ys.flatten.length=ys.length*i.size:=by rw [vr.length,vl]
   generalize hmm:ys.length=m at *
   rw [e0] at hA
   have hA:ValOK g w (fun b=>pr1 b=some d.pl) (.sl oo 0 n i.size) (a.eval x):=hA
   have hr:=hA.rel
   simp only [Rel,Nat.zero_add] at hr
   obtain ⟨hoo,cap,eu,hle,hcpv⟩:=hr
   obtain ⟨hrole,hcl,arr,T,hh,hcp,hrel,hone,hown⟩:=h.st.obj oo _ hx
   have hus:(arr.toList.take (n*i.size)).length=n*i.size:=by rw [← hxl,← hrel.length]
   have hln:(xs++ys.flatten).length=n*i.size+m*i.size:=by rw [List.length_append,hxl,hyl]
   have hst2:∀ x ob,(σ.st.set oo .dead++[Obj.cells (xs++ys.flatten)])[x]?=some ob→(x=g.n∧ob=.cells (xs++ys.flatten))∨ob=.dead∨(σ.st[x]?=some ob∧some oo≠some x):=by
    intro x ob hx
    by_cases hlt:x < σ.st.length
    · rw [List.getElem?_append_left (by simpa using hlt)] at hx
      by_cases ex:oo=x
      · subst ex
        rw [List.getElem?_set_self hlt] at hx
        exact .inr (.inl (Option.some.inj hx).symm)
      · rw [List.getElem?_set_ne ex] at hx
        exact .inr (.inr ⟨hx,by simpa using ex⟩)
    · exact .inl (last _ _ x ob (by simp) hlt hx)
   have hob:∀ (bb:Nat) (w2:World) (arr2:Array Value) (T2:TypeId),w2.heap[bb]?=some (.cells arr2 T2 (0,0))→arr2.toList.take (n*i.size+m*i.size)=arr.toList.take (n*i.size)++vs→(∀ f,¬ g.cl bb f) →
    (∀ b,b≠bb→b < w.heap.size→w2.heap[b]?=w.heap[b]?)→(bb=w.heap.size∨g.sr bb=some (oo,none)) →
    Ext g w (g.grow (some oo) bb arr2.size) w2→ObjOK (g.grow (some oo) bb arr2.size) w2 g.n (.cells (xs++ys.flatten)):=by
    intro bb w2 arr2 T2 hh2 htk hnc hold hbr he
    refine ⟨by simp [Gh.grow],fun f hf=>?_,arr2,T2,by simp only [Gh.grow,if_true]; exact hh2,by simp [Gh.grow],?_,?_,fun k x v hk hv=>?_⟩
    · simp only [Gh.grow,if_true] at hf
      exact hnc f hf
    · rw [hln,htk,← hxl]; exact (hrel.ext he _ _).append (vr.ext he _ _)
    · rw [hln,htk,← hxl]
      intro v hv
      rcases List.mem_append.1 hv with hv|hv
      · exact hone v hv
      · exact v1 v hv
    · have hkl:k < n*i.size+m*i.size:=by rw [← hln]; exact (List.getElem?_eq_some_iff.1 hk).1
      have hv2:(arr.toList.take (n*i.size)++vs)[k]?=some v:=by rw [← htk,List.getElem?_take,if_pos hkl]; simpa using hv
      by_cases hkx:k < xs.length
      · rw [List.getElem?_append_left hkx] at hk
        rw [List.getElem?_append_left (by rw [hus]; omega),List.getElem?_take,if_pos (by omega)] at hv2
        refine (hown k x v hk (by simpa using hv2)).mono fun b hb=>?_
        have hlt:=h.st.inn b _ hb
        have hne:b≠bb:=fun e2=>by
         subst e2
         rcases hbr with h0|h0
         · omega
         · rw [hb] at h0; simp at h0
        exact ⟨grow_sr_od hb hne,hold b hne hlt,fun _ x=>x⟩
      · rw [List.getElem?_append_right (by omega)] at hk
        rw [List.getElem?_append_right (by rw [hus]; omega),hus,← hxl] at hv2
        exact OwnN.own (vo _ x v hk hv2)
   by_cases hroom:n+m≤cap
   · have hfit:n*i.size+vs.length≤arr.size:=by rw [vl,hcp,← hcpv,← Nat.add_mul]; exact Nat.mul_le_mul_right _ hroom
     have hrun:=run_append_room2 (P:=c.P) (w:=w) t o.type e i T hu hi (g.m oo) n cap arr hh (ad by_ 0) m c1 vs vl vc v1 hroom hfit
     rw [← eu,← ev] at hrun
     have hal:arr.toList.length=arr.size:=by simp
     generalize hnew:arr.toList.take (n*i.size)++vs++arr.toList.drop (n*i.size+vs.length)=new at *
     have hnl:new.length=arr.size:=by
      rw [← hnew]; simp only [List.length_append,List.length_take,List.length_drop,hal]; omega
     have hh2:=setRow_heap w (g.m oo) arr new.toArray T _ hh
     have hlt:g.m oo < w.heap.size:=h.st.inn _ _ hrole
     refine fin (some oo) (g.m oo) new.toArray.size (n+m) (w.setRow (g.m oo) new.toArray) (xs++ys.flatten) _ cap (Env.setRow _ _ _) (by simp) (by simpa using hlt) (fun b hb _=>setRow_other w _ b _ hb) hcl (.inr ⟨oo,rfl,hrole⟩)
      (by rw [List.length_append,List.length_set,hstl]; rfl) hst2 (hob _ _ _ T hh2 ?_ hcl (fun b hb _=>setRow_other w _ b _ hb) (.inr hrole)) hroom (by simp [hnl,hcp,hcpv]) hrun rfl rfl
     rw [List.toList_toArray,← hnew,List.append_assoc,← List.append_assoc]
     rw [show n*i.size+m*i.size=(arr.toList.take (n*i.size)++vs).length by rw [List.length_append,hus,vl]]
     exact List.take_left
   · obtain ⟨C,cap',hrun,hC,hCs,hcap',hcm⟩:=append_new (c:=c) (w:=w) (ty:=o.type) hu hi hz hzs hb1 (a0:=some (ad (g.m oo) 0)) (n:=n) (cap:=cap) (m:=m) (c1:=c1) (us:=arr.toList.take (n*i.size)) (vs:=vs) (a1:=ad by_ 0) (fun h=>by cases h) hle hus (fun b0 hb0 j u hj=>by
      cases hb0
      rw [Addr.add_ad,cell_of_row w _ _ arr T _ hh]
      rw [List.getElem?_take] at hj
      split at hj
      · simpa using hj
      · cases hj) vl vc hm hroom (by rw [← h47]; exact hbb)
     rw [← eu,← ev] at hrun
     rw [Nat.add_mul] at hC
     have hnew:(w.drew.alloc (.cells C e)).heap[w.heap.size]?=some (.cells C e (0,0)):=heap_alloc_new w.drew _
     refine fin (some oo) w.heap.size C.size (n+m) (w.drew.alloc (.cells C e)) (xs++ys.flatten) _ cap' ((Env.drawn (w:=w) (w':=w.drew) rfl rfl rfl).trans (Env.alloc w.drew _ (by intro c t z e; cases e; rfl))) (by simp) (by simp)
      (fun b _ hb=>heap_alloc_old w.drew _ hb) (fun f hf=>Nat.lt_irrefl _ (h.st.cli _ f hf)) (.inl rfl) (by rw [List.length_append,List.length_set,hstl]; rfl) hst2
      (hob _ _ _ e hnew hC (fun f hf=>Nat.lt_irrefl _ (h.st.cli _ f hf)) (fun b _ hb=>heap_alloc_old w.drew _ hb) (.inl rfl)) hcap' hCs.symm hrun rfl rfl
 · rename_i oo f0 n0 s0 gs' heq
   simp only [List.cons.injEq] at heq
   obtain ⟨e0,e1,rfl⟩:=heq
   split at hs <;> first|cases hs; done|skip
   simp only [Option.some.injEq,Prod.mk.injEq] at hs
   obtain ⟨rfl,rfl,rfl⟩:=hs
   rw [e0] at hA
   have hA:ValOK g w (fun b=>pr1 b=some d.pl) (.sl oo f0 n0 s0) (a.eval x):=hA
   obtain ⟨cap,eu,hle⟩:∃ cap,a.eval x=.slice (some (ad (g.m oo) f0)) n0 cap∧n0≤cap:=by
    have hr:=hA.rel
    simp only [Rel] at hr
    obtain ⟨_,cap,h1,h2,_⟩:=hr
    exact ⟨cap,h1,h2⟩
   rw [e1] at hY
   have ev:a.eval y=.slice none 0 0:=by
    have hr:Rel g w .nils (a.eval y):=ValOK.rel hY
    simpa [Rel] using hr
   have hrun:=run_append_op (c:=c) (w:=w) ho hat eu ev (run_append_none (P:=c.P) t o.type e i hu hi _ none n0 cap 0 hle)
   have hsp:({ p0.spend σ with st:=σ.st }:Sig)=p0.spend σ:=by rw [← hst1]
   rw [hsp] at hnext
   unfold Oper.wp
   rw [hrun,Oper.upon_value,← eu]
   exact hnext _ _ g pr1 bx (defers_put _ _ _) (put_ok fx hS hd hA fun _ x=>x) (Tr.refl _ _ _)
end
end Go.Cb
/-
 THE ABSTRACT MACHINE, part 17: a test that an abstract operation is one of the model's; what passes it is matched.
-/
set_option maxRecDepth 4000
set_option linter.unusedVariables false
namespace Go.Cb
open Classical

def boxOf (p:AOper) (σ:Sig):AV:=match p.box with|some i=>σ.fr.getD i .undef|none=>.undef

section
variable (c:Cx) (o:Oper) (p:AOper)

def plainK (xs:List Operand):Bool:=p.box.isNone && opdsN c xs p.args && dstOK c o.dst p.dst

def ckMv:Bool:=match o.op,p.args with
 | .move x,[q]|.assign x,[q]=>p.box.isNone && opdOK c x q && dstOK c o.dst p.dst
 | _,_=>false
def ckPick:Bool:=match o.op with|.pick x y z=>plainK c o p [x,y,z]|_=>false
def ckNilchk:Bool:=match o.op with|.nilCheck x=>plainK c o p [x]|_=>false
def ckAlloc (zero:List AV):Bool:=match o.op,o.dst,p.box,p.dst,p.args with
 | .alloc t,some s,some i,.bx,[]=>c.slots[i]? == some s && c.bxs.contains i && zeroOK c.P t zero
 | _,_,_,_,_=>false
def ckBoxV:Bool:=match o.op,o.dst,p.box,p.dst,p.args with
 | .box _ x,some s,some i,.bx,[q]=>c.slots[i]? == some s && c.bxs.contains i && opdOK c x q
 | _,_,_,_,_=>false
def ckAllocO (zero:List AV):Bool:=match o.op,p.args with
 | .alloc t,[]=>p.box.isNone && zeroOK c.P t zero && dstOK c o.dst p.dst
 | _,_=>false
def ckBoxO:Bool:=match o.op,p.args with
 | .box _ x,[q]=>p.box.isNone && opdOK c x q && dstOK c o.dst p.dst
 | _,_=>false
def offsOK (places:List (Nat×Nat)):List Nat→List (Nat×Nat)→Bool
 | [],[]=>true
 | i::is,q::qs=>places[i]? == some q && offsOK places is qs
 | _,_=>false
def ckBuild (zero:List AV) (offs:List (Nat×Nat)):Bool:=match o.op with
 | .build t parts=>(match placesOf c.P t with|some places=>offsOK places (parts.toList.map (·.1)) offs|none=>false) && zeroOK c.P t zero && plainK c o p (parts.toList.map (·.2))
 | _=>false
def ckBslice (sz:Nat) (zero:List (List AV)) (at_:List Nat):Bool:=match o.op with
 | .buildSlice t len parts=>match c.P.underlying t with
  | some (.slice e)=>match c.P.info? e,zero with
   | some ie,z1::_=>match ie.zero with
    | some z=>ie.size == sz && z.cells.size == sz && decide (len*sz≤2 ^ 24) && !(len*sz == 0) && constsOK z.cells.toList z1 && zero.length == len && zero.all (eqAVs · z1) &&
     parts.toList.map (·.1) == at_ && plainK c o p (parts.toList.map (·.2)) && o.dst.isSome
    | none=>false
   | _,_=>false
  | _=>false
 | _=>false
def ckLdLc (i:Nat) (agg:Bool) (n:Nat):Bool:=match o.op,p.box with
 | .load t x,some j=>i == j && decide (i < c.slots.length) && isAggB c t == some agg && sizeB c t == some n && opdsN c [x] p.args && dstOK c o.dst p.dst
 | _,_=>false
def ckLdSt (agg:Bool) (n:Nat):Bool:=match o.op with
 | .load t x=>isAggB c t == some agg && sizeB c t == some n && plainK c o p [x]
 | _=>false
def ckLdLcS (i:Nat):Bool:=match o.op,p.box with
 | .load t x,some j=>i == j && decide (i < c.slots.length) && isAggB c t == some false && opdsN c [x] p.args && dstOK c o.dst p.dst
 | _,_=>false
def ckLdStS:Bool:=match o.op with
 | .load t x=>isAggB c t == some false && plainK c o p [x]
 | _=>false
def ckStLc (i n:Nat):Bool:=match o.op,o.dst,p.dst,p.box,p.args with
 | .store t x y,none,.none,some j,[q0,q1]=>i == j && decide (i < c.slots.length) && sizeB c t == some n && opdN c x q0 && opdOK c y q1
 | _,_,_,_,_=>false
def ckStSt (n:Nat):Bool:=match o.op,o.dst,p.dst,p.box,p.args with
 | .store t x y,none,.none,none,[q0,q1]=>sizeB c t == some n && opdN c x q0 && opdOK c y q1
 | _,_,_,_,_=>false
def ckFad (off:Nat):Bool:=match o.op with
 | .fieldAddr s x f=>(match fieldOf c s f with|some fl=>(match sizeB c fl.type with|some n=>!(n == 0)|none=>false) && fl.offset == off|none=>false) && plainK c o p [x]
 | _=>false
def ckFld (off n:Nat) (agg:Bool):Bool:=match o.op with
 | .field s x f=>(match fieldOf c s f with|some fl=>isAggB c fl.type == some agg && sizeB c fl.type == some n && fl.offset == off|none=>false) && plainK c o p [x]
 | _=>false
def ckIad (sz:Nat):Bool:=match o.op with
 | .indexAddr t x i=>(match c.P.underlying t with|some (.slice e)=>sizeB c e == some sz|_=>false) && plainK c o p [x,i]
 | _=>false
def ckIadA (len sz:Nat):Bool:=match o.op with
 | .indexAddr t x i=>(match c.P.underlying t with|some (.array n e)=>n == len && sizeB c e == some sz|_=>false) && plainK c o p [x,i]
 | _=>false
def ckIdxS:Bool:=match o.op with
 | .index t x i=>(match c.P.underlying t with|some .string=>true|_=>false) && plainK c o p [x,i]
 | _=>false
def ckSlS (lo hi:Bool):Bool:=match o.op with
 | .slice t x l h none=>(match c.P.underlying t with|some .string=>true|_=>false) && l.isSome == lo && h.isSome == hi && plainK c o p (x::(l.toList++h.toList))
 | _=>false
def ckSlL (sz:Nat) (lo hi:Bool):Bool:=match o.op with
 | .slice t x l h none=>(match c.P.underlying t with|some (.slice e)=>sizeB c e == some sz|_=>false) && l.isSome == lo && h.isSome == hi && plainK c o p (x::(l.toList++h.toList))
 | _=>false
def ckSlZ:Bool:=match o.op with
 | .slice t x none (some (.const (.int _ m))) (some (.const (.int _ n)))=>decide (m=0) && decide (n=0) && (match c.P.underlying t with|some (.slice e)=>(sizeB c e).isSome|_=>false) && plainK c o p [x]
 | _=>false
def ckSlA (len sz:Nat) (lo hi:Bool):Bool:=match o.op with
 | .slice t x l h none=>(match c.P.underlying t with|some (.array n e)=>n == len && sizeB c e == some sz|_=>false) && l.isSome == lo && h.isSome == hi && plainK c o p (x::(l.toList++h.toList))
 | _=>false
def ckBin (op:BinOp):Bool:=match o.op with
 | .binOp op' _ x y _=>decide (op'=op) && plainK c o p [x,y]
 | _=>false
def ckBinB (op:BinOp):Bool:=match o.op with
 | .binOp op' t x y _=>decide (op'=op) && (match c.P.underlying t with|some .bool=>true|_=>false) && plainK c o p [x,y]
 | _=>false
def ckBinP (op:BinOp):Bool:=match o.op with
 | .binOp op' t x y _=>(match c.P.underlying t with|some (.pointer _)=>decide (op'=op) && !decide (op=.lss) && !decide (op=.gtr)|some (.interface _)=>(decide (op'=.eql) && decide (op=.lss) || decide (op'=.neq) && decide (op=.gtr)) && (match y with|.const .nilIface=>true|_=>false)|_=>false) && plainK c o p [x,y]
 | _=>false
def ckUn (op:UnOp):Bool:=match o.op with
 | .unOp op' _ x=>decide (op'=op) && plainK c o p [x]
 | _=>false
def ckConv (k:IntKind):Bool:=match o.op with
 | .convert t u x=>(match c.P.underlying t,c.P.underlying u with|some (.int _),some (.int k')=>decide (k'=k)|_,_=>false) && plainK c o p [x]
 | _=>false
def ckMkF (f n:Nat):Bool:=match o.op with
 | .makeFunc (.func f') first caps=>f' == vf f && first.size == n && plainK c o p (first++caps).toList
 | _=>false
def ckMkM:Bool:=match o.op,p.args with
 | .makeMap _ none,[]=>p.box.isNone && dstOK c o.dst p.dst
 | _,_=>false
def ckMget (kc:Nat) (zero:List AV) (agg ok:Bool):Bool:=match o.op with
 | .lookup t m k ok'=>ok' == ok && (match c.P.underlying t with|some (.map kt et)=>keyClass c.P kc kt && isAggB c et == some agg && zeroOK c.P et zero && aggZero c.P et agg|_=>false) && plainK c o p [m,k]
 | _=>false
def ckMset (kc:Nat):Bool:=match o.op with
 | .mapUpdate t m k x|.insert t m k x=>(match c.P.underlying t with|some (.map kt _)=>keyClass c.P kc kt|_=>false) && o.dst.isNone && plainK c o p [m,k,x]
 | _=>false
def ckMdel (kc:Nat):Bool:=match o.op with
 | .call { callee:=.builtin .delete,args:=⟨[m,k]⟩,argTypes:=⟨t::_⟩ }=>(match c.P.underlying t with|some (.map kt _)=>keyClass c.P kc kt|_=>false) && o.dst.isNone && plainK c o p [m,k]
 | _=>false
def ckSlO (sz:Nat):Bool:=match o.op,p.args with
 | .slice t x (some l) none none,[q0,q1]=>(match c.P.underlying t with|some (.slice e)=>sizeB c e == some sz|_=>false) && p.box.isNone && opdOK c x q0 && opdN c l q1 && dstOK c o.dst p.dst
 | _,_=>false
def ckExt (i:Nat):Bool:=match o.op with
 | .extract x j=>i == j && plainK c o p [x]
 | _=>false
def ckCall (f:Nat):Bool:=match o.op with
 | .call { callee:=.value (.func f'),args:=xs,argTypes:=_ }=>f' == vf f && plainK c o p xs.toList
 | _=>false
def ckCallV:Bool:=match o.op with
 | .call { callee:=.value (.tmp s),args:=xs,argTypes:=_ }=>plainK c o p (.tmp s::xs.toList)
 | _=>false
def ckLenS:Bool:=match o.op with
 | .call { callee:=.builtin .len,args:=⟨[x]⟩,argTypes:=⟨t::_⟩ }=>(match c.P.underlying t with|some .string=>true|_=>false) && plainK c o p [x]
 | _=>false
def ckLenL:Bool:=match o.op with
 | .call { callee:=.builtin .len,args:=⟨[x]⟩,argTypes:=⟨t::_⟩ }=>(match c.P.underlying t with|some (.slice _)=>true|_=>false) && plainK c o p [x]
 | _=>false
def issueB (P:Program) (t:TypeId):Bool:=match P.underlying t with
 | some (.struct ⟨[f0,f1]⟩)=>f0.name != "_" && f1.name != "_" && f0.offset == 0 && f1.offset == 1 && (match P.underlying f0.type with|some (.int _)=>true|_=>false) && (match P.underlying f1.type with|some .string=>true|_=>false)
 | _=>false
def ckEqIS (neg:Bool):Bool:=match o.op with
 | .binOp op t x y _=>decide (op=if neg then .neq else .eql) && !c.P.eqGuardType c.P.depth t && !c.P.stoodInHeld t && issueB c.P t && plainK c o p [x,y]
 | _=>false
def ckMin2:Bool:=match o.op with
 | .call { callee:=.builtin .min,args:=⟨[x,y]⟩,.. }=>plainK c o p [x,y]
 | _=>false
def ckMax2:Bool:=match o.op with
 | .call { callee:=.builtin .max,args:=⟨[x,y]⟩,.. }=>plainK c o p [x,y]
 | _=>false
def ckIdxA (len sz:Nat) (agg:Bool):Bool:=match o.op with
 | .index t x i=>(match c.P.underlying t with|some (.array n e)=>n == len && sizeB c e == some sz && isAggB c e == some agg|_=>false) && plainK c o p [x,i]
 | _=>false
def ckApp (sz bytes:Nat):Bool:=match o.op,p.args with
 | .call { callee:=.builtin .append,args:=⟨[x,y]⟩,argTypes:=⟨[t,t']⟩ },[q0,q1]=>t == t' && (match c.P.underlying t with
  | some (.slice e)=>(match c.P.info? e with
   | some i=>i.size == sz && i.bytes == bytes && decide (0 < bytes) && (match i.zero with|some z=>z.cells.size == sz|none=>false)
   | none=>false)
  | _=>false) && p.box.isNone && opdOK c x q0 && opdN c y q1 && dstOK c o.dst p.dst && o.dst.isSome
 | _,_=>false

def ckAppS (bytes:Nat):Bool:=match o.op,p.args with
 | .call { callee:=.builtin .append,args:=⟨[x,y]⟩,argTypes:=⟨[t,t']⟩ },[q0,q1]=>(match c.P.underlying t' with|some .string=>true|_=>false) && (match c.P.underlying t with
  | some (.slice e)=>(match c.P.info? e with
   | some i=>i.size == 1 && i.bytes == bytes && decide (0 < bytes) && (match i.zero with|some z=>z.cells.size == 1|none=>false)
   | none=>false)
  | _=>false) && p.box.isNone && opdOK c x q0 && opdN c y q1 && dstOK c o.dst p.dst && o.dst.isSome
 | _,_=>false

def ckClrS:Bool:=match o.op with
 | .call { callee:=.builtin .clear,args:=⟨[x]⟩,argTypes:=⟨[t]⟩ }=>(match c.P.underlying t with
  | some (.slice e)=>(match c.P.info? e with
   | some i=>(match i.zero with|some (.string bs)=>Nat.beq bs.size 0|_=>false)
   | none=>false)
  | _=>false) && o.dst.isNone && plainK c o p [x]
 | _=>false

def ckAppA (bytes:Nat):Bool:=match o.op,p.args with
 | .call { callee:=.builtin .append,args:=⟨[x,y]⟩,argTypes:=⟨[t,t']⟩ },[q0,q1]=>t == t' && (match c.P.underlying t with
  | some (.slice e)=>(match c.P.info? e with
   | some i=>i.size == 1 && i.bytes == bytes && decide (0 < bytes) && (match i.zero with|some z=>z.cells.size == 1|none=>false)
   | none=>false)
  | _=>false) && p.box.isNone && opdOK c x q0 && opdN c y q1 && dstOK c o.dst p.dst && o.dst.isSome
 | _,_=>false

def ckBsliceM (sz:Nat) (zero:List (List AV)) (at_:List Nat):Bool:=match o.op with
 | .buildSlice t len parts=>match c.P.underlying t with
  | some (.slice e)=>match c.P.info? e,zero with
   | some ie,z1::_=>match ie.zero with
    | some z=>ie.size == sz && z.cells.size == sz && decide (len*sz≤2 ^ 24) && !(len*sz == 0) && constsOK z.cells.toList z1 && zero.length == len && zero.all (eqAVs · z1) &&
     parts.toList.map (·.1) == at_ && p.box.isNone && dstOK c o.dst p.dst && (match parts.toList.map (·.2),p.args with|[x],[q]=>opdOK c x q|_,_=>false) && o.dst.isSome
    | none=>false
   | _,_=>false
  | _=>false
 | _=>false
def ckAppM (sz bytes:Nat):Bool:=match o.op,p.args with
 | .call { callee:=.builtin .append,args:=⟨[x,y]⟩,argTypes:=⟨[t,t']⟩ },q0::q1::gs=>t == t' && (match c.P.underlying t with
  | some (.slice e)=>(match c.P.info? e with
   | some i=>i.size == sz && i.bytes == bytes && decide (0 < bytes) && (match i.zero with|some z=>z.cells.size == sz|none=>false)
   | none=>false)
  | _=>false) && p.box.isNone && opdOK c x q0 && opdN c y q1 && dstOK c o.dst p.dst && o.dst.isSome && gs.all (fun q=>!q.steals)
 | _,_=>false
def ckB2s:Bool:=match o.op with
 | .convert t u x=>(match c.P.underlying t,c.P.underlying u with|some (.slice e),some .string=>(match c.P.underlying e with|some (.int .u8)=>true|_=>false)|_,_=>false) && plainK c o p [x]
 | _=>false

def AOper.bare (p:AOper):AOper:=match p.kind with
 | .ldStR agg n=>{ p with kind:=.ldSt agg n,args:=p.args.take 1 }
 | .ldStSR _=>{ p with kind:=.ldStS,args:=p.args.take 1 }
 | .stStA n=>{ p with kind:=.stSt n,args:=p.args.take 2 }
 | .callA f m=>{ p with kind:=.call f,args:=p.args.take m }
 | .mgetR kc zero agg ok=>{ p with kind:=.mget kc zero agg ok,args:=p.args.take 2 }
 | _=>p
def AOper.beside (p:AOper):List Opd:=match p.kind with
 | .ldStR _ _=>p.args.drop 1
 | .ldStSR _=>p.args.drop 1
 | .stStA _=>p.args.drop 2
 | .callA _ m=>p.args.drop m
 | .mgetR ..=>p.args.drop 2
 | _=>[]
def quiet (qs:List Opd):Bool:=qs.all fun q=>!q.steals

def opOK:Bool:=match p.kind with
 | .mv=>ckMv c o p
 | .pick=>ckPick c o p
 | .nilchk=>ckNilchk c o p
 | .alloc zero=>ckAlloc c o p zero
 | .boxV=>ckBoxV c o p
 | .allocO zero=>ckAllocO c o p zero
 | .boxO=>ckBoxO c o p
 | .build zero offs=>ckBuild c o p zero offs
 | .bslice sz zero at_=>ckBslice c o p sz zero at_
 | .bsliceM sz zero at_=>ckBsliceM c o p sz zero at_
 | .ldLc i agg n=>ckLdLc c o p i agg n
 | .ldSt agg n=>ckLdSt c o p agg n
 | .ldRo agg n=>ckLdSt c o p agg n
 | .ldAn agg n=>ckLdSt c o p agg n
 | .ldStR agg n=>ckLdSt c o p.bare agg n && quiet p.beside
 | .ldStSR _=>ckLdStS c o p.bare && quiet p.beside
 | .stStA n=>ckStSt c o p.bare n && quiet p.beside
 | .callA f _=>ckCall c o p.bare f && quiet p.beside
 | .ldLcS i=>ckLdLcS c o p i
 | .ldStS=>ckLdStS c o p
 | .stLc i n=>ckStLc c o p i n
 | .stSt n=>ckStSt c o p n
 | .fad off=>ckFad c o p off
 | .fld off n agg=>ckFld c o p off n agg
 | .iad sz=>ckIad c o p sz
 | .iadA len sz=>ckIadA c o p len sz
 | .idxS=>ckIdxS c o p
 | .slS lo hi=>ckSlS c o p lo hi
 | .slL sz lo hi=>ckSlL c o p sz lo hi
 | .slZ=>ckSlZ c o p
 | .slA len sz lo hi=>ckSlA c o p len sz lo hi
 | .bin op=>ckBin c o p op
 | .binB op=>ckBinB c o p op
 | .binP op=>ckBinP c o p op
 | .un op=>ckUn c o p op
 | .conv k=>ckConv c o p k
 | .mkF f n=>ckMkF c o p f n
 | .mkM=>ckMkM c o p
 | .mget kc zero agg ok=>ckMget c o p kc zero agg ok
 | .mset kc=>ckMset c o p kc
 | .ext i=>ckExt c o p i
 | .call f=>ckCall c o p f
 | .callV=>ckCallV c o p
 | .lenS=>ckLenS c o p
 | .lenL=>ckLenL c o p
 | .app sz bytes=>ckApp c o p sz bytes
 | .appM sz bytes=>ckAppM c o p sz bytes
 | .b2s=>ckB2s c o p
 | .appA bytes=>ckAppA c o p bytes
 | .bsliceO sz zero at_=>ckBsliceM c o p sz zero at_
 | .min2=>ckMin2 c o p
 | .eqIS neg=>ckEqIS c o p neg
 | .stuck=>true
 | .mdel kc=>ckMdel c o p kc
 | .slO sz=>ckSlO c o p sz
 | .max2=>ckMax2 c o p
 | .idxA len sz agg=>ckIdxA c o p len sz agg
 | .appS bytes=>ckAppS c o p bytes
 | .clrS=>ckClrS c o p
 | .mgetR kc zero agg ok=>ckMget c o p.bare kc zero agg ok && quiet p.beside

def PureK:Prop:=∀ {g:Gh} {w:World} {pr:Nat→Option Pl} {bx:Nat→Nat} {σ:Sig} {a:Act} {call:CallT} {r b':AV} {st':St},
 S c g w pr bx σ a→sem p.kind call (p.args.map (·.read σ)) (boxOf p σ) σ.st=some (r,b',st')→PureRes c g w bx σ.fr a o r∧b'=boxOf p σ∧st'=σ.st

def OpK:Prop:=∀ {g:Gh} {w:World} {pr:Nat→Option Pl} {bx:Nat→Nat} {σ σ':Sig} {a:Act} {call:CallT} {next:Act→World→Prop} {Q:Exit→Act→World→Prop},
 Fx c→CallOK c.P c.gt call→S c g w pr bx σ a→goOp call p σ=some σ'→Post c g w a σ' next→o.wp c.P a w next Q
end

section
variable {c:Cx} {o:Oper} {p:AOper}

theorem set_getD (fr:List AV) (i:Nat):fr.set i (fr.getD i .undef)=fr:=by
 apply List.ext_getElem?
 intro j
 rw [List.getElem?_set]
 by_cases e:i=j
 · subst e
   rw [if_pos rfl]
   split
   · rename_i h; simp [h]
   · rename_i h; rw [List.getElem?_eq_none (by omega)]
 · rw [if_neg e]

theorem goOp_some {call:CallT} {σ σ':Sig} (h:goOp call p σ=some σ'):∃ r b' st',sem p.kind call (p.args.map (·.read σ)) (boxOf p σ) σ.st=some (r,b',st') ∧
 σ'=p.dst.put r { spendAll p.args σ with fr:=(match p.box with|some i=>(spendAll p.args σ).fr.set i b'|none=>(spendAll p.args σ).fr),st:=st' }:=by
 rw [goOp_eq] at h
 cases hb:p.box with
 | none =>
  have e:boxOf p σ=.undef:=by simp only [boxOf,hb]
  rw [e]
  simp only [hb] at h
  cases hs:sem p.kind call (p.args.map (·.read σ)) .undef σ.st with
  | none=>simp only [hs] at h; cases h
  | some x =>
   obtain ⟨r,b',st'⟩:=x
   simp only [hs] at h
   exact ⟨r,b',st',rfl,(Option.some.inj h).symm⟩
 | some i =>
  have e:boxOf p σ=σ.fr.getD i .undef:=by simp only [boxOf,hb]
  rw [e]
  simp only [hb] at h
  cases hs:sem p.kind call (p.args.map (·.read σ)) (σ.fr.getD i .undef) σ.st with
  | none=>simp only [hs] at h; cases h
  | some x =>
   obtain ⟨r,b',st'⟩:=x
   simp only [hs] at h
   exact ⟨r,b',st',rfl,(Option.some.inj h).symm⟩

theorem PureK.op (h:PureK c o p) (hsp:∀ σ,spendAll p.args σ=σ) (hd:dstOK c o.dst p.dst=true):OpK c o p:=by
 intro g w pr bx σ σ' a call next Q fx _ hS hgo hnext
 obtain ⟨r,b',st',hs,hσ⟩:=goOp_some hgo
 obtain ⟨⟨v,hrun,hr⟩,rfl,rfl⟩:=h hS hs
 rw [hsp] at hσ
 have hσ:σ'=p.dst.put r σ:=by
  rw [hσ]
  cases hb:p.box with
  | none=>rfl
  | some i=>simp only [boxOf,hb,set_getD]
 subst hσ
 exact pure_op fx hS hd hrun hr hnext

theorem plainK_spec {xs:List Operand} (h:plainK c o p xs=true):p.box=none∧opdsN c xs p.args=true∧dstOK c o.dst p.dst=true:=by
 simp only [plainK,Bool.and_eq_true,Option.isNone_iff_eq_none] at h
 exact ⟨h.1.1,h.1.2,h.2⟩

theorem pureK_of {xs:List Operand} (h:plainK c o p xs=true)
 (hs:∀ {g:Gh} {w:World} {pr:Nat→Option Pl} {bx:Nat→Nat} {σ:Sig} {a:Act} {call:CallT} {r b' b:AV} {st':St},S c g w pr bx σ a→ArgsOK g w bx σ.fr (p.args.map (·.read σ)) (xs.map a.eval) →
  sem p.kind call (p.args.map (·.read σ)) b σ.st=some (r,b',st')→PureRes c g w bx σ.fr a o r∧b'=b∧st'=σ.st):OpK c o p:=by
 obtain ⟨h1,h2,h3⟩:=plainK_spec h
 exact PureK.op (fun hS hsem=>hs hS (reads_ok hS h2) hsem) (fun σ=>spendAll_none h2) h3
end
end Go.Cb
/-
 THE ABSTRACT MACHINE, part 18: what passes the test is matched.
-/
set_option maxRecDepth 4000
set_option linter.unusedVariables false
namespace Go.Cb
open Classical

abbrev nc:CallT:=fun _ _ _=>none

section
variable {c:Cx} {o:Oper} {p:AOper}

theorem op_mv (hk:p.kind=.mv) (h:ckMv c o p=true):OpK c o p:=by
 intro g w pr bx σ σ' a call next Q fx _ hS hgo hnext
 obtain ⟨r,b',st',hs,hσ⟩:=goOp_some hgo
 unfold ckMv at h
 have key:∀ (x:Operand) (q:Opd),(o.op=.move x∨o.op=.assign x)→p.args=[q]→(p.box.isNone && opdOK c x q && dstOK c o.dst p.dst)=true→o.wp c.P a w next Q:=by
  intro x q ho hq h
  simp only [Bool.and_eq_true,Option.isNone_iff_eq_none] at h
  obtain ⟨⟨h1,h2⟩,h3⟩:=h
  rw [hk,hq] at hs
  simp only [sem,semMv,List.map_cons,List.map_nil,Option.some.injEq,Prod.mk.injEq] at hs
  obtain ⟨rfl,rfl,rfl⟩:=hs
  rw [h1,hq] at hσ
  have e:σ'=p.dst.put (q.read σ) (q.spend σ):=by
   rw [hσ]
   have:(q.spend σ).st=σ.st:=by cases q <;> rfl
   simp only [spendAll]
   rw [← this]
  subst e
  exact mv_ok fx hS ho h2 h3 hnext
 split at h
 · rename_i x q ho hq; exact key x q (.inl ho) hq h
 · rename_i x q ho hq; exact key x q (.inr ho) hq h
 · cases h
theorem op_pick (hk:p.kind=.pick) (h:ckPick c o p=true):OpK c o p:=by
 unfold ckPick at h; split at h
 · rename_i x y z ho
   exact pureK_of h fun hS hr hs=>by rw [hk] at hs; exact sim_pick (call:=nc) ho hr hs
 · cases h
theorem op_nilchk (hk:p.kind=.nilchk) (h:ckNilchk c o p=true):OpK c o p:=by
 unfold ckNilchk at h; split at h
 · rename_i x ho
   exact pureK_of h fun hS hr hs=>by rw [hk] at hs; exact sim_nilchk (call:=nc) ho hr hs
 · cases h
theorem zeroOK_spec {P:Program} {t:TypeId} {zero:List AV} (h:zeroOK P t zero=true):∃ z,(P.info? t).bind (·.zero)=some z∧constsOK z.cells.toList zero=true:=by
 unfold zeroOK at h; split at h
 · rename_i z hz; exact ⟨z,hz,h⟩
 · cases h
theorem zero_row {zero:List AV} {z:Value} (h:constsOK z.cells.toList zero=true) (g:Gh) (w:World):RowOK g w zero z.cells.toList:=by
 obtain ⟨h1,h2,h3⟩:=constsOK_rel h g w
 exact ⟨h1,h2,h3⟩
theorem op_alloc {zero:List AV} (hk:p.kind=.alloc zero) (h:ckAlloc c o p zero=true):OpK c o p:=by
 intro g w pr bx σ σ' a call next Q fx _ hS hgo hnext
 obtain ⟨r,b',st',hs,hσ⟩:=goOp_some hgo
 unfold ckAlloc at h; split at h
 · rename_i t s i ho hd hb hpd ha
   simp only [Bool.and_eq_true,beq_iff_eq] at h
   obtain ⟨⟨h1,h2⟩,h3⟩:=h
   obtain ⟨z,hz,hzz⟩:=zeroOK_spec h3
   rw [hk,ha] at hs
   simp only [sem,semAlloc,List.map_nil,boxOf,hb] at hs
   cases hu:σ.fr.getD i .undef <;> rw [hu] at hs <;> first|cases hs; done|skip
   simp only [Option.some.injEq,Prod.mk.injEq] at hs
   obtain ⟨rfl,rfl,rfl⟩:=hs
   rw [hb,ha,hpd] at hσ
   simp only [spendAll,Dst.put] at hσ
   subst hσ
   exact nbox_ok fx hS hd h1 (by simpa using h2) hu (run_alloc ho hz) (zero_row hzz g w) hnext
 · cases h
theorem spend_undef {q:Opd} {σ:Sig} {i:Nat} (hu:σ.fr.getD i .undef=.undef):(q.spend σ).fr.getD i .undef=.undef:=by
 cases q <;> simp only [Opd.spend] <;> try exact hu
 rename_i j
 rw [List.getD_eq_getElem?_getD,List.getElem?_set] 
 by_cases e:j=i
 · subst e
   rw [if_pos rfl,hu]
   split <;> rfl
 · rw [if_neg e,← List.getD_eq_getElem?_getD]; exact hu
theorem op_boxV (hk:p.kind=.boxV) (h:ckBoxV c o p=true):OpK c o p:=by
 intro g w pr bx σ σ' a call next Q fx _ hS hgo hnext
 obtain ⟨r,b',st',hs,hσ⟩:=goOp_some hgo
 unfold ckBoxV at h; split at h
 · rename_i t x s i q ho hd hb hpd ha
   simp only [Bool.and_eq_true,beq_iff_eq] at h
   obtain ⟨⟨h1,h2⟩,h3⟩:=h
   rw [hk,ha] at hs
   simp only [sem,semBoxV,List.map_cons,List.map_nil,boxOf,hb] at hs
   cases hu:σ.fr.getD i .undef <;> rw [hu] at hs <;> first|cases hs; done|skip
   dsimp only at hs
   split at hs
   · rename_i hpl
     simp only [Option.some.injEq,Prod.mk.injEq] at hs
     obtain ⟨rfl,rfl,rfl⟩:=hs
     rw [hb,ha,hpd] at hσ
     simp only [spendAll,Dst.put] at hσ
     have est:(q.spend σ).st=σ.st:=by cases q <;> rfl
     rw [← est] at hσ
     obtain ⟨pr1,hS1,hA,_⟩:=arg_spend hS h3 (.tmp 0)
     subst hσ
     exact nbox_ok fx hS1 hd h1 (by simpa using h2) (spend_undef hu) (run_box ho) (cells_okW hA hpl) hnext
   · cases hs
 · cases h
theorem op_allocO {zero:List AV} (hk:p.kind=.allocO zero) (h:ckAllocO c o p zero=true):OpK c o p:=by
 intro g w pr bx σ σ' a call next Q fx _ hS hgo hnext
 obtain ⟨r,b',st',hs,hσ⟩:=goOp_some hgo
 unfold ckAllocO at h; split at h
 · rename_i t ho ha
   simp only [Bool.and_eq_true,Option.isNone_iff_eq_none] at h
   obtain ⟨⟨h1,h2⟩,h3⟩:=h
   obtain ⟨z,hz,hzz⟩:=zeroOK_spec h2
   rw [hk,ha] at hs
   simp only [sem,semAllocO,List.map_nil,Option.some.injEq,Prod.mk.injEq] at hs
   obtain ⟨rfl,rfl,rfl⟩:=hs
   rw [h1,ha] at hσ
   subst hσ
   exact nobj_ok fx hS h3 (run_alloc ho hz) (by intro c t z e; cases e; rfl) (newobj_cells hS (zero_row hzz g w)) (.inl ⟨rfl,rfl⟩) hnext
 · cases h
theorem op_boxO (hk:p.kind=.boxO) (h:ckBoxO c o p=true):OpK c o p:=by
 intro g w pr bx σ σ' a call next Q fx _ hS hgo hnext
 obtain ⟨r,b',st',hs,hσ⟩:=goOp_some hgo
 unfold ckBoxO at h; split at h
 · rename_i t x q ho ha
   simp only [Bool.and_eq_true,Option.isNone_iff_eq_none] at h
   obtain ⟨⟨h1,h2⟩,h3⟩:=h
   rw [hk,ha] at hs
   simp only [sem,semBoxO,List.map_cons,List.map_nil] at hs
   split at hs
   · rename_i hpl
     simp only [Option.some.injEq,Prod.mk.injEq] at hs
     obtain ⟨rfl,rfl,rfl⟩:=hs
     rw [h1,ha] at hσ
     simp only [spendAll] at hσ
     have est:(q.spend σ).st=σ.st:=by cases q <;> rfl
     rw [← est] at hσ
     obtain ⟨pr1,hS1,hA,_⟩:=arg_spend hS h2 (.tmp 0)
     subst hσ
     exact nobj_ok fx hS1 h3 (run_box ho) (by intro c t z e; cases e; rfl) (newobj_cells hS1 (cells_okW hA hpl)) (.inl ⟨rfl,rfl⟩) hnext
   · cases hs
 · cases h
theorem op_mkM (hk:p.kind=.mkM) (h:ckMkM c o p=true):OpK c o p:=by
 intro g w pr bx σ σ' a call next Q fx _ hS hgo hnext
 obtain ⟨r,b',st',hs,hσ⟩:=goOp_some hgo
 unfold ckMkM at h; split at h
 · rename_i t ho ha
   simp only [Bool.and_eq_true,Option.isNone_iff_eq_none] at h
   obtain ⟨h1,h3⟩:=h
   rw [hk,ha] at hs
   simp only [sem,semMkM,List.map_nil,Option.some.injEq,Prod.mk.injEq] at hs
   obtain ⟨rfl,rfl,rfl⟩:=hs
   rw [h1,ha] at hσ
   subst hσ
   refine nobj_ok fx hS h3 (O:=.map #[] 0) (by simp [execOp,ho,Instr.makeMap]) (by intro c t z e; cases e) (newobj_map hS) (.inr (.inl ⟨rfl,rfl⟩)) hnext
 · cases h
end
end Go.Cb
/-
 THE ABSTRACT MACHINE, part 19: what passes the test is matched, on.
-/
set_option maxRecDepth 4000
set_option linter.unusedVariables false
namespace Go.Cb
open Classical

section
variable {c:Cx} {o:Oper} {p:AOper}

theorem op_un {op:UnOp} (hk:p.kind=.un op) (h:ckUn c o p op=true):OpK c o p:=by
 unfold ckUn at h; split at h
 · rename_i op' t x ho
   simp only [Bool.and_eq_true,decide_eq_true_eq] at h
   obtain ⟨rfl,h⟩:=h
   exact pureK_of h fun hS hr hs=>by rw [hk] at hs; exact sim_un (call:=nc) ho hr hs
 · cases h
theorem op_bin {op:BinOp} (hk:p.kind=.bin op) (h:ckBin c o p op=true):OpK c o p:=by
 unfold ckBin at h; split at h
 · rename_i op' t x y yt ho
   simp only [Bool.and_eq_true,decide_eq_true_eq] at h
   obtain ⟨rfl,h⟩:=h
   exact pureK_of h fun hS hr hs=>by rw [hk] at hs; exact sim_bin (call:=nc) ho hr hs
 · cases h
theorem op_binB {op:BinOp} (hk:p.kind=.binB op) (h:ckBinB c o p op=true):OpK c o p:=by
 unfold ckBinB at h; split at h
 · rename_i op' t x y yt ho
   simp only [Bool.and_eq_true,decide_eq_true_eq] at h
   obtain ⟨⟨rfl,hu0⟩,h⟩:=h
   split at hu0
   · rename_i hu; exact pureK_of h fun hS hr hs=>by rw [hk] at hs; exact sim_binB (call:=nc) ho hu hr hs
   · cases hu0
 · cases h
theorem op_binP {op:BinOp} (hk:p.kind=.binP op) (h:ckBinP c o p op=true):OpK c o p:=by
 unfold ckBinP at h; split at h
 · rename_i op' t x y yt ho
   rw [Bool.and_eq_true] at h
   obtain ⟨hu0,h⟩:=h
   split at hu0
   · rename_i e hu
     simp only [Bool.and_eq_true,decide_eq_true_eq,Bool.not_eq_true',decide_eq_false_iff_not] at hu0
     obtain ⟨⟨rfl,h1⟩,h2⟩:=hu0
     exact pureK_of h fun hS hr hs=>by rw [hk] at hs; exact sim_binP (call:=nc) ho hu ⟨h1,h2⟩ hr hs
   · rename_i ms hu
     rw [Bool.and_eq_true] at hu0
     obtain ⟨h1,h2⟩:=hu0
     split at h2
     case h_2=>cases h2
     simp only [Bool.or_eq_true,Bool.and_eq_true,decide_eq_true_eq] at h1
     exact pureK_of h fun hS hr hs=>by rw [hk] at hs; exact sim_binI (call:=nc) ho hu h1 hr hs
   · cases hu0
 · cases h
theorem op_conv {k:IntKind} (hk:p.kind=.conv k) (h:ckConv c o p k=true):OpK c o p:=by
 unfold ckConv at h; split at h
 · rename_i t u x ho
   simp only [Bool.and_eq_true] at h
   obtain ⟨hu,h⟩:=h
   split at hu
   · rename_i h1 h2
     simp only [decide_eq_true_eq] at hu
     subst hu
     exact pureK_of h fun hS hr hs=>by rw [hk] at hs; exact sim_conv (call:=nc) ho h1 h2 hr hs
   · cases hu
 · cases h
theorem op_ext {i:Nat} (hk:p.kind=.ext i) (h:ckExt c o p i=true):OpK c o p:=by
 unfold ckExt at h; split at h
 · rename_i x j ho
   simp only [Bool.and_eq_true,beq_iff_eq] at h
   obtain ⟨rfl,h⟩:=h
   exact pureK_of h fun hS hr hs=>by rw [hk] at hs; exact sim_ext (call:=nc) ho hr hs
 · cases h
theorem op_ldSt {ag:Bool} {n:Nat} (hk:p.kind=.ldSt ag n) (h:ckLdSt c o p ag n=true):OpK c o p:=by
 unfold ckLdSt at h; split at h
 · rename_i t x ho
   simp only [Bool.and_eq_true,beq_iff_eq] at h
   obtain ⟨⟨h1,h2⟩,h⟩:=h
   exact pureK_of h fun hS hr hs=>by rw [hk] at hs; exact sim_ldSt (call:=nc) hS.st ho h1 h2 hr hs
 · cases h
theorem op_ldRo {ag:Bool} {n:Nat} (hk:p.kind=.ldRo ag n) (h:ckLdSt c o p ag n=true):OpK c o p:=by
 unfold ckLdSt at h; split at h
 · rename_i t x ho
   simp only [Bool.and_eq_true,beq_iff_eq] at h
   obtain ⟨⟨h1,h2⟩,h⟩:=h
   exact pureK_of h fun hS hr hs=>by rw [hk] at hs; exact sim_ldRo (call:=nc) ho h1 h2 hr hs
 · cases h
theorem op_ldAn {ag:Bool} {n:Nat} (hk:p.kind=.ldAn ag n) (h:ckLdSt c o p ag n=true):OpK c o p:=by
 unfold ckLdSt at h; split at h
 · rename_i t x ho
   simp only [Bool.and_eq_true,beq_iff_eq] at h
   obtain ⟨⟨h1,h2⟩,h⟩:=h
   exact pureK_of h fun hS hr hs=>by rw [hk] at hs; exact sim_ldAn (call:=nc) hS.st ho h1 h2 hr hs
 · cases h
theorem op_ldLc {i:Nat} {ag:Bool} {n:Nat} (hk:p.kind=.ldLc i ag n) (h:ckLdLc c o p i ag n=true):OpK c o p:=by
 unfold ckLdLc at h; split at h
 · rename_i t x j ho hb
   simp only [Bool.and_eq_true,beq_iff_eq,decide_eq_true_eq] at h
   obtain ⟨⟨⟨⟨⟨rfl,h0⟩,h1⟩,h2⟩,h3⟩,h4⟩:=h
   refine PureK.op (fun hS hs=>?_) (fun σ=>spendAll_none h3) h4
   rw [hk] at hs
   simp only [boxOf,hb] at hs ⊢
   exact sim_ldLc (call:=nc) hS.fr (List.getElem?_eq_getElem h0) ho h1 h2 (reads_ok hS h3) hs
 · cases h
theorem op_fad {off:Nat} (hk:p.kind=.fad off) (h:ckFad c o p off=true):OpK c o p:=by
 unfold ckFad at h; split at h
 · rename_i s x f ho
   simp only [Bool.and_eq_true] at h
   obtain ⟨h1,h⟩:=h
   split at h1
   · rename_i fl hf
     simp only [Bool.and_eq_true,beq_iff_eq] at h1
     obtain ⟨h1,h2⟩:=h1
     split at h1
     · rename_i n hn
       exact pureK_of h fun hS hr hs=>by rw [hk] at hs; exact sim_fad (call:=nc) ho hf hn (by simpa using h1) h2 hr hs
     · cases h1
   · cases h1
 · cases h
theorem op_fld {off n:Nat} {ag:Bool} (hk:p.kind=.fld off n ag) (h:ckFld c o p off n ag=true):OpK c o p:=by
 unfold ckFld at h; split at h
 · rename_i s x f ho
   simp only [Bool.and_eq_true] at h
   obtain ⟨h1,h⟩:=h
   split at h1
   · rename_i fl hf
     simp only [Bool.and_eq_true,beq_iff_eq] at h1
     obtain ⟨⟨h1,h2⟩,h3⟩:=h1
     exact pureK_of h fun hS hr hs=>by rw [hk] at hs; exact sim_fld (call:=nc) ho hf h1 h2 h3 hr hs
   · cases h1
 · cases h
theorem op_iad {sz:Nat} (hk:p.kind=.iad sz) (h:ckIad c o p sz=true):OpK c o p:=by
 unfold ckIad at h; split at h
 · rename_i t x i ho
   simp only [Bool.and_eq_true] at h
   obtain ⟨h1,h⟩:=h
   split at h1
   · rename_i e hu
     simp only [beq_iff_eq] at h1
     exact pureK_of h fun hS hr hs=>by rw [hk] at hs; exact sim_iad (call:=nc) ho hu h1 hr hs
   · cases h1
 · cases h
theorem op_iadA {len sz:Nat} (hk:p.kind=.iadA len sz) (h:ckIadA c o p len sz=true):OpK c o p:=by
 unfold ckIadA at h; split at h
 · rename_i t x i ho
   simp only [Bool.and_eq_true] at h
   obtain ⟨h1,h⟩:=h
   split at h1
   · rename_i n e hu
     simp only [Bool.and_eq_true,beq_iff_eq] at h1
     obtain ⟨rfl,h1⟩:=h1
     exact pureK_of h fun hS hr hs=>by rw [hk] at hs; exact sim_iadA (call:=nc) ho hu h1 hr hs
   · cases h1
 · cases h
theorem op_idxS (hk:p.kind=.idxS) (h:ckIdxS c o p=true):OpK c o p:=by
 unfold ckIdxS at h; split at h
 · rename_i t x i ho
   simp only [Bool.and_eq_true] at h
   obtain ⟨h1,h⟩:=h
   split at h1
   · rename_i hu
     exact pureK_of h fun hS hr hs=>by rw [hk] at hs; exact sim_idxS (call:=nc) ho hu hr hs
   · cases h1
 · cases h
theorem opt_args {a:Act} {x:Operand} {l h:Option Operand}:(x::(l.toList++h.toList)).map a.eval=a.eval x::((l.map a.eval).toList++(h.map a.eval).toList):=by
 cases l <;> cases h <;> rfl
theorem op_slS {lo hi:Bool} (hk:p.kind=.slS lo hi) (h:ckSlS c o p lo hi=true):OpK c o p:=by
 unfold ckSlS at h; split at h
 · rename_i t x l h' ho
   simp only [Bool.and_eq_true,beq_iff_eq] at h
   obtain ⟨⟨⟨h1,rfl⟩,rfl⟩,h⟩:=h
   split at h1
   · rename_i hu
     exact pureK_of h fun hS hr hs=>by rw [hk] at hs; rw [opt_args] at hr; exact sim_slS (call:=nc) ho hu hr hs
   · cases h1
 · cases h
theorem op_slL {sz:Nat} {lo hi:Bool} (hk:p.kind=.slL sz lo hi) (h:ckSlL c o p sz lo hi=true):OpK c o p:=by
 unfold ckSlL at h; split at h
 · rename_i t x l h' ho
   simp only [Bool.and_eq_true,beq_iff_eq] at h
   obtain ⟨⟨⟨h1,rfl⟩,rfl⟩,h⟩:=h
   split at h1
   · rename_i e hu
     simp only [beq_iff_eq] at h1
     exact pureK_of h fun hS hr hs=>by rw [hk] at hs; rw [opt_args] at hr; exact sim_slL (call:=nc) ho hu h1 hr hs
   · cases h1
 · cases h
theorem op_slZ (hk:p.kind=.slZ) (h:ckSlZ c o p=true):OpK c o p:=by
 unfold ckSlZ at h; split at h
 · rename_i t x k m k' n ho
   simp only [Bool.and_eq_true,decide_eq_true_eq] at h
   obtain ⟨⟨⟨rfl,rfl⟩,h1⟩,h⟩:=h
   split at h1
   · rename_i e hu
     exact pureK_of h fun hS hr hs=>by rw [hk] at hs; exact sim_slZ (call:=nc) ho hu h1 hr hs
   · cases h1
 · cases h
theorem op_slA {len sz:Nat} {lo hi:Bool} (hk:p.kind=.slA len sz lo hi) (h:ckSlA c o p len sz lo hi=true):OpK c o p:=by
 unfold ckSlA at h; split at h
 · rename_i t x l h' ho
   simp only [Bool.and_eq_true,beq_iff_eq] at h
   obtain ⟨⟨⟨h1,rfl⟩,rfl⟩,h⟩:=h
   split at h1
   · rename_i n e hu
     simp only [Bool.and_eq_true,beq_iff_eq] at h1
     obtain ⟨rfl,h1⟩:=h1
     exact pureK_of h fun hS hr hs=>by rw [hk] at hs; rw [opt_args] at hr; exact sim_slA (call:=nc) ho hu h1 hr hs
   · cases h1
 · cases h
theorem op_mkF {f n:Nat} (hk:p.kind=.mkF f n) (h:ckMkF c o p f n=true):OpK c o p:=by
 unfold ckMkF at h; split at h
 · rename_i f' first caps ho
   simp only [Bool.and_eq_true,beq_iff_eq] at h
   obtain ⟨⟨rfl,h1⟩,h⟩:=h
   exact pureK_of h fun hS hr hs=>by rw [hk] at hs; exact sim_mkF (call:=nc) ho h1 hr hs
 · cases h
theorem op_mget {kc:Nat} {zero:List AV} {ag ok:Bool} (hk:p.kind=.mget kc zero ag ok) (h:ckMget c o p kc zero ag ok=true):OpK c o p:=by
 unfold ckMget at h; split at h
 · rename_i t m k ok' ho
   simp only [Bool.and_eq_true,beq_iff_eq] at h
   obtain ⟨⟨rfl,h1⟩,h⟩:=h
   split at h1
   · rename_i kt et hu
     simp only [Bool.and_eq_true,beq_iff_eq] at h1
     obtain ⟨⟨⟨h1,h2⟩,h3⟩,h4⟩:=h1
     exact pureK_of h fun hS hr hs=>by rw [hk] at hs; exact sim_mget (call:=nc) hS.st ho hu h1 h2 h3 h4 hr hs
   · cases h1
 · cases h
theorem op_lenS (hk:p.kind=.lenS) (h:ckLenS c o p=true):OpK c o p:=by
 unfold ckLenS at h; split at h
 · rename_i x t ts ho
   simp only [Bool.and_eq_true] at h
   obtain ⟨h1,h⟩:=h
   split at h1
   · rename_i hu
     exact pureK_of h fun hS hr hs=>by rw [hk] at hs; exact sim_lenS (call:=nc) ho (by simp) hu hr hs
   · cases h1
 · cases h
theorem op_lenL (hk:p.kind=.lenL) (h:ckLenL c o p=true):OpK c o p:=by
 unfold ckLenL at h; split at h
 · rename_i x t ts ho
   simp only [Bool.and_eq_true] at h
   obtain ⟨h1,h⟩:=h
   split at h1
   · rename_i e hu
     exact pureK_of h fun hS hr hs=>by rw [hk] at hs; exact sim_lenL (call:=nc) ho (by simp) hu hr hs
   · cases h1
 · cases h
theorem op_eqIS {neg:Bool} (hk:p.kind=.eqIS neg) (h:ckEqIS c o p neg=true):OpK c o p:=by
 unfold ckEqIS at h; split at h
 · rename_i op t x y yt ho
   simp only [Bool.and_eq_true,decide_eq_true_eq,Bool.not_eq_true'] at h
   obtain ⟨⟨⟨⟨rfl,hm⟩,hs0⟩,hi⟩,h⟩:=h
   unfold issueB at hi
   split at hi
   case h_2=>cases hi
   rename_i f0 f1 hu
   simp only [Bool.and_eq_true,bne_iff_ne,beq_iff_eq] at hi
   obtain ⟨⟨⟨⟨⟨n0,n1⟩,o0⟩,o1⟩,u0⟩,u1⟩:=hi
   split at u0
   case h_2=>cases u0
   rename_i k0 hu0
   split at u1
   case h_2=>cases u1
   rename_i hu1
   exact pureK_of h fun hS hr hs=>by rw [hk] at hs; exact sim_eqIS (call:=nc) ho hm hs0 hu n0 n1 o0 o1 hu0 hu1 hr hs
 · cases h
theorem op_min2 (hk:p.kind=.min2) (h:ckMin2 c o p=true):OpK c o p:=by
 unfold ckMin2 at h; split at h
 · rename_i x y _ _ ho
   exact pureK_of h fun hS hr hs=>by rw [hk] at hs; exact sim_min2 (call:=nc) ho hr hs
 · cases h
theorem op_max2 (hk:p.kind=.max2) (h:ckMax2 c o p=true):OpK c o p:=by
 unfold ckMax2 at h; split at h
 · rename_i x y _ _ ho
   exact pureK_of h fun hS hr hs=>by rw [hk] at hs; exact sim_max2 (call:=nc) ho hr hs
 · cases h
theorem op_idxA {len sz:Nat} {agg:Bool} (hk:p.kind=.idxA len sz agg) (h:ckIdxA c o p len sz agg=true):OpK c o p:=by
 unfold ckIdxA at h; split at h
 · rename_i t x i ho
   simp only [Bool.and_eq_true] at h
   obtain ⟨h1,h⟩:=h
   split at h1
   · rename_i n e hu
     simp only [Bool.and_eq_true,beq_iff_eq] at h1
     obtain ⟨⟨rfl,h2⟩,h3⟩:=h1
     exact pureK_of h fun hS hr hs=>by rw [hk] at hs; exact sim_idxA (call:=nc) ho hu h2 h3 hr hs
   · cases h1
 · cases h
theorem offsOK_spec:∀ {places:List (Nat×Nat)} {is:List Nat} {qs:List (Nat×Nat)},offsOK places is qs=true→is.map (fun i=>places[i]?)=qs.map some
 | _,[],[],_=>rfl
 | places,i::is,q::qs,h=>by
  simp only [offsOK,Bool.and_eq_true,beq_iff_eq] at h
  simp only [List.map_cons,h.1,offsOK_spec h.2]
theorem op_build {zero:List AV} {offs:List (Nat×Nat)} (hk:p.kind=.build zero offs) (h:ckBuild c o p zero offs=true):OpK c o p:=by
 unfold ckBuild at h; split at h
 · rename_i t parts ho
   simp only [Bool.and_eq_true] at h
   obtain ⟨⟨h1,h2⟩,h⟩:=h
   split at h1
   · rename_i places hpl
     obtain ⟨z,hz,hzz⟩:=zeroOK_spec h2
     refine pureK_of h fun {g w pr bx σ a call r b' b st'} hS hr hs=>?_
     rw [hk] at hs
     rw [List.map_map] at hr
     exact sim_build (call:=nc) ho hpl hz hzz (offsOK_spec h1) hr hs
   · cases h1
 · cases h
end
end Go.Cb
/-
 THE ABSTRACT MACHINE, part 20: stores, map stores, appends, calls; every operation that passes the test is matched.
-/
set_option maxRecDepth 4000
set_option linter.unusedVariables false
namespace Go.Cb
open Classical

section
variable {c:Cx} {o:Oper} {p:AOper}

theorem op_bslice {sz:Nat} {zero:List (List AV)} {at_:List Nat} (hk:p.kind=.bslice sz zero at_) (h:ckBslice c o p sz zero at_=true):OpK c o p:=by
 intro g w pr bx σ σ' a call next Q fx _ hS hgo hnext
 obtain ⟨r,b',st',hs,hσ⟩:=goOp_some hgo
 unfold ckBslice at h
 split at h
 case h_2=>cases h
 rename_i t len parts ho
 split at h
 case h_2=>cases h
 rename_i e hu
 split at h
 case h_2=>cases h
 rename_i ie z1 zs hie
 split at h
 case h_2=>cases h
 rename_i z hz
 simp only [Bool.and_eq_true,beq_iff_eq,decide_eq_true_eq] at h
 obtain ⟨⟨⟨⟨⟨⟨⟨⟨⟨h1,h2⟩,h3⟩,h4⟩,h5⟩,h6⟩,h7⟩,h8⟩,h9⟩,h10⟩:=h
 obtain ⟨p1,p2,p3⟩:=plainK_spec h9
 rw [hk] at hs
 simp only [sem,semBslice] at hs
 obtain ⟨rs,hrs,hs⟩:=Option.map_eq_some_iff.1 hs
 simp only [Prod.mk.injEq] at hs
 obtain ⟨rfl,rfl,rfl⟩:=hs
 rw [p1,spendAll_none p2] at hσ
 subst hσ
 have hargs:=reads_ok hS p2
 rw [List.map_map] at hargs
 have hrep:z1::zs=List.replicate len z1:=by
  apply List.eq_replicate_iff.2
  refine ⟨h6,fun y hy=>?_⟩
  have hy':=List.all_eq_true.1 h7 y hy
  exact (eqAVs_iff _ _).1 hy'
 exact bslice_ok fx hS ho hu hie hz h1 h2 h3 (by simpa using h4) h5 hrep h8 hargs hrs p3 h10 hnext

theorem op_bsliceM {sz:Nat} {zero:List (List AV)} {at_:List Nat} (hk:p.kind=.bsliceM sz zero at_) (h:ckBsliceM c o p sz zero at_=true):OpK c o p:=by
 intro g w pr bx σ σ' a call next Q fx _ hS hgo hnext
 obtain ⟨r,b',st',hs,hσ⟩:=goOp_some hgo
 unfold ckBsliceM at h
 split at h
 case h_2=>cases h
 rename_i t len parts ho
 split at h
 case h_2=>cases h
 rename_i e hu
 split at h
 case h_2=>cases h
 rename_i ie z1 zs hie
 split at h
 case h_2=>cases h
 rename_i z hz
 simp only [Bool.and_eq_true,beq_iff_eq,decide_eq_true_eq] at h
 simp only [Option.isNone_iff_eq_none] at h
 obtain ⟨⟨⟨⟨⟨⟨⟨⟨⟨⟨⟨h1,h2⟩,h3⟩,h4⟩,h5⟩,h6⟩,h7⟩,h8⟩,p1⟩,p3⟩,h9⟩,h10⟩:=h
 split at h9
 case h_2=>cases h9
 rename_i x q hx ha
 rw [hk,ha] at hs
 simp only [sem,semBsliceM,List.map_cons,List.map_nil] at hs
 obtain ⟨rs,hrs,hs⟩:=Option.map_eq_some_iff.1 hs
 simp only [Prod.mk.injEq] at hs
 obtain ⟨rfl,rfl,rfl⟩:=hs
 rw [p1,ha] at hσ
 simp only [spendAll] at hσ
 have est:(q.spend σ).st=σ.st:=by cases q <;> rfl
 rw [← est] at hσ
 subst hσ
 have hrep:z1::zs=List.replicate len z1:=by
  apply List.eq_replicate_iff.2
  refine ⟨h6,fun y hy=>?_⟩
  have hy':=List.all_eq_true.1 h7 y hy
  exact (eqAVs_iff _ _).1 hy'
 exact bsliceM_ok fx hS ho hu hie hz h1 h2 h3 (by simpa using h4) h5 hrep h8 hx h9 hrs p3 h10 hnext

theorem op_bsliceO {sz:Nat} {zero:List (List AV)} {at_:List Nat} (hk:p.kind=.bsliceO sz zero at_) (h:ckBsliceM c o p sz zero at_=true):OpK c o p:=by
 intro g w pr bx σ σ' a call next Q fx _ hS hgo hnext
 obtain ⟨r,b',st',hs,hσ⟩:=goOp_some hgo
 unfold ckBsliceM at h
 split at h
 case h_2=>cases h
 rename_i t len parts ho
 split at h
 case h_2=>cases h
 rename_i e hu
 split at h
 case h_2=>cases h
 rename_i ie z1 zs hie
 split at h
 case h_2=>cases h
 rename_i z hz
 simp only [Bool.and_eq_true,beq_iff_eq,decide_eq_true_eq] at h
 simp only [Option.isNone_iff_eq_none] at h
 obtain ⟨⟨⟨⟨⟨⟨⟨⟨⟨⟨⟨h1,h2⟩,h3⟩,h4⟩,h5⟩,h6⟩,h7⟩,h8⟩,p1⟩,p3⟩,h9⟩,h10⟩:=h
 split at h9
 case h_2=>cases h9
 rename_i x q hx ha
 rw [hk,ha] at hs
 simp only [sem,semBsliceO,List.map_cons,List.map_nil] at hs
 obtain ⟨rs,hrs,hs⟩:=Option.map_eq_some_iff.1 hs
 simp only [Prod.mk.injEq] at hs
 obtain ⟨rfl,rfl,rfl⟩:=hs
 rw [p1,ha] at hσ
 simp only [spendAll] at hσ
 subst hσ
 have hrep:z1::zs=List.replicate len z1:=by
  apply List.eq_replicate_iff.2
  refine ⟨h6,fun y hy=>?_⟩
  have hy':=List.all_eq_true.1 h7 y hy
  exact (eqAVs_iff _ _).1 hy'
 have hzl:(z1::zs).length=len:=h6
 rw [hzl] at hnext
 exact bsliceO_ok fx hS ho hu hie hz h1 h2 h3 (by simpa using h4) h5 hrep h8 hx h9 hrs p3 h10 hnext

theorem op_ldLcS {i:Nat} (hk:p.kind=.ldLcS i) (h:ckLdLcS c o p i=true):OpK c o p:=by
 intro g w pr bx σ σ' a call next Q fx _ hS hgo hnext
 obtain ⟨r,b',st',hs,hσ⟩:=goOp_some hgo
 unfold ckLdLcS at h; split at h
 · rename_i t x j ho hb
   simp only [Bool.and_eq_true,beq_iff_eq,decide_eq_true_eq] at h
   obtain ⟨⟨⟨⟨rfl,h0⟩,h1⟩,h3⟩,h4⟩:=h
   obtain ⟨q,hq,hA⟩:=(reads_ok hS h3).one
   rw [hk,hq] at hs
   simp only [boxOf,hb,sem] at hs
   unfold semLdLcS at hs
   split at hs <;> first|cases hs; done|skip
   rename_i j off cs heq hbx
   simp only [List.cons.injEq,and_true] at heq
   subst heq
   split at hs <;> first|cases hs; done|skip
   rename_i hij
   subst hij
   split at hs <;> first|cases hs; done|skip
   rename_i z hz
   simp only [Option.some.injEq,Prod.mk.injEq] at hs
   obtain ⟨rfl,rfl,rfl⟩:=hs
   rw [hb,spendAll_none h3] at hσ
   subst hσ
   exact ldLcS_ok fx hS (List.getElem?_eq_getElem h0) ho h1 hbx hz hA.2 h4 hnext
 · cases h
theorem op_ldStS (hk:p.kind=.ldStS) (h:ckLdStS c o p=true):OpK c o p:=by
 intro g w pr bx σ σ' a call next Q fx _ hS hgo hnext
 obtain ⟨r,b',st',hs,hσ⟩:=goOp_some hgo
 unfold ckLdStS at h; split at h
 · rename_i t x ho
   simp only [Bool.and_eq_true,beq_iff_eq] at h
   obtain ⟨h1,h⟩:=h
   obtain ⟨p1,p2,p3⟩:=plainK_spec h
   obtain ⟨q,hq,hA⟩:=(reads_ok hS p2).one
   rw [hk,hq] at hs
   simp only [sem] at hs
   unfold semLdStS at hs
   split at hs <;> first|cases hs; done|skip
   rename_i oo off heq
   simp only [List.cons.injEq,and_true] at heq
   subst heq
   split at hs <;> first|cases hs; done|skip
   rename_i cs hcs
   split at hs <;> first|cases hs; done|skip
   rename_i z hz
   simp only [Option.some.injEq,Prod.mk.injEq] at hs
   obtain ⟨rfl,rfl,rfl⟩:=hs
   rw [p1,spendAll_none p2] at hσ
   subst hσ
   have hr:=ValOK.rel hA
   simp only [Rel] at hr
   exact ldStS_ok fx hS ho h1 hcs hz hr.2 p3 hnext
 · cases h
theorem op_stLc {i n:Nat} (hk:p.kind=.stLc i n) (h:ckStLc c o p i n=true):OpK c o p:=by
 intro g w pr bx σ σ' a call next Q fx _ hS hgo hnext
 obtain ⟨r,b',st',hs,hσ⟩:=goOp_some hgo
 unfold ckStLc at h; split at h
 · rename_i t x y j q0 q1 ho hd hpd hb ha
   simp only [Bool.and_eq_true,beq_iff_eq,decide_eq_true_eq] at h
   obtain ⟨⟨⟨⟨rfl,h0⟩,h1⟩,h2⟩,h3⟩:=h
   have hA:=read_ok hS h2
   have hsp0:q0.spend σ=σ:=by
    simp only [opdN,Bool.and_eq_true] at h2
    have:=h2.2
    cases q0 <;> simp_all [Opd.steals,Opd.spend]
   rw [hk,ha] at hs
   simp only [boxOf,hb,sem,List.map_cons,List.map_nil] at hs
   unfold semStLc at hs
   split at hs <;> first|cases hs; done|skip
   rename_i j off x' cs heq hbx
   simp only [List.cons.injEq,and_true] at heq
   obtain ⟨e0,e1⟩:=heq
   split at hs <;> first|cases hs; done|skip
   rename_i hcond
   obtain ⟨rfl,c1,c2,c3⟩:=hcond
   simp only [Option.some.injEq,Prod.mk.injEq] at hs
   obtain ⟨rfl,rfl,rfl⟩:=hs
   rw [hb,ha,hpd] at hσ
   simp only [spendAll,hsp0,Dst.put] at hσ
   have est:(q1.spend σ).st=σ.st:=by cases q1 <;> rfl
   subst e1
   rw [← est] at hσ
   subst hσ
   rw [e0] at hA
   exact stLc_ok hS (List.getElem?_eq_getElem h0) ho h1 hbx hA.2 h3 c1 c2 c3 hd hnext
 · cases h
theorem op_stSt {n:Nat} (hk:p.kind=.stSt n) (h:ckStSt c o p n=true):OpK c o p:=by
 intro g w pr bx σ σ' a call next Q fx _ hS hgo hnext
 obtain ⟨r,b',st',hs,hσ⟩:=goOp_some hgo
 unfold ckStSt at h; split at h
 · rename_i t x y q0 q1 ho hd hpd hb ha
   simp only [Bool.and_eq_true,beq_iff_eq] at h
   obtain ⟨⟨h1,h2⟩,h3⟩:=h
   have hA:=read_ok hS h2
   have hsp0:q0.spend σ=σ:=by
    simp only [opdN,Bool.and_eq_true] at h2
    have:=h2.2
    cases q0 <;> simp_all [Opd.steals,Opd.spend]
   rw [hk,ha] at hs
   simp only [sem,List.map_cons,List.map_nil] at hs
   unfold semStSt at hs
   split at hs <;> first|cases hs; done|skip
   rename_i oo off x' heq
   simp only [List.cons.injEq,and_true] at heq
   obtain ⟨e0,e1⟩:=heq
   split at hs <;> first|cases hs; done|skip
   rename_i cs hcs
   split at hs <;> first|cases hs; done|skip
   rename_i hcond
   obtain ⟨c1,c2,c3⟩:=hcond
   simp only [fL_eq,Option.some.injEq,Prod.mk.injEq] at hs
   obtain ⟨rfl,rfl,rfl⟩:=hs
   rw [hb,ha,hpd] at hσ
   simp only [spendAll,hsp0,Dst.put] at hσ
   subst e1
   subst hσ
   rw [e0] at hA
   have hr:=ValOK.rel hA
   simp only [Rel] at hr
   exact stSt_ok hS ho h1 hcs hr.2 h3 c1 c2 c3 hd hnext
 · cases h
theorem op_mset {kc:Nat} (hk:p.kind=.mset kc) (h:ckMset c o p kc=true):OpK c o p:=by
 intro g w pr bx σ σ' a call next Q fx _ hS hgo hnext
 obtain ⟨r,b',st',hs,hσ⟩:=goOp_some hgo
 unfold ckMset at h
 have key:∀ (t:TypeId) (m k x:Operand),(o.op=.mapUpdate t m k x∨o.op=.insert t m k x) →
  ((match c.P.underlying t with|some (.map kt _)=>keyClass c.P kc kt|_=>false) && o.dst.isNone && plainK c o p [m,k,x])=true→o.wp c.P a w next Q:=by
  intro t m k x ho h
  simp only [Bool.and_eq_true,Option.isNone_iff_eq_none] at h
  obtain ⟨⟨h1,h2⟩,h⟩:=h
  split at h1
  case h_2=>cases h1
  rename_i kt et hu
  obtain ⟨p1,p2,p3⟩:=plainK_spec h
  obtain ⟨q0,q1,q2,hq,hA0,hA1,hA2⟩:=(reads_ok hS p2).three
  rw [hk,hq] at hs
  simp only [sem] at hs
  unfold semMset at hs
  split at hs <;> first|cases hs; done|skip
  rename_i oo kv xv heq
  simp only [List.cons.injEq,and_true] at heq
  obtain ⟨rfl,rfl,rfl⟩:=heq
  split at hs <;> first|cases hs; done|skip
  rename_i hpl
  split at hs <;> first|cases hs; done|skip
  rename_i es hes
  have hr:=ValOK.rel hA0
  simp only [Rel] at hr
  have hdn:p.dst=.none:=by
   rw [h2] at p3
   cases hpd:p.dst <;> simp_all [dstOK]
  rw [p1,spendAll_none p2,hdn] at hσ
  simp only [Dst.put] at hσ
  subst hσ
  split at hs
  · rename_i i v hf
    simp only [Option.some.injEq,Prod.mk.injEq] at hs
    obtain ⟨rfl,rfl,rfl⟩:=hs
    exact mset_ok hS ho hu h1 hes hr.2 hA1 hA2 hpl h2 (by rw [hf]) hnext
  · rename_i hf
    obtain ⟨zz,hz,hs⟩:=Option.bind_eq_some_iff.1 hs
    simp only [Option.some.injEq,Prod.mk.injEq] at hs
    obtain ⟨rfl,rfl,rfl⟩:=hs
    exact mset_ok hS ho hu h1 hes hr.2 hA1 hA2 hpl h2 (by rw [hf]; simp [hz]) hnext
  · cases hs
 split at h
 · rename_i t m k x ho; exact key t m k x (.inl ho) h
 · rename_i t m k x ho; exact key t m k x (.inr ho) h
 · cases h
theorem op_mdel {kc:Nat} (hk:p.kind=.mdel kc) (h:ckMdel c o p kc=true):OpK c o p:=by
 intro g w pr bx σ σ' a call next Q fx _ hS hgo hnext
 obtain ⟨r,b',st',hs,hσ⟩:=goOp_some hgo
 unfold ckMdel at h
 split at h
 · rename_i m k t ts ho
   simp only [Bool.and_eq_true,Option.isNone_iff_eq_none] at h
   obtain ⟨⟨h1,h2⟩,h⟩:=h
   split at h1
   case h_2=>cases h1
   rename_i kt et hu
   obtain ⟨p1,p2,p3⟩:=plainK_spec h
   obtain ⟨q0,q1,hq,hA0,hA1⟩:=(reads_ok hS p2).two
   rw [hk,hq] at hs
   simp only [sem] at hs
   unfold semMdel at hs
   split at hs <;> first|cases hs; done|skip
   rename_i oo kv heq
   simp only [List.cons.injEq,and_true] at heq
   obtain ⟨rfl,rfl⟩:=heq
   split at hs <;> first|cases hs; done|skip
   rename_i es hes
   have hr:=ValOK.rel hA0
   simp only [Rel] at hr
   have hdn:p.dst=.none:=by
    rw [h2] at p3
    cases hpd:p.dst <;> simp_all [dstOK]
   rw [p1,spendAll_none p2,hdn] at hσ
   simp only [Dst.put] at hσ
   subst hσ
   split at hs
   · rename_i i v hf
     simp only [Option.some.injEq,Prod.mk.injEq] at hs
     obtain ⟨rfl,rfl,rfl⟩:=hs
     exact mdel_ok hS ho rfl hu h1 hes hr.2 hA1 h2 (by rw [hf]) hnext
   · rename_i hf
     simp only [Option.some.injEq,Prod.mk.injEq] at hs
     obtain ⟨rfl,rfl,rfl⟩:=hs
     exact mdel_ok hS ho rfl hu h1 hes hr.2 hA1 h2 (by rw [hf]) hnext
   · cases hs
 · cases h
theorem op_slO {sz:Nat} (hk:p.kind=.slO sz) (h:ckSlO c o p sz=true):OpK c o p:=by
 intro g w pr bx σ σ' a call next Q fx _ hS hgo hnext
 obtain ⟨r,b',st',hs,hσ⟩:=goOp_some hgo
 unfold ckSlO at h; split at h
 · rename_i t x l q0 q1 ho ha
   simp only [Bool.and_eq_true,Option.isNone_iff_eq_none] at h
   obtain ⟨⟨⟨⟨h1,h2⟩,h3⟩,h4⟩,h5⟩:=h
   split at h1 <;> first|cases h1; done|skip
   rename_i e hu
   simp only [beq_iff_eq] at h1
   have hsp1:q1.spend (q0.spend σ)=q0.spend σ:=by
    simp only [opdN,Bool.and_eq_true] at h4
    have:=h4.2
    cases q1 <;> simp_all [Opd.steals,Opd.spend]
   rw [hk,ha] at hs
   simp only [sem,List.map_cons,List.map_nil] at hs
   unfold semSlO at hs
   split at hs <;> first|cases hs; done|skip
   rename_i own xs k l heq
   simp only [List.cons.injEq,and_true] at heq
   obtain ⟨e0,e1⟩:=heq
   split at hs <;> first|cases hs; done|skip
   rename_i hcond
   obtain ⟨c1,c2,c3⟩:=hcond
   simp only [Option.some.injEq,Prod.mk.injEq] at hs
   obtain ⟨rfl,rfl,rfl⟩:=hs
   rw [h2,ha] at hσ
   simp only [spendAll,hsp1] at hσ
   have est:(q0.spend σ).st=σ.st:=by cases q0 <;> rfl
   rw [← est] at hσ
   subst hσ
   exact slO_ok fx hS ho hu h1 h3 h4 h5 e0 e1 c1 c2 c3 hnext
 · cases h
theorem op_app {sz bytes:Nat} (hk:p.kind=.app sz bytes) (h:ckApp c o p sz bytes=true):OpK c o p:=by
 intro g w pr bx σ σ' a call next Q fx _ hS hgo hnext
 obtain ⟨r,b',st',hs,hσ⟩:=goOp_some hgo
 unfold ckApp at h; split at h
 · rename_i x y t t' q0 q1 ho ha
   simp only [Bool.and_eq_true,beq_iff_eq,Option.isNone_iff_eq_none] at h
   obtain ⟨⟨⟨⟨⟨⟨rfl,h1⟩,h2⟩,h3⟩,h4⟩,h5⟩,h6⟩:=h
   split at h1 <;> first|cases h1; done|skip
   rename_i e hu
   split at h1 <;> first|cases h1; done|skip
   rename_i ie hie
   simp only [Bool.and_eq_true,beq_iff_eq,decide_eq_true_eq] at h1
   obtain ⟨⟨⟨z1,z2⟩,z3⟩,z4⟩:=h1
   split at z4 <;> first|cases z4; done|skip
   rename_i z hz
   simp only [beq_iff_eq] at z4
   have hsp1:q1.spend (q0.spend σ)=q0.spend σ:=by
    simp only [opdN,Bool.and_eq_true] at h4
    have:=h4.2
    cases q1 <;> simp_all [Opd.steals,Opd.spend]
   rw [hk,ha] at hs
   simp only [sem,List.map_cons,List.map_nil] at hs
   unfold semApp at hs
   split at hs <;> first|cases hs; done|skip
   rename_i xs own ys heq
   simp only [List.cons.injEq,and_true] at heq
   obtain ⟨e0,e1⟩:=heq
   split at hs <;> first|cases hs; done|skip
   rename_i hcond
   simp only [Bool.and_eq_true,decide_eq_true_eq] at hcond
   obtain ⟨⟨c1,c2⟩,c3⟩:=hcond
   simp only [Option.some.injEq,Prod.mk.injEq] at hs
   obtain ⟨rfl,rfl,rfl⟩:=hs
   rw [h2,ha] at hσ
   simp only [spendAll,hsp1] at hσ
   have est:(q0.spend σ).st=σ.st:=by cases q0 <;> rfl
   rw [← est] at hσ
   subst hσ
   exact app_ok fx hS ho rfl hu hie hz z1 z2 z4 z3 h3 h4 h5 h6 e0 e1 c1 c2 c3 hnext
 · cases h
theorem op_appM {sz bytes:Nat} (hk:p.kind=.appM sz bytes) (h:ckAppM c o p sz bytes=true):OpK c o p:=by
 intro g w pr bx σ σ' a call next Q fx _ hS hgo hnext
 obtain ⟨r,b',st',hs,hσ⟩:=goOp_some hgo
 unfold ckAppM at h; split at h
 · rename_i x y t t' q0 q1 gs ho ha
   simp only [Bool.and_eq_true,beq_iff_eq,Option.isNone_iff_eq_none] at h
   obtain ⟨⟨⟨⟨⟨⟨⟨rfl,h1⟩,h2⟩,h3⟩,h4⟩,h5⟩,h6⟩,h7⟩:=h
   split at h1 <;> first|cases h1; done|skip
   rename_i e hu
   split at h1 <;> first|cases h1; done|skip
   rename_i ie hie
   simp only [Bool.and_eq_true,beq_iff_eq,decide_eq_true_eq] at h1
   obtain ⟨⟨⟨z1,z2⟩,z3⟩,z4⟩:=h1
   split at z4 <;> first|cases z4; done|skip
   rename_i z hz
   simp only [beq_iff_eq] at z4
   have hsp1:∀ τ:Sig,q1.spend τ=τ:=fun τ=>by
    simp only [opdN,Bool.and_eq_true] at h4
    have:=h4.2
    cases q1 <;> simp_all [Opd.steals,Opd.spend]
   have hsp2:∀ (gs:List Opd) (τ:Sig),gs.all (fun q=>!q.steals)=true→spendAll gs τ=τ:=by
    intro gs
    induction gs with
    | nil=>intro τ _; rfl
    | cons q gs ih =>
     intro τ hg
     simp only [List.all_cons,Bool.and_eq_true] at hg
     have hq:q.spend τ=τ:=by
      have:=hg.1
      cases q <;> simp_all [Opd.steals,Opd.spend]
     rw [spendAll,hq]
     exact ih τ hg.2
   rw [hk,ha] at hs
   simp only [sem,List.map_cons] at hs
   rw [h2,ha] at hσ
   simp only [spendAll,hsp1,hsp2 gs _ h7] at hσ
   subst hσ
   exact appM_ok fx hS ho rfl hu hie hz z1 z2 z4 z3 h3 h4 h5 hs hnext
 · cases h
theorem op_appA {bytes:Nat} (hk:p.kind=.appA bytes) (h:ckAppA c o p bytes=true):OpK c o p:=by
 intro g w pr bx σ σ' a call next Q fx _ hS hgo hnext
 obtain ⟨r,b',st',hs,hσ⟩:=goOp_some hgo
 unfold ckAppA at h; split at h
 · rename_i x y t t' q0 q1 ho ha
   simp only [Bool.and_eq_true,beq_iff_eq,Option.isNone_iff_eq_none] at h
   obtain ⟨⟨⟨⟨⟨⟨rfl,h1⟩,h2⟩,h3⟩,h4⟩,h5⟩,h6⟩:=h
   split at h1 <;> first|cases h1; done|skip
   rename_i e hu
   split at h1 <;> first|cases h1; done|skip
   rename_i ie hie
   simp only [Bool.and_eq_true,beq_iff_eq,decide_eq_true_eq] at h1
   obtain ⟨⟨⟨z1,z2⟩,z3⟩,z4⟩:=h1
   split at z4 <;> first|cases z4; done|skip
   rename_i z hz
   simp only [beq_iff_eq] at z4
   have hsp1:q1.spend (q0.spend σ)=q0.spend σ:=by
    simp only [opdN,Bool.and_eq_true] at h4
    have:=h4.2
    cases q1 <;> simp_all [Opd.steals,Opd.spend]
   have est:(q0.spend σ).st=σ.st:=by cases q0 <;> rfl
   rw [hk,ha] at hs
   simp only [sem,List.map_cons,List.map_nil] at hs
   rw [h2,ha] at hσ
   simp only [spendAll,hsp1] at hσ
   unfold semAppA at hs
   split at hs <;> first|cases hs; done|skip
   · rename_i xs heq
     simp only [List.cons.injEq,and_true] at heq
     obtain ⟨e0,e1⟩:=heq
     split at hs <;> first|cases hs; done|skip
     rename_i hcond
     simp only [Bool.and_eq_true,decide_eq_true_eq] at hcond
     obtain ⟨c1,c3⟩:=hcond
     simp only [Option.some.injEq,Prod.mk.injEq] at hs
     obtain ⟨rfl,rfl,rfl⟩:=hs
     rw [← est] at hσ
     subst hσ
     exact appA_nils fx hS ho rfl hu hie hz z1 z2 z4 z3 h3 h4 h5 h6 e0 e1 c1 c3 hnext
   · rename_i xs ob n heq
     simp only [List.cons.injEq,and_true] at heq
     obtain ⟨e0,e1⟩:=heq
     split at hs <;> first|cases hs; done|skip
     rename_i cs hcs
     split at hs <;> first|cases hs; done|skip
     rename_i hcond
     simp only [Bool.and_eq_true,decide_eq_true_eq] at hcond
     obtain ⟨⟨c1,c4⟩,c3⟩:=hcond
     simp only [Option.some.injEq,Prod.mk.injEq] at hs
     obtain ⟨rfl,rfl,rfl⟩:=hs
     rw [← est] at hσ
     subst hσ
     obtain rfl:=Nat.eq_of_beq_eq_true c4
     exact appA_ok fx hS ho rfl hu hie hz z1 z2 z4 z3 h3 h4 h5 h6 e0 e1 hcs c1 c3 hnext
 · cases h
theorem op_appS {bytes:Nat} (hk:p.kind=.appS bytes) (h:ckAppS c o p bytes=true):OpK c o p:=by
 intro g w pr bx σ σ' a call next Q fx _ hS hgo hnext
 obtain ⟨r,b',st',hs,hσ⟩:=goOp_some hgo
 unfold ckAppS at h; split at h
 · rename_i x y t t' q0 q1 ho ha
   simp only [Bool.and_eq_true,Option.isNone_iff_eq_none] at h
   obtain ⟨⟨⟨⟨⟨⟨h0,h1⟩,h2⟩,h3⟩,h4⟩,h5⟩,h6⟩:=h
   split at h0 <;> first|cases h0; done|skip
   rename_i hux
   split at h1 <;> first|cases h1; done|skip
   rename_i e hu
   split at h1 <;> first|cases h1; done|skip
   rename_i ie hie
   simp only [Bool.and_eq_true,beq_iff_eq,decide_eq_true_eq] at h1
   obtain ⟨⟨⟨z1,z2⟩,z3⟩,z4⟩:=h1
   split at z4 <;> first|cases z4; done|skip
   rename_i z hz
   simp only [beq_iff_eq] at z4
   have hsp1:q1.spend (q0.spend σ)=q0.spend σ:=by
    simp only [opdN,Bool.and_eq_true] at h4
    have:=h4.2
    cases q1 <;> simp_all [Opd.steals,Opd.spend]
   have est:(q0.spend σ).st=σ.st:=by cases q0 <;> rfl
   rw [hk,ha] at hs
   simp only [sem,List.map_cons,List.map_nil] at hs
   rw [h2,ha] at hσ
   simp only [spendAll,hsp1] at hσ
   unfold semAppS at hs
   split at hs <;> first|cases hs; done|skip
   rename_i xs s heq
   simp only [List.cons.injEq,and_true] at heq
   obtain ⟨e0,e1⟩:=heq
   split at hs <;> first|cases hs; done|skip
   rename_i hcond
   simp only [Bool.and_eq_true,decide_eq_true_eq] at hcond
   obtain ⟨c1,c3⟩:=hcond
   simp only [Option.some.injEq,Prod.mk.injEq] at hs
   obtain ⟨rfl,rfl,rfl⟩:=hs
   rw [← est] at hσ
   subst hσ
   exact appS_ok fx hS ho rfl hu hux hie hz z1 z2 z4 z3 h3 h4 h5 h6 e0 e1 c1 c3 hnext
 · cases h
theorem op_clrS (hk:p.kind=.clrS) (h:ckClrS c o p=true):OpK c o p:=by
 intro g w pr bx σ σ' a call next Q fx _ hS hgo hnext
 obtain ⟨r,b',st',hs,hσ⟩:=goOp_some hgo
 unfold ckClrS at h
 split at h
 · rename_i x t ho
   simp only [Bool.and_eq_true,Option.isNone_iff_eq_none] at h
   obtain ⟨⟨h1,h2⟩,h⟩:=h
   split at h1 <;> first|cases h1; done|skip
   rename_i e hu
   split at h1 <;> first|cases h1; done|skip
   rename_i ie hie
   split at h1 <;> first|cases h1; done|skip
   rename_i bs hz
   have hbs:=Nat.eq_of_beq_eq_true h1
   obtain ⟨p1,p2,p3⟩:=plainK_spec h
   obtain ⟨q0,hq,hA0⟩:=(reads_ok hS p2).one
   rw [hk,hq] at hs
   simp only [sem] at hs
   unfold semClrS at hs
   have hdn:p.dst=.none:=by
    rw [h2] at p3
    cases hpd:p.dst <;> simp_all [dstOK]
   rw [p1,spendAll_none p2,hdn] at hσ
   simp only [Dst.put] at hσ
   subst hσ
   split at hs <;> first|cases hs; done|skip
   · rename_i oo f n s heq
     simp only [List.cons.injEq,and_true] at heq
     subst heq
     split at hs <;> first|cases hs; done|skip
     rename_i cs hcs
     split at hs <;> first|cases hs; done|skip
     rename_i hc
     rw [fL_eq] at hs
     simp only [Option.some.injEq,Prod.mk.injEq] at hs
     obtain ⟨rfl,rfl,rfl⟩:=hs
     have hr:=ValOK.rel hA0
     simp only [Rel] at hr
     obtain ⟨_,cap,hv,_⟩:=hr
     exact clr_ok hS ho rfl hu hie hz hbs hcs hv hc.2 h2 hnext
   · rename_i heq
     simp only [List.cons.injEq,and_true] at heq
     subst heq
     simp only [Option.some.injEq,Prod.mk.injEq] at hs
     obtain ⟨rfl,rfl,rfl⟩:=hs
     have hr:=ValOK.rel hA0
     simp only [Rel] at hr
     exact clr_nils hS ho rfl hu hr h2 hnext
 · cases h
theorem op_b2s (hk:p.kind=.b2s) (h:ckB2s c o p=true):OpK c o p:=by
 unfold ckB2s at h; split at h
 · rename_i t u x ho
   simp only [Bool.and_eq_true] at h
   obtain ⟨hu,h⟩:=h
   split at hu
   · rename_i e h1 h2
     split at hu
     · rename_i h3
       exact pureK_of h fun hS hr hs=>by rw [hk] at hs; exact sim_b2s (call:=nc) ho h1 h3 h2 hr hs
     · cases hu
   · cases hu
 · cases h
theorem op_call {f:Nat} (hk:p.kind=.call f) (h:ckCall c o p f=true):OpK c o p:=by
 intro g w pr bx σ σ' a call next Q fx hc hS hgo hnext
 obtain ⟨r,b',st',hs,hσ⟩:=goOp_some hgo
 unfold ckCall at h; split at h
 · rename_i f' xs ats ho
   simp only [Bool.and_eq_true,beq_iff_eq] at h
   obtain ⟨rfl,h⟩:=h
   obtain ⟨p1,p2,p3⟩:=plainK_spec h
   have hA:=reads_ok hS p2
   rw [hk] at hs
   simp only [sem,semCall] at hs
   split at hs <;> first|cases hs; done|skip
   rename_i hpl
   obtain ⟨⟨v,st2⟩,hcall,hs⟩:=Option.map_eq_some_iff.1 hs
   simp only [Prod.mk.injEq] at hs
   obtain ⟨rfl,rfl,rfl⟩:=hs
   rw [p1,spendAll_none p2] at hσ
   subst hσ
   obtain ⟨hen,hcl⟩:=hc _ _ _ _ _ hcall (fun x hx=>by obtain ⟨y,_,rfl⟩:=List.mem_map.1 hx; exact weak_weak y)
   refine enter_ok fx hS (f:=vf f) (vs:=xs.map a.eval) ?_ ?_ p3 hnext
   · unfold execOp
     simp only [ho,resolve,Deferred.ofValue,Act.eval,Sem.run_bind,Sem.run_pure,Result.andThen_ok,invoke,Array.append_empty,Array.empty_append]
     exact run_enter hen _ _
   · have:=hcl g w _ hS.st hS.gl (allPlain_rel hA hpl)
     have e:(xs.toList.map a.eval).toArray=xs.map a.eval:=by apply Array.ext'; simp
     rw [e] at this
     exact this
 · cases h
theorem op_callV (hk:p.kind=.callV) (h:ckCallV c o p=true):OpK c o p:=by
 intro g w pr bx σ σ' a call next Q fx hc hS hgo hnext
 obtain ⟨r,b',st',hs,hσ⟩:=goOp_some hgo
 unfold ckCallV at h; split at h
 · rename_i s xs ats ho
   obtain ⟨p1,p2,p3⟩:=plainK_spec h
   obtain ⟨q,qs,hq,hA0,hA⟩:=(reads_ok hS p2).cons_inv
   rw [hk,hq] at hs
   simp only [sem] at hs
   unfold semCallV at hs
   split at hs <;> first|cases hs; done|skip
   rename_i f first caps as heq
   simp only [List.cons.injEq] at heq
   obtain ⟨rfl,rfl⟩:=heq
   split at hs <;> first|cases hs; done|skip
   rename_i hpl
   obtain ⟨⟨v,st2⟩,hcall,hs⟩:=Option.map_eq_some_iff.1 hs
   simp only [Prod.mk.injEq] at hs
   obtain ⟨rfl,rfl,rfl⟩:=hs
   rw [p1,spendAll_none p2] at hσ
   subst hσ
   obtain ⟨hen,hcl⟩:=hc _ _ _ _ _ hcall (fun x hx=>by obtain ⟨y,_,rfl⟩:=List.mem_map.1 hx; exact weak_weak y)
   have hr:=ValOK.rel hA0
   simp only [Rel] at hr
   obtain ⟨fa,ca,hev,hr1,hr2⟩:=hr
   refine enter_ok fx hS (f:=vf f) (vs:=fa++xs.map a.eval++ca) ?_ ?_ p3 hnext
   · unfold execOp
     simp only [ho,resolve,hev,Deferred.ofValue,Sem.run_bind,Sem.run_pure,Result.andThen_ok,invoke]
     exact run_enter hen _ _
   · have hw:∀ {l:List AV} {us:List Value},RelL g w l us→RelL g w (l.map AV.weak) us:=fun {l} {us} hl=>RelL.of_get (by rw [List.length_map]; exact hl.length) fun i y u hy hu=>by
      rw [List.getElem?_map] at hy
      obtain ⟨z,hz,rfl⟩:=Option.map_eq_some_iff.1 hy
      obtain ⟨u',hu',hr⟩:=hl.get hz
      rw [hu] at hu'
      cases hu'
      exact hr.weak
     have:=hcl g w (fa.toList++xs.toList.map a.eval++ca.toList) hS.st hS.gl (by
      rw [List.map_append,List.map_append]
      exact ((hw hr1).append (allPlain_rel hA hpl)).append (hw hr2))
     have e:(fa.toList++xs.toList.map a.eval++ca.toList).toArray=fa++xs.map a.eval++ca:=by
      apply Array.ext'; simp
     rw [e] at this
     exact this
 · cases h

theorem spend_quiet {q:Opd} (h:(!q.steals)=true) (σ:Sig):q.spend σ=σ:=by cases q <;> simp_all [Opd.steals,Opd.spend]
theorem spendAll_quiet:∀ {qs:List Opd},quiet qs=true→∀ σ:Sig,spendAll qs σ=σ
 | [],_,_=>rfl
 | q::qs,h,σ=>by
  simp only [quiet,List.all_cons,Bool.and_eq_true] at h
  rw [spendAll,spend_quiet h.1]
  exact spendAll_quiet h.2 σ
theorem spendAll_app:∀ (ps qs:List Opd) (σ:Sig),spendAll (ps++qs) σ=spendAll qs (spendAll ps σ)
 | [],_,_=>rfl
 | p::ps,qs,σ=>by rw [List.cons_append,spendAll,spendAll,spendAll_app ps]
theorem opK_bare {p':AOper} {m:Nat} (hk:OpK c o p') (hd:p'.dst=p.dst) (hb:p'.box=p.box) (ha:p'.args=p.args.take m) (hq:quiet (p.args.drop m)=true)
 (hs:∀ {call:CallT} {σ:Sig} {r b':AV} {st':St},sem p.kind call (p.args.map (·.read σ)) (boxOf p σ) σ.st=some (r,b',st')→sem p'.kind call (p'.args.map (·.read σ)) (boxOf p' σ) σ.st=some (r,b',st')):OpK c o p:=by
 intro g w pr bx σ σ' a call next Q fx hc hS hgo hnext
 obtain ⟨r,b',st',h1,hσ⟩:=goOp_some hgo
 refine hk fx hc hS (σ':=σ') ?_ hnext
 have h2:=hs h1
 rw [goOp_eq]
 have hsp:spendAll p.args σ=spendAll p'.args σ:=by
  rw [ha]
  conv=>lhs; rw [← List.take_append_drop m p.args]
  rw [spendAll_app,spendAll_quiet hq]
 rw [hσ,hsp,← hd,← hb]
 cases hbx:p'.box with
 | none=>simp only [boxOf,hbx] at h2 ⊢; rw [h2]
 | some i=>simp only [boxOf,hbx] at h2 ⊢; rw [h2]
theorem op_ldStR {ag:Bool} {n:Nat} (hk:p.kind=.ldStR ag n) (h:(ckLdSt c o p.bare ag n && quiet p.beside)=true):OpK c o p:=by
 simp only [Bool.and_eq_true] at h
 have e:p.bare={ p with kind:=.ldSt ag n,args:=p.args.take 1 }:=by unfold AOper.bare; rw [hk]
 have e2:p.beside=p.args.drop 1:=by unfold AOper.beside; rw [hk]
 rw [e,e2] at h
 refine @opK_bare c o p { p with kind:=.ldSt ag n,args:=p.args.take 1 } 1 (op_ldSt (p:={ p with kind:=.ldSt ag n,args:=p.args.take 1 }) rfl h.1) rfl rfl rfl h.2 ?_
 intro call σ r b' st' hs
 rw [hk] at hs
 simp only [sem] at hs ⊢
 unfold semLdStR at hs
 split at hs <;> first|cases hs; done|skip
 rename_i oo off rt heq
 split at hs <;> first|cases hs; done|skip
 split at hs <;> first|cases hs; done|skip
 rw [List.map_take,heq]
 exact hs
theorem op_mgetR {kc:Nat} {zero:List AV} {ag ok:Bool} (hk:p.kind=.mgetR kc zero ag ok) (h:(ckMget c o p.bare kc zero ag ok && quiet p.beside)=true):OpK c o p:=by
 simp only [Bool.and_eq_true] at h
 have e:p.bare={ p with kind:=.mget kc zero ag ok,args:=p.args.take 2 }:=by unfold AOper.bare; rw [hk]
 have e2:p.beside=p.args.drop 2:=by unfold AOper.beside; rw [hk]
 rw [e,e2] at h
 refine @opK_bare c o p { p with kind:=.mget kc zero ag ok,args:=p.args.take 2 } 2 (op_mget (p:={ p with kind:=.mget kc zero ag ok,args:=p.args.take 2 }) rfl h.1) rfl rfl rfl h.2 ?_
 intro call σ r b' st' hs
 rw [hk] at hs
 simp only [sem] at hs ⊢
 unfold semMgetR at hs
 split at hs <;> first|cases hs; done|skip
 rename_i oo kk pp ff heq
 split at hs <;> first|cases hs; done|skip
 split at hs <;> first|cases hs; done|skip
 rw [List.map_take,heq]
 exact hs
theorem op_ldStSR {d:Nat} (hk:p.kind=.ldStSR d) (h:(ckLdStS c o p.bare && quiet p.beside)=true):OpK c o p:=by
 simp only [Bool.and_eq_true] at h
 have e:p.bare={ p with kind:=.ldStS,args:=p.args.take 1 }:=by unfold AOper.bare; rw [hk]
 have e2:p.beside=p.args.drop 1:=by unfold AOper.beside; rw [hk]
 rw [e,e2] at h
 refine @opK_bare c o p { p with kind:=.ldStS,args:=p.args.take 1 } 1 (op_ldStS (p:={ p with kind:=.ldStS,args:=p.args.take 1 }) rfl h.1) rfl rfl rfl h.2 ?_
 intro call σ r b' st' hs
 rw [hk] at hs
 simp only [sem] at hs ⊢
 unfold semLdStSR at hs
 split at hs <;> first|cases hs; done|skip
 rename_i oo off pp f heq
 split at hs <;> first|cases hs; done|skip
 rw [List.map_take,heq]
 exact hs
theorem op_stStA {n:Nat} (hk:p.kind=.stStA n) (h:(ckStSt c o p.bare n && quiet p.beside)=true):OpK c o p:=by
 simp only [Bool.and_eq_true] at h
 have e:p.bare={ p with kind:=.stSt n,args:=p.args.take 2 }:=by unfold AOper.bare; rw [hk]
 have e2:p.beside=p.args.drop 2:=by unfold AOper.beside; rw [hk]
 rw [e,e2] at h
 refine @opK_bare c o p { p with kind:=.stSt n,args:=p.args.take 2 } 2 (op_stSt (p:={ p with kind:=.stSt n,args:=p.args.take 2 }) rfl h.1) rfl rfl rfl h.2 ?_
 intro call σ r b' st' hs
 rw [hk] at hs
 simp only [sem] at hs ⊢
 unfold semStStA at hs
 split at hs <;> first|cases hs; done|skip
 rename_i oo off x rt gs heq
 split at hs <;> first|cases hs; done|skip
 split at hs <;> first|cases hs; done|skip
 rw [List.map_take,heq]
 exact hs
theorem op_callA {f m:Nat} (hk:p.kind=.callA f m) (h:(ckCall c o p.bare f && quiet p.beside)=true):OpK c o p:=by
 simp only [Bool.and_eq_true] at h
 have e:p.bare={ p with kind:=.call f,args:=p.args.take m }:=by unfold AOper.bare; rw [hk]
 have e2:p.beside=p.args.drop m:=by unfold AOper.beside; rw [hk]
 rw [e,e2] at h
 refine @opK_bare c o p { p with kind:=.call f,args:=p.args.take m } m (op_call (p:={ p with kind:=.call f,args:=p.args.take m }) rfl h.1) rfl rfl rfl h.2 ?_
 intro call σ r b' st' hs
 rw [hk] at hs
 simp only [sem] at hs ⊢
 unfold semCallA at hs
 split at hs <;> first|cases hs; done|skip
 rename_i v b2 s2 heq
 split at hs <;> first|cases hs; done|skip
 simp only [Option.some.injEq,Prod.mk.injEq] at hs
 obtain ⟨rfl,rfl,rfl⟩:=hs
 rw [List.map_take]
 exact heq

theorem op_stuck (hk:p.kind=.stuck):OpK c o p:=by
 intro g w pr bx σ σ' a call next Q fx _ hS hgo hnext
 obtain ⟨r,b',st',hs,hσ⟩:=goOp_some hgo
 rw [hk] at hs
 cases hs
theorem op_ok (h:opOK c o p=true):OpK c o p:=by
 unfold opOK at h
 split at h
 case h_1 hk=>exact op_mv hk h
 case h_2 hk=>exact op_pick hk h
 case h_3 hk=>exact op_nilchk hk h
 case h_4 hk=>exact op_alloc hk h
 case h_5 hk=>exact op_boxV hk h
 case h_6 hk=>exact op_allocO hk h
 case h_7 hk=>exact op_boxO hk h
 case h_8 hk=>exact op_build hk h
 case h_9 hk=>exact op_bslice hk h
 case h_10 hk=>exact op_bsliceM hk h
 case h_11 hk=>exact op_ldLc hk h
 case h_12 hk=>exact op_ldSt hk h
 case h_13 hk=>exact op_ldRo hk h
 case h_14 hk=>exact op_ldAn hk h
 case h_15 hk=>exact op_ldStR hk h
 case h_16 hk=>exact op_ldStSR hk h
 case h_17 hk=>exact op_stStA hk h
 case h_18 hk=>exact op_callA hk h
 case h_19 hk=>exact op_ldLcS hk h
 case h_20 hk=>exact op_ldStS hk h
 case h_21 hk=>exact op_stLc hk h
 case h_22 hk=>exact op_stSt hk h
 case h_23 hk=>exact op_fad hk h
 case h_24 hk=>exact op_fld hk h
 case h_25 hk=>exact op_iad hk h
 case h_26 hk=>exact op_iadA hk h
 case h_27 hk=>exact op_idxS hk h
 case h_28 hk=>exact op_slS hk h
 case h_29 hk=>exact op_slL hk h
 case h_30 hk=>exact op_slZ hk h
 case h_31 hk=>exact op_slA hk h
 case h_32 hk=>exact op_bin hk h
 case h_33 hk=>exact op_binB hk h
 case h_34 hk=>exact op_binP hk h
 case h_35 hk=>exact op_un hk h
 case h_36 hk=>exact op_conv hk h
 case h_37 hk=>exact op_mkF hk h
 case h_38 hk=>exact op_mkM hk h
 case h_39 hk=>exact op_mget hk h
 case h_40 hk=>exact op_mset hk h
 case h_41 hk=>exact op_ext hk h
 case h_42 hk=>exact op_call hk h
 case h_43 hk=>exact op_callV hk h
 case h_44 hk=>exact op_lenS hk h
 case h_45 hk=>exact op_lenL hk h
 case h_46 hk=>exact op_app hk h
 case h_47 hk=>exact op_appM hk h
 case h_48 hk=>exact op_b2s hk h
 case h_49 hk=>exact op_appA hk h
 case h_50 hk=>exact op_bsliceO hk h
 case h_51 hk=>exact op_min2 hk h
 case h_52 hk=>exact op_eqIS hk h
 case h_53 hk=>exact op_stuck hk
 case h_54 hk=>exact op_mdel hk h
 case h_55 hk=>exact op_slO hk h
 case h_56 hk=>exact op_max2 hk h
 case h_57 hk=>exact op_idxA hk h
 case h_58 hk=>exact op_appS hk h
 case h_59 hk=>exact op_clrS hk h
 case h_60 hk=>exact op_mgetR hk h
end
end Go.Cb
/-
 THE ABSTRACT MACHINE, part 21: what an operation reads and writes; the test of a region, of code.
-/
set_option maxRecDepth 4000
set_option linter.unusedVariables false
namespace Go.Cb
open Classical

inductive Atom where
 | t (s:Nat)|v (i:Nat)|st
 deriving DecidableEq

def Opd.atoms:Opd→List Atom
 | .t s|.ts s=>[.t s]
 | .v i|.vs i|.l i=>[.v i]
 | .c _=>[]

def Opd.spent:Opd→List Atom
 | .ts s=>[.t s]
 | .vs i=>[.v i]
 | _=>[]

def Kind.useSt:Kind→Bool
 | .allocO _|.boxO|.bsliceO ..|.appM ..|.appA _|.ldSt ..|.ldAn ..|.ldStR ..|.ldStSR _|.stStA _|.callA ..|.ldStS|.stSt _|.mkM|.mget ..|.mgetR ..|.mset _|.mdel _|.clrS|.call _|.callV=>true
 | _=>false
def Kind.setSt:Kind→Bool
 | .allocO _|.boxO|.bsliceO ..|.appM ..|.ldStSR _|.stStA _|.callA ..|.ldStS|.stSt _|.mkM|.mset _|.mdel _|.clrS|.call _|.callV=>true
 | _=>false

def Dst.atoms:Dst→List Atom
 | .t s=>[.t s]
 | .v i=>[.v i]
 | _=>[]

def AOper.reads (p:AOper):List Atom :=
 p.args.flatMap Opd.atoms++(match p.box with|some i=>[.v i]|none=>[])++(match p.guard with|some (x,_)=>x.atoms|none=>[])++(if p.kind.useSt then [.st] else [])
def AOper.writes (p:AOper):List Atom :=
 p.dst.atoms++p.args.flatMap Opd.spent++(match p.box with|some i=>if p.kind.alters then [.v i] else []|none=>[])++(if p.kind.setSt then [.st] else [])

def Atom.beq:Atom→Atom→Bool
 | .t a,.t b=>Nat.beq a b
 | .v a,.v b=>Nat.beq a b
 | .st,.st=>true
 | _,_=>false
def meets (x y:List Atom):Bool:=x.any fun a=>y.any (Atom.beq a)

def Kind.isLd:Kind→Bool
 | .ldSt ..|.ldAn ..|.ldStR ..=>true
 | _=>false
def Kind.upto:Kind→Option Nat
 | .appM ..=>some 2
 | .callA _ m=>some m
 | .stStA _=>some 3
 | _=>none
def Opd.same:Opd→Opd→Bool
 | .t a,.t b=>Nat.beq a b
 | .v a,.v b=>Nat.beq a b
 | _,_=>false
def bareOK (p q:AOper):Bool:=p.box.isNone && q.box.isNone && quiet p.args
def apartS (p q:AOper):Bool:=!meets (p.dst.atoms) q.reads && !meets p.dst.atoms q.writes && !meets q.writes (p.args.flatMap Opd.atoms++p.dst.atoms++(match p.guard with|some (x,_)=>x.atoms|none=>[]))
def asideL (p q:AOper):Bool:=(match p.kind with|.ldStR ..=>true|_=>false) && (match q.kind.upto,p.args with|some m,[_,r]=>(q.args.drop m).any (Opd.same r)|_,_=>false)
def asideM (p q:AOper):Bool:=match p.kind,q.kind,p.args with|.mgetR ..,.callA _ m,[_,_,r]=>(q.args.drop m).any (Opd.same r)|_,_,_=>false
def asideW (p q:AOper):Bool:=match p.kind,q.kind,p.args with|.stStA _,.stStA _,_::_::r::_=>(q.args.drop 3).any (Opd.same r)|_,_,_=>false
def Kind.isSt:Kind→Bool
 | .ldStS|.ldStSR _=>true
 | _=>false
def asideO (p q:AOper):Bool:=(p.kind.isSt && q.kind.isLd) || (p.kind.isLd && q.kind.isSt)
def asideC (p q:AOper):Bool:=match p.kind,q.kind,p.args,q.args with|.ldStSR d,.ldStSR e,[_,r],[_,s]=>Opd.same r s && !Nat.beq d e|_,_,_,_=>false
def asideOK (p q:AOper):Bool:=bareOK p q && apartS p q && (asideL p q || asideW p q || asideO p q || asideC p q || asideM p q)
def apart0 (p q:AOper):Bool:=!meets p.writes q.reads && !meets p.writes q.writes && !meets q.writes p.reads
def apartA (p q:AOper):Bool:=apart0 p q || asideOK p q

def befores (ops:Array Oper) (j:Nat):List Nat:=match ops[j]? with
 | some o=>o.after.toList.filterMap fun e=>if Region.binds .any e then some e.on else none
 | none=>[]
def closure (ops:Array Oper):Nat→List Nat→List Nat
 | 0,l=>l
 | n+1,l=>l++closure ops n (l.flatMap (befores ops))

end Go.Cb
/-
 THE ABSTRACT MACHINE, part 22: operations that have nothing to do with one another may change places.
-/
set_option maxRecDepth 4000
set_option linter.unusedSimpArgs false
set_option linter.unusedVariables false
namespace Go.Cb
open Classical

def Atom.same (x:Atom) (σ1 σ2:Sig):Prop:=match x with
 | .t s=>σ1.τ s=σ2.τ s
 | .v i=>σ1.fr.getD i .undef=σ2.fr.getD i .undef
 | .st=>σ1.st=σ2.st

theorem Atom.same_refl (x:Atom) (σ:Sig):x.same σ σ:=by cases x <;> rfl
theorem Atom.same_trans {x:Atom} {σ1 σ2 σ3:Sig} (h:x.same σ1 σ2) (h':x.same σ2 σ3):x.same σ1 σ3:=by
 cases x <;> exact Eq.trans h h'
theorem Atom.same_symm {x:Atom} {σ1 σ2:Sig} (h:x.same σ1 σ2):x.same σ2 σ1:=by
 cases x <;> exact Eq.symm h

theorem Sig.ext_atoms {σ1 σ2:Sig} (hl:σ1.fr.length=σ2.fr.length) (h:∀ x:Atom,x.same σ1 σ2):σ1=σ2:=by
 obtain ⟨fr1,τ1,st1⟩:=σ1
 obtain ⟨fr2,τ2,st2⟩:=σ2
 have e1:τ1=τ2:=funext fun s=>h (.t s)
 have e2:st1=st2:=h .st
 have e3:fr1=fr2:=by
  apply List.ext_getElem hl
  intro i h1 h2
  have:=h (.v i)
  simp only [Atom.same] at this
  simpa [h1,h2] using this
 rw [e1,e2,e3]

theorem Atom.beq_iff (x y:Atom):Atom.beq x y=true ↔ x=y:=by
 cases x <;> cases y <;> simp [Atom.beq]
theorem meets_false {xs ys:List Atom} (h:meets xs ys=false):∀ x∈xs,x ∉ ys:=by
 intro x hx hy
 have:meets xs ys=true:=by
  unfold meets
  rw [List.any_eq_true]
  refine ⟨x,hx,?_⟩
  rw [List.any_eq_true]
  exact ⟨x,hy,(Atom.beq_iff x x).2 rfl⟩
 rw [h] at this; cases this

theorem read_same {q:Opd} {σ1 σ2:Sig} (h:∀ x∈q.atoms,x.same σ1 σ2):q.read σ1=q.read σ2:=by
 cases q <;> simp only [Opd.atoms,List.mem_cons,List.not_mem_nil,or_false,forall_eq,false_imp_iff,implies_true,Atom.same] at h <;> simp only [Opd.read] <;> first|rw [h]|rfl

theorem getD_set (fr:List AV) (i j:Nat) (a:AV):(fr.set i a).getD j .undef=if i=j∧i < fr.length then a else fr.getD j .undef:=by
 rw [List.getD_eq_getElem?_getD,List.getElem?_set]
 by_cases e:i=j
 · subst e
   rw [if_pos rfl]
   by_cases hl:i < fr.length
   · rw [if_pos hl,if_pos ⟨rfl,hl⟩]; rfl
   · rw [if_neg hl,if_neg (fun h=>hl h.2)]
     simp [hl]
 · rw [if_neg e,if_neg (fun h=>e h.1),List.getD_eq_getElem?_getD]

theorem spend_len (q:Opd) (σ:Sig):(q.spend σ).fr.length=σ.fr.length:=by cases q <;> simp [Opd.spend]
theorem spendAll_len:∀ (qs:List Opd) (σ:Sig),(spendAll qs σ).fr.length=σ.fr.length
 | [],_=>rfl
 | q::qs,σ=>by rw [spendAll,spendAll_len qs,spend_len]
theorem put_len (d:Dst) (r:AV) (σ:Sig):(d.put r σ).fr.length=σ.fr.length:=by cases d <;> simp [Dst.put]

theorem spend_same {q:Opd} {σ1 σ2:Sig} (hl:σ1.fr.length=σ2.fr.length) {x:Atom} (h:x.same σ1 σ2) (hq:∀ x∈q.spent,x.same σ1 σ2):x.same (q.spend σ1) (q.spend σ2):=by
 cases q <;> simp only [Opd.spend] <;> try exact h
 · rename_i s
   have hs:=hq (.t s) (by simp [Opd.spent])
   cases x <;> simp only [Atom.same] at*<;> try exact h
   simp only [updT]
   split
   · rw [hs]
   · exact h
 · rename_i i
   have hs:=hq (.v i) (by simp [Opd.spent])
   cases x <;> simp only [Atom.same] at*<;> try exact h
   rw [getD_set,getD_set,hl,hs,h]
theorem spendAll_same:∀ {qs:List Opd} {σ1 σ2:Sig},σ1.fr.length=σ2.fr.length→∀ {x:Atom},x.same σ1 σ2→(∀ q∈qs,∀ x∈q.spent,x.same σ1 σ2)→x.same (spendAll qs σ1) (spendAll qs σ2)
 | [],_,_,_,_,h,_=>h
 | q::qs,σ1,σ2,hl,x,h,hq=>by
  simp only [spendAll]
  have h1:∀ y∈q.spent,y.same σ1 σ2:=fun y hy=>hq q (by simp) y hy
  exact spendAll_same (by rw [spend_len,spend_len,hl]) (spend_same hl h h1) fun q' hq' y hy=>spend_same hl (hq q' (by simp [hq']) y hy) h1
theorem spend_other {q:Opd} {σ:Sig} {x:Atom} (h:x ∉ q.spent):x.same (q.spend σ) σ:=by
 cases q <;> simp only [Opd.spend] <;> try exact x.same_refl _
 · rename_i s
   simp only [Opd.spent,List.mem_cons,List.not_mem_nil,or_false] at h
   cases x <;> simp only [Atom.same]
   rename_i t
   simp only [updT]
   rw [if_neg]
   simp only [Nat.beq_eq]
   intro e; exact h (by rw [e])
 · rename_i i
   simp only [Opd.spent,List.mem_cons,List.not_mem_nil,or_false] at h
   cases x <;> simp only [Atom.same]
   rename_i j
   rw [getD_set,if_neg]
   intro e; exact h (by rw [e.1])
theorem spendAll_other:∀ {qs:List Opd} {σ:Sig} {x:Atom},x ∉ qs.flatMap Opd.spent→x.same (spendAll qs σ) σ
 | [],_,x,_=>x.same_refl _
 | q::qs,σ,x,h=>by
  simp only [List.flatMap_cons,List.mem_append,not_or] at h
  exact Atom.same_trans (x:=x) (spendAll_other (qs:=qs) (σ:=q.spend σ) h.2) (spend_other h.1)

theorem put_same {d:Dst} {r:AV} {σ1 σ2:Sig} (hl:σ1.fr.length=σ2.fr.length) {x:Atom} (h:x.same σ1 σ2∨x∈d.atoms):x.same (d.put r σ1) (d.put r σ2):=by
 cases d <;> simp only [Dst.put,Dst.atoms,List.mem_cons,List.not_mem_nil,or_false] at h ⊢ <;> try exact h
 · rename_i s
   cases x <;> simp only [Atom.same,reduceCtorEq,or_false,Atom.t.injEq] at h ⊢ <;> try exact h
   rename_i t
   simp only [updT]
   split
   · rfl
   · rename_i hne
     rcases h with h|h
     · exact h
     · exact absurd (by simp [h]) hne
 · rename_i i
   cases x <;> simp only [Atom.same,reduceCtorEq,or_false,Atom.v.injEq] at h ⊢ <;> try exact h
   rename_i j
   rw [getD_set,getD_set,hl]
   split
   · rfl
   · rename_i hne
     rcases h with h|rfl
     · exact h
     · have:¬ j < σ2.fr.length:=fun hlt=>hne ⟨rfl,hlt⟩
       simp [show ¬ j < σ1.fr.length by omega,this]
theorem put_other {d:Dst} {r:AV} {σ:Sig} {x:Atom} (h:x ∉ d.atoms):x.same (d.put r σ) σ:=by
 cases d <;> simp only [Dst.put,Dst.atoms,List.mem_cons,List.not_mem_nil,or_false] at h ⊢ <;> try exact x.same_refl _
 · rename_i s
   cases x <;> simp only [Atom.same]
   rename_i t
   simp only [updT]
   rw [if_neg]
   simp only [Nat.beq_eq]
   intro e; exact h (by rw [e])
 · rename_i i
   cases x <;> simp only [Atom.same]
   rename_i j
   rw [getD_set,if_neg]
   intro e; exact h (by rw [e.1])
theorem setfr_same {i:Nat} {b:AV} {st1 st2:St} {σ1 σ2:Sig} (hl:σ1.fr.length=σ2.fr.length) {x:Atom} (h:x.same { σ1 with st:=st1 } { σ2 with st:=st2 }∨x=.v i) :
 x.same { σ1 with fr:=σ1.fr.set i b,st:=st1 } { σ2 with fr:=σ2.fr.set i b,st:=st2 }:=by
 cases x <;> simp only [Atom.same,reduceCtorEq,or_false,Atom.v.injEq] at h ⊢ <;> try exact h
 rename_i j
 rw [getD_set,getD_set,hl]
 split
 · rfl
 · rename_i hne
   rcases h with h|rfl
   · exact h
   · have:¬ j < σ2.fr.length:=fun hlt=>hne ⟨rfl,hlt⟩
     simp [show ¬ j < σ1.fr.length by omega,this]

/-! what an operation's meaning looks at -/
theorem sem_st {k:Kind} (hk:k.setSt=false) {call:CallT} {as:List AV} {b r b':AV} {st st':St} (h:sem k call as b st=some (r,b',st')):st'=st:=by
 cases k <;> simp only [Kind.setSt,Bool.true_eq_false] at hk <;> simp only [sem,semMv,semPick,semNilchk,semAlloc,semBoxV,semAllocO,semBoxO,semBuild,semBslice,semBsliceM,semBsliceO,semMin2,semEqIS,semAppM,semLdStR,semLdStSR,semStStA,semCallA,semLdLc,semLdSt,semLdRo,semLdAn,semLdLcS,semLdStS,semStLc,semStSt,semFad,semFld,semIad,semIadA,semIdxS,semSlS,semSlL,semSlZ,semSlA,semBin,semBinB,semBinP,semUn,semConv,semMkF,semMkM,semMget,semMgetR,semMset,semMdel,semClrS,semSlO,semMax2,semIdxA,semAppS,semExt,semCall,semCallV,semLenS,semLenL,semApp,semB2s,semAppA] at h
 all_goals (repeat' split at h)
 all_goals first
  | (cases h; done)
  | (simp only [Option.some.injEq,Prod.mk.injEq] at h; exact h.2.2.symm)
  | (obtain ⟨z,hz,h⟩:=Option.map_eq_some_iff.1 h; simp only [Prod.mk.injEq] at h; exact h.2.2.symm)
  | (obtain ⟨⟨l,u⟩,hz,h⟩:=Option.map_eq_some_iff.1 h; simp only [Prod.mk.injEq] at h; exact h.2.2.symm)
theorem semCall_bx {f:Nat} {call:CallT} {as:List AV} {b r b':AV} {st st':St} (h:semCall f call as b st=some (r,b',st')):b'=b:=by
 unfold semCall at h
 split at h
 · obtain ⟨⟨v,s⟩,_,h⟩:=Option.map_eq_some_iff.1 h
   simp only [Prod.mk.injEq] at h
   exact h.2.1.symm
 · cases h
theorem callA_bx {f m:Nat} {call:CallT} {as:List AV} {b r b':AV} {st st':St} (h:semCallA f m call as b st=some (r,b',st')):b'=b:=by
 unfold semCallA at h
 split at h <;> first|cases h; done|skip
 rename_i heq
 split at h <;> first|cases h; done|skip
 simp only [Option.some.injEq,Prod.mk.injEq] at h
 obtain ⟨_,rfl,_⟩:=h
 exact semCall_bx heq
theorem sem_bx {k:Kind} (hk:k.alters=false) {call:CallT} {as:List AV} {b r b':AV} {st st':St} (h:sem k call as b st=some (r,b',st')):b'=b:=by
 have hA:∀ f m,k=.callA f m→b'=b:=fun f m e=>by subst e; exact callA_bx h
 cases k <;> simp only [Kind.alters,Bool.true_eq_false] at hk <;> simp only [sem,semMv,semPick,semNilchk,semAlloc,semBoxV,semAllocO,semBoxO,semBuild,semBslice,semBsliceM,semBsliceO,semMin2,semEqIS,semAppM,semLdStR,semLdStSR,semStStA,semCallA,semLdLc,semLdSt,semLdRo,semLdAn,semLdLcS,semLdStS,semStLc,semStSt,semFad,semFld,semIad,semIadA,semIdxS,semSlS,semSlL,semSlZ,semSlA,semBin,semBinB,semBinP,semUn,semConv,semMkF,semMkM,semMget,semMgetR,semMset,semMdel,semClrS,semSlO,semMax2,semIdxA,semAppS,semExt,semCall,semCallV,semLenS,semLenL,semApp,semB2s,semAppA] at h
 all_goals first
  | exact hA _ _ rfl
  | skip
 all_goals (repeat' split at h)
 all_goals first
  | (cases h; done)
  | (simp only [Option.some.injEq,Prod.mk.injEq] at h; exact h.2.1.symm)
  | (simp only [fL_eq,Option.some.injEq,Prod.mk.injEq] at h; exact h.2.1.symm)
  | (obtain ⟨z,hz,h⟩:=Option.map_eq_some_iff.1 h; simp only [Prod.mk.injEq] at h; exact h.2.1.symm)
  | (obtain ⟨⟨l,u⟩,hz,h⟩:=Option.map_eq_some_iff.1 h; simp only [Prod.mk.injEq] at h; exact h.2.1.symm)
  | (obtain ⟨z,hz,h⟩:=Option.bind_eq_some_iff.1 h; simp only [Option.some.injEq,Prod.mk.injEq] at h; exact h.2.1.symm)
theorem sem_use {k:Kind} (hk:k.useSt=false) {call:CallT} {as:List AV} {b r b':AV} {st st':St} (h:sem k call as b st=some (r,b',st')) (st2:St):sem k call as b st2=some (r,b',st2):=by
 cases k <;> simp only [Kind.useSt,Bool.true_eq_false] at hk <;> simp only [sem,semMv,semPick,semNilchk,semAlloc,semBoxV,semAllocO,semBoxO,semBuild,semBslice,semBsliceM,semBsliceO,semMin2,semEqIS,semAppM,semLdStR,semLdStSR,semStStA,semCallA,semLdLc,semLdSt,semLdRo,semLdAn,semLdLcS,semLdStS,semStLc,semStSt,semFad,semFld,semIad,semIadA,semIdxS,semSlS,semSlL,semSlZ,semSlA,semBin,semBinB,semBinP,semUn,semConv,semMkF,semMkM,semMget,semMgetR,semMset,semMdel,semClrS,semSlO,semMax2,semIdxA,semAppS,semExt,semCall,semCallV,semLenS,semLenL,semApp,semB2s,semAppA] at h ⊢
 all_goals (repeat' split at h)
 all_goals first
  | (cases h; done)
  | (simp only [Option.some.injEq,Prod.mk.injEq] at h; obtain ⟨rfl,rfl,rfl⟩:=h; simp_all; done)
  | (obtain ⟨z,hz,h⟩:=Option.map_eq_some_iff.1 h; simp only [Prod.mk.injEq] at h; obtain ⟨rfl,rfl,rfl⟩:=h; simp_all; done)
  | (obtain ⟨⟨l,u⟩,hz,h⟩:=Option.map_eq_some_iff.1 h; simp only [Prod.mk.injEq] at h; obtain ⟨rfl,rfl,rfl⟩:=h; simp_all; done)
  | skip
end Go.Cb
/-
 THE ABSTRACT MACHINE, part 23: two operations that are apart change places.
-/
set_option maxRecDepth 4000
set_option linter.unusedSimpArgs false
set_option linter.unusedVariables false
namespace Go.Cb
open Classical

section
variable {p q:AOper} {call:CallT} {σ σ' σ1 σ2:Sig}

theorem goOp_mk {r b':AV} {st':St} (h:sem p.kind call (p.args.map (·.read σ)) (boxOf p σ) σ.st=some (r,b',st')) :
 goOp call p σ=some (p.dst.put r { spendAll p.args σ with fr:=(match p.box with|some i=>(spendAll p.args σ).fr.set i b'|none=>(spendAll p.args σ).fr),st:=st' }):=by
 rw [goOp_eq]
 cases hb:p.box with
 | none =>
  have e:boxOf p σ=.undef:=by simp only [boxOf,hb]
  rw [e] at h
  simp only [hb,h]
 | some i =>
  have e:boxOf p σ=σ.fr.getD i .undef:=by simp only [boxOf,hb]
  rw [e] at h
  simp only [hb,h]

theorem useSt_of_setSt {k:Kind} (h:k.setSt=true):k.useSt=true:=by cases k <;> first|rfl|cases h
theorem spent_atoms (x:Opd):∀ y∈x.spent,y∈x.atoms:=by cases x <;> simp [Opd.spent,Opd.atoms]
theorem spendAll_st:∀ (qs:List Opd) (σ:Sig),(spendAll qs σ).st=σ.st
 | [],_=>rfl
 | x::qs,σ=>by
  rw [spendAll,spendAll_st qs]
  cases x <;> rfl

theorem go_frame (h:goOp call p σ=some σ'):(∀ x,x ∉ p.writes→x.same σ' σ)∧σ'.fr.length=σ.fr.length:=by
 obtain ⟨r,b',st',hs,rfl⟩:=goOp_some h
 refine ⟨fun x hx=>?_,?_⟩
 · simp only [AOper.writes,List.mem_append,not_or] at hx
   obtain ⟨⟨⟨h1,h2⟩,h3⟩,h4⟩:=hx
   refine Atom.same_trans (put_other h1) ?_
   have hsp:=spendAll_other (qs:=p.args) (σ:=σ) h2
   have hst:x=.st→st'=σ.st:=fun e=>by
    subst e
    cases hk:p.kind.setSt with
    | true=>rw [hk] at h4; simp at h4
    | false=>exact sem_st hk hs
   cases hb:p.box with
   | none =>
    cases x <;> simp only [Atom.same] at hsp ⊢
    · exact hsp
    · exact hsp
    · exact hst rfl
   | some i =>
    cases x with
    | t s=>exact hsp
    | st=>exact hst rfl
    | v j =>
     simp only [Atom.same] at hsp ⊢
     rw [getD_set]
     split
     · rename_i hc
       obtain ⟨rfl,_⟩:=hc
       cases hk:p.kind.alters with
       | true=>rw [hb,hk] at h3; simp at h3
       | false =>
        rw [sem_bx hk hs]
        simp only [boxOf,hb]
     · exact hsp
 · rw [put_len]
   cases hb:p.box with
   | none=>exact spendAll_len _ _
   | some i=>simp [spendAll_len]

theorem go_local (hl:σ1.fr.length=σ2.fr.length) (hr:∀ x∈p.reads,x.same σ1 σ2) {σ1':Sig} (h:goOp call p σ1=some σ1') :
 ∃ σ2',goOp call p σ2=some σ2'∧∀ x:Atom,(x.same σ1 σ2∨x∈p.writes)→x.same σ1' σ2':=by
 obtain ⟨r,b',st',hs,rfl⟩:=goOp_some h
 have hargs:p.args.map (·.read σ1)=p.args.map (·.read σ2):=List.map_congr_left fun y hy=>read_same fun x hx=>hr x (by
  simp only [AOper.reads,List.mem_append,List.mem_flatMap]
  exact .inl (.inl (.inl ⟨y,hy,hx⟩)))
 have hbox:boxOf p σ1=boxOf p σ2:=by
  unfold boxOf
  cases hb:p.box with
  | none=>rfl
  | some i =>
   have:=hr (.v i) (by simp [AOper.reads,hb])
   exact this
 have hspent:∀ y∈p.args,∀ x∈y.spent,x.same σ1 σ2:=fun y hy x hx=>hr x (by
  simp only [AOper.reads,List.mem_append,List.mem_flatMap]
  exact .inl (.inl (.inl ⟨y,hy,spent_atoms y x hx⟩)))
 have hlen:(spendAll p.args σ1).fr.length=(spendAll p.args σ2).fr.length:=by rw [spendAll_len,spendAll_len,hl]
 -- the meaning on the other side
 obtain ⟨st2,hs2,hst2⟩:∃ st2,sem p.kind call (p.args.map (·.read σ2)) (boxOf p σ2) σ2.st=some (r,b',st2)∧∀ x:Atom,(x.same σ1 σ2∨(x=.st∧p.kind.setSt=true))→x.same { spendAll p.args σ1 with st:=st' } { spendAll p.args σ2 with st:=st2 }:=by
  have other:∀ (st2:St) (x:Atom),x≠.st→x.same σ1 σ2→x.same { spendAll p.args σ1 with st:=st' } { spendAll p.args σ2 with st:=st2 }:=fun st2 x hx h=>by
   have:=spendAll_same hl h hspent
   cases x <;> first|exact this|exact absurd rfl hx
  cases hu:p.kind.useSt with
  | true =>
   have he:σ1.st=σ2.st:=hr .st (by simp [AOper.reads,hu])
   rw [hargs,hbox,he] at hs
   refine ⟨st',hs,fun x hx=>?_⟩
   cases x with
   | st=>rfl
   | t s=>exact other _ _ (by simp) (hx.resolve_right (by simp))
   | v i=>exact other _ _ (by simp) (hx.resolve_right (by simp))
  | false =>
   have hset:p.kind.setSt=false:=by
    cases hk:p.kind.setSt with
    | false=>rfl
    | true=>rw [useSt_of_setSt hk] at hu; cases hu
   have e1:=sem_st hset hs
   rw [hargs,hbox] at hs
   refine ⟨σ2.st,sem_use hu hs σ2.st,fun x hx=>?_⟩
   rw [hset] at hx
   have hx:=hx.resolve_right (by simp)
   cases x with
   | st=>rw [e1]; exact hx
   | t s=>exact other _ _ (by simp) hx
   | v i=>exact other _ _ (by simp) hx
 refine ⟨_,goOp_mk hs2,fun x hx=>put_same ?_ ?_⟩
 · cases hb:p.box with
   | none=>exact hlen
   | some i=>simp [hlen]
 · by_cases hd:x∈p.dst.atoms
   · exact .inr hd
   left
   -- either as before, or written
   have hx':x.same σ1 σ2∨(∃ i,p.box=some i∧x=.v i)∨(x=.st∧p.kind.setSt=true):=by
    rcases hx with hx|hx
    · exact .inl hx
    · simp only [AOper.writes,List.mem_append] at hx
      rcases hx with ((hx|hx)|hx)|hx
      · exact absurd hx hd
      · obtain ⟨y,hy,hx⟩:=List.mem_flatMap.1 hx
        exact .inl (hspent y hy x hx)
      · right; left
        cases hb:p.box with
        | none=>rw [hb] at hx; simp at hx
        | some i =>
         rw [hb] at hx
         refine ⟨i,rfl,?_⟩
         simp only at hx
         split at hx
         · simpa using hx
         · simp at hx
      · right; right
        split at hx
        · rename_i hk; exact ⟨by simpa using hx,hk⟩
        · simp at hx
   cases hb:p.box with
   | none =>
    rcases hx' with hx'|⟨i,hi,_⟩|hx'
    · exact hst2 x (.inl hx')
    · rw [hb] at hi; cases hi
    · exact hst2 x (.inr hx')
   | some i =>
    refine setfr_same hlen ?_
    rcases hx' with hx'|⟨j,hj,e⟩|hx'
    · exact .inl (hst2 x (.inl hx'))
    · rw [hb] at hj; cases hj; exact .inr e
    · exact .inl (hst2 x (.inr hx'))

/-! with guards -/
theorem guard_atoms {x:Opd} {want:Bool} (hg:p.guard=some (x,want)):∀ y∈x.atoms,y∈p.reads:=fun y hy=>by
 simp only [AOper.reads,hg,List.mem_append]
 exact .inl (.inr hy)
theorem dst_writes:∀ y∈p.dst.atoms,y∈p.writes:=fun y hy=>by
 simp only [AOper.writes,List.mem_append]
 exact .inl (.inl (.inl hy))

theorem step_frame (h:stepOp call p σ=some σ'):(∀ x,x ∉ p.writes→x.same σ' σ)∧σ'.fr.length=σ.fr.length:=by
 unfold stepOp at h
 have hskip:∀ {σ'},some (p.dst.put (.tuple []) σ)=some σ'→(∀ x,x ∉ p.writes→x.same σ' σ)∧σ'.fr.length=σ.fr.length:=fun {σ'} h=>by
  obtain rfl:=Option.some.inj h
  exact ⟨fun x hx=>put_other fun hd=>hx (dst_writes x hd),put_len _ _ _⟩
 split at h
 · exact go_frame h
 · split at h
   · split at h
     · exact go_frame h
     · exact hskip h
   · exact hskip h
   · cases h

theorem step_local (hl:σ1.fr.length=σ2.fr.length) (hr:∀ x∈p.reads,x.same σ1 σ2) {σ1':Sig} (h:stepOp call p σ1=some σ1') :
 ∃ σ2',stepOp call p σ2=some σ2'∧∀ x:Atom,(x.same σ1 σ2∨x∈p.writes)→x.same σ1' σ2':=by
 have hgo:∀ {σ1'},goOp call p σ1=some σ1'→∃ σ2',goOp call p σ2=some σ2'∧∀ x:Atom,(x.same σ1 σ2∨x∈p.writes)→x.same σ1' σ2':=fun h=>go_local hl hr h
 have hskip:∀ {σ1'},some (p.dst.put (.tuple []) σ1)=some σ1'→∃ σ2',some (p.dst.put (.tuple []) σ2)=some σ2'∧∀ x:Atom,(x.same σ1 σ2∨x∈p.writes)→x.same σ1' σ2':=fun {σ1'} h=>by
  obtain rfl:=Option.some.inj h
  refine ⟨_,rfl,fun x hx=>?_⟩
  by_cases hd:x∈p.dst.atoms
  · exact put_same hl (.inr hd)
  · refine put_same hl (.inl ?_)
    rcases hx with hx|hx
    · exact hx
    · simp only [AOper.writes,List.mem_append] at hx
      rcases hx with ((hx|hx)|hx)|hx
      · exact absurd hx hd
      · obtain ⟨y,hy,hx⟩:=List.mem_flatMap.1 hx
        exact hr x (by simp only [AOper.reads,List.mem_append,List.mem_flatMap]; exact .inl (.inl (.inl ⟨y,hy,spent_atoms y x hx⟩)))
      · cases hb:p.box with
        | none=>rw [hb] at hx; simp at hx
        | some i =>
         rw [hb] at hx
         simp only at hx
         split at hx
         · have:x=.v i:=by simpa using hx
           exact hr x (by simp [AOper.reads,hb,this])
         · simp at hx
      · split at hx
        · rename_i hk
          have:x=.st:=by simpa using hx
          exact hr x (by simp [AOper.reads,useSt_of_setSt hk,this])
        · simp at hx
 unfold stepOp at h ⊢
 cases hg:p.guard with
 | none=>simp only [hg] at h ⊢; exact hgo h
 | some xw =>
  obtain ⟨x,want⟩:=xw
  simp only [hg] at h ⊢
  rw [← read_same (q:=x) (σ1:=σ1) fun y hy=>hr y (guard_atoms hg y hy)]
  split at h
  · rename_i b hb
    split at h
    · rename_i hc
      rw [if_pos hc]
      exact hgo h
    · rename_i hc
      rw [if_neg hc]
      exact hskip h
  · exact hskip h
  · cases h

theorem swap0 (hap:apart0 p q=true) {σ1 σ2:Sig} (h1:stepOp call p σ=some σ1) (h2:stepOp call q σ1=some σ2) :
 ∃ σ1',stepOp call q σ=some σ1'∧stepOp call p σ1'=some σ2:=by
 simp only [apart0,Bool.and_eq_true,Bool.not_eq_true'] at hap
 obtain ⟨⟨a1,a2⟩,a3⟩:=hap
 have a1:=meets_false a1
 have a2:=meets_false a2
 have a3:=meets_false a3
 obtain ⟨f1,l1⟩:=step_frame h1
 obtain ⟨f2,l2⟩:=step_frame h2
 -- q first
 obtain ⟨σq,hq,sq⟩:=step_local (σ1:=σ1) (σ2:=σ) (p:=q) l1 (fun x hx=>f1 x fun hw=>a1 x hw hx) h2
 obtain ⟨fq,lq⟩:=step_frame hq
 obtain ⟨σp,hp,sp⟩:=step_local (σ1:=σ) (σ2:=σq) (p:=p) lq.symm (fun x hx=>Atom.same_symm (fq x fun hw=>a3 x hw hx)) h1
 obtain ⟨fp,lp⟩:=step_frame hp
 refine ⟨σq,hq,?_⟩
 rw [hp]
 congr 1
 refine Sig.ext_atoms (by rw [lp,lq,l2,l1]) fun x=>?_
 by_cases hxp:x∈p.writes
 · -- p wrote it last, in both
   have e1:x.same σ1 σp:=sp x (.inr hxp)
   have e2:x.same σ2 σ1:=f2 x (a2 x hxp)
   exact Atom.same_symm (Atom.same_trans e2 e1)
 · have e1:x.same σp σq:=fp x hxp
   have e2:x.same σ2 σq:=sq x (by
    by_cases hxq:x∈q.writes
    · exact .inr hxq
    · exact .inl (f1 x hxp))
   exact Atom.same_trans e1 (Atom.same_symm e2)

theorem opd_same {x y:Opd} (h:x.same y=true):x=y:=by
 cases x <;> cases y <;> simp [Opd.same] at h <;> rw [h]
theorem aside_spec {o:Option Nat} {n:Nat}:∀ {gs:List AV},aside o n gs=true→∀ g∈gs,∃ p,rootOf g=some p∧p < n∧o≠some p
 | [],_,g,hg=>by simp at hg
 | g0::gs,h,g,hg=>by
  simp only [aside,Bool.and_eq_true] at h
  obtain ⟨h1,h3⟩:=h
  rcases List.mem_cons.1 hg with rfl|hg
  · split at h1
    · rename_i p hp
      simp only [Bool.and_eq_true] at h1
      refine ⟨p,hp,by simpa using h1.1,?_⟩
      have h2:=h1.2
      cases o with
      | none=>simp
      | some o =>
       simp only [Bool.not_eq_true'] at h2
       intro e
       simp only [Option.some.injEq] at e
       subst e
       simp at h2
    · cases h1
  · exact aside_spec h3 g hg
theorem kept_spec {st st':St}:∀ {gs:List AV},kept st st' gs=true→∀ g∈gs,∃ p,rootOf g=some p∧st'[p]?=st[p]?
 | [],_,g,hg=>by simp at hg
 | g0::gs,h,g,hg=>by
  simp only [kept,Bool.and_eq_true] at h
  obtain ⟨h1,h3⟩:=h
  rcases List.mem_cons.1 hg with rfl|hg
  · split at h1
    · rename_i p hp
      refine ⟨p,hp,?_⟩
      split at h1
      · rename_i a b ha hb
        rw [Bool.and_eq_true] at h1
        rw [ha,hb,(eqObj_iff _ _).1 h1.1]
      · cases h1
    · cases h1
  · exact kept_spec h3 g hg

theorem keptM_spec {st st':St}:∀ {cs:List AV},keptM st st' cs=true→∀ o,hasMap o cs=true→st'[o]?=st[o]?
 | [],_,_,h=>by cases h
 | c::cs,h,o,ho=>by
  cases c
  case map q =>
   simp only [keptM,Bool.and_eq_true] at h
   simp only [hasMap,Bool.or_eq_true] at ho
   rcases ho with ho|ho
   · have e:=Nat.eq_of_beq_eq_true ho
     subst e
     have h1:=h.1
     split at h1
     · rename_i a b ha hb
       rw [ha,hb,(eqObj_iff _ _).1 h1]
     · cases h1
   · exact keptM_spec h.2 o ho
  all_goals
   simp only [keptM] at h
   simp only [hasMap] at ho
   exact keptM_spec h o ho
theorem kept_map {st st':St} {p o f:Nat} {cs:List AV} (hp:st[p]?=some (.cells cs)) (ho:hasMap o cs=true):∀ {gs:List AV},kept st st' gs=true→AV.ptr p f∈gs→st'[o]?=st[o]?
 | [],_,hg=>by simp at hg
 | g0::gs,h,hg=>by
  simp only [kept,Bool.and_eq_true] at h
  obtain ⟨h1,h3⟩:=h
  rcases List.mem_cons.1 hg with rfl|hg
  · simp only [rootOf,hp] at h1
    split at h1
    · rename_i a b ha hb
      cases ha
      rw [Bool.and_eq_true] at h1
      exact keptM_spec h1.2 o ho
    · cases h1
  · exact kept_map hp ho h3 hg
theorem upto_keeps {k:Kind} {m:Nat} (hk:k.upto=some m) {call:CallT} {as:List AV} {b b' r:AV} {st st':St} (h:sem k call as b st=some (r,b',st')):∀ g∈as.drop m,∃ p,rootOf g=some p∧st'[p]?=st[p]?:=by
 cases k <;> simp only [Kind.upto,Option.some.injEq,reduceCtorEq] at hk
 · -- stStA
   subst hk
   simp only [sem] at h
   unfold semStStA at h
   split at h <;> first|cases h; done|skip
   rename_i o off x rt gs
   split at h <;> first|cases h; done|skip
   split at h <;> first|cases h; done|skip
   rename_i hc
   intro g hg
   obtain ⟨p,hp,hl,hne⟩:=aside_spec hc.2 g (by simpa using hg)
   refine ⟨p,hp,?_⟩
   simp only [semStSt] at h
   split at h <;> first|cases h; done|skip
   split at h <;> first|cases h; done|skip
   simp only [fL_eq,Option.some.injEq,Prod.mk.injEq] at h
   obtain ⟨_,_,rfl⟩:=h
   exact List.getElem?_set_ne fun e=>hne (by rw [e])
 · -- callA
   subst hk
   simp only [sem] at h
   unfold semCallA at h
   split at h <;> first|cases h; done|skip
   split at h <;> first|cases h; done|skip
   rename_i hc
   simp only [Option.some.injEq,Prod.mk.injEq] at h
   obtain ⟨_,_,rfl⟩:=h
   exact fun g hg=>kept_spec hc g hg
 · -- appM
   subst hk
   simp only [sem] at h
   unfold semAppM at h
   split at h <;> first|cases h; done|skip
   · rename_i ys gs
     split at h <;> first|cases h; done|skip
     rename_i hc
     simp only [Option.some.injEq,Prod.mk.injEq] at h
     obtain ⟨_,_,rfl⟩:=h
     intro g hg
     obtain ⟨p,hp,hl,_⟩:=aside_spec hc.2.2.2 g (by simpa using hg)
     exact ⟨p,hp,List.getElem?_append_left hl⟩
   · rename_i ys gs
     split at h <;> first|cases h; done|skip
     rename_i hc
     simp only [Option.some.injEq,Prod.mk.injEq] at h
     obtain ⟨_,_,rfl⟩:=h
     intro g hg
     obtain ⟨p,hp,hl,_⟩:=aside_spec hc.2.2.2 g (by simpa using hg)
     exact ⟨p,hp,List.getElem?_append_left hl⟩
   · rename_i gs
     split at h <;> first|cases h; done|skip
     rename_i hc
     simp only [Option.some.injEq,Prod.mk.injEq] at h
     obtain ⟨_,_,rfl⟩:=h
     intro g hg
     obtain ⟨p,hp,hl,_⟩:=aside_spec hc g (by simpa using hg)
     exact ⟨p,hp,rfl⟩
   · rename_i o n s ys gs
     split at h <;> first|cases h; done|skip
     split at h <;> first|cases h; done|skip
     rename_i hc
     simp only [Option.some.injEq,Prod.mk.injEq] at h
     obtain ⟨_,_,rfl⟩:=h
     intro g hg
     obtain ⟨p,hp,hl,hne⟩:=aside_spec hc.2.2.2.2.2 g (by simpa using hg)
     refine ⟨p,hp,?_⟩
     rw [List.getElem?_append_left (by simpa using hl),List.getElem?_set_ne (fun e=>hne (by rw [e]))]
   · rename_i o f n s gs
     split at h <;> first|cases h; done|skip
     rename_i hc
     simp only [Option.some.injEq,Prod.mk.injEq] at h
     obtain ⟨_,_,rfl⟩:=h
     intro g hg
     obtain ⟨p,hp,hl,_⟩:=aside_spec hc g (by simpa using hg)
     exact ⟨p,hp,rfl⟩

def Sw (kp kq:Kind) (call:CallT) (A B:List AV):Prop:=∀ (s0 sp sq:St) (rp bp rq bq:AV),sem kp call A .undef s0=some (rp,bp,sp)→sem kq call B .undef sp=some (rq,bq,sq) →
 ∃ sq' bp',sem kq call B .undef s0=some (rq,bq,sq')∧sem kp call A .undef sq'=some (rp,bp',sq)

theorem ld_form {k:Kind} (hk:k.isLd=true) {call:CallT} {A:List AV} {b r b':AV} {st st':St} (h:sem k call A b st=some (r,b',st')):st'=st ∧
 ∃ (ag:Bool) (n:Nat),(∀ s2,sem k call A b s2=some (r,b',s2))∨∃ (o off:Nat) (cs:List AV),A.head?=some (.ptr o off)∧st[o]?=some (Obj.cells cs)∧takeVal ag n (cs.drop off)=some r∧∀ (s2:St) (cs2:List AV),s2[o]?=some (Obj.cells cs2)→takeVal ag n (cs2.drop off)=some r→sem k call A b s2=some (r,b',s2):=by
 have one:∀ ag n (A:List AV),semLdSt ag n call A b st=some (r,b',st')→st'=st∧∃ (o off:Nat) (cs:List AV),A=[.ptr o off]∧st[o]?=some (Obj.cells cs)∧takeVal ag n (cs.drop off)=some r∧b'=b:=by
  intro ag n A h
  unfold semLdSt at h
  split at h <;> first|cases h; done|skip
  rename_i o off
  split at h <;> first|cases h; done|skip
  rename_i cs hcs
  obtain ⟨v,hv,he⟩:=Option.map_eq_some_iff.1 h
  simp only [Prod.mk.injEq] at he
  obtain ⟨rfl,rfl,rfl⟩:=he
  exact ⟨rfl,o,off,cs,rfl,hcs,hv,rfl⟩
 have back:∀ (ag:Bool) (n o off:Nat) (s2:St) (cs2:List AV),s2[o]?=some (Obj.cells cs2)→takeVal ag n (cs2.drop off)=some r→semLdSt ag n call [.ptr o off] b s2=some (r,b,s2):=by
  intro ag n o off s2 cs2 h1 h2
  unfold semLdSt
  simp only [h1,h2,Option.map_some]
 cases k <;> simp only [Kind.isLd,Bool.false_eq_true] at hk
 · rename_i ag n
   simp only [sem] at h ⊢
   obtain ⟨e,o,off,cs,rfl,h1,h2,rfl⟩:=one ag n A h
   exact ⟨e,ag,n,.inr ⟨o,off,cs,rfl,h1,h2,fun s2 cs2 h3 h4=>back ag n o off s2 cs2 h3 h4⟩⟩
 · rename_i ag n
   simp only [sem] at h ⊢
   unfold semLdAn at h
   split at h <;> first|cases h; done|skip
   · rename_i cs
     obtain ⟨v,hv,he⟩:=Option.map_eq_some_iff.1 h
     simp only [Prod.mk.injEq] at he
     obtain ⟨rfl,rfl,rfl⟩:=he
     refine ⟨rfl,ag,n,.inl fun s2=>?_⟩
     unfold semLdAn
     simp only [hv,Option.map_some]
   · rename_i o off
     obtain ⟨e,o',off',cs,he,h1,h2,rfl⟩:=one ag n [.ptr o off] h
     simp only [List.cons.injEq,AV.ptr.injEq,and_true] at he
     obtain ⟨rfl,rfl⟩:=he
     exact ⟨e,ag,n,.inr ⟨o,off,cs,rfl,h1,h2,fun s2 cs2 h3 h4=>back ag n o off s2 cs2 h3 h4⟩⟩
 · rename_i ag n
   simp only [sem] at h ⊢
   unfold semLdStR at h
   split at h <;> first|cases h; done|skip
   rename_i o off rt
   split at h <;> first|cases h; done|skip
   rename_i p hrt
   split at h <;> first|cases h; done|skip
   rename_i hop
   obtain ⟨e,o',off',cs,he,h1,h2,rfl⟩:=one ag n [.ptr o off] h
   simp only [List.cons.injEq,AV.ptr.injEq,and_true] at he
   obtain ⟨rfl,rfl⟩:=he
   refine ⟨e,ag,n,.inr ⟨o,off,cs,rfl,h1,h2,fun s2 cs2 h3 h4=>?_⟩⟩
   unfold semLdStR
   simp only [hrt,hop,if_true]
   exact back ag n o off s2 cs2 h3 h4

theorem st_form {k:Kind} (hk:k.isSt=true) {call:CallT} {A:List AV} {b r b':AV} {st st':St} (h:sem k call A b st=some (r,b',st')) :
 ∃ (o off:Nat) (cs:List AV),st[o]?=some (Obj.cells cs)∧cs[off]?=some r∧st'=st.set o (.cells (cs.set off r.weak1))∧(∃ x,A.head?=some (.ptr o off)∧x=A)∧∀ (s2:St) (cs2:List AV),s2[o]?=some (Obj.cells cs2)→cs2[off]?=some r→sem k call A b s2=some (r,b',s2.set o (.cells (cs2.set off r.weak1))):=by
 have one:∀ (A:List AV),semLdStS call A b st=some (r,b',st')→∃ (o off:Nat) (cs:List AV),A=[.ptr o off]∧st[o]?=some (Obj.cells cs)∧cs[off]?=some r∧st'=st.set o (.cells (cs.set off r.weak1))∧b'=b:=by
  intro A h
  unfold semLdStS at h
  split at h <;> first|cases h; done|skip
  rename_i o off
  split at h <;> first|cases h; done|skip
  rename_i cs hcs
  split at h <;> first|cases h; done|skip
  rename_i c hc
  simp only [Option.some.injEq,Prod.mk.injEq] at h
  obtain ⟨rfl,rfl,rfl⟩:=h
  exact ⟨o,off,cs,rfl,hcs,hc,rfl,rfl⟩
 have back:∀ (o off:Nat) (s2:St) (cs2:List AV),s2[o]?=some (Obj.cells cs2)→cs2[off]?=some r→semLdStS call [.ptr o off] b s2=some (r,b,s2.set o (.cells (cs2.set off r.weak1))):=by
  intro o off s2 cs2 h1 h2
  unfold semLdStS
  simp only [h1,h2]
 cases k <;> simp only [Kind.isSt,Bool.false_eq_true] at hk
 · simp only [sem] at h ⊢
   obtain ⟨o,off,cs,rfl,h1,h2,h3,rfl⟩:=one A h
   exact ⟨o,off,cs,h1,h2,h3,⟨_,rfl,rfl⟩,fun s2 cs2 h3 h4=>back o off s2 cs2 h3 h4⟩
 · simp only [sem] at h ⊢
   unfold semLdStSR at h
   split at h <;> first|cases h; done|skip
   split at h <;> first|cases h; done|skip
   rename_i o off p f hc
   obtain ⟨o',off',cs,he,h1,h2,h3,rfl⟩:=one [.ptr o off] h
   simp only [List.cons.injEq,AV.ptr.injEq,and_true] at he
   obtain ⟨rfl,rfl⟩:=he
   refine ⟨o,off,cs,h1,h2,h3,⟨_,rfl,rfl⟩,fun s2 cs2 h3 h4=>?_⟩
   unfold semLdStSR
   simp only [hc,and_self,if_true]
   exact back o off s2 cs2 h3 h4

theorem weak1_weak1 (x:AV):x.weak1.weak1=x.weak1:=by cases x <;> rfl
theorem takeVal_weak {ag:Bool} {n off k:Nat} {cs:List AV} {x:AV} (h:cs[k]?=some x):takeVal ag n ((cs.set k x.weak1).drop off)=takeVal ag n (cs.drop off):=by
 have hm:(cs.set k x.weak1).map AV.weak1=cs.map AV.weak1:=by
  rw [List.map_set,weak1_weak1]
  apply List.ext_getElem?
  intro i
  rw [List.getElem?_set]
  split
  · rename_i e
    subst e
    have hl:=(List.getElem?_eq_some_iff.1 h).1
    simp [hl,h]
    rw [List.getElem?_eq_getElem hl] at h
    exact congrArg AV.weak1 (Option.some.inj h).symm
  · rfl
 have hd:((cs.set k x.weak1).drop off).map AV.weak1=(cs.drop off).map AV.weak1:=by rw [List.map_drop,hm,List.map_drop]
 have hl:((cs.set k x.weak1).drop off).length=(cs.drop off).length:=by simp
 unfold takeVal
 cases ag with
 | true=>simp only [if_true]; rw [hl,List.map_take,hd,List.map_take]
 | false =>
  simp only [Bool.false_eq_true,if_false]
  revert hd
  cases (cs.set k x.weak1).drop off <;> cases cs.drop off <;> intro hd <;> simp at hd <;> simp [hd]

theorem sw_L {kp kq:Kind} {call:CallT} {A B:List AV} {a r:AV} {m:Nat} (hp:(match kp with|.ldStR ..=>true|_=>false)=true) (hA:A=[a,r]) (hq:kq.upto=some m) (hr:r∈B.drop m):Sw kp kq call A B:=by
 intro s0 sp sq rp bp rq bq h1 h2
 have hk:kp.isLd=true:=by cases kp <;> first|rfl|cases hp
 obtain ⟨rfl,ag,n,h⟩:=ld_form hk h1
 refine ⟨sq,bp,h2,?_⟩
 rcases h with h|⟨o,off,cs,h0,h3,h4,h5⟩
 · exact h sq
 · obtain ⟨p,hp1,hp2⟩:=upto_keeps hq h2 r hr
   have hop:o=p:=by
    cases kp <;> simp only [Bool.false_eq_true] at hp
    have hx:=h1
    rw [hA] at h0 hx
    simp only [List.head?_cons,Option.some.injEq] at h0
    subst h0
    simp only [sem,semLdStR,hp1] at hx
    split at hx
    · rename_i e
      simpa using e
    · cases hx
   subst hop
   exact h5 sq cs (hp2.trans h3) h4

theorem sw_M {kc:Nat} {z:List AV} {ag ok:Bool} {f m:Nat} {call:CallT} {A B:List AV} {a k r:AV} (hA:A=[a,k,r]) (hr:r∈B.drop m):Sw (.mgetR kc z ag ok) (.callA f m) call A B:=by
 intro s0 sp sq rp bp rq bq h1 h2
 subst hA
 simp only [sem] at h1 h2 ⊢
 unfold semMgetR at h1
 split at h1 <;> first|cases h1; done|skip
 rename_i o k p ff heq
 simp only [List.cons.injEq,and_true] at heq
 obtain ⟨rfl,rfl,rfl⟩:=heq
 split at h1 <;> first|cases h1; done|skip
 rename_i cs hcs
 split at h1 <;> first|cases h1; done|skip
 rename_i hm
 obtain rfl:sp=s0:=sem_st (k:=.mget kc z ag ok) (call:=call) (as:=[.map o,k]) (b:=.undef) rfl h1
 have h2':=h2
 unfold semCallA at h2'
 split at h2' <;> first|cases h2'; done|skip
 rename_i v b st' hc
 split at h2' <;> first|cases h2'; done|skip
 rename_i hk
 simp only [Option.some.injEq,Prod.mk.injEq] at h2'
 obtain ⟨rfl,rfl,rfl⟩:=h2'
 have e1:st'[o]?=sp[o]?:=kept_map hcs hm hk hr
 obtain ⟨p',hp1,hp2⟩:=kept_spec hk _ hr
 simp only [rootOf,Option.some.injEq] at hp1
 subst hp1
 refine ⟨st',bp,h2,?_⟩
 unfold semMgetR
 simp only [hp2,hcs,hm,if_true]
 unfold semMget at h1 ⊢
 simp only [e1]
 dsimp only at h1 ⊢
 split at h1
 · rename_i es hes
   cases hr2:mfind kc k es 0 with
   | none=>rw [hr2] at h1; cases h1
   | some u =>
    rw [hr2] at h1
    dsimp only at h1 ⊢
    cases u with
    | none =>
     dsimp only at h1 ⊢
     cases hv:takeVal ag z.length z with
     | none=>rw [hv] at h1; cases h1
     | some v=>rw [hv] at h1; cases h1; rfl
    | some u=>cases h1; rfl
 · cases h1
theorem sw_O {kp kq:Kind} {call:CallT} {A B:List AV} (h:((kp.isSt && kq.isLd) || (kp.isLd && kq.isSt))=true):Sw kp kq call A B:=by
 intro s0 sp sq rp bp rq bq h1 h2
 simp only [Bool.or_eq_true,Bool.and_eq_true] at h
 rcases h with ⟨hp,hq⟩|⟨hp,hq⟩
 · obtain ⟨o,off,cs,a1,a2,rfl,_,a4⟩:=st_form hp h1
   obtain ⟨rfl,ag,n,h⟩:=ld_form hq h2
   refine ⟨s0,bp,?_,h1⟩
   rcases h with h|⟨o2,off2,cs2,_,h3,h4,h5⟩
   · exact h s0
   · have hl:=(List.getElem?_eq_some_iff.1 a1).1
     by_cases e:o=o2
     · subst e
       rw [List.getElem?_set_self hl] at h3
       simp only [Option.some.injEq,Obj.cells.injEq] at h3
       subst h3
       rw [takeVal_weak a2] at h4
       exact h5 s0 cs a1 h4
     · rw [List.getElem?_set_ne e] at h3
       exact h5 s0 cs2 h3 h4
 · obtain ⟨rfl,ag,n,h⟩:=ld_form hp h1
   obtain ⟨o,off,cs,a1,a2,rfl,_,a4⟩:=st_form hq h2
   refine ⟨_,bp,h2,?_⟩
   rcases h with h|⟨o2,off2,cs2,_,h3,h4,h5⟩
   · exact h _
   · have hl:=(List.getElem?_eq_some_iff.1 a1).1
     by_cases e:o=o2
     · subst e
       rw [a1] at h3
       simp only [Option.some.injEq,Obj.cells.injEq] at h3
       subst h3
       exact h5 _ _ (List.getElem?_set_self hl) (by rw [takeVal_weak a2]; exact h4)
     · exact h5 _ cs2 (by rw [List.getElem?_set_ne e]; exact h3) h4

theorem sw_C {d e:Nat} {call:CallT} {A B:List AV} {a b r:AV} (hA:A=[a,r]) (hB:B=[b,r]) (hne:d≠e):Sw (.ldStSR d) (.ldStSR e) call A B:=by
 intro s0 sp sq rp bp rq bq h1 h2
 obtain ⟨o,off,cs,a1,a2,rfl,⟨_,a3,_⟩,a4⟩:=st_form (k:=.ldStSR d) rfl h1
 obtain ⟨o2,off2,cs2,b1,b2,rfl,⟨_,b3,_⟩,b4⟩:=st_form (k:=.ldStSR e) rfl h2
 have x1:=h1
 have x2:=h2
 simp only [sem,hA] at x1
 simp only [sem,hB] at x2
 unfold semLdStSR at x1 x2
 split at x1 <;> first|cases x1; done|skip
 rename_i o3 off3 p3 f3 heq
 simp only [List.cons.injEq,and_true] at heq
 obtain ⟨rfl,rfl⟩:=heq
 split at x1 <;> first|cases x1; done|skip
 rename_i c1
 split at x2 <;> first|cases x2; done|skip
 rename_i o4 off4 p4 f4 heq
 simp only [List.cons.injEq,AV.ptr.injEq,and_true] at heq
 obtain ⟨rfl,rfl,rfl⟩:=heq
 split at x2 <;> first|cases x2; done|skip
 rename_i c2
 rw [hA] at a3
 rw [hB] at b3
 simp only [List.head?_cons,Option.some.injEq,AV.ptr.injEq] at a3 b3
 obtain ⟨rfl,rfl⟩:=a3
 obtain ⟨rfl,rfl⟩:=b3
 obtain ⟨c1,c1'⟩:=c1
 obtain ⟨c2,c2'⟩:=c2
 have c1:o3=p3:=by simpa using c1
 have c2:o4=p3:=by simpa using c2
 have c1':off3=f3+d:=by simpa using c1'
 have c2':off4=f3+e:=by simpa using c2'
 subst c1; subst c2
 have hl:=(List.getElem?_eq_some_iff.1 a1).1
 have hoff:off3≠off4:=by omega
 rw [List.getElem?_set_self hl] at b1
 simp only [Option.some.injEq,Obj.cells.injEq] at b1
 subst b1
 rw [List.getElem?_set_ne hoff] at b2
 refine ⟨_,bp,b4 s0 cs a1 b2,?_⟩
 have:=a4 (s0.set o4 (.cells (cs.set off4 rq.weak1))) (cs.set off4 rq.weak1) (List.getElem?_set_self hl) (by rw [List.getElem?_set_ne (Ne.symm hoff)]; exact a2)
 rw [this]
 simp only [List.set_set]
 rw [List.set_comm _ _ hoff]

theorem sw_W {n n':Nat} {call:CallT} {A B As Bs:List AV} {a x r:AV} (hA:A=a::x::r::As) (hr:r∈B.drop 3):Sw (.stStA n) (.stStA n') call A B:=by
 intro s0 sp sq rp bp rq bq h1 h2
 have form:∀ {n:Nat} {A:List AV} {s s':St} {r b:AV},semStStA n call A .undef s=some (r,b,s')→∃ (o off:Nat) (x rt:AV) (gs:List AV) (cs:List AV),A=.ptr o off::x::rt::gs∧rootOf rt=some o∧aside (some o) s.length gs=true∧s[o]?=some (Obj.cells cs)∧s'=s.set o (.cells (setSeg cs off x.cells)) ∧
  ∀ (s2:St) (cs2:List AV),s2.length=s.length→s2[o]?=some (Obj.cells cs2)→cs2=cs→semStStA n call A .undef s2=some (r,b,s2.set o (.cells (setSeg cs off x.cells))):=by
  intro n A s s' r b h
  unfold semStStA at h
  split at h <;> first|cases h; done|skip
  rename_i o off x rt gs
  split at h <;> first|cases h; done|skip
  rename_i p hp
  split at h <;> first|cases h; done|skip
  rename_i hc
  obtain ⟨c1,c2⟩:=hc
  have c1':o=p:=by simpa using c1
  subst c1'
  simp only [semStSt] at h
  split at h <;> first|cases h; done|skip
  rename_i cs hcs
  split at h <;> first|cases h; done|skip
  rename_i hcond
  simp only [fL_eq,Option.some.injEq,Prod.mk.injEq] at h
  obtain ⟨rfl,rfl,rfl⟩:=h
  refine ⟨o,off,x,rt,gs,cs,rfl,hp,c2,hcs,rfl,fun s2 cs2 hl h3 e=>?_⟩
  subst e
  unfold semStStA
  simp only [hp,c1,hl,c2,and_self,if_true]
  unfold semStSt
  simp only [h3,hcond,and_self,if_true,fL_eq]
 simp only [sem] at h1 h2 ⊢
 obtain ⟨o,off,x1,rt,gs,cs,e1,e2,e3,e4,rfl,e6⟩:=form h1
 obtain ⟨o2,off2,x2,rt2,gs2,cs2,f1,f2,f3,f4,rfl,f6⟩:=form h2
 rw [hA] at e1
 simp only [List.cons.injEq] at e1
 obtain ⟨rfl,rfl,rfl,rfl⟩:=e1
 rw [f1] at hr
 obtain ⟨p,hp1,_,hp3⟩:=aside_spec f3 r (by simpa using hr)
 rw [e2] at hp1
 simp only [Option.some.injEq] at hp1
 subst hp1
 have hne:o2≠o:=fun e=>hp3 (by rw [e])
 rw [List.getElem?_set_ne (Ne.symm hne)] at f4
 refine ⟨_,bp,f6 s0 cs2 (by simp) f4 rfl,?_⟩
 rw [e6 _ cs (by simp) (by rw [List.getElem?_set_ne hne]; exact e4) rfl]
 rw [List.set_comm _ _ hne]

theorem put_stf (d:Dst) (r:AV) (σ:Sig):(d.put r σ).st=σ.st:=by cases d <;> rfl
theorem swapG (hap:asideOK p q=true) {σ1 σ2:Sig} (h1:goOp call p σ=some σ1) (h2:goOp call q σ1=some σ2) :
 ∃ σ1',goOp call q σ=some σ1'∧goOp call p σ1'=some σ2:=by
 simp only [asideOK,bareOK,apartS,Bool.and_eq_true,Bool.not_eq_true',Option.isNone_iff_eq_none] at hap
 obtain ⟨⟨⟨⟨b1,b2⟩,hqt⟩,⟨a1,a2⟩,a3⟩,hsw⟩:=hap
 have a1:=meets_false a1
 have a2:=meets_false a2
 have a3:=meets_false a3
 obtain ⟨rp,bp,sp,hp,hσ1⟩:=goOp_some h1
 obtain ⟨rq,bq,sq,hq,hσ2⟩:=goOp_some h2
 have hspp:∀ τ:Sig,spendAll p.args τ=τ:=fun τ=>by
  clear hsw hp hσ1 h1 a3
  revert hqt
  induction p.args with
  | nil=>intro _; rfl
  | cons y ys ih =>
   intro hqt
   simp only [quiet,List.all_cons,Bool.and_eq_true] at hqt
   have:y.spend τ=τ:=by
    have:=hqt.1
    cases y <;> simp_all [Opd.steals,Opd.spend]
   rw [spendAll,this]
   exact ih hqt.2
 have hbx:∀ (x:AOper) (τ:Sig),x.box=none→boxOf x τ=.undef:=fun x τ h=>by unfold boxOf; rw [h]
 rw [hbx p _ b1] at hp
 rw [hbx q _ b2] at hq
 rw [hspp,b1] at hσ1
 rw [b2] at hσ2
 simp only at hσ1 hσ2
 -- what q reads is not what p writes
 have hsame1:∀ x:Atom,x≠.st→x ∉ p.dst.atoms→x.same σ1 σ:=fun x hx hd=>by
  rw [hσ1]
  refine Atom.same_trans (put_other hd) ?_
  cases x <;> first|rfl|exact absurd rfl hx
 have hargs:q.args.map (·.read σ1)=q.args.map (·.read σ):=List.map_congr_left fun y hy=>read_same fun x hx=>by
  have hxr:x∈q.reads:=by
   simp only [AOper.reads,List.mem_append,List.mem_flatMap]
   exact .inl (.inl (.inl ⟨y,hy,hx⟩))
  refine hsame1 x ?_ fun hd=>a1 x hd hxr
  intro e
  subst e
  cases y <;> simp [Opd.atoms] at hx
 have hst1:σ1.st=sp:=by rw [hσ1,put_st]
 rw [hargs,hst1] at hq
 have hSw:Sw p.kind q.kind call (p.args.map (·.read σ)) (q.args.map (·.read σ)):=by
  simp only [Bool.or_eq_true] at hsw
  rcases hsw with (((hsw|hsw)|hsw)|hsw)|hsw
  · simp only [asideL,Bool.and_eq_true] at hsw
    obtain ⟨k1,k2⟩:=hsw
    split at k2
    case h_2=>cases k2
    rename_i m x r hm hx
    obtain ⟨y,hy,hxy⟩:=List.any_eq_true.1 k2
    obtain rfl:=opd_same hxy
    exact sw_L k1 (a:=x.read σ) (r:=r.read σ) (by rw [hx]; rfl) hm (by rw [← List.map_drop]; exact List.mem_map.2 ⟨r,hy,rfl⟩)
  · simp only [asideW] at hsw
    split at hsw
    case h_2=>cases hsw
    rename_i n n' x1 x2 r rest k1 k2 hx
    obtain ⟨y,hy,hxy⟩:=List.any_eq_true.1 hsw
    obtain rfl:=opd_same hxy
    rw [k1,k2]
    exact sw_W (As:=rest.map (·.read σ)) (Bs:=[]) (a:=x1.read σ) (x:=x2.read σ) (r:=r.read σ) (by rw [hx]; rfl) (by rw [← List.map_drop]; exact List.mem_map.2 ⟨r,hy,rfl⟩)
  · exact sw_O hsw
  · simp only [asideC] at hsw
    split at hsw
    case h_2=>cases hsw
    rename_i d e x1 r x2 s k1 k2 hx hy
    simp only [Bool.and_eq_true,Bool.not_eq_true'] at hsw
    obtain rfl:=opd_same hsw.1
    have hne:d≠e:=by
     intro h
     subst h
     simp at hsw
    rw [k1,k2]
    exact sw_C (a:=x1.read σ) (b:=x2.read σ) (r:=r.read σ) (by rw [hx]; rfl) (by rw [hy]; rfl) hne
  · simp only [asideM] at hsw
    split at hsw
    case h_2=>cases hsw
    rename_i kc z ag ok f m x1 x2 r k1 k2 hx
    obtain ⟨y,hy,hxy⟩:=List.any_eq_true.1 hsw
    obtain rfl:=opd_same hxy
    rw [k1,k2]
    exact sw_M (a:=x1.read σ) (k:=x2.read σ) (r:=r.read σ) (by rw [hx]; rfl) (by rw [← List.map_drop]; exact List.mem_map.2 ⟨r,hy,rfl⟩)
 obtain ⟨sq',bp',hq',hp'⟩:=hSw _ _ _ _ _ _ _ hp hq
 have hgq:=goOp_mk (p:=q) (σ:=σ) (call:=call) (by rw [hbx q _ b2]; exact hq')
 rw [b2] at hgq
 simp only at hgq
 refine ⟨_,hgq,?_⟩
 generalize hσq:q.dst.put rq { spendAll q.args σ with st:=sq' }=σq at hgq
 have hσq':q.dst.put rq { fr:=(spendAll q.args σ).fr,τ:=(spendAll q.args σ).τ,st:=sq' }=σq:=hσq
 obtain ⟨fq,lq⟩:=go_frame hgq
 have hstq:σq.st=sq':=by rw [← hσq,put_st]
 have hargsp:p.args.map (·.read σq)=p.args.map (·.read σ):=List.map_congr_left fun y hy=>read_same fun x hx=>fq x fun hw=>a3 x hw (List.mem_append.2 (.inl (List.mem_append.2 (.inl (List.mem_flatMap.2 ⟨y,hy,hx⟩)))))
 rw [goOp_mk (p:=p) (σ:=σq) (call:=call) (by rw [hbx p _ b1,hargsp,hstq]; exact hp')]
 rw [hspp,b1]
 congr 1
 refine Sig.ext_atoms ?_ fun x=>?_
 · rw [put_len,hσ2,put_len,spendAll_len,hσ1,put_len]
   exact lq
 by_cases hxs:x=.st
 · subst hxs
   show (p.dst.put rp _).st=σ2.st
   rw [hσ2,put_stf,put_stf]
 by_cases hd:x∈p.dst.atoms
 · have e1:x.same σ1 (p.dst.put rp { fr:=σq.fr,τ:=σq.τ,st:=sq }):=by
    rw [hσ1]
    exact put_same (σ1:=⟨σ.fr,σ.τ,sp⟩) (σ2:=⟨σq.fr,σq.τ,sq⟩) (show σ.fr.length=σq.fr.length from lq.symm) (.inr hd)
   have e2:x.same σ2 σ1:=(go_frame h2).1 x (a2 x hd)
   exact Atom.same_symm (Atom.same_trans e2 e1)
 · have e1:x.same (p.dst.put rp { fr:=σq.fr,τ:=σq.τ,st:=sq }) σq:=Atom.same_trans (put_other hd) (by cases x <;> first|rfl|exact absurd rfl hxs)
   have l1:σ1.fr.length=σ.fr.length:=by rw [hσ1,put_len]
   have hspent:∀ y∈q.args,∀ z∈y.spent,z.same σ1 σ:=fun y hy z hz=>by
    have hzr:z∈q.reads:=by
     simp only [AOper.reads,List.mem_append,List.mem_flatMap]
     exact .inl (.inl (.inl ⟨y,hy,spent_atoms y z hz⟩))
    refine hsame1 z ?_ fun hd=>a1 z hd hzr
    intro e
    subst e
    cases y <;> simp [Opd.spent] at hz
   have e2:x.same σ2 σq:=by
    rw [hσ2,← hσq]
    refine put_same (by simp [spendAll_len,l1]) ?_
    by_cases hdq:x∈q.dst.atoms
    · exact .inr hdq
    · left
      have:=spendAll_same l1 (hsame1 x hxs hd) hspent
      cases x <;> first|exact this|exact absurd rfl hxs
   exact Atom.same_trans e1 (Atom.same_symm e2)

def Goes (p:AOper) (σ:Sig):Prop:=∀ x want,p.guard=some (x,want)→∃ b,x.read σ=.bool b∧(b == want)=true
def Skips (p:AOper) (σ:Sig):Prop:=∃ x want,p.guard=some (x,want)∧(x.read σ=.tuple []∨∃ b,x.read σ=.bool b∧(b == want)=false)
theorem step_cases (h:stepOp call p σ=some σ'):(Goes p σ∧goOp call p σ=some σ')∨(Skips p σ∧σ'=p.dst.put (.tuple []) σ):=by
 unfold stepOp at h
 split at h
 · rename_i hg
   exact .inl ⟨fun x want e=>(by rw [hg] at e; cases e),h⟩
 · rename_i x want hg
   split at h
   · rename_i b hb
     split at h
     · rename_i hc
       refine .inl ⟨fun x' want' e=>?_,h⟩
       rw [hg] at e
       cases e
       exact ⟨b,hb,hc⟩
     · rename_i hc
       exact .inr ⟨⟨x,want,hg,.inr ⟨b,hb,by simpa using hc⟩⟩,(Option.some.inj h).symm⟩
   · rename_i hb
     exact .inr ⟨⟨x,want,hg,.inl hb⟩,(Option.some.inj h).symm⟩
   · cases h
theorem Goes.step (h:Goes p σ):stepOp call p σ=goOp call p σ:=by
 unfold stepOp
 cases hg:p.guard with
 | none=>rfl
 | some xw =>
  obtain ⟨x,want⟩:=xw
  obtain ⟨b,hb,hc⟩:=h x want hg
  simp only [hb,hc,if_true]
theorem Skips.step (h:Skips p σ):stepOp call p σ=some (p.dst.put (.tuple []) σ):=by
 obtain ⟨x,want,hg,h⟩:=h
 unfold stepOp
 rw [hg]
 rcases h with h|⟨b,hb,hc⟩
 · simp only [h]
 · simp only [hb,hc,Bool.false_eq_true,if_false]
theorem Goes.same {σ1 σ2:Sig} (h:Goes p σ1) (hs:∀ x want,p.guard=some (x,want)→x.read σ1=x.read σ2):Goes p σ2:=fun x want hg=>by
 rw [← hs x want hg]; exact h x want hg
theorem Skips.same {σ1 σ2:Sig} (h:Skips p σ1) (hs:∀ x want,p.guard=some (x,want)→x.read σ1=x.read σ2):Skips p σ2:=by
 obtain ⟨x,want,hg,h⟩:=h
 exact ⟨x,want,hg,by rw [← hs x want hg]; exact h⟩
def skipped (p:AOper):AOper:={ dst:=p.dst,kind:=.mv,args:=[.c (.tuple [])] }
theorem skipped_step (τ:Sig):stepOp call (skipped p) τ=some (p.dst.put (.tuple []) τ):=by
 show goOp call (skipped p) τ=_
 rw [goOp_eq]
 rfl
theorem dst_st:Atom.st ∉ p.dst.atoms:=by
 cases p.dst <;> simp [Dst.atoms]
theorem skipped_writes:(skipped p).writes=p.dst.atoms:=by
 simp [AOper.writes,skipped,Opd.spent,Kind.setSt]
theorem skipped_reads:(skipped p).reads=[]:=by
 simp [AOper.reads,skipped,Opd.atoms,Kind.useSt]
theorem meets_intro {xs ys:List Atom} (h:∀ x∈xs,x ∉ ys):meets xs ys=false:=by
 cases hm:meets xs ys with
 | false=>rfl
 | true =>
  exfalso
  unfold meets at hm
  rw [List.any_eq_true] at hm
  obtain ⟨x,hx,h2⟩:=hm
  rw [List.any_eq_true] at h2
  obtain ⟨y,hy,e⟩:=h2
  rw [Atom.beq_iff] at e
  subst e
  exact h x hx hy

theorem swapX (hap:asideOK p q=true) {σ1 σ2:Sig} (h1:stepOp call p σ=some σ1) (h2:stepOp call q σ1=some σ2) :
 ∃ σ1',stepOp call q σ=some σ1'∧stepOp call p σ1'=some σ2:=by
 have hap0:=hap
 simp only [asideOK,bareOK,apartS,Bool.and_eq_true,Bool.not_eq_true',Option.isNone_iff_eq_none] at hap
 obtain ⟨⟨⟨⟨b1,b2⟩,hqt⟩,⟨a1,a2⟩,a3⟩,_⟩:=hap
 have a1:=meets_false a1
 have a2:=meets_false a2
 have a3:=meets_false a3
 -- guards are read alike
 have gst:∀ {x:AOper} {y:Opd} {want:Bool},x.guard=some (y,want)→Atom.st ∉ y.atoms:=fun {x y want} _=>by cases y <;> simp [Opd.atoms]
 have f1:=(step_frame h1).1
 have pw:∀ x,x∈p.writes→x∈p.dst.atoms∨x=.st:=fun x hx=>by
  simp only [AOper.writes,b1,List.mem_append] at hx
  rcases hx with ((hx|hx)|hx)|hx
  · exact .inl hx
  · obtain ⟨y,hy,hx⟩:=List.mem_flatMap.1 hx
    have:=List.all_eq_true.1 hqt y hy
    cases y <;> simp_all [Opd.spent,Opd.steals]
  · simp at hx
  · split at hx
    · exact .inr (by simpa using hx)
    · simp at hx
 have gq:∀ y want,q.guard=some (y,want)→y.read σ1=y.read σ:=fun y want hg=>read_same fun x hx=>f1 x fun hw=>by
  rcases pw x hw with hd|rfl
  · exact a1 x hd (guard_atoms hg x hx)
  · exact gst hg hx
 have gp:∀ {τ:Sig},(∀ x,x ∉ q.writes→x.same τ σ)→∀ y want,p.guard=some (y,want)→y.read σ=y.read τ:=fun {τ} hτ y want hg=>(read_same fun x hx=>hτ x fun hw=>a3 x hw (by
  rw [hg]
  exact List.mem_append.2 (.inr hx))).symm
 rcases step_cases h1 with ⟨k1,e1⟩|⟨k1,e1⟩ <;> rcases step_cases h2 with ⟨k2,e2⟩|⟨k2,e2⟩
 · obtain ⟨σ',r1,r2⟩:=swapG hap0 e1 e2
   refine ⟨σ',by rw [(k2.same gq).step]; exact r1,?_⟩
   rw [(k1.same (gp (go_frame r1).1)).step]
   exact r2
 · -- p runs, q is passed over
   have hq0:stepOp call (skipped q) σ1=some σ2:=by rw [skipped_step,e2]
   have hap2:apart0 p (skipped q)=true:=by
    simp only [apart0,skipped_writes,skipped_reads,Bool.and_eq_true,Bool.not_eq_true']
    refine ⟨⟨meets_intro fun x _=>by simp,meets_intro fun x hx hd=>?_⟩,meets_intro fun x hd hx=>?_⟩
    · rcases pw x hx with h|rfl
      · exact a2 x h (dst_writes x hd)
      · exact dst_st hd
    · simp only [AOper.reads,b1,List.mem_append] at hx
      rcases hx with ((hx|hx)|hx)|hx
      · exact a3 x (dst_writes x hd) (List.mem_append.2 (.inl (List.mem_append.2 (.inl hx))))
      · simp at hx
      · exact a3 x (dst_writes x hd) (List.mem_append.2 (.inr hx))
      · split at hx
        · simp only [List.mem_cons,List.not_mem_nil,or_false] at hx
          subst hx
          exact dst_st hd
        · simp at hx
   obtain ⟨σ',r1,r2⟩:=swap0 hap2 h1 hq0
   rw [skipped_step] at r1
   exact ⟨σ',by rw [(k2.same gq).step]; exact r1,r2⟩
 · -- p is passed over
   have hp0:stepOp call (skipped p) σ=some σ1:=by rw [skipped_step,e1]
   have hap2:apart0 (skipped p) q=true:=by
    simp only [apart0,skipped_writes,skipped_reads,Bool.and_eq_true,Bool.not_eq_true']
    exact ⟨⟨meets_intro fun x hx=>a1 x hx,meets_intro fun x hx=>a2 x hx⟩,meets_intro fun x _=>by simp⟩
   obtain ⟨σ',r1,r2⟩:=swap0 hap2 hp0 h2
   rw [skipped_step] at r2
   refine ⟨σ',r1,?_⟩
   rw [(k1.same (gp (step_frame r1).1)).step]
   exact r2
 · have hp0:stepOp call (skipped p) σ=some σ1:=by rw [skipped_step,e1]
   have hap2:apart0 (skipped p) q=true:=by
    simp only [apart0,skipped_writes,skipped_reads,Bool.and_eq_true,Bool.not_eq_true']
    exact ⟨⟨meets_intro fun x hx=>a1 x hx,meets_intro fun x hx=>a2 x hx⟩,meets_intro fun x _=>by simp⟩
   obtain ⟨σ',r1,r2⟩:=swap0 hap2 hp0 h2
   rw [skipped_step] at r2
   refine ⟨σ',r1,?_⟩
   rw [(k1.same (gp (step_frame r1).1)).step]
   exact r2

theorem swap_ok (hap:apartA p q=true) {σ1 σ2:Sig} (h1:stepOp call p σ=some σ1) (h2:stepOp call q σ1=some σ2) :
 ∃ σ1',stepOp call q σ=some σ1'∧stepOp call p σ1'=some σ2:=by
 simp only [apartA,Bool.or_eq_true] at hap
 rcases hap with hap|hap
 · exact swap0 hap h1 h2
 · exact swapX hap h1 h2

theorem bubble {ps:List AOper} {rest:List AOper} (hap:∀ r∈ps,apartA r p=true) (h:runOps call (ps++p::rest) σ=some σ') :
 ∃ σ1,stepOp call p σ=some σ1∧runOps call (ps++rest) σ1=some σ':=by
 induction ps generalizing σ with
 | nil =>
  simp only [List.nil_append,runOps] at h
  cases hs:stepOp call p σ with
  | none=>simp [hs] at h
  | some σ1=>simp only [hs] at h; exact ⟨σ1,rfl,h⟩
 | cons r ps ih =>
  simp only [List.cons_append,runOps] at h
  cases hs:stepOp call r σ with
  | none=>simp [hs] at h
  | some σr =>
   simp only [hs] at h
   obtain ⟨σ2,h2,h3⟩:=ih (fun r hr=>hap r (by simp [hr])) h
   obtain ⟨σ1,g1,g2⟩:=swap_ok (hap r (by simp)) hs h2
   refine ⟨σ1,g1,?_⟩
   simp only [List.cons_append,runOps,g2]
   exact h3
end
end Go.Cb
/-
 THE ABSTRACT MACHINE, part 24: regions.
-/
set_option maxRecDepth 4000
set_option linter.unusedSimpArgs false
set_option linter.unusedVariables false
namespace Go.Cb
open Classical

def guardOK (c:Cx) (ops:Array Oper) (o:Oper) (p:AOper):Bool:=match o.guard,p.guard with
 | none,none=>true
 | some (j,w),some (x,w')=>(w == w') && (match (ops[j]?).bind (·.dst) with|some d=>opdN c (.tmp d) x && decide (d < c.nt)|none=>false) && dstOK c o.dst p.dst
 | _,_=>false

def opsOK (c:Cx) (ops:Array Oper):List Oper→List AOper→Bool
 | [],[]=>true
 | o::os,p::ps=>opOK c o p && guardOK c ops o p && opsOK c ops os ps
 | _,_=>false

def pairsOK (ops:Array Oper):List (Nat×List Atom×List Atom×AOper)→Nat→List AOper→Bool
 | _,_,[]=>true
 | es,j,p::ps =>
  (befores ops j).all (fun i=>Nat.blt i j) &&
  es.all (fun e=>(!meets e.2.2.1 p.reads && !meets e.2.2.1 p.writes && !meets p.writes e.2.1) || (closure ops 10 (befores ops j)).any (Nat.beq e.1) || asideOK e.2.2.2 p) &&
  pairsOK ops ((j,p.reads,p.writes,p)::es) (j+1) ps

def opsQ (c:Cx) (ops:Array Oper) (qs:List (Nat×AOper)):Bool:=qs.all fun x=>match ops[x.1]? with
 | some o=>opOK c o x.2 && guardOK c ops o x.2
 | none=>false
def pairsQ (ops:Array Oper):List (Nat×AOper)→List (Nat×AOper)→Bool
 | _,[]=>true
 | es,x::qs =>
  (befores ops x.1).all (fun i=>es.any fun e=>Nat.beq e.1 i) && es.all (fun e=>!Nat.beq e.1 x.1 && (apartA e.2 x.2 || (closure ops 10 (befores ops x.1)).any (Nat.beq e.1))) && pairsQ ops (x::es) qs
def orderOf (kill:List Nat):List Nat:=kill.filterMap fun k=>if Nat.ble 1000000 k then some (k - 1000000) else none
def regQ (c:Cx) (ops:Array Oper) (kill:List Nat) (ps:List AOper):Bool :=
 let π:=orderOf kill
 Nat.beq π.length ops.size && Nat.beq ps.length ops.size && opsQ c ops (π.zip ps) && pairsQ ops [] (π.zip ps)

def regOK (c:Cx) (ops:Array Oper) (draw:Bool) (kill:List Nat) (ps:List AOper):Bool :=
 if draw && !(orderOf kill).isEmpty then regQ c ops kill ps else opsOK c ops ops.toList ps && (!draw || pairsOK ops [] 0 ps)

section
variable {c:Cx} {g:Gh} {w:World} {pr:Nat→Option Pl} {bx:Nat→Nat} {σ σ':Sig} {a:Act} {call:CallT} {ops:Array Oper} {next:Act→World→Prop} {Q:Exit→Act→World→Prop}

theorem step_ok (fx:Fx c) (hc:CallOK c.P c.gt call) (h:S c g w pr bx σ a) {i:Nat} {o:Oper} {p:AOper} (hi:ops[i]?=some o) (hop:opOK c o p=true) (hg:guardOK c ops o p=true)
 (hs:stepOp call p σ=some σ') (hnext:Post c g w a σ' next):wpOp c.P ops Q i next a w:=by
 unfold wpOp
 simp only [hi]
 unfold stepOp at hs
 unfold guardOK at hg
 split at hg
 · rename_i h1 h2
   rw [h2] at hs
   have hw:Region.wanted o (yielded ops a.tmps)=true:=by simp [Region.wanted,h1]
   rw [if_pos hw]
   exact .inl (op_ok hop fx hc h hs hnext)
 · rename_i j want x want' h1 h2
   simp only [Bool.and_eq_true,beq_iff_eq] at hg
   obtain ⟨⟨rfl,hg⟩,hd⟩:=hg
   split at hg
   · rename_i d hdst
     simp only [Bool.and_eq_true,decide_eq_true_eq] at hg
     obtain ⟨hx,hdn⟩:=hg
     have hA:=read_ok h hx
     have hlt:d < a.tmps.size:=by rw [h.fr.size]; exact hdn
     have hy:∀ v,a.eval (.tmp d)=v→yielded ops a.tmps j=(match v with|.bool b=>some b|_=>none):=fun v hv=>by
      have e:a.tmps[d]?=some v:=by
       rw [← hv]; simp [Act.eval,hlt]
      simp only [yielded,hdst,Option.bind_some,e]
      cases v <;> rfl
     rw [h2] at hs
     simp only at hs
     have skip:Region.wanted o (yielded ops a.tmps)=false→some (p.dst.put (.tuple []) σ)=some σ'→(if Region.wanted o (yielded ops a.tmps)=true then o.wp c.P a w next Q∨(o.asks c.P a w∧LetsOut Q) else next (a.put o.dst undef) w):=fun hw hs=>by
      rw [if_neg (by rw [hw]; simp)]
      obtain rfl:=Option.some.inj hs
      refine hnext _ _ g pr bx (defers_put _ _ _) (put_ok fx h hd (mine:=No) (r:=.tuple []) (v:=undef) ?_ fun _ x=>x.elim) (Tr.refl _ _ _)
      exact (show ValOK g w No (.tuple []) undef from ValOK.mk' (by simp only [Rel]; exact ⟨#[],rfl,by simp [RelL]⟩) (by simp) (by simp))
     split at hs
     · rename_i b hb
       rw [hb] at hA
       have hv:=ValOK.rel hA
       simp only [Rel] at hv
       have hyv:=hy _ hv
       split at hs
       · rename_i hbw
         have hw:Region.wanted o (yielded ops a.tmps)=true:=by
          simp only [Region.wanted,h1,hyv]
          simpa using hbw
         rw [if_pos hw]
         exact .inl (op_ok hop fx hc h hs hnext)
       · rename_i hbw
         exact skip (by
          simp only [Region.wanted,h1,hyv]
          simpa using hbw) hs
     · rename_i hb
       rw [hb] at hA
       have hv:=ValOK.rel hA
       simp only [Rel] at hv
       obtain ⟨arr,hv,hr⟩:=hv
       have hyv:=hy _ hv
       exact skip (by simp [Region.wanted,h1,hyv]) hs
     · cases hs
   · cases hg
 · cases hg

theorem opsOK_get {os:List Oper}:∀ {ps:List AOper},opsOK c ops os ps=true→os.length=ps.length∧∀ (i:Nat) (p:AOper),ps[i]?=some p→∃ o,os[i]?=some o∧opOK c o p=true∧guardOK c ops o p=true:=by
 induction os with
 | nil =>
  intro ps h
  cases ps with
  | nil=>exact ⟨rfl,fun i p h=>by simp at h⟩
  | cons p ps=>simp [opsOK] at h
 | cons o os ih =>
  intro ps h
  cases ps with
  | nil=>simp [opsOK] at h
  | cons p ps =>
   rw [opsOK,Bool.and_eq_true,Bool.and_eq_true] at h
   obtain ⟨⟨h1,h2⟩,h3⟩:=h
   obtain ⟨l,hg⟩:=ih h3
   refine ⟨by rw [List.length_cons,List.length_cons,l],fun i q hi=>?_⟩
   cases i with
   | zero =>
    rw [List.getElem?_cons_zero] at hi
    obtain rfl:=Option.some.inj hi
    exact ⟨o,rfl,h1,h2⟩
   | succ i =>
    rw [List.getElem?_cons_succ] at hi ⊢
    exact hg i q hi

theorem Post.trans {σ'':Sig} {g':Gh} {w':World} {a':Act} (h:Post c g w a σ'' next) (hd:a'.defers=a.defers) (ht:Tr c.A g w g' w'):Post c g' w' a' σ'' next :=
 fun a2 w2 g2 pr2 bx2 d2 s2 t2=>h a2 w2 g2 pr2 bx2 (d2.trans hd) s2 (ht.trans t2)

theorem ops_text (fx:Fx c) (hc:CallOK c.P c.gt call) {ps:List AOper} (hok:opsOK c ops ops.toList ps=true):∀ (n k:Nat) (g:Gh) (w:World) (pr:Nat→Option Pl) (bx:Nat→Nat) (σ:Sig) (a:Act),k+n=ps.length →
 S c g w pr bx σ a→runOps call (ps.drop k) σ=some σ'→Post c g w a σ' (Q .normal)→wpOps c.P ops Q (List.range' k n) a w
 | 0,k,g,w,pr,bx,σ,a,hk,h,hr,hnext=>by
  rw [List.drop_of_length_le (by omega)] at hr
  simp only [runOps,Option.some.injEq] at hr
  subst hr
  exact hnext a w g pr bx rfl h (Tr.refl _ _ _)
 | n+1,k,g,w,pr,bx,σ,a,hk,h,hr,hnext=>by
  obtain ⟨hl,hget⟩:=opsOK_get hok
  rw [List.drop_eq_getElem_cons (by omega)] at hr
  simp only [runOps] at hr
  obtain ⟨o,ho,h1,h2⟩:=hget k _ (List.getElem?_eq_getElem (show k < ps.length by omega))
  cases hs:stepOp call (ps[k]'(by omega)) σ with
  | none=>simp [hs] at hr
  | some σ1 =>
   simp only [hs] at hr
   rw [List.range'_succ,wpOps_cons]
   refine step_ok fx hc h (by simpa using ho) h1 h2 hs fun a1 w1 g1 pr1 bx1 hd1 hS1 ht1=>?_
   exact ops_text fx hc hok n (k+1) g1 w1 pr1 bx1 σ1 a1 (by omega) hS1 hr (hnext.trans hd1 ht1)
end
end Go.Cb
/-
 THE ABSTRACT MACHINE, part 25: regions whose order is drawn.
-/
set_option maxRecDepth 4000
set_option linter.unusedSimpArgs false
set_option linter.unusedVariables false
namespace Go.Cb
open Classical

section
variable {c:Cx} {σ':Sig} {call:CallT} {ops:Array Oper} {Q:Exit→Act→World→Prop}

theorem pairs_spec (all:List AOper):∀ (ps:List AOper) (k:Nat) (es:List (Nat×List Atom×List Atom×AOper)),ps=all.drop k→(∀ (i:Nat) (q:AOper),i < k→all[i]?=some q→(i,q.reads,q.writes,q)∈es)→pairsOK ops es k ps=true →
 ∀ (j:Nat) (p:AOper),k≤j→all[j]?=some p→(∀ i∈befores ops j,i < j)∧∀ (i:Nat) (q:AOper),i < j→all[i]?=some q→apartA q p=true∨i∈closure ops 10 (befores ops j)
 | [],k,es,hps,_,_,j,p,hkj,hj=>by
  have:all.length≤k:=by
   have:=congrArg List.length hps
   simp at this; omega
  rw [List.getElem?_eq_none (by omega)] at hj; cases hj
 | p0::ps,k,es,hps,hes,h,j,p,hkj,hj=>by
  have hk:k < all.length:=by
   have:=congrArg List.length hps
   simp at this; omega
  rw [List.drop_eq_getElem_cons hk] at hps
  simp only [List.cons.injEq] at hps
  obtain ⟨e0,hps⟩:=hps
  simp only [pairsOK,Bool.and_eq_true] at h
  obtain ⟨⟨h1,h2⟩,h3⟩:=h
  rcases Nat.lt_or_ge k j with hlt|hge
  · refine pairs_spec all ps (k+1) _ hps (fun i q hi hq=>?_) h3 j p hlt hj
    rcases Nat.lt_or_ge i k with h4|h4
    · exact List.mem_cons_of_mem _ (hes i q h4 hq)
    · obtain rfl:i=k:=by omega
      rw [List.getElem?_eq_getElem hk] at hq
      simp only [Option.some.injEq] at hq
      rw [e0,hq]
      simp
  · obtain rfl:j=k:=by omega
    rw [List.getElem?_eq_getElem hk] at hj
    simp only [Option.some.injEq] at hj
    rw [← hj,← e0]
    refine ⟨fun i hi=>?_,fun i q hi hq=>?_⟩
    · have:=List.all_eq_true.1 h1 i hi
      simpa using this
    · have:=List.all_eq_true.1 h2 _ (hes i q hi hq)
      simp only [Bool.or_eq_true] at this
      rcases this with (h5|h5)|h5
      · left; simp only [apartA,apart0,Bool.or_eq_true]; exact .inl (by simpa using h5)
      · right
        rw [List.any_eq_true] at h5
        obtain ⟨y,hy,e⟩:=h5
        have:i=y:=by simpa using e
        rw [this]; exact hy
      · left; simp only [apartA,Bool.or_eq_true]; exact .inr h5

def rem_ (n:Nat) (listed:Array Bool):List Nat:=(List.range n).filter fun i=>!listed.getD i true

theorem mem_rem {n:Nat} {listed:Array Bool} {i:Nat}:i∈rem_ n listed ↔ i < n∧listed.getD i true=false:=by
 simp [rem_]
theorem rem_sorted (n:Nat) (listed:Array Bool):(rem_ n listed).Pairwise (· < ·):=List.Pairwise.filter _ List.pairwise_lt_range

theorem getD_both {l:Array Bool} {i:Nat} (h:i < l.size) (d e:Bool):l.getD i d=l.getD i e:=by
 simp [Array.getD_eq_getD_getElem?,h]

theorem rem_set {n:Nat} {listed:Array Bool} (hl:listed.size=n) {i:Nat} {l1 l2:List Nat} (h:rem_ n listed=l1++i::l2):rem_ n (listed.setIfInBounds i true)=l1++l2:=by
 have hi:i∈rem_ n listed:=by rw [h]; simp
 have hin:=(mem_rem.1 hi).1
 have e:rem_ n (listed.setIfInBounds i true)=(rem_ n listed).filter (fun x=>x != i):=by
  unfold rem_
  rw [List.filter_filter]
  apply List.filter_congr
  intro x hx
  have hxn:x < n:=by simpa using hx
  by_cases ex:x=i
  · subst ex
    simp [Array.getD_eq_getD_getElem?,hl,hxn]
  · have:(listed.setIfInBounds i true).getD x true=listed.getD x true:=by
     simp [Array.getD_eq_getD_getElem?,Array.getElem?_setIfInBounds_ne (Ne.symm ex)]
    rw [this]
    simp [ex]
 rw [e,h]
 have hp:=rem_sorted n listed
 rw [h] at hp
 have hp:=List.pairwise_append.1 hp
 have h1:∀ x∈l1,x≠i:=fun x hx=>Nat.ne_of_lt (hp.2.2 x hx i (by simp))
 have h2:∀ x∈l2,x≠i:=fun x hx=>Nat.ne_of_gt ((List.pairwise_cons.1 hp.2.1).1 x hx)
 rw [List.filter_append,List.filter_cons_of_neg (by simp),List.filter_eq_self.2 (fun x hx=>by simpa using h1 x hx),List.filter_eq_self.2 (fun x hx=>by simpa using h2 x hx)]

theorem closure_listed {listed:Array Bool} (hc:∀ j,listed.getD j false=true→∀ i∈befores ops j,listed.getD i false=true) :
 ∀ (n:Nat) (l:List Nat),(∀ x∈l,listed.getD x false=true)→∀ x∈closure ops n l,listed.getD x false=true
 | 0,l,h,x,hx=>h x hx
 | n+1,l,h,x,hx=>by
  simp only [closure,List.mem_append] at hx
  rcases hx with hx|hx
  · exact h x hx
  · refine closure_listed hc n _ (fun y hy=>?_) x hx
    obtain ⟨z,hz,hy⟩:=List.mem_flatMap.1 hy
    exact hc z (h z hz) y hy

theorem ready_iff {listed:Array Bool} {i:Nat}:i∈Region.ready .any ops listed ↔ i < ops.size∧listed.getD i true=false∧∀ b∈befores ops i,listed.getD b false=true:=by
 unfold Region.ready
 rw [List.mem_filter,List.mem_range]
 constructor
 · rintro ⟨h1,h2⟩
   simp only [Bool.and_eq_true,Bool.not_eq_true'] at h2
   refine ⟨h1,h2.1,fun b hb=>?_⟩
   have h3:=h2.2
   unfold befores at hb
   rw [Array.getElem?_eq_getElem h1] at h3 hb
   simp only [Option.map_some,Option.getD_some] at h3
   simp only at hb
   obtain ⟨e,he,hb⟩:=List.mem_filterMap.1 hb
   have:=Array.all_eq_true_iff_forall_mem.1 h3 e (by simpa using he)
   split at hb
   · rename_i hbind
     simp only [Option.some.injEq] at hb
     subst hb
     simpa [hbind] using this
   · cases hb
 · rintro ⟨h1,h2,h3⟩
   refine ⟨h1,?_⟩
   simp only [Bool.and_eq_true,Bool.not_eq_true']
   refine ⟨h2,?_⟩
   unfold befores at h3
   rw [Array.getElem?_eq_getElem h1] at h3 ⊢
   simp only [Option.map_some,Option.getD_some]
   refine Array.all_eq_true_iff_forall_mem.2 fun e he=>?_
   cases hbind:Region.binds .any e with
   | false=>simp
   | true =>
    have:=h3 e.on (List.mem_filterMap.2 ⟨e,by simpa using he,by simp [hbind]⟩)
    simp [this]

theorem ops_any (fx:Fx c) (hc:CallOK c.P c.gt call) {ps:List AOper} (hok:opsOK c ops ops.toList ps=true) (hpairs:pairsOK ops [] 0 ps=true) :
 ∀ (n:Nat) (listed:Array Bool) (g:Gh) (w:World) (pr:Nat→Option Pl) (bx:Nat→Nat) (σ:Sig) (a:Act),listed.size=ps.length→(rem_ ps.length listed).length=n →
  (∀ j,listed.getD j false=true→∀ i∈befores ops j,listed.getD i false=true) →
  S c g w pr bx σ a→runOps call ((rem_ ps.length listed).filterMap (ps[·]?)) σ=some σ'→Post c g w a σ' (Q .normal)→wpAny c.P .any ops Q n listed a w:=by
 obtain ⟨hl,hget⟩:=opsOK_get hok
 have hsz:ops.size=ps.length:=by simpa using hl
 have hsp:=fun (j:Nat) (p:AOper) hj=>pairs_spec (ops:=ops) ps ps 0 [] rfl (fun i q hi=>by omega) hpairs j p (Nat.zero_le _) hj
 have hempty:∀ (listed:Array Bool),listed.size=ps.length→Region.ready .any ops listed=[]→rem_ ps.length listed=[]:=by
  intro listed hls hr
  cases hrem:rem_ ps.length listed with
  | nil=>rfl
  | cons i l =>
   exfalso
   have hi:i∈rem_ ps.length listed:=by rw [hrem]; simp
   obtain ⟨h1,h2⟩:=mem_rem.1 hi
   have:i∈Region.ready .any ops listed:=by
    refine ready_iff.2 ⟨by omega,h2,fun b hb=>?_⟩
    have hbi:=(hsp i _ (List.getElem?_eq_getElem h1)).1 b hb
    have hnb:b ∉ rem_ ps.length listed:=fun hm=>by
     have hs:=rem_sorted ps.length listed
     rw [hrem] at hs hm
     rcases List.mem_cons.1 hm with rfl|hm
     · omega
     · have:=(List.pairwise_cons.1 hs).1 b hm; omega
    have hbn:b < ps.length:=by omega
    cases hq:listed.getD b true with
    | false=>exact absurd (mem_rem.2 ⟨hbn,hq⟩) hnb
    | true=>rw [getD_both (by omega) false true]; exact hq
   rw [hr] at this
   cases this
 intro n
 induction n with
 | zero =>
  intro listed g w pr bx σ a hls hn _ h hr hnext
  have hrem:rem_ ps.length listed=[]:=List.eq_nil_of_length_eq_zero hn
  rw [hrem] at hr
  simp only [List.filterMap_nil,runOps,Option.some.injEq] at hr
  subst hr
  refine ⟨?_,hnext a w g pr bx rfl h (Tr.refl _ _ _)⟩
  apply List.eq_nil_iff_forall_not_mem.2
  intro i hi
  obtain ⟨h1,h2,_⟩:=ready_iff.1 hi
  have:=(mem_rem (n:=ps.length)).2 ⟨show i < ps.length by omega,h2⟩
  rw [hrem] at this
  cases this
 | succ n ih =>
  intro listed g w pr bx σ a hls hn hcl h hr hnext
  refine ⟨fun he=>?_,fun i hi=>?_⟩
  · have:=hempty listed hls he
    rw [this] at hn
    cases hn
  · obtain ⟨h1,h2,h3⟩:=ready_iff.1 hi
    have hip:i < ps.length:=by omega
    have hirem:i∈rem_ ps.length listed:=mem_rem.2 ⟨hip,h2⟩
    obtain ⟨l1,l2,hsplit⟩:=List.append_of_mem hirem
    obtain ⟨o,ho,hop,hg⟩:=hget i _ (List.getElem?_eq_getElem hip)
    have hs:=rem_sorted ps.length listed
    rw [hsplit] at hs
    have hs:=List.pairwise_append.1 hs
    rw [hsplit,List.filterMap_append,List.filterMap_cons_some (List.getElem?_eq_getElem hip)] at hr
    obtain ⟨σ1,hstep,hrest⟩:=bubble (fun r hr=>by
     obtain ⟨k,hk,hrk⟩:=List.mem_filterMap.1 hr
     have hki:k < i:=hs.2.2 k hk i (by simp)
     refine ((hsp i _ (List.getElem?_eq_getElem hip)).2 k r hki hrk).resolve_right fun hcl'=>?_
     have hlist:=closure_listed hcl 10 _ h3 k hcl'
     have hkrem:k∈rem_ ps.length listed:=by rw [hsplit]; simp [hk]
     have:=(mem_rem.1 hkrem).2
     rw [getD_both (by omega) true false,hlist] at this
     cases this) hr
    rw [← List.filterMap_append,← rem_set hls hsplit] at hrest
    refine step_ok fx hc h (by simpa using ho) hop hg hstep fun a1 w1 g1 pr1 bx1 hd1 hS1 ht1=>?_
    refine ih (listed.setIfInBounds i true) g1 w1 pr1 bx1 σ1 a1 (by simpa using hls) ?_ (fun j hj b hb=>?_) hS1 hrest (hnext.trans hd1 ht1)
    · rw [rem_set hls hsplit]
      rw [hsplit] at hn
      simp at hn ⊢
      omega
    · have up:∀ x,listed.getD x false=true→(listed.setIfInBounds i true).getD x false=true:=fun x hx=>by
       by_cases e:i=x
       · subst e; simp [Array.getD_eq_getD_getElem?,hls,hip]
       · simpa [Array.getD_eq_getD_getElem?,Array.getElem?_setIfInBounds_ne e] using hx
      by_cases e:i=j
      · subst e
        exact up b (h3 b hb)
      · refine up b (hcl j ?_ b hb)
        simpa [Array.getD_eq_getD_getElem?,Array.getElem?_setIfInBounds_ne e] using hj


/-! in another order than the text's -/
def remQ (qs:List (Nat×AOper)) (listed:Array Bool):List (Nat×AOper):=qs.filter fun x=>!listed.getD x.1 true

theorem pairsQ_spec:∀ {qs es:List (Nat×AOper)},pairsQ ops es qs=true→∀ {l1 l2:List (Nat×AOper)} {j:Nat} {p:AOper},qs=l1++(j,p)::l2 →
 (∀ i∈befores ops j,∃ q,(i,q)∈es∨(i,q)∈l1)∧(∀ i q,(i,q)∈es∨(i,q)∈l1→i≠j∧(apartA q p=true∨i∈closure ops 10 (befores ops j)))
 | [],es,_,l1,l2,j,p,e=>by simp at e
 | x::qs,es,h,l1,l2,j,p,e=>by
  simp only [pairsQ,Bool.and_eq_true] at h
  obtain ⟨⟨h1,h2⟩,h3⟩:=h
  cases l1 with
  | nil =>
   simp only [List.nil_append,List.cons.injEq] at e
   obtain ⟨rfl,rfl⟩:=e
   refine ⟨fun i hi=>?_,fun i q hq=>?_⟩
   · have:=List.all_eq_true.1 h1 i hi
     obtain ⟨e,he,hei⟩:=List.any_eq_true.1 this
     have hei:e.1=i:=by simpa using hei
     exact ⟨e.2,.inl (by rw [← hei]; exact he)⟩
   · have hq:(i,q)∈es:=by simpa using hq
     have:=List.all_eq_true.1 h2 _ hq
     simp only [Bool.and_eq_true,Bool.not_eq_true',Bool.or_eq_true] at this
     obtain ⟨t1,t2⟩:=this
     refine ⟨fun e=>by subst e; simp at t1,?_⟩
     rcases t2 with t2|t2
     · exact .inl t2
     · right
       obtain ⟨y,hy,hxy⟩:=List.any_eq_true.1 t2
       have:i=y:=by simpa using hxy
       rw [this]; exact hy
  | cons y l1 =>
   simp only [List.cons_append,List.cons.injEq] at e
   obtain ⟨rfl,e⟩:=e
   obtain ⟨r1,r2⟩:=pairsQ_spec h3 e
   refine ⟨fun i hi=>?_,fun i q hq=>r2 i q ?_⟩
   · obtain ⟨q,hq⟩:=r1 i hi
     refine ⟨q,?_⟩
     rcases hq with hq|hq
     · rcases List.mem_cons.1 hq with rfl|hq
       · exact .inr (by simp)
       · exact .inl hq
     · exact .inr (by simp [hq])
   · rcases hq with hq|hq
     · exact .inl (by simp [hq])
     · rcases List.mem_cons.1 hq with rfl|hq
       · exact .inl (by simp)
       · exact .inr hq

theorem pairsQ_nodup {qs:List (Nat×AOper)} (h:pairsQ ops [] qs=true):(qs.map (·.1)).Nodup:=by
 rw [List.Nodup,List.pairwise_map]
 rw [List.pairwise_iff_getElem]
 intro i j hi hj hij
 have e:qs=qs.take j++qs[j]::qs.drop (j+1):=by
  rw [← List.drop_eq_getElem_cons hj,List.take_append_drop]
 have:=(pairsQ_spec h (l1:=qs.take j) (l2:=qs.drop (j+1)) (j:=qs[j].1) (p:=qs[j].2) e).2 qs[i].1 qs[i].2 (.inr (by
  rw [List.mem_take_iff_getElem]
  exact ⟨i,by omega,rfl⟩))
 exact this.1

theorem ops_anyQ (fx:Fx c) (hc:CallOK c.P c.gt call) {qs:List (Nat×AOper)} (hok:opsQ c ops qs=true) (hpairs:pairsQ ops [] qs=true) (hall:∀ i,i < ops.size→∃ p,(i,p)∈qs) :
 ∀ (n:Nat) (listed:Array Bool) (g:Gh) (w:World) (pr:Nat→Option Pl) (bx:Nat→Nat) (σ:Sig) (a:Act),listed.size=ops.size→(remQ qs listed).length=n →
  (∀ j,listed.getD j false=true→∀ i∈befores ops j,listed.getD i false=true) →
  S c g w pr bx σ a→runOps call ((remQ qs listed).map (·.2)) σ=some σ'→Post c g w a σ' (Q .normal)→wpAny c.P .any ops Q n listed a w:=by
 have hget:∀ {i p},(i,p)∈qs→∃ o,ops[i]?=some o∧opOK c o p=true∧guardOK c ops o p=true:=fun {i p} hm=>by
  have:=List.all_eq_true.1 hok _ hm
  simp only at this
  split at this
  · rename_i o ho
    simp only [Bool.and_eq_true] at this
    exact ⟨o,ho,this.1,this.2⟩
  · cases this
 have hlt:∀ {i p},(i,p)∈qs→i < ops.size:=fun {i p} hm=>by
  obtain ⟨o,ho,_⟩:=hget hm
  exact (Array.getElem?_eq_some_iff.1 ho).1
 have hnd:=pairsQ_nodup hpairs
 have hempty:∀ (listed:Array Bool),listed.size=ops.size→Region.ready .any ops listed=[]→remQ qs listed=[]:=by
  intro listed hls hr
  cases hrem:remQ qs listed with
  | nil=>rfl
  | cons x l =>
   exfalso
   obtain ⟨i,p⟩:=x
   obtain ⟨l1,l2,hsplit,hl1,hi,_⟩:=List.filter_eq_cons_iff.1 hrem
   simp only [Bool.not_eq_true'] at hi
   have hm:(i,p)∈qs:=by rw [hsplit]; simp
   have:i∈Region.ready .any ops listed:=by
    refine ready_iff.2 ⟨hlt hm,hi,fun b hb=>?_⟩
    obtain ⟨q,hq⟩:=(pairsQ_spec hpairs hsplit).1 b hb
    have hq:(b,q)∈l1:=by simpa using hq
    have hbl:=hl1 _ hq
    simp only [Bool.not_eq_true',Bool.not_eq_false] at hbl
    have hbs:b < listed.size:=by rw [hls]; exact hlt (p:=q) (by rw [hsplit]; simp [hq])
    rw [getD_both hbs false true]
    exact hbl
   rw [hr] at this
   cases this
 intro n
 induction n with
 | zero =>
  intro listed g w pr bx σ a hls hn _ h hr hnext
  have hrem:remQ qs listed=[]:=List.eq_nil_of_length_eq_zero hn
  rw [hrem] at hr
  simp only [List.map_nil,runOps,Option.some.injEq] at hr
  subst hr
  refine ⟨?_,hnext a w g pr bx rfl h (Tr.refl _ _ _)⟩
  apply List.eq_nil_iff_forall_not_mem.2
  intro i hi
  obtain ⟨h1,h2,_⟩:=ready_iff.1 hi
  obtain ⟨p,hp⟩:=hall i h1
  have:(i,p)∈remQ qs listed:=List.mem_filter.2 ⟨hp,by simp [h2]⟩
  rw [hrem] at this
  cases this
 | succ n ih =>
  intro listed g w pr bx σ a hls hn hcl h hr hnext
  refine ⟨fun he=>?_,fun i hi=>?_⟩
  · have:=hempty listed hls he
    rw [this] at hn
    cases hn
  · obtain ⟨h1,h2,h3⟩:=ready_iff.1 hi
    obtain ⟨p,hip⟩:=hall i h1
    obtain ⟨o,ho,hop,hg⟩:=hget hip
    obtain ⟨l1,l2,hsplit⟩:=List.append_of_mem hip
    have hrem:remQ qs listed=remQ l1 listed++(i,p)::remQ l2 listed:=by
     unfold remQ
     rw [hsplit,List.filter_append,List.filter_cons_of_pos (by simp [h2])]
    rw [hrem,List.map_append,List.map_cons] at hr
    obtain ⟨σ1,hstep,hrest⟩:=bubble (fun r hr=>by
     obtain ⟨⟨k,r'⟩,hk,rfl⟩:=List.mem_map.1 hr
     obtain ⟨hk1,hk2⟩:=List.mem_filter.1 hk
     refine ((pairsQ_spec hpairs hsplit).2 k r' (.inr hk1)).2.resolve_right fun hcl'=>?_
     have hlist:=closure_listed hcl 10 _ h3 k hcl'
     have hks:k < listed.size:=by rw [hls]; exact hlt (p:=r') (by rw [hsplit]; simp [hk1])
     simp only [Bool.not_eq_true'] at hk2
     rw [getD_both hks true false,hlist] at hk2
     cases hk2) hr
    have hne:∀ x∈l1++l2,x.1≠i:=by
     rw [hsplit,List.map_append,List.map_cons,List.Nodup,List.pairwise_append] at hnd
     obtain ⟨_,hnd2,hnd3⟩:=hnd
     intro x hx e
     rcases List.mem_append.1 hx with hx|hx
     · exact hnd3 x.1 (List.mem_map.2 ⟨x,hx,rfl⟩) i (by simp) e
     · exact (List.pairwise_cons.1 hnd2).1 x.1 (List.mem_map.2 ⟨x,hx,rfl⟩) e.symm
    have hset:remQ qs (listed.setIfInBounds i true)=remQ l1 listed++remQ l2 listed:=by
     have e:∀ l:List (Nat×AOper),(∀ x∈l,x.1≠i)→remQ l (listed.setIfInBounds i true)=remQ l listed:=fun l hl=>by
      unfold remQ
      apply List.filter_congr
      intro x hx
      have hxi:=hl x hx
      rw [Array.getD_eq_getD_getElem?,Array.getD_eq_getD_getElem?,Array.getElem?_setIfInBounds_ne (Ne.symm hxi)]
     have hti:(listed.setIfInBounds i true).getD i true=true:=by
      simp [Array.getD_eq_getD_getElem?,hls,h1]
     rw [← e l1 (fun x hx=>hne x (by simp [hx])),← e l2 (fun x hx=>hne x (by simp [hx]))]
     unfold remQ
     rw [hsplit,List.filter_append,List.filter_cons_of_neg (by simp [hti])]
    rw [← List.map_append,← hset] at hrest
    refine step_ok fx hc h ho hop hg hstep fun a1 w1 g1 pr1 bx1 hd1 hS1 ht1=>?_
    refine ih (listed.setIfInBounds i true) g1 w1 pr1 bx1 σ1 a1 (by simpa using hls) ?_ (fun j hj b hb=>?_) hS1 hrest (hnext.trans hd1 ht1)
    · rw [hset]
      rw [hrem] at hn
      simp at hn ⊢
      omega
    · have up:∀ x,listed.getD x false=true→(listed.setIfInBounds i true).getD x false=true:=fun x hx=>by
       by_cases e:i=x
       · subst e; simp [Array.getD_eq_getD_getElem?,hls,h1]
       · simpa [Array.getD_eq_getD_getElem?,Array.getElem?_setIfInBounds_ne e] using hx
      by_cases e:i=j
      · subst e
        exact up b (h3 b hb)
      · refine up b (hcl j ?_ b hb)
        simpa [Array.getD_eq_getD_getElem?,Array.getElem?_setIfInBounds_ne e] using hj

theorem len_le:∀ {n:Nat} {l:List Nat},l.Nodup→(∀ x∈l,x < n)→l.length≤n
 | 0,l,_,h=>by
  cases l with
  | nil=>simp
  | cons x l=>exact absurd (h x (by simp)) (by omega)
 | n+1,l,hnd,h=>by
  have h1:(l.erase n).length≤n:=len_le (hnd.erase n) fun x hx=>by
   have hm:=List.mem_of_mem_erase hx
   have hne:x≠n:=fun e=>by
    subst e
    exact (List.Nodup.not_mem_erase hnd) hx
   have:=h x hm
   omega
  have h2:l.length≤(l.erase n).length+1:=by
   rw [List.length_erase]
   split <;> omega
  omega
theorem all_of_nodup {n:Nat} {l:List Nat} (hnd:l.Nodup) (hlt:∀ x∈l,x < n) (hlen:l.length=n):∀ i,i < n→i∈l:=by
 intro i hi
 by_cases hm:i∈l
 · exact hm
 · exfalso
   have:=len_le (n:=n) (List.nodup_cons.2 ⟨hm,hnd⟩) fun x hx=>by
    rcases List.mem_cons.1 hx with rfl|hx
    · exact hi
    · exact hlt x hx
   simp at this
   omega
end
end Go.Cb
