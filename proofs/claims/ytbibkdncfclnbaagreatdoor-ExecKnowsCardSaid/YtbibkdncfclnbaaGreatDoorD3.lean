import Derived.Test.YtbibkdncfclnbaaGreatDoorD2
set_option maxRecDepth 20000
set_option linter.all false
namespace Go.Cb.CodeA
open Go Go.Cb
open Nat renaming reduceAdd→rA,reduceSub→rS,reduceLeDiff→rL,reduceEqDiff→rE
attribute [local congr] g9 j3 j4 j5 i8 j0 j8 j9 V.runR_congr
variable {B:St}
theorem c6H {L:List Tok} {o:Nat} {st:St} {i:Nat} {d:Int} (h:Rd B L o st i d 0) (s:List Nat) :
 EvQ tbl 70 [.ptr o 0,.str s] st (fun a st'=>∃ u e',Rd B L o st' u d e'∧i≤u∧(e'=0→i < u)∧a5Y L s i=if e'=0 then some u else none):=by
 obtain⟨bad,x⟩:=h.ob;have J:∀ y:Obj,(st.set o y)[o]?=some y:=fun y=>r7 x
 have I:=h.hL.2;have hi:=h.hi;have i1:=k7 (show i+1 < 2 ^ 63 by omega);refine wj (fn:=a70) rfl rfl rfl ?_;simp only[K70,rS,rE,x,rdC,show eqI 0 0=true from rfl];refine wa (a8f h s) rfl rfl ?_;rintro _ st1 ⟨rfl,b,rfl,C,e⟩;have e:=e rfl;simp only[SS];refine wi (fun l=>?_) (fun l=>?_)
 · have l:b=false:=by simpa using l
   simp only[K70];refine wa (a2k h 4 (by decide)) rfl rfl ?_;rintro _ st2 ⟨e2,z,t⟩;simp only[SS];exact wc ⟨_,_,rfl,i,e2,z,AK _,(fun h=>absurd h t),by rw[a5Y,← e,l,if_neg t]; rfl⟩
 · have l:b=true:=by simpa using l
   have v:=(C l).2;simp only[K70,rA,rL,rE,x,rdC,i1];exact wc ⟨_,_,rfl,i+1,0,h.put (N9 h.hL.1 h.hi (by rw[v]; decide)),by omega,(fun _=>by omega),by rw[a5Y,← e,l]; rfl⟩
theorem VDef.row_mk {n:List Nat} {t:TRef} {has:Bool} {v:Val} {tn:List Nat} {e:List (List AV)} {tb:Bool} {vk vn:Int} {vs:List Nat} {vx l:List (List AV)}
 (u:t.row=[.str tn,.list false e,.bool tb]) (ev:v.row=[.int .u8 vk,.int .i64 vn,.str vs,.list false vx,.list false l]):(VDef.mk n t has v).row=[.str n,.str tn,.list false e,.bool tb,.bool has,.int .u8 vk,.int .i64 vn,.str vs,.list false vx,.list false l]:=by
 rw[VDef.row,u,ev]; rfl
theorem VDef.row_cells (v:VDef):∃ n tn e tb has vk vn vs vx u,v.row=[.str n,.str tn,.list false e,.bool tb,.bool has,.int .u8 vk,.int .i64 vn,.str vs,.list false vx,.list false u]:=by obtain⟨n,t,has,v⟩:=v;obtain⟨tn,e,tb,l⟩:=t.row_cells;obtain⟨vk,vn,vs,vx,u,ev⟩:=v.row_cells;exact⟨_,_,_,_,_,_,_,_,_,_,VDef.row_mk l ev⟩
theorem d2F (l:List VDef):l5 10 (l.map VDef.row)=true:=B3 (by intro r t;obtain⟨v,_,rfl⟩:=List.mem_map.1 t;obtain⟨_,_,_,_,_,_,_,_,_,_,e⟩:=v.row_cells;rw[e]; rfl)
theorem c7n (l:List Op):l5 4 (l.map Op.row)=true:=B3 (by intro r e;obtain⟨v,_,rfl⟩:=List.mem_map.1 e;rfl)
theorem c0h (l:List Frag):l5 3 (l.map Frag.row)=true:=B3 (by intro r e;obtain⟨v,_,rfl⟩:=List.mem_map.1 e;rfl)
theorem c3Q {L:List Tok} {o:Nat} {st:St} {i:Nat} (h:Rd B L o st i 0 0) :
 EvQ tbl 71 [.ptr o 0] st (fun a st'=>∃ v:VDef,a=.agg v.row∧v.v.OK∧a4j B L o i 0 0 (a5J L i) v st'):=by
 refine wj (fn:=a71) rfl rfl rfl ?_;simp only[K71,rS];refine wa (a2w h _) rfl rfl ?_;rintro _ st1 ⟨i1,e1,h1,a0,I,N⟩;simp only[K71,rA,rL,rE];refine wa (O9 h1) rfl rfl ?_;rintro _ st2 ⟨n,rfl,i2,e2,h2,a1,y,O⟩;simp only[K71,rA];refine wa (a2w h2 _) rfl rfl ?_;rintro _ a6 ⟨i3,e3,h3,a2,x,T⟩;simp only[K71,rA,rL,rE];refine wa (d0u L o 24 h3 (Int.le_refl _) (by decide)) rfl rfl ?_;rintro _ a7 ⟨t,rfl,i4,z,Z,a4,l,U⟩;obtain⟨tn,b1,tb,u⟩:=t.row_cells;simp only[K71,rA,rE,u];have hS:∀ (C:Int) (s:VDef) (i7:Nat),(C=0→z=0)→(z=0→(if C0 L i4 [61]then l6 (B7 L true 24 (i4+1)) fun v j=>some ((⟨n,t,true,v⟩:VDef),j)else some (⟨n,t,false,Val.none⟩,i4))=if C=0 then some (s,i7)else none)→a5J L i=if C=0 then some (s,i7)else none:=by intro C s i7 g1 g2;exact a6m (N rfl) (fun h=>(y (x (l (g1 h)).1).1).1) fun e=>A9 (O e) (fun h=>(x (l (g1 h)).1).1) fun e=>a6m (T e) (fun h=>(l (g1 h)).1) fun e=>A9 (U e) g1 g2
 refine wa (E9 Z _) rfl rfl ?_;rintro _ a9 (⟨rfl,rfl,M⟩|⟨rfl,rfl,h5,M⟩)
 · simp only[K71,rA];refine wc ⟨_,_,rfl,⟨n,t,false,Val.none⟩,?_,Val.none_ok,i4,z,Z,by omega,(fun e=>⟨rfl,?_⟩),fun _=>?_⟩
   · rw[VDef.row_mk u Val.none_row]; rfl
   · have b4:=l e; have b3:=x b4.1; have b2:=y b3.1; have:=I b2.1; omega
   · refine hS z _ i4 id fun e=>?_
     rw[M e,if_neg (by decide),if_pos e]
 · simp only[K71,rA,rL,rE];refine wa (b4s L true o 24 h5 (Int.le_refl _) (by decide)) rfl rfl ?_;rintro _ b0 ⟨v,hv,rfl,i6,Y,h6,a5,J,W⟩;obtain⟨vk,vn,vs,vx,vy,ev⟩:=v.row_cells;simp only[K71,rA,ev];refine wc ⟨_,_,rfl,⟨n,t,true,v⟩,?_,hv,i6,Y,h6,by omega,(fun e=>⟨rfl,?_⟩),fun _=>?_⟩
   · rw[VDef.row_mk u ev]; rfl
   · have:=J e; omega
   · refine hS Y _ i6 (fun _=>rfl) fun e=>?_
     rw[M,if_pos rfl];exact A9 (W rfl) id fun e=>by rw[if_pos e]
end Go.Cb.CodeA
