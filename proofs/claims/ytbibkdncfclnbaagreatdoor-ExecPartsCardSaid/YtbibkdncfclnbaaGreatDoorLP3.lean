import Derived.Test.YtbibkdncfclnbaaGreatDoorLP2
set_option maxRecDepth 100000
set_option linter.unusedSimpArgs false
set_option linter.unusedVariables false
namespace Go.Cb.CodeA
open Go Go.Cb
open Nat renaming reduceAdd→rA,reduceSub→rS,reduceLeDiff→rL,reduceEqDiff→rE
attribute [local congr] i7 j1 j2 j3 j0 i8 k6 j9 V.runR_congr
def fdX (n:List Nat):FDef:=match W4 T0 j5 n with
 | some f=>f
 | none=>c31
theorem a8R {t:List Nat} {d:List Sel} (h:E2 t d) {st:St} (hB:Gr T_bb st):EvQ tbl 13 [.ptr mo0 0,.str t] st (fun a st'=>a=a8M d∧Gr st st'):=by
 have e:=b3K hB
 rw [a01] at e
 have e2:=List.take_append_drop 81 st
 rw [e] at e2
 rw [← e2]
 exact c0r h.1 h.2 _
structure OneD (X:Sel) (k:List Nat):Prop where
 x:SelX 2001 [X]
 c:Nat.ble (r5 [X]) 5000=true
 g:G5 (F3 { K0 [X] with typ:=j5 } [X])=[(k,[X])]
 f:W4 T0 j5 X.nm=some (fdX X.nm)
theorem PartD.two {X Y:Sel} {kx ky:List Nat} (h1:OneD X kx) (h2:OneD Y ky) (x:SelX 2001 [X,Y]) (c:Nat.ble (r5 [X,Y]) 5000=true) (g:G5 (F3 { K0 [X,Y] with typ:=j5 } [X,Y])=[(kx,[X]),(ky,[Y])]) (m:(Sel.sms [X,Y] && Nat.ble (sizes [X,Y]) 2001)=true):PartD [X,Y] [X] [Y] X Y kx ky [] [] (fdX X.nm) (fdX Y.nm):=⟨x,h1.x,h2.x,c,h1.c,h2.c,g,h1.g,h2.g,h1.f,h2.f,m⟩
abbrev PD (X Y:Sel) (kx ky:List Nat):Prop:=PartD [X,Y] [X] [Y] X Y kx ky [] [] (fdX X.nm) (fdX Y.nm)
theorem c2N {a b:List Nat} (ha:a.length≤5000) (hb:b.length≤5000):l8 .add (.str a) (.str b)=some (.str (a++b)):=by
 rw [d4F,if_pos (by omega)]
theorem r8 (l:List Thg) (hl:∀ x∈l,x.OK) {X Y:Sel} {kx ky u1 u2:List Nat} (h:PD X Y kx ky) (r:E2 (tW u1 u2) [X,Y]) (r1:E2 (tO u1) [X]) (r2:E2 (tO u2) [Y]) {T:List (List AV)} {i j:Int} (hi:0≤i) (hj:0≤j) (g1:T[i.toNat]?=some [.str u1]) (g2:T[j.toNat]?=some [.str u2]) (c1:u1.length≤1000) (c2:u2.length≤1000) (a1 a2:AV) :
 WC (fun n'=>i6 (k7 tbl n') n' a8s56 [.list false (l.map Thg.row),a1,a2,.bool false,.list true T,.int .i64 i,.int .i64 j,.undef,.undef,.undef,.undef,.undef,.undef,.undef,.undef,.undef,.undef,.undef,.undef] b2o)
  (fun o=>∃ r st',finK [.v 3] (some o)=some (r,st')∧r=.bool true):=by
 have b1:(u1.length+1+1≤2 ^ 62)=True:=eq_true (by omega)
 have b2:(u2.length+1+1≤2 ^ 62)=True:=eq_true (by omega)
 have b3:(u1.length+1+1+u2.length≤2 ^ 62)=True:=eq_true (by omega)
 have b4:(u1.length+1+u2.length+1+1≤2 ^ 62)=True:=eq_true (by omega)
 have b5:=c2N (a:=[123]) (b:=u1) (by simp) (by omega)
 have b6:=c2N (a:=[123]) (b:=u2) (by simp) (by omega)
 unfold a8s56
 simp +contextual -implicitDefEqProofs only [K8b,SS,rA,rS,rL,rE,reduceCtorEq]
 refine WC.call c5H rfl rfl ?_
 rintro _ _ ⟨rfl,rfl⟩
 simp +contextual -implicitDefEqProofs only [K8b,SS,rA,rS,rL,rE,reduceCtorEq]
 refine WC.call (b96 l hl _) rfl rfl ?_
 rintro _ st1 ⟨rfl,L,rfl,hL,hg⟩
 simp +contextual -implicitDefEqProofs only [K8b,SS,rA,rS,rL,rE,reduceCtorEq]
 refine WC.call (d5k L (by omega) _) rfl rfl ?_
 rintro _ st2 ⟨v0,rfl,hv0,hg2⟩
 obtain ⟨hs0,hl0,hm0⟩:=b6P L
 have hge:∀ e∈ofE L,e.Good:=fun e he=>hg e (hm0 e he)
 have hle:(ofE L).length≤12:=by omega
 obtain ⟨w1,w2,w3,w4,w5,w6,w7⟩:=hv0.wk
 have hB2:Gr T_bb st2:=hg2
 have hrd:=a8R r hB2
 unfold mo0 tW a8M at hrd
 simp only [List.cons_append,List.nil_append] at hrd
 simp +contextual -implicitDefEqProofs only [K8b,SS,rA,rS,rL,rE,reduceCtorEq,hi,hj,g1,g2,b1,b2,b3,b4,b5,b6,if_true,AN,w1,w2,w3,w4,w5,w6,w7,AE,AX,List.length_nil]
 refine WC.call hrd rfl rfl ?_
 rintro _ st3 ⟨rfl,g3⟩
 have hB3:=hB2.trans g3
 have hrd:=a8R r1 hB3
 unfold mo0 tO a8M at hrd
 simp only [List.cons_append,List.nil_append] at hrd
 simp +contextual -implicitDefEqProofs only [K8b,SS,rA,rS,rL,rE,reduceCtorEq,hi,hj,g1,g2,b1,b2,b3,b4,b5,b6,if_true,AN,w1,w2,w3,w4,w5,w6,w7,AE,AX,List.length_nil]
 refine WC.call hrd rfl rfl ?_
 rintro _ st4 ⟨rfl,g4⟩
 have hB4:=hB3.trans g4
 have hrd:=a8R r2 hB4
 unfold mo0 tO a8M at hrd
 simp only [List.cons_append,List.nil_append] at hrd
 simp +contextual -implicitDefEqProofs only [K8b,SS,rA,rS,rL,rE,reduceCtorEq,hi,hj,g1,g2,b1,b2,b3,b4,b5,b6,if_true,AN,w1,w2,w3,w4,w5,w6,w7,AE,AX,List.length_nil]
 refine WC.call hrd rfl rfl ?_
 rintro _ st5 ⟨rfl,g5⟩
 have hB5:=hB4.trans g5
 simp +contextual -implicitDefEqProofs only [K8b,SS,rA,rS,rL,rE,reduceCtorEq,w1,w2,w3,w4,w5,w6,w7]
 have ht:=fun a b c d e f=>b5c h hB5 (hv0.gr ((g3.trans g4).trans g5)) hs0 hle hge a b c d e f
 simp only [AG,AL] at ht
 exact ht _ _ _ _ _ _
theorem a1o:OneD xP0 [97]:=⟨p9 (by kernel_rfl),by kernel_rfl,by kernel_rfl,by kernel_rfl⟩
theorem a1E:OneD xP1 [98]:=⟨p9 (by kernel_rfl),by kernel_rfl,by kernel_rfl,by kernel_rfl⟩
theorem a1B:OneD xP2 [99]:=⟨p9 (by kernel_rfl),by kernel_rfl,by kernel_rfl,by kernel_rfl⟩
theorem a1r:OneD xP3 [100]:=⟨p9 (by kernel_rfl),by kernel_rfl,by kernel_rfl,by kernel_rfl⟩
theorem a1m:OneD xP4 [101]:=⟨p9 (by kernel_rfl),by kernel_rfl,by kernel_rfl,by kernel_rfl⟩
theorem c34:PD xP0 xP1 [97] [98]:=PartD.two a1o a1E (p9 (by kernel_rfl)) (by kernel_rfl) (by kernel_rfl) (by kernel_rfl)
theorem c4x:PD xP0 xP2 [97] [99]:=PartD.two a1o a1B (p9 (by kernel_rfl)) (by kernel_rfl) (by kernel_rfl) (by kernel_rfl)
theorem c4R:PD xP0 xP3 [97] [100]:=PartD.two a1o a1r (p9 (by kernel_rfl)) (by kernel_rfl) (by kernel_rfl) (by kernel_rfl)
theorem c4w:PD xP0 xP4 [97] [101]:=PartD.two a1o a1m (p9 (by kernel_rfl)) (by kernel_rfl) (by kernel_rfl) (by kernel_rfl)
theorem c3o:PD xP1 xP0 [98] [97]:=PartD.two a1E a1o (p9 (by kernel_rfl)) (by kernel_rfl) (by kernel_rfl) (by kernel_rfl)
theorem c38:PD xP1 xP2 [98] [99]:=PartD.two a1E a1B (p9 (by kernel_rfl)) (by kernel_rfl) (by kernel_rfl) (by kernel_rfl)
theorem c3y:PD xP1 xP3 [98] [100]:=PartD.two a1E a1r (p9 (by kernel_rfl)) (by kernel_rfl) (by kernel_rfl) (by kernel_rfl)
theorem c5t:PD xP1 xP4 [98] [101]:=PartD.two a1E a1m (p9 (by kernel_rfl)) (by kernel_rfl) (by kernel_rfl) (by kernel_rfl)
theorem c3i:PD xP2 xP0 [99] [97]:=PartD.two a1B a1o (p9 (by kernel_rfl)) (by kernel_rfl) (by kernel_rfl) (by kernel_rfl)
theorem c41:PD xP2 xP1 [99] [98]:=PartD.two a1B a1E (p9 (by kernel_rfl)) (by kernel_rfl) (by kernel_rfl) (by kernel_rfl)
theorem c5a:PD xP2 xP3 [99] [100]:=PartD.two a1B a1r (p9 (by kernel_rfl)) (by kernel_rfl) (by kernel_rfl) (by kernel_rfl)
theorem c4E:PD xP2 xP4 [99] [101]:=PartD.two a1B a1m (p9 (by kernel_rfl)) (by kernel_rfl) (by kernel_rfl) (by kernel_rfl)
theorem c4G:PD xP3 xP0 [100] [97]:=PartD.two a1r a1o (p9 (by kernel_rfl)) (by kernel_rfl) (by kernel_rfl) (by kernel_rfl)
theorem c5m:PD xP3 xP1 [100] [98]:=PartD.two a1r a1E (p9 (by kernel_rfl)) (by kernel_rfl) (by kernel_rfl) (by kernel_rfl)
theorem c5j:PD xP3 xP2 [100] [99]:=PartD.two a1r a1B (p9 (by kernel_rfl)) (by kernel_rfl) (by kernel_rfl) (by kernel_rfl)
theorem c4O:PD xP3 xP4 [100] [101]:=PartD.two a1r a1m (p9 (by kernel_rfl)) (by kernel_rfl) (by kernel_rfl) (by kernel_rfl)
theorem c4N:PD xP4 xP0 [101] [97]:=PartD.two a1m a1o (p9 (by kernel_rfl)) (by kernel_rfl) (by kernel_rfl) (by kernel_rfl)
theorem c49:PD xP4 xP1 [101] [98]:=PartD.two a1m a1E (p9 (by kernel_rfl)) (by kernel_rfl) (by kernel_rfl) (by kernel_rfl)
theorem c43:PD xP4 xP2 [101] [99]:=PartD.two a1m a1B (p9 (by kernel_rfl)) (by kernel_rfl) (by kernel_rfl) (by kernel_rfl)
theorem c3Q:PD xP4 xP3 [101] [100]:=PartD.two a1m a1r (p9 (by kernel_rfl)) (by kernel_rfl) (by kernel_rfl) (by kernel_rfl)
theorem parts_law (l:List Thg) (hl:∀ x∈l,x.OK) (n:Int) (hn:0≤n∧n < 256) (m:Int) (hm:0≤m∧m < 256):EvQ tbl 8 [.list false (l.map Thg.row),.int .u8 n,.int .u8 m] [] (fun a _=>a=.bool true):=by
 have z4:((5:Int)=0)=False:=by simp
 have hi:n.tmod 5=0∨n.tmod 5=1∨n.tmod 5=2∨n.tmod 5=3∨n.tmod 5=4:=by
  rw [Int.tmod_eq_emod_of_nonneg hn.1]
  omega
 have hj:m.tmod 5=0∨m.tmod 5=1∨m.tmod 5=2∨m.tmod 5=3∨m.tmod 5=4:=by
  rw [Int.tmod_eq_emod_of_nonneg hm.1]
  omega
 refine EvQ.body (fn:=a8) rfl rfl rfl ?_
 simp +contextual -implicitDefEqProofs only [K8b,SS,rA,rS,rL,rE,reduceCtorEq]
 refine WC.call c4T rfl rfl ?_
 rintro _ _ ⟨rfl,rfl⟩
 rcases e9 (eqI (n.tmod 5) (m.tmod 5)) with he|he
 · simp +contextual -implicitDefEqProofs only [K8b,SS,rA,rS,rL,rE,reduceCtorEq,Bool.not_true,Nat.reduceLT,if_true,AN,b0X hn,b0X hm,z4,if_false,he]
   exact WC.ret ⟨_,_,rfl,rfl⟩
 simp +contextual -implicitDefEqProofs only [K8b,SS,rA,rS,rL,rE,reduceCtorEq,Bool.not_true,Nat.reduceLT,if_true,AN,b0X hn,b0X hm,z4,if_false,he]
 rcases hi with hi|hi|hi|hi|hi <;> rcases hj with hj|hj|hj|hj|hj <;> rw [hi,hj] at he ⊢
 · cases he
 · exact r8 l hl c34 d4M rP0 rP1 (by decide) (by decide) rfl rfl (by decide) (by decide) _ _
 · exact r8 l hl c4x d6p rP0 rP2 (by decide) (by decide) rfl rfl (by decide) (by decide) _ _
 · exact r8 l hl c4R d40 rP0 rP3 (by decide) (by decide) rfl rfl (by decide) (by decide) _ _
 · exact r8 l hl c4w d6A rP0 rP4 (by decide) (by decide) rfl rfl (by decide) (by decide) _ _
 · exact r8 l hl c3o d63 rP1 rP0 (by decide) (by decide) rfl rfl (by decide) (by decide) _ _
 · cases he
 · exact r8 l hl c38 d53 rP1 rP2 (by decide) (by decide) rfl rfl (by decide) (by decide) _ _
 · exact r8 l hl c3y d6M rP1 rP3 (by decide) (by decide) rfl rfl (by decide) (by decide) _ _
 · exact r8 l hl c5t d62 rP1 rP4 (by decide) (by decide) rfl rfl (by decide) (by decide) _ _
 · exact r8 l hl c3i d4I rP2 rP0 (by decide) (by decide) rfl rfl (by decide) (by decide) _ _
 · exact r8 l hl c41 d50 rP2 rP1 (by decide) (by decide) rfl rfl (by decide) (by decide) _ _
 · cases he
 · exact r8 l hl c5a d5n rP2 rP3 (by decide) (by decide) rfl rfl (by decide) (by decide) _ _
 · exact r8 l hl c4E d67 rP2 rP4 (by decide) (by decide) rfl rfl (by decide) (by decide) _ _
 · exact r8 l hl c4G d5m rP3 rP0 (by decide) (by decide) rfl rfl (by decide) (by decide) _ _
 · exact r8 l hl c5m d7G rP3 rP1 (by decide) (by decide) rfl rfl (by decide) (by decide) _ _
 · exact r8 l hl c5j d45 rP3 rP2 (by decide) (by decide) rfl rfl (by decide) (by decide) _ _
 · cases he
 · exact r8 l hl c4O d6z rP3 rP4 (by decide) (by decide) rfl rfl (by decide) (by decide) _ _
 · exact r8 l hl c4N d4R rP4 rP0 (by decide) (by decide) rfl rfl (by decide) (by decide) _ _
 · exact r8 l hl c49 d49 rP4 rP1 (by decide) (by decide) rfl rfl (by decide) (by decide) _ _
 · exact r8 l hl c43 d8x rP4 rP2 (by decide) (by decide) rfl rfl (by decide) (by decide) _ _
 · exact r8 l hl c3Q d6J rP4 rP3 (by decide) (by decide) rfl rfl (by decide) (by decide) _ _
 · cases he
end Go.Cb.CodeA
