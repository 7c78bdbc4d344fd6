import Derived.Test.YtbibkdncfclnbaaGreatDoorD0
set_option maxRecDepth 20000
set_option linter.all false
namespace Go.Cb.CodeA
open Go Go.Cb
open Nat renaming reduceAdd→rA,reduceSub→rS,reduceLeDiff→rL,reduceEqDiff→rE
attribute [local congr] g9 j4 j6 j5 i8 j0 j9 j8 V.runR_congr
variable {B:St}
def b6n {α:Type} (B:St) (L:List Tok) (o i:Nat) (d e:Int) (p:Option (α×Nat)) (x:α) (st':St):Prop:=∃ l e',Rd B L o st' l d e'∧i≤l∧(e'=0→e=0)∧(e=0→p=if e'=0 then some (x,l)else none)
abbrev c7X (B:St) (L:List Tok) (o i:Nat) (d:Int) (f:Nat) (w:Option ((Bool×List Arg)×Nat)) (mm:Nat) (fr:List AV) (st':St):Prop:=∃ (i':Nat) (e':Int) (l:List Arg) (first:Bool) (v4:AV),Rd B L o st' i' d e'∧i+1≤i'∧(∀ a∈l,a.v.OK)∧mm=rem L i' e'∧l.length+mm≤L.length∧LoopAt (X8 L f) w i' (first,l) e' ∧
 fr=[.ptr o 0,.list true [],.list true (l.map Arg.row),.bool first,v4]
theorem b8o (L:List Tok) (o f:Nat) {st:St} {i:Nat} {d e:Int} (h:Rd B L o st i d e) (hd:0≤d) (a5:d+f=24) :
 EvQ tbl 156 [.ptr o 0] st (fun a st'=>∃ l:List Arg,a=.list false (l.map Arg.row)∧ArgsOK l∧b6n B L o i d e (Q4 L f i) l st'):=by
 have hl:=h.hL.2;have hi:=h.hi;refine wj (fn:=a156) rfl rfl rfl ?_;simp only[a0S,rS,rE];refine wa (E7 h _) rfl rfl ?_;rintro _ st1 (⟨rfl,rfl,J⟩|⟨rfl,rfl,W,J⟩)
 · simp only[a0S];exact wc ⟨_,_,rfl,[],rfl,a3Y,i,e,h,AK _,id,fun h0=>by rw[Q4,J h0,if_neg (by decide),if_pos h0]⟩
 have hA:Q4 L f i=l5 (C3 (X8 L f) 2002 (i+1) (true,[])) fun x j=>some (x.2,j):=by rw[Q4,J,if_pos rfl]
 revert hA;generalize hw:C3 (X8 L f) 2002 (i+1) (true,[])=w;intro hA;simp only[a0S];refine wg (c7X B L o i d f w) (m:=rem L (i+1) 0) ⟨i+1,0,[],true,_,W,AK _,by simp,rfl,by simpa using a2x L (i+1) 0,LoopAt.start _ _ _ _ (by rw[if_pos rfl,hw]),rfl⟩ ?_;rintro mm fr st' ⟨i',e',l,first,v4,O,a7,a0,b8,b1,M,rfl⟩;obtain⟨bad',N⟩:=O.ob;have b5:=O.hi;have C:∀ (u:St) (i3:Nat) (U:Int),Rd B L o u i3 d U→i+1≤i3→(w=if U=0 then some ((first,l),i3)else none)→WC (fun n=>H5 (U3 0 some) (j1 (k7 tbl n) n (a156s33.seq ACode.ret)) (Ex.exit 0,[.ptr o 0,.list true [],.list true (l.map Arg.row),.bool first,v4],u))
  (fun T=>∃ r st',finK [ResK.v 1] (some T)=some (r,st')∧∃ l:List Arg,r=.list false (l.map Arg.row)∧ArgsOK l∧b6n B L o i d 0 (Q4 L f i) l st'):=by
  intro u i3 U Z b6 b0;simp only[a0S];refine wc ⟨_,_,rfl,l,rfl,⟨by omega,a0⟩,i3,U,Z,by omega,fun _=>rfl,fun _=>?_⟩;rw[hA];exact z6 b0 id fun h0=>by rw[if_pos h0]
 by_cases z:e'=0
 rotate_left
 · have hf:eqI e' 0=false:=by rw[eqI_eq]; simpa using z
   simp only[a0S,rE,N,rdC,hf];exact we (C st' i' e' O a7 (by rw[if_neg z]; exact M.bad z))
 subst z;have body:∀ (st1:St),Rd B L o st1 i' d 0→(!first && B7 L i' [41])=false→WC (fun n=>j1 (k7 tbl n) n ((ACode.blk 1 (a156s14.seq (a156s16.seq (a156s18.seq a8v)))).seq a9b) [.ptr o 0,.list true [],.list true (l.map Arg.row),.bool first,v4] st1)
  (LQ (c7X B L o i d f w) mm (fun n=>H5 (U3 0 some) (j1 (k7 tbl n) n (a156s33.seq ACode.ret))) (fun T=>∃ r st',finK [ResK.v 1] (some T)=some (r,st')∧∃ l:List Arg,r=.list false (l.map Arg.row)∧ArgsOK l∧b6n B L o i d 0 (Q4 L f i) l st')):=by
  intro st1 W a1;simp only[a0S,rA,rL,rE];refine wa (O2 W) rfl rfl ?_;rintro _ st2 ⟨t,rfl,i2,e2,h2,b2,Y,a2⟩;simp only[a0S,rA];refine wa (a2r h2 _) rfl rfl ?_;rintro _ u ⟨i3,U,Z,b3,I,a3⟩;simp only[a0S,rA,rE];refine wa (b4j L false o f Z hd a5) rfl rfl ?_;rintro _ c0 ⟨v,hv,rfl,i4,e4,h4,b4,y,a4⟩;obtain⟨vk,vn,vs,vx,vy,ev⟩:=v.row_cells;have b7:rem L i4 e4 < rem L i' 0:=a1q rfl O.hi (fun h0=>by have:=y h0;have:=I this.1;have:=Y this.1;omega);have a6:(l.length+1)*96≤2 ^ 47:=by omega
  simp only[a0S,rA,rE,ev,c5G,AG,a6];refine wd (m':=rem L i4 e4) (by omega) ⟨i4,e4,l++[⟨t,v⟩],false,.box [.str t,.int .u8 vk,.int .i64 vn,.str vs,.list false vx,.list false vy],h4,by omega,fun a ha=>?_,rfl,by simp only[AF,AY,List.length_nil]; omega,M.next (by omega) (fun h0=>by have:=y h0; have:=I this.1; have:=Y this.1; omega) ?_,?_⟩
  · rcases AQ.1 ha with h0|h0
    · exact a0 a h0
    · simp at h0; subst h0; exact hv
  · rw[X8,a1,if_neg (by decide)];exact z6 (a2 rfl) (fun h=>(I (y h).1).1) fun h0=>a5S (a3 h0) (fun h=>(y h).1) fun W=>z6 (a4 W) id fun h2=>by rw[if_pos h2]
  · simp only[AW,AH,AM,Arg.row,ev]
 cases first with
 | true =>simp only[a0S,rA,rL,rE,N,rdC,show eqI 0 0=true from rfl];have:=body st' O rfl;simp only[a0S,rA,rL,rE]at this ⊢;exact this
 | false =>
  simp only[a0S,rE,N,rdC,show eqI 0 0=true from rfl];refine wa (E7 O _) rfl rfl ?_;rintro _ u (⟨rfl,rfl,J⟩|⟨rfl,_,Z,J⟩)
  · have:=body u O (by rw[J rfl]; rfl);simp only[a0S,rA,rL,rE]at this ⊢;exact this
  · simp only[SS];exact we (C u (i'+1) 0 Z (by omega) (by rw[if_pos rfl]; exact M.exit (by omega) (by rw[X8,J]; rfl)))
abbrev d27 (B:St) (L:List Tok) (o i:Nat) (d e:Int) (f:Nat) (w:Option (List Dir×Nat)) (mm:Nat) (fr:List AV) (st':St):Prop:=∃ (i':Nat) (e':Int) (l:List Dir) (v3:AV),Rd B L o st' i' d e'∧i≤i'∧(e'=0→e=0)∧(∀ a∈l,ArgsOK a.as)∧mm=rem L i' e'∧l.length+mm≤L.length∧LoopAt (a0b L f) w i' l e' ∧
 fr=[.ptr o 0,.list true [],.list true (l.map Dir.row),v3]
theorem b1t (L:List Tok) (o f:Nat) {st:St} {i:Nat} {d e:Int} (h:Rd B L o st i d e) (hd:0≤d) (T:d+f=24) :
 EvQ tbl 157 [.ptr o 0] st (fun a st'=>∃ l:List Dir,a=.list false (l.map Dir.row)∧b8e l∧b6n B L o i d e (a1F L f i) l st'):=by
 have hl:=h.hL.2;have hi:=h.hi;refine wj (fn:=a157) rfl rfl rfl ?_;have hA:a1F L f i=C3 (a0b L f) 2002 i []:=rfl;have Y:∃ w,w=(if e=0 then C3 (a0b L f) 2002 i []else none):=⟨_,rfl⟩
 obtain⟨w,W⟩:=Y;simp only[a8G,rS];refine wg (d27 B L o i d e f w) (m:=rem L i e) ⟨i,e,[],_,h,AK _,id,by simp,rfl,by simpa using a2x L i e,LoopAt.start _ _ _ _ W,rfl⟩ ?_;rintro mm fr st' ⟨i',e',l,v3,C,a2,y,z,a5,Z,v,rfl⟩;have a3:=C.hi;simp only[a8G,rE];refine wa (E7 C _) rfl rfl ?_;rintro _ a6 (⟨rfl,rfl,M⟩|⟨rfl,rfl,h3,M⟩)
 · simp only[SS];refine we ?_;simp only[a8G];refine wc ⟨_,_,rfl,l,rfl,⟨by omega,z⟩,i',e',C,by omega,y,fun h0=>?_⟩;rw[hA];rw[if_pos h0]at W;rw[← W];by_cases J:e'=0
   · subst J;rw[if_pos rfl];exact v.exit (by omega) (by rw[a0b,M rfl]; rfl)
   · rw[if_neg J];exact v.bad J
 · simp only[a8G,rA,rL,rE];refine wa (O2 h3) rfl rfl ?_;rintro _ a7 ⟨t,rfl,i4,e4,h4,a0,x,N⟩;simp only[a8G,rA,rE];refine wa (b8o L o f h4 hd T) rfl rfl ?_;rintro _ b0 ⟨as,rfl,has,i5,I,h5,a1,u,O⟩;have a4:rem L i5 I < rem L i' 0:=a1q rfl C.hi (fun h0=>by have:=x (u h0);omega);have U:(l.length+1)*40≤2 ^ 47:=by omega
   simp only[a8G,rA,rE,c46,AG,U];refine wd (m':=rem L i5 I) (by omega) ⟨i5,I,l++[⟨t,as⟩],.box [.str t,.list false (as.map Arg.row)],h5,by omega,(fun h0=>y rfl),fun a ha=>?_,rfl,by simp only[AF,AY,List.length_nil]; omega,v.next (by omega) (fun h0=>by have:=x (u h0); omega) ?_,?_⟩
   · rcases AQ.1 ha with h0|h0
     · exact z a h0
     · simp at h0; subst h0; exact has
   · rw[a0b,M,if_pos rfl];exact z6 (N rfl) u fun h0=>z6 (O h0) id fun h2=>by rw[if_pos h2]
   · simp only[AW,AH,AM,Dir.row]
end Go.Cb.CodeA
