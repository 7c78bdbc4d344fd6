import Derived.Test.YtbibkdncfclnbaaGreatDoorD0
set_option maxRecDepth 20000
set_option linter.all false
namespace Go.Cb.CodeA
open Go Go.Cb
open Nat renaming reduceAdd→rA,reduceSub→rS,reduceLeDiff→rL,reduceEqDiff→rE
attribute [local congr] g9 j3 j4 j5 i8 j0 j8 j9 V.runR_congr
variable {B:St}
def b6C {α:Type} (B:St) (L:List Tok) (o i:Nat) (d e:Int) (p:Option (α×Nat)) (x:α) (st':St):Prop:=∃ l e',Rd B L o st' l d e'∧i≤l∧(e'=0→e=0)∧(e=0→p=if e'=0 then some (x,l)else none)
abbrev c8N (B:St) (L:List Tok) (o i:Nat) (d:Int) (f:Nat) (w:Option ((Bool×List Arg)×Nat)) (mm:Nat) (fr:List AV) (st':St):Prop:=∃ (i':Nat) (e':Int) (l:List Arg) (first:Bool) (v4:AV),Rd B L o st' i' d e'∧i+1≤i'∧(∀ a∈l,a.v.OK)∧mm=rem L i' e'∧l.length+mm≤L.length∧LoopAt (Y1 L f) w i' (first,l) e' ∧
 fr=[.ptr o 0,.list true [],.list true (l.map Arg.row),.bool first,v4]
theorem b7E (L:List Tok) (o f:Nat) {st:St} {i:Nat} {d e:Int} (h:Rd B L o st i d e) (hd:0≤d) (a6:d+f=24) :
 EvQ tbl 156 [.ptr o 0] st (fun a st'=>∃ l:List Arg,a=.list false (l.map Arg.row)∧ArgsOK l∧b6C B L o i d e (R6 L f i) l st'):=by
 have hl:=h.hL.2;have hi:=h.hi;refine wj (fn:=a156) rfl rfl rfl ?_;simp only[a01,rS,rE];refine wa (E9 h _) rfl rfl ?_;rintro _ st1 (⟨rfl,rfl,J⟩|⟨rfl,rfl,W,J⟩)
 · simp only[a01];exact wc ⟨_,_,rfl,[],rfl,a4v,i,e,h,AK _,id,fun h0=>by rw[R6,J h0,if_neg (by decide),if_pos h0]⟩
 have hA:R6 L f i=l6 (C7 (Y1 L f) 2002 (i+1) (true,[])) fun x j=>some (x.2,j):=by rw[R6,J,if_pos rfl]
 revert hA;generalize hw:C7 (Y1 L f) 2002 (i+1) (true,[])=w;intro hA;simp only[a01];refine wg (c8N B L o i d f w) (m:=rem L (i+1) 0) ⟨i+1,0,[],true,_,W,AK _,by simp,rfl,by simpa using a2o L (i+1) 0,LoopAt.start _ _ _ _ (by rw[if_pos rfl,hw]),rfl⟩ ?_;rintro mm fr st' ⟨i',e',l,first,v4,O,a9,a0,b8,b1,M,rfl⟩;obtain⟨bad',N⟩:=O.ob;have b5:=O.hi;have C:∀ (u:St) (i3:Nat) (U:Int),Rd B L o u i3 d U→i+1≤i3→(w=if U=0 then some ((first,l),i3)else none)→WC (fun n=>H7 (U3 0 some) (j1 (k8 tbl n) n (a156s33.seq ACode.ret)) (Ex.exit 0,[.ptr o 0,.list true [],.list true (l.map Arg.row),.bool first,v4],u))
  (fun T=>∃ r st',finK [ResK.v 1] (some T)=some (r,st')∧∃ l:List Arg,r=.list false (l.map Arg.row)∧ArgsOK l∧b6C B L o i d 0 (R6 L f i) l st'):=by
  intro u i3 U Z b6 b0;simp only[a01];refine wc ⟨_,_,rfl,l,rfl,⟨by omega,a0⟩,i3,U,Z,by omega,fun _=>rfl,fun _=>?_⟩;rw[hA];exact A9 b0 id fun h0=>by rw[if_pos h0]
 by_cases z:e'=0
 rotate_left
 · have hf:eqI e' 0=false:=by rw[eqI_eq]; simpa using z
   simp only[a01,rE,N,rdC,hf];exact we (C st' i' e' O a9 (by rw[if_neg z]; exact M.bad z))
 subst z;have body:∀ (st1:St),Rd B L o st1 i' d 0→(!first && C0 L i' [41])=false→WC (fun n=>j1 (k8 tbl n) n ((ACode.blk 1 (a156s14.seq (a156s16.seq (a156s18.seq a9g)))).seq a9D) [.ptr o 0,.list true [],.list true (l.map Arg.row),.bool first,v4] st1)
  (LQ (c8N B L o i d f w) mm (fun n=>H7 (U3 0 some) (j1 (k8 tbl n) n (a156s33.seq ACode.ret))) (fun T=>∃ r st',finK [ResK.v 1] (some T)=some (r,st')∧∃ l:List Arg,r=.list false (l.map Arg.row)∧ArgsOK l∧b6C B L o i d 0 (R6 L f i) l st')):=by
  intro st1 W a1;simp only[a01,rA,rL,rE];refine wa (O9 W) rfl rfl ?_;rintro _ st2 ⟨t,rfl,i2,e2,h2,b2,Y,a2⟩;simp only[a01,rA];refine wa (a2w h2 _) rfl rfl ?_;rintro _ u ⟨i3,U,Z,b3,I,a4⟩;simp only[a01,rA,rE];refine wa (b4s L false o f Z hd a6) rfl rfl ?_;rintro _ c0 ⟨v,hv,rfl,i4,e4,h4,b4,y,a5⟩;obtain⟨vk,vn,vs,vx,vy,ev⟩:=v.row_cells;have b7:rem L i4 e4 < rem L i' 0:=a1r rfl O.hi (fun h0=>by have:=y h0;have:=I this.1;have:=Y this.1;omega);have a7:(l.length+1)*96≤2 ^ 47:=by omega
  simp only[a01,rA,rE,ev,c5U,AG,a7];refine wd (m':=rem L i4 e4) (by omega) ⟨i4,e4,l++[⟨t,v⟩],false,.box [.str t,.int .u8 vk,.int .i64 vn,.str vs,.list false vx,.list false vy],h4,by omega,fun a ha=>?_,rfl,by simp only[AF,AY,List.length_nil]; omega,M.next (by omega) (fun h0=>by have:=y h0; have:=I this.1; have:=Y this.1; omega) ?_,?_⟩
  · rcases AQ.1 ha with h0|h0
    · exact a0 a h0
    · simp at h0; subst h0; exact hv
  · rw[Y1,a1,if_neg (by decide)];exact A9 (a2 rfl) (fun h=>(I (y h).1).1) fun h0=>a6m (a4 h0) (fun h=>(y h).1) fun W=>A9 (a5 W) id fun h2=>by rw[if_pos h2]
  · simp only[AW,AH,AM,Arg.row,ev]
 cases first with
 | true =>simp only[a01,rA,rL,rE,N,rdC,show eqI 0 0=true from rfl];have:=body st' O rfl;simp only[a01,rA,rL,rE]at this ⊢;exact this
 | false =>
  simp only[a01,rE,N,rdC,show eqI 0 0=true from rfl];refine wa (E9 O _) rfl rfl ?_;rintro _ u (⟨rfl,rfl,J⟩|⟨rfl,_,Z,J⟩)
  · have:=body u O (by rw[J rfl]; rfl);simp only[a01,rA,rL,rE]at this ⊢;exact this
  · simp only[SS];exact we (C u (i'+1) 0 Z (by omega) (by rw[if_pos rfl]; exact M.exit (by omega) (by rw[Y1,J]; rfl)))
abbrev d4N (B:St) (L:List Tok) (o i:Nat) (d e:Int) (f:Nat) (w:Option (List Dir×Nat)) (mm:Nat) (fr:List AV) (st':St):Prop:=∃ (i':Nat) (e':Int) (l:List Dir) (v3:AV),Rd B L o st' i' d e'∧i≤i'∧(e'=0→e=0)∧(∀ a∈l,ArgsOK a.as)∧mm=rem L i' e'∧l.length+mm≤L.length∧LoopAt (a0g L f) w i' l e' ∧
 fr=[.ptr o 0,.list true [],.list true (l.map Dir.row),v3]
theorem b10 (L:List Tok) (o f:Nat) {st:St} {i:Nat} {d e:Int} (h:Rd B L o st i d e) (hd:0≤d) (T:d+f=24) :
 EvQ tbl 157 [.ptr o 0] st (fun a st'=>∃ l:List Dir,a=.list false (l.map Dir.row)∧b8n l∧b6C B L o i d e (a1W L f i) l st'):=by
 have hl:=h.hL.2;have hi:=h.hi;refine wj (fn:=a157) rfl rfl rfl ?_;have hA:a1W L f i=C7 (a0g L f) 2002 i []:=rfl;have Y:∃ w,w=(if e=0 then C7 (a0g L f) 2002 i []else none):=⟨_,rfl⟩
 obtain⟨w,W⟩:=Y;simp only[a8L,rS];refine wg (d4N B L o i d e f w) (m:=rem L i e) ⟨i,e,[],_,h,AK _,id,by simp,rfl,by simpa using a2o L i e,LoopAt.start _ _ _ _ W,rfl⟩ ?_;rintro mm fr st' ⟨i',e',l,v3,C,a2,y,z,a6,Z,v,rfl⟩;have a4:=C.hi;simp only[a8L,rE];refine wa (E9 C _) rfl rfl ?_;rintro _ a7 (⟨rfl,rfl,M⟩|⟨rfl,rfl,h3,M⟩)
 · simp only[SS];refine we ?_;simp only[a8L];refine wc ⟨_,_,rfl,l,rfl,⟨by omega,z⟩,i',e',C,by omega,y,fun h0=>?_⟩;rw[hA];rw[if_pos h0]at W;rw[← W];by_cases J:e'=0
   · subst J;rw[if_pos rfl];exact v.exit (by omega) (by rw[a0g,M rfl]; rfl)
   · rw[if_neg J];exact v.bad J
 · simp only[a8L,rA,rL,rE];refine wa (O9 h3) rfl rfl ?_;rintro _ a9 ⟨t,rfl,i4,e4,h4,a0,x,N⟩;simp only[a8L,rA,rE];refine wa (b7E L o f h4 hd T) rfl rfl ?_;rintro _ b0 ⟨as,rfl,has,i5,I,h5,a1,u,O⟩;have a5:rem L i5 I < rem L i' 0:=a1r rfl C.hi (fun h0=>by have:=x (u h0);omega);have U:(l.length+1)*40≤2 ^ 47:=by omega
   simp only[a8L,rA,rE,c5z,AG,U];refine wd (m':=rem L i5 I) (by omega) ⟨i5,I,l++[⟨t,as⟩],.box [.str t,.list false (as.map Arg.row)],h5,by omega,(fun h0=>y rfl),fun a ha=>?_,rfl,by simp only[AF,AY,List.length_nil]; omega,v.next (by omega) (fun h0=>by have:=x (u h0); omega) ?_,?_⟩
   · rcases AQ.1 ha with h0|h0
     · exact z a h0
     · simp at h0; subst h0; exact has
   · rw[a0g,M,if_pos rfl];exact A9 (N rfl) u fun h0=>A9 (O h0) id fun h2=>by rw[if_pos h2]
   · simp only[AW,AH,AM,Dir.row]
end Go.Cb.CodeA
