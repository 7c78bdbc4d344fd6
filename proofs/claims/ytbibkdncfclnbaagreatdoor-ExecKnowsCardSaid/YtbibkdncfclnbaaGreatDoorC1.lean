import Derived.Test.YtbibkdncfclnbaaGreatDoorD4
import Derived.Test.YtbibkdncfclnbaaGreatDoorXAms1
set_option maxRecDepth 20000
set_option linter.all false
namespace Go.Cb.CodeA
open Go Go.Cb
open Nat renaming reduceAdd→rA,reduceSub→rS,reduceLeDiff→rL,reduceEqDiff→rE
attribute [local congr] g9 j3 j4 j5 i8 j0 j8 j9 V.runR_congr
theorem Gr.refl (st:St):Gr st st:=fun _ _ h=>h
theorem Gr.trans {a b c:St} (h:Gr a b) (e:Gr b c):Gr a c:=fun o x l=>e o x (h o x l)
theorem Gr.app (st t:St):Gr st (st++t):=fun o x h=>by rw[List.getElem?_append_left (AB.1 h).1]; exact h
def pI {α:Type} (p:α→Bool):List α→Option Nat
 | []=>none
 | x::xs=>if p x then some 0 else(pI p xs).map (fun j=>j+1)
def nI:Option Nat→Int
 | some i=>(i:Int)
 | none=>-1
theorem X7 {α:Type} (p:α→Bool) (x:α) (xs:List α):pI p (x::xs)=if p x then some 0 else(pI p xs).map (fun j=>j+1):=rfl
theorem G6 {α:Type} {p:α→Bool}:∀ {l:List α} {i:Nat},pI p l=some i→∃ x,l[i]?=some x∧p x=true∧i < l.length
 | [],_,h=>by cases h
 | x::xs,i,h=>by
  rw[X7]at h;by_cases t:p x=true
  · rw[if_pos t]at h; cases h; exact⟨x,rfl,t,by simp⟩
  · rw[if_neg t]at h;cases e:pI p xs with
    | none=>rw[e]at h; cases h
    | some j =>rw[e]at h; cases h;obtain⟨y,u,v,z⟩:=G6 e;exact⟨y,by simpa using u,v,by simp; omega⟩
theorem b4r {α:Type} {p:α→Bool}:∀ {l:List α},pI p l=none→∀ x∈l,p x=false
 | [],_=>by simp
 | y::ys,h=>by
  rw[X7]at h;by_cases t:p y=true
  · rw[if_pos t]at h; cases h
  · rw[if_neg t]at h;have e:pI p ys=none:=by cases e:pI p ys with|none=>rfl|some j=>rw[e]at h; cases h
    intro x hm;rcases List.mem_cons.1 hm with rfl|hm
    · simpa using t
    · exact b4r e x hm
theorem b2k {α:Type} (p:α→Bool) (l:List α):(!ltI (nI (pI p l)) 0)=l.any p:=by
 rw[ltI_eq];cases e:pI p l with
 | none =>rw[show l.any p=false by rw[List.any_eq_false]; intro x v; simp[b4r e x v]];rfl
 | some i =>obtain⟨x,t,u,y⟩:=G6 e;rw[show l.any p=true by rw[List.any_eq_true]; exact⟨x,List.mem_of_getElem? t,u⟩];show(!decide (((i:Nat):Int) < 0))=true;rw[decide_eq_false (by omega)]; rfl
def k9 (l:List (List Nat)) (n:List Nat):Bool:=l.any (fun x=>eqN n x)
theorem a3J (l:List (List Nat)) (y:l.length≤100000000) (n:List Nat) (st:St):EvQ tbl 90 [.list false (l.map b9),.str n] st (fun a st'=>st'=st∧a=.int .i64 (nI (pI (fun x=>eqN n x) l))):=by
 refine wj (fn:=a90) rfl rfl rfl ?_;simp only[K90,rS,AG];refine wg (fun v fr st'=>st'=st∧∃ (i:Nat) (v3:AV),i≤l.length∧v=l.length - i∧pI (fun x=>eqN n x) l=(pI (fun x=>eqN n x) (l.drop i)).map (fun j=>j+i)∧fr=[.list false (l.map b9),.str n,.int .i64 0,v3,.int .i64 l.length,.int .i64 i]) (m:=l.length) ⟨rfl,0,_,Aa _,rfl,by simp,rfl⟩ ?_;rintro v fr st' ⟨rfl,i,v3,hi,rfl,e,rfl⟩;simp only[K90];by_cases t:i < l.length
 · have e2:(l.map b9)[i]?=some (b9 l[i]):=by rw[AU,AE t]; rfl
   rw[List.drop_eq_getElem_cons t,X7]at e;revert e2 e;generalize l[i]=x;intro e e2;simp only[K90,rE,t,e2,b9];refine wi (fun u=>?_) (fun u=>?_)
   · simp only[K90];refine wh ?_;simp only[SS];refine wc ⟨_,_,rfl,rfl,?_⟩;rw[e,if_pos u];show _=AV.int .i64 ((0+i:Nat):Int);rw[Nat.zero_add]; rfl
   · simp only[K90,k7 (show i+1 < 2 ^ 63 by omega)];refine wd (m':=l.length - (i+1)) (by omega) ⟨rfl,i+1,_,t,rfl,?_,rfl⟩
     rw[e,if_neg (by rw[u]; decide),Option.map_map];congr 1;funext j;show j+1+i=j+(i+1);omega
 · simp only[SS,t];refine we ?_;simp only[K90];refine wc ⟨_,_,rfl,rfl,?_⟩;rw[e,List.drop_of_length_le (by omega)];rfl
theorem I4 (l:List (List Nat)) (e:l.length≤100000000) (n:List Nat) (st:St):EvQ tbl 44 [.list false (l.map b9),.str n] st (fun a st'=>st'=st∧a=.bool (k9 l n)):=by refine wj (fn:=a44) rfl rfl rfl ?_;simp only[K44,rS,rE];refine wa (a3J l e n st) rfl rfl ?_;rintro _ _ ⟨rfl,rfl⟩;simp only[SS,b2k];exact wc ⟨_,_,rfl,rfl,rfl⟩
theorem c1a (z:Nat) (e:List AV) (L:e.map AV.weak=e) (p:Dir→Bool) (l:List Dir) (M:l.length≤100000000) (st:St)
 (h:∀ f∈l,EvQ tbl z (.agg f.row::e) st (fun a st'=>st'=st∧a=.bool (p f))) :
 EvQ tbl 202 [.list false (l.map Dir.row),.func z [] e] st (fun a st'=>st'=st∧a=.int .i64 (nI (pI p l))):=by
 refine wj (fn:=a202) rfl rfl rfl ?_;simp only[a8Q,rS,AG];refine wg (fun J fr st'=>st'=st∧∃ (i:Nat) (v3:AV),i≤l.length∧J=l.length - i∧pI p l=(pI p (l.drop i)).map (fun j=>j+i)∧fr=[.list false (l.map Dir.row),.func z [] e,.int .i64 0,v3,.int .i64 l.length,.int .i64 i]) (m:=l.length) ⟨rfl,0,_,Aa _,rfl,by simp,rfl⟩ ?_;rintro J fr st' ⟨rfl,i,v3,hi,rfl,t,rfl⟩;simp only[a8Q];by_cases u:i < l.length
 · have e2:(l.map Dir.row)[i]?=some (l[i]).row:=by rw[AU,AE u]; rfl
   have y:=h _ (List.getElem_mem u);rw[List.drop_eq_getElem_cons u,X7]at t;revert t e2 y;generalize l[i]=x;intro t e2 y;obtain⟨I,v⟩:=x;have e2:(l.map Dir.row)[i]?=some [.str I,.list false (v.map Arg.row)]:=e2;have y:EvQ tbl z (.agg [.str I,.list false (v.map Arg.row)]::e) st' _:=y;simp only[a8Q,rA,rE,u,e2];refine wl y rfl (by simp only[List.nil_append,List.cons_append,AH,L]; rfl) ?_;rintro _ st2 ⟨rfl,rfl⟩;simp only[SS];refine wi (fun C=>?_) (fun C=>?_)
   · simp only[a8Q];refine wh ?_;simp only[SS];refine wc ⟨_,_,rfl,rfl,?_⟩;rw[t,if_pos C];show _=AV.int .i64 ((0+i:Nat):Int);rw[Nat.zero_add]; rfl
   · simp only[a8Q,k7 (show i+1 < 2 ^ 63 by omega)];refine wd (m':=l.length - (i+1)) (by omega) ⟨rfl,i+1,_,u,rfl,?_,rfl⟩
     rw[t,if_neg (by rw[C]; decide),Option.map_map];congr 1;funext j;show j+1+i=j+(i+1);omega
 · simp only[SS,u];refine we ?_;simp only[a8Q];refine wc ⟨_,_,rfl,rfl,?_⟩;rw[t,List.drop_of_length_le (by omega)];rfl
theorem c1O (C:Nat) (e:List AV) (L:e.map AV.weak=e) (p:Frag→Bool) (l:List Frag) (M:l.length≤100000000) (st:St)
 (h:∀ f∈l,EvQ tbl C (.agg f.row::e) st (fun a st'=>st'=st∧a=.bool (p f))) :
 EvQ tbl 170 [.list false (l.map Frag.row),.func C [] e] st (fun a st'=>st'=st∧a=.int .i64 (nI (pI p l))):=by
 refine wj (fn:=a170) rfl rfl rfl ?_;simp only[a9b,rS,AG];refine wg (fun J fr st'=>st'=st∧∃ (i:Nat) (v3:AV),i≤l.length∧J=l.length - i∧pI p l=(pI p (l.drop i)).map (fun j=>j+i)∧fr=[.list false (l.map Frag.row),.func C [] e,.int .i64 0,v3,.int .i64 l.length,.int .i64 i]) (m:=l.length) ⟨rfl,0,_,Aa _,rfl,by simp,rfl⟩ ?_;rintro J fr st' ⟨rfl,i,v3,hi,rfl,t,rfl⟩;simp only[a9b];by_cases u:i < l.length
 · have e2:(l.map Frag.row)[i]?=some (l[i]).row:=by rw[AU,AE u]; rfl
   have z:=h _ (List.getElem_mem u);rw[List.drop_eq_getElem_cons u,X7]at t;revert t e2 z;generalize l[i]=x;intro t e2 z;obtain⟨gn,y,v⟩:=x;have e2:(l.map Frag.row)[i]?=some [.str gn,.str y,.list false (v.map Sel.row)]:=e2;have z:EvQ tbl C (.agg [.str gn,.str y,.list false (v.map Sel.row)]::e) st' _:=z;simp only[a9b,rA,rE,u,e2];refine wl z rfl (by simp only[List.nil_append,List.cons_append,AH,L]; rfl) ?_;rintro _ st2 ⟨rfl,rfl⟩;simp only[SS];refine wi (fun I=>?_) (fun I=>?_)
   · simp only[a9b];refine wh ?_;simp only[SS];refine wc ⟨_,_,rfl,rfl,?_⟩;rw[t,if_pos I];show _=AV.int .i64 ((0+i:Nat):Int);rw[Nat.zero_add]; rfl
   · simp only[a9b,k7 (show i+1 < 2 ^ 63 by omega)];refine wd (m':=l.length - (i+1)) (by omega) ⟨rfl,i+1,_,u,rfl,?_,rfl⟩
     rw[t,if_neg (by rw[I]; decide),Option.map_map];congr 1;funext j;show j+1+i=j+(i+1);omega
 · simp only[SS,u];refine we ?_;simp only[a9b];refine wc ⟨_,_,rfl,rfl,?_⟩;rw[t,List.drop_of_length_le (by omega)];rfl
theorem b2X (t:Nat) (e:List AV) (u:e.map AV.weak=e) (p:Dir→Bool) (l:List Dir) (v:l.length≤100000000) (st:St)
 (h:∀ f∈l,EvQ tbl t (.agg f.row::e) st (fun a st'=>st'=st∧a=.bool (p f))) :
 EvQ tbl 186 [.list false (l.map Dir.row),.func t [] e] st (fun a st'=>st'=st∧a=.bool (l.any p)):=by
 refine wj (fn:=a186) rfl rfl rfl ?_;simp only[d4w,rS,rE];refine wa (c1a t e u p l v st h) rfl rfl ?_;rintro _ _ ⟨rfl,rfl⟩;simp only[SS,b2k];exact wc ⟨_,_,rfl,rfl,rfl⟩
structure Cfg where
 so:Nat
 ops:List (List AV)
 frags:List Frag
 typ:List Nat
 vk:Int
 vn:Int
 vs:List Nat
 vks:List (List Nat)
 vls:List Val
 poss:List Nat→List (List Nat)
structure Cfg.OK (K:Cfg):Prop where
 ks:K.vks.length≤100000000
 ev:K.vk=6→K.vks.length=K.vls.length
 frags:K.frags.length≤3000∧∀ f∈K.frags,b2G f.sub
 poss:∀ n,(K.poss n).length≤100000000
def C1 (K:Cfg) (sn out:AV):List AV:=[.ptr K.so 0,.list false K.ops,.list false (K.frags.map Frag.row),.str K.typ,.int .u8 K.vk,.int .i64 K.vn,.str K.vs,.list false (K.vks.map b9),.list false (K.vls.map Val.row),sn,out]
def Val.kind:Val→Int|.mk k _ _ _ _=>k
def Val.num:Val→Int|.mk _ n _ _ _=>n
def Val.text:Val→List Nat|.mk _ _ s _ _=>s
def Cfg.get (K:Cfg) (n:List Nat):Val:=(if eqI K.vk 6 then(match pI (fun x=>eqN n x) K.vks with|some i=>K.vls[i]?|none=>none)else none).getD Val.none
theorem c2H {K:Cfg} (v:K.OK) (n:List Nat) (st:St):EvQ tbl 79 [.agg [.int .u8 K.vk,.int .i64 K.vn,.str K.vs,.list false (K.vks.map b9),.list false (K.vls.map Val.row)],.str n] st (fun a st'=>st'=st∧∃ b,a=.tuple [.agg (K.get n).row,.bool b]):=by
 refine wj (fn:=a79) rfl rfl rfl ?_;simp only[K79,rS,rE];refine wa (a3J K.vks v.ks n _) rfl rfl ?_;rintro _ _ ⟨rfl,rfl⟩;unfold Cfg.get;cases z:pI (fun x=>eqN n x) K.vks with
 | none =>simp only[K79,rA,rE,nI,show ltI (-1) 0=true from rfl];refine wc ⟨_,_,rfl,rfl,false,?_⟩;rw[show(if eqI K.vk 6=true then none else none:Option Val)=none by split<;>rfl,Option.getD_none,Val.none_row];rfl
 | some i =>
  obtain⟨_,_,_,hi⟩:=G6 z;have t:ltI (i:Int) 0=false:=by rw[ltI_eq]; simp
  rcases e8 (eqI K.vk 6)with h6|h6
  · have e:i < K.vls.length:=by rw[← v.ev (by rw[eqI_eq]at h6; simpa using h6)]; exact hi
    have e2:(K.vls.map Val.row)[i]?=some (K.vls[i]).row:=by rw[AU,AE e]; rfl
    have y:K.vls[i]?=some K.vls[i]:=AE e;rw[if_pos h6];dsimp only;rw[y];revert e2;generalize K.vls[i]=u;intro e2;obtain⟨J,L,M,C,I,l⟩:=u.row_cells;rw[Option.getD_some,l];rw[l]at e2;simp only[K79,rA,rE,nI,t,h6,e2];exact wc ⟨_,_,rfl,rfl,_,rfl⟩
  · rw[h6,if_neg (by decide)];simp only[K79,rA,rE,nI,t,h6];refine wc ⟨_,_,rfl,rfl,false,?_⟩;rw[Option.getD_none,Val.none_row];rfl
def ifN:List Nat:=[105,102]
def b0M:List Nat:=[115,107,105,112]
def a4n:List Nat:=[105,110,99,108,117,100,101]
def Cfg.val (K:Cfg) (v:Val):Val:=if eqI v.kind 7 then K.get v.text else v
def T7 (K:Cfg):List Arg→Bool
 | []=>false
 | a::as=>if eqN a.n ifN then eqI (K.val a.v).kind 3 && eqI (K.val a.v).num 1 else T7 K as
theorem d1E {K:Cfg} (Z:K.OK) {c:Nat} {sn out:AV} (d:Dir) (W:d.as.length≤3000) {st:St} (h:st[c]?=some (.cells (C1 K sn out))):EvQ tbl 188 [.ptr c 0,.agg [.str d.n,.list false (d.as.map Arg.row)]] st (fun a st'=>st'=st∧a=.bool (T7 K d.as)):=by
 obtain⟨L,e⟩:=d;have W:e.length≤3000:=W;show EvQ tbl 188 [.ptr c 0,.agg [.str L,.list false (e.map Arg.row)]] st (fun a st'=>st'=st∧a=.bool (T7 K e));refine wj (fn:=a188) rfl rfl rfl ?_;simp only[a2t,rS,AG];refine wg (fun T fr st'=>st'=st∧∃ (i:Nat) (v4 v5:AV),i≤e.length∧T=e.length - i∧T7 K e=T7 K (e.drop i)∧fr=[.ptr c 0,.agg [.str L,.list false (e.map Arg.row)],.box [.str L,.list false (e.map Arg.row)],.bool false,v4,v5,.list false (e.map Arg.row),.int .i64 e.length,.int .i64 i]) (m:=e.length) ⟨rfl,0,_,_,Aa _,rfl,rfl,rfl⟩ ?_;rintro T fr st' ⟨rfl,i,v4,v5,hi,rfl,u,rfl⟩;by_cases C:i < e.length
 · have e2:(e.map Arg.row)[i]?=some (e[i]).row:=by rw[AU,AE C]; rfl
   rw[List.drop_eq_getElem_cons C,T7]at u;revert e2 u;generalize e[i]=x;intro u e2;obtain⟨N,O⟩:=x;have e2:(e.map Arg.row)[i]?=some (.str N::O.row):=e2;have z:∀ (w:Val) (v5:AV),K.val O=w→WC (fun n=>j1 (k8 tbl n) n ((ACode.blk 1 a9G).seq a9K) [.ptr c 0,.agg [.str L,.list false (e.map Arg.row)],.box [.str L,.list false (e.map Arg.row)],.bool false,.box (.str N::O.row),.box w.row,.list false (e.map Arg.row),.int .i64 e.length,.int .i64 i] st')
    (LQ (fun T fr l=>l=st'∧∃ (i:Nat) (v4 v5:AV),i≤e.length∧T=e.length - i∧T7 K e=T7 K (e.drop i)∧fr=[.ptr c 0,.agg [.str L,.list false (e.map Arg.row)],.box [.str L,.list false (e.map Arg.row)],.bool false,v4,v5,.list false (e.map Arg.row),.int .i64 e.length,.int .i64 i]) (e.length - i) (fun n=>H7 (U3 0 some) (j1 (k8 tbl n) n (a188s31.seq ACode.ret))) (fun o=>∃ r l,finK [ResK.v 3] (some o)=some (r,l)∧l=st'∧r=.bool (T7 K e))):=by
    intro w v5 hw;rw[hw]at u;obtain⟨k1,n1,s1,a0,a1,Y⟩:=O.row_cells;obtain⟨wk,wn,ws,a2,a4⟩:=w;have u:T7 K e=if eqN N ifN then eqI wk 3 && eqI wn 1 else T7 K (e.drop (i+1)):=u
    rw[Y];simp only[a2t,rE,Val.row_eq];refine wi (fun M=>?_) (fun M=>?_)
    · rw[if_pos (show eqN N ifN=true from M)]at u;rcases e8 (eqI wk 3)with h3|h3
      · simp only[a2t,rE,h3];refine wh ?_;simp only[SS];exact wc ⟨_,_,rfl,rfl,by rw[u,h3]; rfl⟩
      · simp only[a2t,rE,h3];refine wh ?_;simp only[SS];exact wc ⟨_,_,rfl,rfl,by rw[u,h3]; rfl⟩
    · rw[if_neg (by rw[show eqN N ifN=false from M]; decide)]at u;simp only[a2t,k7 (show i+1 < 2 ^ 63 by omega)];exact wd (m':=e.length - (i+1)) (by omega) ⟨rfl,i+1,_,_,C,rfl,u,rfl⟩
   obtain⟨U,y,t,I,J⟩:=O;rw[Val.row_eq]at e2 z;simp only[a2t,rA,rE,C,e2];refine wi (fun M=>?_) (fun M=>?_)
   · simp only[a2t,rA,rL,rE,h,C1];refine wa (c2H Z t _) rfl rfl ?_;rintro _ _ ⟨rfl,b,rfl⟩;have:=z (K.get t) .undef (by unfold Cfg.val; rw[if_pos (show eqI (Val.mk U y t I J).kind 7=true from M)]; rfl);revert this;generalize K.get t=g;intro this;obtain⟨gk,gn,gs,gks,gls⟩:=g;rw[Val.row_eq]at this ⊢;simp only[a2t,rA,rE]at this ⊢;exact this
   · have:=z (.mk U y t I J) .undef (by unfold Cfg.val; rw[if_neg (by rw[show eqI (Val.mk U y t I J).kind 7=false from M]; decide)]);rw[Val.row_eq]at this;simp only[a2t,rE]at this ⊢;exact this
 · simp only[a2t,C];refine we ?_;simp only[a2t];refine wc ⟨_,_,rfl,rfl,?_⟩;rw[u,List.drop_of_length_le (by omega),T7];rfl
def b49 (K:Cfg) (d:Dir):Bool:=(eqN d.n b0M && T7 K d.as) || (eqN d.n a4n && !T7 K d.as)
def N4 (K:Cfg) (ds:List Dir):Bool:=!ds.any (b49 K)
theorem d2l {K:Cfg} (x:K.OK) {c p:Nat} {sn out:AV} (d:Dir) (z:d.as.length≤3000) {st:St} (h:st[c]?=some (.cells (C1 K sn out))) (t:st[p]?=some (.cells [.ptr c 0])):EvQ tbl 187 [.agg d.row,.ptr p 0] st (fun a st'=>st'=st∧a=.bool (b49 K d)):=by
 have u:=d1E x d z h;unfold b49;obtain⟨l,e⟩:=d;show EvQ tbl 187 [.agg [.str l,.list false (e.map Arg.row)],.ptr p 0] st _;revert u;show EvQ tbl 188 [.ptr c 0,.agg [.str l,.list false (e.map Arg.row)]] st (fun a st'=>st'=st∧a=.bool (T7 K e))→EvQ tbl 187 [.agg [.str l,.list false (e.map Arg.row)],.ptr p 0] st (fun a st'=>st'=st∧a=.bool ((eqN l b0M && T7 K e) || (eqN l a4n && !T7 K e)));generalize T7 K e=y;intro u;have two:∀ (b:Bool),(b=true→y=false)→eqN l [115,107,105,112]=b→EvQ tbl 187 [.agg [.str l,.list false (e.map Arg.row)],.ptr p 0] st (fun a st'=>st'=st∧a=.bool (eqN l a4n && !y)):=by
  intro b v hb;refine wj (fn:=a187) rfl rfl rfl ?_;cases b with
  | true =>
   obtain rfl:=v rfl;simp only[b5b,rA,rS,rE,hb,t];refine wa u rfl rfl ?_;rintro _ _ ⟨rfl,rfl⟩;simp only[SS,t];rcases e8 (eqN l [105,110,99,108,117,100,101])with hi|hi
   · simp only[SS,hi];refine wa u rfl rfl ?_;rintro _ _ ⟨rfl,rfl⟩;simp only[SS];exact wc ⟨_,_,rfl,rfl,by rw[a4n,hi]; rfl⟩
   · simp only[SS,hi];exact wc ⟨_,_,rfl,rfl,by rw[a4n,hi]; rfl⟩
  | false =>
   rcases e8 (eqN l [105,110,99,108,117,100,101])with hi|hi
   · simp only[b5b,rA,rS,rE,hb,t,hi];refine wa u rfl rfl ?_;rintro _ _ ⟨rfl,rfl⟩;simp only[SS];exact wc ⟨_,_,rfl,rfl,by rw[a4n,hi]; rfl⟩
   · simp only[b5b,rA,rS,rE,hb,t,hi];exact wc ⟨_,_,rfl,rfl,by rw[a4n,hi]; rfl⟩
 rcases e8 (eqN l [115,107,105,112])with hb|hb
 · cases y with
   | false=>
    have:=two true (fun _=>rfl) hb
    rwa [Bool.and_false,Bool.false_or]
   | true =>refine wj (fn:=a187) rfl rfl rfl ?_;simp only[b5b,rA,rS,rE,hb,t];refine wa u rfl rfl ?_;rintro _ _ ⟨rfl,rfl⟩;simp only[SS,t];exact wc ⟨_,_,rfl,rfl,by rw[b0M,hb]; rfl⟩
 · have:=two false (fun h=>by cases h) hb;rw[b0M,hb,Bool.false_and,Bool.false_or];exact this
theorem c82 {K:Cfg} (v:K.OK) {c:Nat} {sn out:AV} (s:Sel) (y:s.OK) {st:St} (h:st[c]?=some (.cells (C1 K sn out))) :
 EvQ tbl 168 [.ptr c 0,.agg s.row] st (fun a st'=>(∃ ob,st'=st++[ob])∧a=.bool (N4 K (match s with|.mk _ _ _ _ _ ds _=>ds))):=by
 cases y with
 | mk k al nm on as ds sub z e C l =>
  rw[Sel.row_eq];dsimp only;refine wj (fn:=a168) rfl rfl rfl ?_;simp only[d3o,rS,rE];have t:(st++[Obj.cells [AV.ptr c 0]])[c]?=some (.cells (C1 K sn out)):=by rw[List.getElem?_append_left (AB.1 h).1]; exact h
  have u:(st++[Obj.cells [AV.ptr c 0]])[st.length]?=some (.cells [.ptr c 0]):=by rw[List.getElem?_append_right (AK _),Nat.sub_self]; rfl
  refine wa (b2X 187 [.ptr st.length 0] rfl (b49 K) ds (by have:=e.1; omega) _ (fun d x=>d2l v d ((e.2 d x).1) t u)) rfl rfl ?_;rintro _ _ ⟨rfl,rfl⟩;simp only[SS];exact wc ⟨_,_,rfl,⟨_,rfl⟩,rfl⟩
theorem wm {β:Type} {f m:Nat} {as e:List AV} {bx:AV} {st:St} {k:Nat→AV×St→Option β} {P:AV→St→Prop} {Q:β→Prop}
 (h:EvQ tbl f e st P) (I:D1 (as.take m)=true) (L:(as.take m).map AV.weak=e) (z:∀ r st',P r st'→kept st st' (as.drop m)=true∧WC (fun n=>k n (r,st')) Q):WC (fun n=>Go.Cb.obind (p2 (H8 f m (k8 tbl n) as bx st)) (k n)) Q:=by
 obtain⟨r,st',y,J⟩:=h;obtain⟨n0,u⟩:=y.ge;obtain⟨l,t⟩:=z r st' J;refine WC.obind (P:=fun x=>x=(r,st')) ⟨n0,(r,st'),fun n C=>?_,rfl⟩ (fun a v=>v ▸ t);simp only[H8,p8,I,if_true,L,u n C,AO,l,a6t]
theorem a2g (call:d8) (bx:AV) (st:St) (agg:Bool) (n o off p f:Nat):M1 agg n call [.ptr o off,.ptr p f] bx st=if Nat.beq o p=true then G4 agg n call [.ptr o off] bx st else none:=a8 rfl
def isB (K:Cfg) (n:List Nat):Bool:=eqN n K.typ || k9 (K.poss n) K.typ
theorem c63 {K:Cfg} (e:K.OK) {c:Nat} {sn out:AV} (n:List Nat) {st:St} (h:st[c]?=some (.cells (C1 K sn out))) (l:EvQ tbl 42 [.ptr K.so 0,.str n] st (fun a st'=>st'=st∧a=.list false ((K.poss n).map b9))) :
 EvQ tbl 172 [.ptr c 0,.str n] st (fun a st'=>st'=st∧a=.bool (isB K n)):=by
 have t:kept st st [AV.ptr c 0]=true:=by simp only[kept,u9,h,Bool.and_true];rw[a0k]
 refine wj (fn:=a172) rfl rfl rfl ?_;rcases e8 (eqN n K.typ)with he|he
 · simp only[c7T,rS,rE,h,C1,he];exact wc ⟨_,_,rfl,rfl,by rw[isB,he]; rfl⟩
 · simp only[c7T,rS,rE,h,C1,he,a2g,Nat.beq_refl];refine wm l rfl rfl ?_;rintro _ _ ⟨rfl,rfl⟩;refine⟨t,?_⟩;simp only[SS];refine wa (I4 _ (e.poss n) _ _) rfl rfl ?_;rintro _ _ ⟨rfl,rfl⟩;simp only[SS];exact wc ⟨_,_,rfl,rfl,by rw[isB,he]; rfl⟩
end Go.Cb.CodeA
