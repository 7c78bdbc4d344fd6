import Derived.Test.YtbibkdncfclnbaaGreatDoorXs1
import Derived.Test.YtbibkdncfclnbaaGreatDoorS1
import Derived.Test.YtbibkdncfclnbaaGreatDoorC6
import Derived.Test.YtbibkdncfclnbaaGreatDoorYs1
set_option maxRecDepth 20000
set_option linter.all false
namespace Go.Cb.CodeA
open Go Go.Cb
open Nat renaming reduceAdd→rA,reduceSub→rS,reduceLeDiff→rL,reduceEqDiff→rE
attribute [local congr] g9 j3 j4 j5 i8 j0 j8 j9 V.runR_congr
structure SD where
 k:Int
 n:List Nat
 fs:List FDef
 ns:List (List Nat)
def SD.td (t:SD):TD:=⟨t.k,t.n,t.fs.map FDef.row,t.ns⟩
def lkD (T:List SD) (n:List Nat):Option SD:=T.find? fun t=>eqN n t.n
theorem a8r (T:List SD) (n:List Nat):lk (T.map SD.td) n=(lkD T n).map SD.td:=by unfold lk lkD;rw[List.find?_map];rfl
structure SchD (T:List SD) (so:Nat) (st:St):Prop where
 sch:Sch (T.map SD.td) so st
 fs:∀ t∈T,t.fs.length≤3000
theorem SchD.gr {T:List SD} {so:Nat} {st st':St} (h:SchD T so st) (e:Gr st st'):SchD T so st':=⟨h.sch.gr e,h.fs⟩
def H2 (T:List SD) (n:List Nat) (k:Int):Bool:=match lkD T n with
 | some t=>eqI t.k k
 | none=>false
theorem a8g {T:List SD} {so:Nat} {st:St} (h:SchD T so st) (n:List Nat) (k:Int):EvQ tbl 173 [.ptr so 0,.str n,.int .u8 k] st (fun a st'=>st'=st∧a=.bool (H2 T n k)):=by
 refine wj (fn:=a173) rfl rfl rfl ?_;simp only[c04,rA,rS,rE];refine wa (a5B h.sch n) rfl rfl ?_;rintro _ st ⟨rfl,rfl⟩;rw[a8r];unfold H2;cases lkD T n with
 | none =>simp only[c04,rA,rE,X0,Option.getD_none,TD.zero,TD.row,Option.isSome_none];exact wc ⟨_,_,rfl,rfl,rfl⟩
 | some t =>simp only[c04,rA,rE,X0,Option.getD_some,TD.row,SD.td,Option.isSome_some];exact wc ⟨_,_,rfl,rfl,rfl⟩
def a3v:List (List Nat):=[[66,111,111,108,101,97,110],[73,68],[73,110,116],[83,116,114,105,110,103]]
theorem c2v (so:Nat) (n:List Nat) (st:St):EvQ tbl 143 [.ptr so 0,.str n] st (fun a st'=>st'=st∧a=.bool (k9 a3v n)):=by
 have e:=I4 a3v (by decide) n st;unfold a3v at *
 refine wj (fn:=a143) rfl rfl rfl ?_;simp only[d4S,rA,rS,rE];refine wa e rfl rfl ?_;rintro _ st ⟨rfl,rfl⟩;simp only[SS];exact wc ⟨_,_,rfl,rfl,rfl⟩
theorem d0L {T:List SD} {so:Nat} {st:St} (h:SchD T so st) (n:List Nat):EvQ tbl 144 [.ptr so 0,.str n] st (fun a st'=>st'=st∧a=.bool (H2 T n 4)):=by refine wj (fn:=a144) rfl rfl rfl ?_;simp only[d4P,rS,rE];refine wa (a8g h n 4) rfl rfl ?_;rintro _ st ⟨rfl,rfl⟩;simp only[SS];exact wc ⟨_,_,rfl,rfl,rfl⟩
def b6O (T:List SD) (n:List Nat):Bool:=if k9 a3v n then true else H2 T n 4
theorem c77 {T:List SD} {so:Nat} {st:St} (h:SchD T so st) (n:List Nat):EvQ tbl 192 [.ptr so 0,.str n] st (fun a st'=>st'=st∧a=.bool (b6O T n)):=by
 unfold b6O;refine wj (fn:=a192) rfl rfl rfl ?_;simp only[d4D,rS,rE];refine wa (c2v so n st) rfl rfl ?_;rintro _ st ⟨rfl,rfl⟩;rcases e8 (k9 a3v n)with hb|hb
 · simp only[SS,hb];exact wc ⟨_,_,rfl,rfl,rfl⟩
 · simp only[SS,hb];refine wa (d0L h n) rfl rfl ?_;rintro _ st ⟨rfl,rfl⟩;simp only[SS];exact wc ⟨_,_,rfl,rfl,rfl⟩
def a9X:List Nat:=[77,117,116,97,116,105,111,110]
def a4u (n:List Nat):Bool:=if eqN n H4 then true else eqN n a9X
theorem b7Q (n:List Nat) (st:St):EvQ tbl 102 [.str n] st (fun a st'=>st'=st∧a=.bool (a4u n)):=by
 unfold a4u H4 a9X;refine wj (fn:=a102) rfl rfl rfl ?_;simp only[d49,rS,rE];rcases e8 (eqN n [81,117,101,114,121])with hb|hb
 · simp only[SS,hb];exact wc ⟨_,_,rfl,rfl,rfl⟩
 · simp only[SS,hb];exact wc ⟨_,_,rfl,rfl,rfl⟩
def a8k (T:List SD) (n:List Nat):Bool:=if a4u n then false else if H2 T n 1 then true else if H2 T n 2 then true else H2 T n 3
theorem d0t {T:List SD} {so:Nat} {st:St} (h:SchD T so st) (n:List Nat):EvQ tbl 132 [.ptr so 0,.str n] st (fun a st'=>st'=st∧a=.bool (a8k T n)):=by
 unfold a8k;refine wj (fn:=a132) rfl rfl rfl ?_;simp only[d33,rS,rE];refine wa (b7Q n st) rfl rfl ?_;rintro _ st ⟨rfl,rfl⟩;rcases e8 (a4u n)with hb|hb
 · simp only[SS,hb];exact wc ⟨_,_,rfl,rfl,rfl⟩
 rw[hb,if_neg (by decide)];simp only[SS];refine wa (a8g h n 1) rfl rfl ?_;rintro _ st ⟨rfl,rfl⟩;rcases e8 (H2 T n 1)with hb|hb
 · simp only[SS,hb];exact wc ⟨_,_,rfl,rfl,rfl⟩
 rw[hb,if_neg (by decide)];simp only[SS];refine wa (a8g h n 2) rfl rfl ?_;rintro _ st ⟨rfl,rfl⟩;rcases e8 (H2 T n 2)with hb|hb
 · simp only[SS,hb];exact wc ⟨_,_,rfl,rfl,rfl⟩
 rw[hb,if_neg (by decide)];simp only[SS];refine wa (a8g h n 3) rfl rfl ?_;rintro _ st ⟨rfl,rfl⟩;simp only[SS];exact wc ⟨_,_,rfl,rfl,rfl⟩
theorem b7n (F:List FDef) (u:F.length≤3000) (st:St):EvQ tbl 100 [.list false (F.map FDef.row)] st (fun a st'=>st'=st∧a=.list true ((F.map FDef.n).map b9)):=by
 refine wj (fn:=a100) rfl rfl rfl ?_;simp only[b55,rS,AG];refine wg (fun t fr st'=>st'=st∧∃ (i:Nat) (v3:AV),i≤F.length∧t=F.length - i∧fr=[.list false (F.map FDef.row),.list true [],.list true (((F.take i).map FDef.n).map b9),v3,.list false (F.map FDef.row),.int .i64 F.length,.int .i64 i]) (m:=F.length) ⟨rfl,0,_,Aa _,rfl,rfl⟩ ?_;rintro t fr st' ⟨rfl,i,v3,hi,rfl,rfl⟩;simp only[b55];by_cases e:i < F.length
 · have e2:(F.map FDef.row)[i]?=some (F[i]).row:=by rw[AU,AE e]; rfl
   have l:F.take (i+1)=F.take i++[F[i]]:=by rw[List.take_add_one,AE e]; rfl
   have v:(((F.take i).map FDef.n).map b9).length≤3000:=by rw[AG,AG,AP]; omega
   revert e2 l;generalize F[i]=f;intro e2 l;rw[FDef.row]at e2;simp only[b55,rA,rE,e,e2,a4t,show((((F.take i).map FDef.n).map b9).length+1)*16≤2 ^ 47 by omega,k7 (show i+1 < 2 ^ 63 by omega)];exact wd (m':=F.length - (i+1)) (by omega) ⟨rfl,i+1,_,e,rfl,by rw[l,AW,AW]; rfl⟩
 · simp only[SS,e];refine we ?_;simp only[b55];exact wc ⟨_,_,rfl,rfl,by rw[List.take_of_length_le (by omega)]; rfl⟩
def c4p:List Nat:=[83,116,114,105,110,103]
def d2f:FDef:=⟨Q4,[],.base c4p true,false,Val.none⟩
def a7j (T:List SD) (typ n:List Nat):Option FDef:=match lkD T typ with
 | none=>none
 | some t=>if eqN n Q4 && (if a8k T typ then true else a4u typ)then some d2f else if eqI t.k 5 then none else match pI (fun x=>eqN n x) (t.fs.map FDef.n)with
  | some i=>t.fs[i]?
  | none=>none
theorem a6f {T:List SD} {n:List Nat} {t:SD} (h:lkD T n=some t):t∈T:=List.mem_of_find?_eq_some h
theorem c6F {T:List SD} {so:Nat} {st:St} (h:SchD T so st) (typ n:List Nat):EvQ tbl 84 [.ptr so 0,.str typ,.str n] st (fun a st'=>st'=st∧a=.tuple [.agg ((a7j T typ n).getD FDef.none).row,.bool (a7j T typ n).isSome]):=by
 unfold a7j;refine wj (fn:=a84) rfl rfl rfl ?_;simp only[K84,rA,rS,rE];refine wa (a5B h.sch typ) rfl rfl ?_;rintro _ st ⟨rfl,rfl⟩;rw[a8r];cases J:lkD T typ with
 | none =>simp only[K84,rA,rE,X0,Option.getD_none,TD.zero,TD.row,Option.isSome_none];refine wa (b7n [] (by decide) st) rfl rfl ?_;rintro _ st ⟨rfl,rfl⟩;simp only[SS];refine wa (a3J [] (by decide) n st) rfl rfl ?_;rintro _ st ⟨rfl,rfl⟩;simp only[K84,rA,rE,nI,pI,show ltI (-1) 0=true from rfl];exact wc ⟨_,_,rfl,rfl,rfl⟩
 | some t =>
  have z:=h.fs t (a6f J);have y:=d0t h typ;have I:=b7Q typ st;have u:=b7n t.fs z st;have l:=a3J (t.fs.map FDef.n) (by rw[AG]; omega) n st;dsimp only;simp only[K84,rA,rE,X0,Option.getD_some,TD.row,SD.td,Option.isSome_some];unfold Q4;rcases e8 (eqN n [95,95,116,121,112,101,110,97,109,101])with h1|h1
  · simp only[SS,h1];refine wa y rfl rfl ?_;rintro _ st ⟨rfl,rfl⟩;rcases e8 (a8k T typ)with h2|h2
    · simp only[K84,rA,rL,rE,h2];have e:n=Q4:=(t7 _ _).1 h1;refine wc ⟨_,_,rfl,rfl,?_⟩;rw[e];rfl
    simp only[SS,h2];refine wa I rfl rfl ?_;rintro _ st ⟨rfl,rfl⟩;rcases e8 (a4u typ)with h3|h3
    · simp only[K84,rA,rL,rE,h3];have e:n=Q4:=(t7 _ _).1 h1;refine wc ⟨_,_,rfl,rfl,?_⟩;rw[e];rfl
    simp only[K84,rE,h3];refine wa u rfl rfl ?_;rintro _ st ⟨rfl,rfl⟩;simp only[SS];refine wa l rfl rfl ?_;rintro _ st ⟨rfl,rfl⟩;cases C:pI (fun x=>eqN n x) (t.fs.map FDef.n)with
    | none =>simp only[K84,rA,rE,nI,show ltI (-1) 0=true from rfl];refine wc ⟨_,_,rfl,rfl,?_⟩;rw[show(if eqI t.k 5=true then none else none:Option FDef)=none by split<;>rfl];rfl
    | some i =>
     obtain⟨_,_,_,hi⟩:=G6 C;rw[AG]at hi;have e2:(t.fs.map FDef.row)[i]?=some (t.fs[i]).row:=by rw[AU,AE hi]; rfl
     have v:t.fs[i]?=some t.fs[i]:=AE hi;dsimp only;rw[v];revert e2;generalize t.fs[i]=f;intro e2;rw[FDef.row]at e2;rcases e8 (eqI t.k 5)with h5|h5
     · simp only[K84,rA,rE,nI,h5,show ltI (i:Int) 0=false by rw[ltI_eq]; simp];exact wc ⟨_,_,rfl,rfl,rfl⟩
     · simp only[K84,rA,rE,nI,h5,show ltI (i:Int) 0=false by rw[ltI_eq]; simp,e2];exact wc ⟨_,_,rfl,rfl,rfl⟩
  · simp only[K84,rE,h1];refine wa u rfl rfl ?_;rintro _ st ⟨rfl,rfl⟩;simp only[SS];refine wa l rfl rfl ?_;rintro _ st ⟨rfl,rfl⟩;cases C:pI (fun x=>eqN n x) (t.fs.map FDef.n)with
    | none =>simp only[K84,rA,rE,nI,show ltI (-1) 0=true from rfl];refine wc ⟨_,_,rfl,rfl,?_⟩;rw[show(if eqI t.k 5=true then none else none:Option FDef)=none by split<;>rfl];rfl
    | some i =>
     obtain⟨_,_,_,hi⟩:=G6 C;rw[AG]at hi;have e2:(t.fs.map FDef.row)[i]?=some (t.fs[i]).row:=by rw[AU,AE hi]; rfl
     have v:t.fs[i]?=some t.fs[i]:=AE hi;dsimp only;rw[v];revert e2;generalize t.fs[i]=f;intro e2;rw[FDef.row]at e2;rcases e8 (eqI t.k 5)with h5|h5
     · simp only[K84,rA,rE,nI,h5,show ltI (i:Int) 0=false by rw[ltI_eq]; simp];exact wc ⟨_,_,rfl,rfl,rfl⟩
     · simp only[K84,rA,rE,nI,h5,show ltI (i:Int) 0=false by rw[ltI_eq]; simp,e2];exact wc ⟨_,_,rfl,rfl,rfl⟩
theorem c8t (st:St) (a b:Cb.Obj):((st++[a])++[b])[st.length]?=some a:=by simp
theorem b0X (st:St) (a b:Cb.Obj):((st++[a])++[b])[(st++[a]).length]?=some b:=p9 _ _
def b5u (T:List SD) (n:List Nat) (v:Val):Bool :=
 if eqI v.kind 0 then true
 else if eqN n [73,110,116]then(if eqI v.kind 1 then eqI v.num (n7 .i64 (n7 .i32 v.num))else false)
 else if eqN n [83,116,114,105,110,103]then eqI v.kind 2
 else if eqN n [66,111,111,108,101,97,110]then eqI v.kind 3
 else if eqN n [73,68]then(if eqI v.kind 2 then true else eqI v.kind 1)
 else match lkD T n with
  | none=>false
  | some t=>if eqI t.k 4 then(if eqI v.kind 4 then k9 t.ns v.text else false)else false
theorem c74 {T:List SD} {so:Nat} {st:St} (h:SchD T so st) (n:List Nat) {v:Val} (C:VX v):EvQ tbl 146 [.ptr so 0,.agg [.str n,.list false [],.bool false],.agg v.row] st (fun a st'=>Gr st st'∧a=.bool (b5u T n v)):=by
 obtain⟨_,_,_,u⟩:=C.vals;have y:eqI v.kind 6=false:=by rw[eqI_eq]; simpa using u
 have e:∀ a b:Cb.Obj,Gr st ((st++[a])++[b]):=fun a b i x I=>m3 (m3 I)
 have z:∀ a b:Cb.Obj,EvQ tbl 56 [.ptr so 0,.str n] ((st++[a])++[b]) (fun x st'=>st'=(st++[a])++[b]∧x=X0 (lk (T.map SD.td) n)):=fun a b=>a5B (h.gr (e a b)).sch n
 rw[v.row_eta];unfold b5u;refine wj (fn:=a146) rfl rfl rfl ?_;simp only[T4,rS,rE];rcases e8 (eqI v.kind 0)with h0|h0
 · simp only[T4,rE,h0,b0X];exact wc ⟨_,_,rfl,e _ _,rfl⟩
 rw[h0,if_neg (by decide)];simp only[T4,rE,b0X,show ltI 0 (((0:Nat):Int))=false from rfl];rcases e8 (eqN n [73,110,116])with h1|h1
 · rw[if_pos h1];rcases e8 (eqI v.kind 1)with h2|h2
   · simp only[T4,rE,h1,h2];exact wc ⟨_,_,rfl,e _ _,rfl⟩
   · simp only[T4,rE,h1,h2];exact wc ⟨_,_,rfl,e _ _,rfl⟩
 rw[h1,if_neg (by decide)];simp only[T4,rE];rcases e8 (eqN n [83,116,114,105,110,103])with h1|h1
 · rw[if_pos h1];simp only[T4,rE,h1];exact wc ⟨_,_,rfl,e _ _,rfl⟩
 rw[h1,if_neg (by decide)];simp only[T4,rE];rcases e8 (eqN n [66,111,111,108,101,97,110])with h1|h1
 · rw[if_pos h1];simp only[T4,rE,h1];exact wc ⟨_,_,rfl,e _ _,rfl⟩
 rw[h1,if_neg (by decide)];simp only[T4,rE];rcases e8 (eqN n [73,68])with h1|h1
 · rw[if_pos h1];rcases e8 (eqI v.kind 2)with h2|h2
   · simp only[T4,rE,h1,h2];exact wc ⟨_,_,rfl,e _ _,rfl⟩
   · simp only[T4,rE,h1,h2];exact wc ⟨_,_,rfl,e _ _,rfl⟩
 rw[h1,if_neg (by decide)];simp only[T4,rA,rE,c8t,b0X];refine wa (z _ _) rfl rfl ?_;rintro _ _ ⟨rfl,rfl⟩;have l:=c3H h.sch n;rw[a8r]at l ⊢;revert l;cases J:lkD T n with
 | none =>intro l;dsimp only;simp only[T4,rA,rE,X0,Option.getD_none,TD.zero,TD.row,Option.isSome_none,show eqI 0 4=false from rfl,show eqI 0 5=false from rfl];exact wc ⟨_,_,rfl,e _ _,rfl⟩
 | some t =>
  intro l;have l:t.ns.length≤3001:=l;dsimp only;rcases e8 (eqI t.k 4)with h4|h4
  · rw[if_pos h4];rcases e8 (eqI v.kind 4)with h2|h2
    · rw[if_pos h2];simp only[T4,rA,rE,X0,Option.getD_some,TD.row,SD.td,Option.isSome_some,h4,h2];refine wa (I4 t.ns (by omega) v.text _) rfl rfl ?_;rintro _ _ ⟨rfl,rfl⟩;simp only[SS];exact wc ⟨_,_,rfl,e _ _,rfl⟩
    · simp only[T4,rA,rE,X0,Option.getD_some,TD.row,SD.td,Option.isSome_some,h4,h2];exact wc ⟨_,_,rfl,e _ _,rfl⟩
  · rw[h4,if_neg (by decide)];rcases e8 (eqI t.k 5)with h5|h5
    · simp only[T4,rA,rE,X0,Option.getD_some,TD.row,SD.td,Option.isSome_some,h4,h5,y];exact wc ⟨_,_,rfl,e _ _,rfl⟩
    · simp only[T4,rA,rE,X0,Option.getD_some,TD.row,SD.td,Option.isSome_some,h4,h5];exact wc ⟨_,_,rfl,e _ _,rfl⟩
theorem c0O {v tv:AV} (t:v.weak=v∧v.weak1=v∧v.strip=v∧v.stripB=v) (l:tv.weak1=tv∧tv.weak=tv) (so:Nat) (n:List Nat) (st:St):EvQ tbl 19 [.agg [v,.bool true,tv],.ptr so 0,.str n] st (fun a st'=>Gr st st'∧a=.bool true):=by refine wj (fn:=a19) rfl rfl rfl ?_;simp only[K19,rS,rE,p9];exact wc ⟨_,_,rfl,fun i x e=>m3 e,rfl⟩
abbrev E2:=Val×Bool×Int
structure CC where
 so:Nat
 vk:Int
 vn:Int
 vs:List Nat
 vks:List (List Nat)
 vls:List Val
def CC.row (C:CC) (p:Bool):List AV:=[.ptr C.so 0,.int .u8 C.vk,.int .i64 C.vn,.str C.vs,.list false (C.vks.map b9),.list false (C.vls.map Val.row),.bool p]
structure CC.OK (C:CC):Prop where
 ks:C.vks.length≤100000000
 ev:C.vk=6→C.vks.length=C.vls.length
def a4M (k:Int) (ks:List (List Nat)) (n:List Nat):Bool:=eqI k 6 && k9 ks n
theorem c4V (ks:List (List Nat)) (n:List Nat):k9 ks n=(pI (fun x=>eqN n x) ks).isSome:=by
 unfold k9;rw[← b2k];cases pI (fun x=>eqN n x) ks with
 | none=>rfl
 | some i=>show(!ltI (i:Int) 0)=true; rw[ltI_eq]; simp
theorem a7J {k m:Int} {s:List Nat} {ks:List (List Nat)} {ls:List Val} (z:ks.length≤100000000) (y:k=6→ks.length=ls.length) (n:List Nat) (st:St) :
 EvQ tbl 79 [.agg [.int .u8 k,.int .i64 m,.str s,.list false (ks.map b9),.list false (ls.map Val.row)],.str n] st (fun a st'=>st'=st∧a=.tuple [.agg (atK k ks ls n).row,.bool (a4M k ks n)]):=by
 unfold a4M;rw[c4V];refine wj (fn:=a79) rfl rfl rfl ?_;simp only[K79,rS,rE];refine wa (a3J ks z n _) rfl rfl ?_;rintro _ _ ⟨rfl,rfl⟩;unfold atK;cases C:pI (fun x=>eqN n x) ks with
 | none =>simp only[K79,rA,rE,nI,show ltI (-1) 0=true from rfl];refine wc ⟨_,_,rfl,rfl,?_⟩;rw[show(if eqI k 6=true then none else none:Option Val)=none by split<;>rfl,Option.getD_none,Val.none_row];simp only[Option.isSome_none,Bool.and_false];rfl
 | some i =>
  obtain⟨_,_,_,hi⟩:=G6 C;have t:ltI (i:Int) 0=false:=by rw[ltI_eq]; simp
  rcases e8 (eqI k 6)with h6|h6
  · have e:i < ls.length:=by rw[← y (by rw[eqI_eq]at h6; simpa using h6)]; exact hi
    have e2:(ls.map Val.row)[i]?=some (ls[i]).row:=by rw[AU,AE e]; rfl
    have v:ls[i]?=some ls[i]:=AE e;rw[if_pos h6];dsimp only;rw[v];revert e2;generalize ls[i]=u;intro e2;obtain⟨L,M,N,I,J,l⟩:=u.row_cells;rw[Option.getD_some,l];rw[l]at e2;simp only[K79,rA,rE,nI,t,h6,e2];exact wc ⟨_,_,rfl,rfl,by rw[Option.isSome_some]; rfl⟩
  · rw[h6,if_neg (by decide)];simp only[K79,rA,rE,nI,t,h6];refine wc ⟨_,_,rfl,rfl,?_⟩;rw[Option.getD_none,Val.none_row];rfl
def G9 (e:Int):E2:=(Val.none,false,e)
def y9 (r:E2):AV:=.tuple [.agg r.1.row,.bool r.2.1,.int .i64 r.2.2]
def a9C (C:CC) (p b:Bool) (v:Val) (r:E2):E2 :=
 if eqI v.kind 7 && !p then(if a4M C.vk C.vks v.text && eqI (atK C.vk C.vks C.vls v.text).kind 0 && b then G9 9 else(atK C.vk C.vks C.vls v.text,a4M C.vk C.vks v.text,0))else if eqI v.kind 0 then(if b then G9 9 else(v,true,0))else r
def a1h (f:Val→E2) (bang:Bool):List Val→List Val→E2
 | [],acc=>(.mk 5 0 [] [] acc,true,0)
 | x::xs,acc=>if eqI (f x).2.2 0 then(if(f x).2.1 then a1h f bang xs (acc++[(f x).1])else if bang then G9 9 else a1h f bang xs (acc++[Val.none]))else G9 (f x).2.2
def a2T (f:Val→E2) (bang:Bool) (v:Val):E2:=a1h f bang (if eqI v.kind 5 then v.vals else [v]) []
def O2 (C:CC) (p:Bool) (N:List Nat→Val→E2):TRef→Val→E2
 | .base n b,v=>a9C C p b v (N n v)
 | .wrap t b,v=>a9C C p b v (a2T (O2 C p N t) t.bang v)
structure Val.Cz (v:Val):Prop where
 ok:v.OK
 rg:v.Rng
theorem Val.Cz.len {v:Val} (h:v.Cz):v.names.length≤3000∧v.vals.length≤3000:=by have:=h.ok;cases this with|mk k n s ks ls t e l h=>exact⟨e,l⟩
theorem Val.Cz.ev {v:Val} (h:v.Cz):v.kind=6→v.names.length=v.vals.length:=by have:=h.ok;cases this with|mk k n s ks ls e l t h=>exact e
theorem Val.Cz.sub {v:Val} (h:v.Cz):∀ u∈v.vals,u.Cz:=fun u hu=>by obtain⟨e,l⟩:=h;cases e with|mk k n s ks ls t x y e=>cases l with|mk _ _ _ _ _ z l=>exact⟨e u hu,l u hu⟩
theorem Val.Cz.inR {v:Val} (h:v.Cz):-9223372036854775808≤v.num∧v.num≤9223372036854775807:=by have:=h.rg;cases this with|mk k n s ks ls e h=>exact e
theorem Val.Cz.none:Val.none.Cz:=⟨Val.none_ok,.mk _ _ _ _ _ (by decide) (by simp)⟩
theorem b7U (e:List Val) (y:Val) (h:e.length≤3000):((e.map Val.row).length+1)*80≤2 ^ 47:=by rw[AG]; omega
theorem a9j (e:List Val):l5 5 (e.map Val.row)=true:=a0n e
theorem c0d (f:Val→E2) (b:Bool) (l:List Val) (i:Nat) (e:List Val) (h:i < l.length):a1h f b (l.drop i) e=if eqI (f l[i]).2.2 0 then(if(f l[i]).2.1 then a1h f b (l.drop (i+1)) (e++[(f l[i]).1])else if b then G9 9 else a1h f b (l.drop (i+1)) (e++[Val.none]))else G9 (f l[i]).2.2:=by rw[List.drop_eq_getElem_cons h,a1h]
theorem c8I {C:CC} {p:Bool} {G:St→Prop} (f:Val→E2) (T:TRef) (hf:∀ st,G st→∀ x:Val,x.Cz→EvQ tbl 130 [.agg (C.row p),.agg T.row,.agg x.row] st (fun a st'=>G st'∧a=y9 (f x)))
 (st:St) (a0:G st) (v:Val) (hv:v.Cz):EvQ tbl 166 [.agg (C.row p),.agg T.row,.agg v.row] st (fun a st'=>G st'∧a=y9 (a2T f T.bang v)):=by
 unfold CC.row at *
 refine wj (fn:=a166) rfl rfl rfl ?_;have e0:=v.row_eta;have eT:=T.row_eta;rw[eT]at hf ⊢;rw[e0];generalize hn:T.nm=n at *
 generalize ho:T.of=of at *
 generalize hb:T.bang=b at *
 have main:∀ (l:List Val) (v9:AV),(∀ x∈l,x.Cz)→l.length≤3000→a2T f b v=a1h f b l []→WC (fun n'=>obind (a8h (k8 tbl n') n' (a166s13.seq ((ACode.blk 1 (a166s15.seq (a166s17.seq ((ACode.blk 2 a8X).seq a8Z)))).seq a9s))
  [.agg [.ptr C.so 0,.int .u8 C.vk,.int .i64 C.vn,.str C.vs,.list false (C.vks.map b9),.list false (C.vls.map Val.row),.bool p],.agg [.str n,.list false of,.bool b],.agg [.int .u8 v.kind,.int .i64 v.num,.str v.text,.list false (v.names.map b9),.list false (v.vals.map Val.row)],
   .box [.ptr C.so 0,.int .u8 C.vk,.int .i64 C.vn,.str C.vs,.list false (C.vks.map b9),.list false (C.vls.map Val.row),.bool p],.box [.str n,.list false of,.bool b],.box [.int .u8 v.kind,.int .i64 v.num,.str v.text,.list false (v.names.map b9),.list false (v.vals.map Val.row)],
   .box [.int .u8 0,.int .i64 0,.str [],.list true [],.list true []],.bool false,.int .i64 0,v9,.box [.int .u8 5,.int .i64 0,.str [],.list true [],.list true []],.undef,.undef,.undef,.undef,.list false (l.map Val.row),.int .i64 (l.length:Int),.int .i64 0] st)
  (H7 (U3 0 some) (j1 (k8 tbl n') n' (a166s47.seq ACode.ret)))) (fun o=>∃ r st',finK [ResK.bx 6 true 5,ResK.v 7,ResK.v 8] (some o)=some (r,st')∧G st'∧r=y9 (a2T f b v)):=by
  intro l v9 hl a1 u;refine wg (fun mm fr st'=>G st'∧∃ (i:Nat) (t:List Val) (U W Y Z:AV),i≤l.length∧mm=l.length - i∧t.length=i∧a2T f b v=a1h f b (l.drop i) t∧fr=[.agg [.ptr C.so 0,.int .u8 C.vk,.int .i64 C.vn,.str C.vs,.list false (C.vks.map b9),.list false (C.vls.map Val.row),.bool p],.agg [.str n,.list false of,.bool b],.agg [.int .u8 v.kind,.int .i64 v.num,.str v.text,.list false (v.names.map b9),.list false (v.vals.map Val.row)],
   .box [.ptr C.so 0,.int .u8 C.vk,.int .i64 C.vn,.str C.vs,.list false (C.vks.map b9),.list false (C.vls.map Val.row),.bool p],.box [.str n,.list false of,.bool b],.box [.int .u8 v.kind,.int .i64 v.num,.str v.text,.list false (v.names.map b9),.list false (v.vals.map Val.row)],
   .box [.int .u8 0,.int .i64 0,.str [],.list true [],.list true []],.bool false,.int .i64 0,v9,.box [.int .u8 5,.int .i64 0,.str [],.list true [],.list true (t.map Val.row)],U,W,Y,Z,.list false (l.map Val.row),.int .i64 (l.length:Int),.int .i64 i]) (m:=l.length) ⟨a0,0,[],_,_,_,_,Aa _,rfl,rfl,u,rfl⟩ ?_
  rintro mm fr st' ⟨hG,i,t,U,W,Y,Z,hi,rfl,L,u,rfl⟩;simp only[a3g];by_cases z:i < l.length
  rotate_left
  · rw[List.drop_of_length_le (by omega),a1h]at u;simp only[SS,z];refine we ?_;simp only[a3g,rA];refine wc ⟨_,_,rfl,hG,?_⟩;rw[u,y9,Val.row_eq];rfl
  have e2:=a0U z;have N:=hf _ hG _ (hl _ (List.getElem_mem z));rw[c0d f b l i t z]at u;revert e2 u N;generalize l[i]=x;intro u e2 N;rw[x.row_eta]at e2 N;simp only[a3g,rA,rE,z,e2];refine wa N rfl rfl ?_;rintro _ _ ⟨J,rfl⟩;revert u;generalize f x=r;obtain⟨y,ok,e⟩:=r;intro u;dsimp only at u;rw[y9,y.row_eta];dsimp only;have O:((t.map Val.row).length+1)*80≤2 ^ 47:=b7U t y (by omega);have M:=k7 (show i+1 < 2 ^ 63 by omega);rcases e8 (eqI e 0)with he|he
  rotate_left
  · rw[if_neg (by rw[he]; decide)]at u;simp only[a3g,rA,rE,he];refine wh ?_;simp only[SS];refine wc ⟨_,_,rfl,J,?_⟩;rw[u,y9,G9,Val.none_row];rfl
  rw[if_pos he]at u;cases ok with
  | true =>
   rw[if_pos rfl]at u;simp only[a3g,rA,rE,he,a9j,O,M];have I:t.map Val.row++[[.int .u8 y.kind,.int .i64 y.num,.str y.text,.list false (y.names.map b9),.list false (y.vals.map Val.row)]]=(t++[y]).map Val.row:=by rw[AW,AH,AM,y.row_eta]
   rw[I];exact wd (m':=l.length - (i+1)) (by omega) ⟨J,i+1,t++[y],_,_,_,_,z,rfl,by simp[L],u,rfl⟩
  | false =>
   rw[if_neg (by decide)]at u;cases b with
   | true =>rw[if_pos rfl]at u;simp only[a3g,rA,rE,he];refine wh ?_;simp only[SS];refine wc ⟨_,_,rfl,J,?_⟩;rw[u,y9,G9,Val.none_row];rfl
   | false =>
    rw[if_neg (by decide)]at u;simp only[a3g,rA,rE,he,a9j,O,M];have I:t.map Val.row++[[.int .u8 0,.int .i64 0,.str [],.list false [],.list false []]]=(t++[Val.none]).map Val.row:=by rw[AW,AH,AM,Val.none_row]
    rw[I];exact wd (m':=l.length - (i+1)) (by omega) ⟨J,i+1,t++[Val.none],_,_,_,_,z,rfl,by simp[L],u,rfl⟩
 simp only[a3g,rA,rS,rE];refine wi (fun h5=>?_) (fun h5=>?_)
 · simp only[a3g,rA,rL,rE,AG];refine main v.vals _ hv.sub ?_ ?_
   · exact hv.len.2
   · rw[a2T,if_pos h5]
 · simp only[a3g,rA,rL];have:=main [v] (.list true [[.int .u8 v.kind,.int .i64 v.num,.str v.text,.list false (v.names.map b9),.list false (v.vals.map Val.row)]]) (fun x N=>by simp at N; subst N; exact hv) (by simp) (by rw[a2T,h5]; rfl);rw[AH,AM,e0]at this;exact this
theorem b2K {C:CC} (I:C.OK) {p:Bool} {G:St→Prop} (N:List Nat→Val→E2) (T:TRef) (M:∀ st,G st→∀ x:Val,x.Cz→EvQ tbl 167 [.agg (C.row p),.str T.bs,.agg x.row] st (fun a st'=>G st'∧a=y9 (N T.bs x))) :
 ∀ st,G st→∀ v:Val,v.Cz→EvQ tbl 130 [.agg (C.row p),.agg T.row,.agg v.row] st (fun a st'=>G st'∧a=y9 (O2 C p N T v)):=by
 induction T with
 | base n b =>
  intro st e v J;have y:=a7J (m:=C.vn) (s:=C.vs) I.ks I.ev v.text st;have l:=M st e v J;rw[show(TRef.base n b).bs=n from rfl]at l;unfold CC.row at l ⊢;rw[v.row_eta]at l ⊢;rw[show(TRef.base n b).row=[.str n,.list false [],.bool b]from rfl,O2];refine wj (fn:=a130) rfl rfl rfl ?_;simp only[K8,rA,rS,rL,rE];rcases e8 (eqI v.kind 7 && !p)with h7|h7
  · rw[a9C,if_pos h7];obtain⟨x,L⟩:∃ x,atK C.vk C.vks C.vls v.text=x:=⟨_,rfl⟩
    obtain⟨ok,z⟩:∃ ok,a4M C.vk C.vks v.text=ok:=⟨_,rfl⟩
    rw[L,z]at y ⊢;rw[x.row_eta]at y;simp +contextual only [K8,rA,rS,rL,rE,h7];refine wa y rfl rfl ?_;rintro _ _ ⟨rfl,rfl⟩;cases ok with
    | false =>rw[Bool.false_and,Bool.false_and,if_neg (by decide)];simp only[K8,rA,rS,rL,rE,show ∀ b,(false && b)=false from fun _=>rfl];exact wc ⟨_,_,rfl,e,by rw[y9,x.row_eta]; rfl⟩
    | true =>
     rw[Bool.true_and];rcases e8 (eqI x.kind 0)with h0|h0
     · rw[h0,Bool.true_and];cases b with
       | true =>rw[if_pos rfl];simp only[K8,rA,rS,rL,rE,h0];exact wc ⟨_,_,rfl,e,by rw[y9,G9,Val.none_row]; rfl⟩
       | false =>rw[if_neg (by decide)];simp only[K8,rA,rS,rL,rE,h0];exact wc ⟨_,_,rfl,e,by rw[y9,x.row_eta]; rfl⟩
     · rw[h0,Bool.false_and,if_neg (by decide)];simp only[K8,rA,rS,rL,rE,h0];exact wc ⟨_,_,rfl,e,by rw[y9,x.row_eta]; rfl⟩
  rw[a9C,if_neg (by rw[h7]; decide)];simp +contextual only [K8,rA,rS,rL,rE,h7];rcases e8 (eqI v.kind 0)with h0|h0
  · rw[if_pos h0];simp only[K8,rA,rS,rL,rE,h0];cases b with
    | true =>rw[if_pos rfl];simp only[K8,rA,rS,rL,rE];refine wc ⟨_,_,rfl,e,?_⟩;rw[y9,G9,Val.none_row];rfl
    | false =>rw[if_neg (by decide)];simp only[K8,rA,rS,rL,rE];refine wc ⟨_,_,rfl,e,?_⟩;rw[y9,v.row_eta];rfl
  rw[if_neg (by rw[h0]; decide)];simp only[K8,rA,rS,rL,rE,h0,List.length_nil,show ltI 0 (((0:Nat):Int))=false from rfl];refine wa l rfl rfl ?_;rintro _ _ ⟨u,rfl⟩;rw[y9,(N n v).1.row_eta];simp only[K8,rA,rS,rL,rE];exact wc ⟨_,_,rfl,u,rfl⟩
 | wrap t b O =>
  intro st e v J;have y:=a7J (m:=C.vn) (s:=C.vs) I.ks I.ev v.text st;have l:=c8I (O2 C p N t) t (O M) st e v J;rw[t.row_eta]at l;unfold CC.row at l ⊢;rw[v.row_eta]at l ⊢;rw[show(TRef.wrap t b).row=[.str [],.list false [t.row],.bool b]from rfl,O2,t.row_eta];refine wj (fn:=a130) rfl rfl rfl ?_;simp only[K8,rA,rS,rL,rE];rcases e8 (eqI v.kind 7 && !p)with h7|h7
  · rw[a9C,if_pos h7];obtain⟨x,L⟩:∃ x,atK C.vk C.vks C.vls v.text=x:=⟨_,rfl⟩
    obtain⟨ok,z⟩:∃ ok,a4M C.vk C.vks v.text=ok:=⟨_,rfl⟩
    rw[L,z]at y ⊢;rw[x.row_eta]at y;simp +contextual only [K8,rA,rS,rL,rE,h7];refine wa y rfl rfl ?_;rintro _ _ ⟨rfl,rfl⟩;cases ok with
    | false =>rw[Bool.false_and,Bool.false_and,if_neg (by decide)];simp only[K8,rA,rS,rL,rE,show ∀ b,(false && b)=false from fun _=>rfl];exact wc ⟨_,_,rfl,e,by rw[y9,x.row_eta]; rfl⟩
    | true =>
     rw[Bool.true_and];rcases e8 (eqI x.kind 0)with h0|h0
     · rw[h0,Bool.true_and];cases b with
       | true =>rw[if_pos rfl];simp only[K8,rA,rS,rL,rE,h0];exact wc ⟨_,_,rfl,e,by rw[y9,G9,Val.none_row]; rfl⟩
       | false =>rw[if_neg (by decide)];simp only[K8,rA,rS,rL,rE,h0];exact wc ⟨_,_,rfl,e,by rw[y9,x.row_eta]; rfl⟩
     · rw[h0,Bool.false_and,if_neg (by decide)];simp only[K8,rA,rS,rL,rE,h0];exact wc ⟨_,_,rfl,e,by rw[y9,x.row_eta]; rfl⟩
  rw[a9C,if_neg (by rw[h7]; decide)];simp +contextual only [K8,rA,rS,rL,rE,h7];rcases e8 (eqI v.kind 0)with h0|h0
  · rw[if_pos h0];simp only[K8,rA,rS,rL,rE,h0];cases b with
    | true =>rw[if_pos rfl];simp only[K8,rA,rS,rL,rE];refine wc ⟨_,_,rfl,e,?_⟩;rw[y9,G9,Val.none_row];rfl
    | false =>rw[if_neg (by decide)];simp only[K8,rA,rS,rL,rE];refine wc ⟨_,_,rfl,e,?_⟩;rw[y9,v.row_eta];rfl
  rw[if_neg (by rw[h0]; decide)];simp only[K8,rA,rS,rL,rE,h0,AY,List.length_nil,show ltI 0 (((0+1:Nat):Int))=true from rfl,show ltI 0 (((1:Nat):Int))=true from rfl];refine wa l rfl rfl ?_;rintro _ _ ⟨u,rfl⟩;rw[y9,(a2T (O2 C p N t) t.bang v).1.row_eta];simp only[K8,rA,rS,rL,rE];exact wc ⟨_,_,rfl,u,rfl⟩
theorem d2w (n:Int) (e:-9223372036854775808≤n) (l:n≤9223372036854775807) (st:St):EvQ tbl 185 [.int .i64 n,.int .i64 10] st (fun a st'=>st'=st∧a=.str (L0 n)):=by
 have t:EvQ tbl 201 [.int .i64 n,.int .i64 10] st (fun a st'=>st'=st∧a=.str (L0 n)) :=
  EvQ.of_ext (fn:=a201) rfl rfl (by unfold a8F; exact if_pos ⟨e,l⟩) ⟨rfl,rfl⟩
 refine wj (fn:=a185) rfl rfl rfl ?_;simp only[d3W,rS,rE];refine wa t rfl rfl ?_;rintro _ _ ⟨rfl,rfl⟩;simp only[SS];exact wc ⟨_,_,rfl,rfl,rfl⟩
def nsD (T:List SD) (n:List Nat):List (List Nat):=match lkD T n with
 | some t=>t.ns
 | none=>[]
def fsD (T:List SD) (n:List Nat):List FDef:=match lkD T n with
 | some t=>t.fs
 | none=>[]
def a7P (T:List SD) (p:Bool) (fl:Val→E2) (n:List Nat) (v:Val):E2 :=
 if eqN n [73,110,116] && eqI v.kind 1 && eqI v.num (n7 .i64 (n7 .i32 v.num))then(v,true,0)
 else if eqN n [83,116,114,105,110,103] && eqI v.kind 2 then(v,true,0)
 else if eqN n [66,111,111,108,101,97,110] && eqI v.kind 3 then(v,true,0)
 else if eqN n [73,68] && eqI v.kind 2 then(v,true,0)
 else if eqN n [73,68] && eqI v.kind 1 then(.mk 2 0 (L0 v.num) [] [],true,0)
 else if(H2 T n 4 && (eqI v.kind 4 || eqI v.kind 2 && p)) && k9 (nsD T n) v.text then(.mk 4 0 v.text [] [],true,0)
 else if H2 T n 5 && eqI v.kind 6 then((fl v).1,eqI (fl v).2.2 0,(fl v).2.2)
 else G9 8
theorem c6C {T:List SD} {so:Nat} {st:St} (h:SchD T so st) (n:List Nat):EvQ tbl 56 [.ptr so 0,.str n] st (fun a st'=>st'=st∧∃ k nm b,a=.tuple [.agg [.int .u8 k,.str nm,.list false ((fsD T n).map FDef.row),.list false ((nsD T n).map b9)],.bool b]∧eqI k 4=H2 T n 4∧eqI k 5=H2 T n 5):=by
 refine(a5B h.sch n).mono ?_;rintro a st' ⟨rfl,rfl⟩;refine⟨rfl,?_⟩;rw[a8r];unfold H2 fsD nsD;cases lkD T n with
 | none=>exact⟨0,[],false,rfl,rfl,rfl⟩
 | some t=>exact⟨t.k,t.n,true,rfl,rfl,rfl⟩
theorem c4v {T:List SD} {so:Nat} {st:St} (h:SchD T so st) (n:List Nat):(nsD T n).length≤3001:=by
 unfold nsD;cases e:lkD T n with
 | none=>simp
 | some t=>exact h.sch.ok t.td (List.mem_map_of_mem (a6f e))
theorem c5T {T:List SD} {so:Nat} {st:St} (h:SchD T so st) (n:List Nat):(fsD T n).length≤3000:=by
 unfold fsD;cases e:lkD T n with
 | none=>simp
 | some t=>exact h.fs t (a6f e)
theorem b4m {T:List SD} {C:CC} {p:Bool} {G:St→Prop} (y:∀ st,G st→SchD T C.so st) {st:St} (e:G st) (n:List Nat) (v:Val) (M:v.Cz) (fl:Val→E2)
 (x:H2 T n 5=true→∀ st,G st→EvQ tbl 175 [.agg (C.row p),.list false ((fsD T n).map FDef.row),.agg v.row] st (fun a st'=>G st'∧∃ s,a=.tuple [.agg (fl v).1.row,.str s,.int .i64 (fl v).2.2])) :
 EvQ tbl 167 [.agg (C.row p),.str n,.agg v.row] st (fun a st'=>G st'∧a=y9 (a7P T p fl n v)):=by
 have z:=M.inR;unfold CC.row at *
 rw[v.row_eta]at *
 refine wj (fn:=a167) rfl rfl rfl ?_;simp +contextual only [T3,rA,rS,rE];refine wa (c6C (y _ e) n) rfl rfl ?_;rintro _ _ ⟨rfl,k,nm,b,rfl,N,I⟩;have L:=c4v (y _ e) n;unfold a7P;simp +contextual only [T3,rA,rE];rcases e8 (eqN n [73,110,116] && eqI v.kind 1 && eqI v.num (n7 .i64 (n7 .i32 v.num)))with c|c
 · rw[if_pos c];simp +contextual -implicitDefEqProofs only [T3,rA,c];refine wc ⟨_,_,rfl,e,?_⟩;rw[y9,v.row_eta];rfl
 rw[c,if_neg (by decide)];simp +contextual -implicitDefEqProofs only [T3,rE];rcases e8 (eqN n [83,116,114,105,110,103] && eqI v.kind 2)with c|c
 · rw[if_pos c];simp +contextual -implicitDefEqProofs only [T3,rA,c];refine wc ⟨_,_,rfl,e,?_⟩;rw[y9,v.row_eta];rfl
 rw[c,if_neg (by decide)];simp +contextual -implicitDefEqProofs only [T3,rE];rcases e8 (eqN n [66,111,111,108,101,97,110] && eqI v.kind 3)with c|c
 · rw[if_pos c];simp +contextual only [T3,rA,c];refine wc ⟨_,_,rfl,e,?_⟩;rw[y9,v.row_eta];rfl
 rw[c,if_neg (by decide)];simp +contextual only [T3,rE];rcases e8 (eqN n [73,68] && eqI v.kind 2)with c|c
 · rw[if_pos c];simp +contextual only [T3,rA,c];refine wc ⟨_,_,rfl,e,?_⟩;rw[y9,v.row_eta];rfl
 rw[c,if_neg (by decide)];simp +contextual only [T3,rE];rcases e8 (eqN n [73,68] && eqI v.kind 1)with c|c
 · rw[if_pos c];simp +contextual only [T3,rA,rL,rE,c];refine wa (d2w v.num z.1 z.2 _) rfl rfl ?_;rintro _ _ ⟨rfl,rfl⟩;simp +contextual only [SS,rA];refine wc ⟨_,_,rfl,e,?_⟩;rw[y9,Val.row_eq];rfl
 rw[c,if_neg (by decide)];simp +contextual only [T3,rE];rw[← N,← I];rw[← I]at x;refine wo (fun l=>?_) (fun l=>?_)
 · simp +contextual only [SS,l];refine wa (I4 (nsD T n) (by omega) v.text _) rfl rfl ?_;rintro _ _ ⟨rfl,rfl⟩;have t:eqI k 4=true:=by simp only[AA]at l; exact l.1
   have u:eqI k 5=false:=by rw[show k=4 by rw[eqI_eq]at t; simpa using t]; rfl
   simp +contextual only [SS];rcases e8 (k9 (nsD T n) v.text)with cs|cs
   · rw[if_pos cs];simp +contextual only [T3,rA,rL,rE,cs];refine wc ⟨_,_,rfl,e,?_⟩;rw[y9,Val.row_eq];rfl
   · rw[cs,if_neg (by decide),u,Bool.false_and,if_neg (by decide)];simp +contextual only [T3,rA,rE,u];refine wc ⟨_,_,rfl,e,?_⟩;rw[y9,G9,Val.none_row];rfl
 · have l:(eqI k 4 && (eqI v.kind 4 || eqI v.kind 2 && p))=false:=by simpa using l
   rw[l,Bool.false_and,if_neg (by decide)];simp +contextual only [T3,rE];rcases e8 (eqI k 5 && eqI v.kind 6)with c5|c5
   · have J:eqI k 5=true:=by simp only[AA]at c5; exact c5.1
     rw[if_pos c5];simp +contextual only [T3,rA,rE,c5];refine wa (x J _ e) rfl rfl ?_;rintro _ _ ⟨e,s,rfl⟩;rw[(fl v).1.row_eta];simp +contextual only [T3,rA,rE];refine wc ⟨_,_,rfl,e,?_⟩;rw[y9,(fl v).1.row_eta];rfl
   · rw[c5,if_neg (by decide)];simp +contextual only [T3,rA];refine wc ⟨_,_,rfl,e,?_⟩;rw[y9,G9,Val.none_row];rfl
def a3l (F:List FDef) (k:List Nat):Bool:=F.any fun f=>eqN f.n k
theorem d03 (f:FDef) (k:List Nat) {o:Nat} {st:St} (h:st[o]?=some (.cells [.str k])):EvQ tbl 195 [.agg f.row,.ptr o 0] st (fun a st'=>st'=st∧a=.bool (eqN f.n k)):=by rw[FDef.row];refine wj (fn:=a195) rfl rfl rfl ?_;simp only[d45,rS,rE,h];exact wc ⟨_,_,rfl,rfl,rfl⟩
theorem d0a (F:List FDef) (v:F.length≤3000) (k:List Nat) {o:Nat} {st:St} (h:st[o]?=some (.cells [.str k])):EvQ tbl 180 [.list false (F.map FDef.row),.func 195 [] [.ptr o 0]] st (fun a st'=>st'=st∧∃ i,a=.int .i64 i∧ltI i 0=!a3l F k):=by
 refine wj (fn:=a180) rfl rfl rfl ?_;simp only[a9k,rS,AG];refine wg (fun u fr st'=>st'=st∧∃ (i:Nat) (v3:AV),i≤F.length∧u=F.length - i∧a3l F k=a3l (F.drop i) k∧fr=[.list false (F.map FDef.row),.func 195 [] [.ptr o 0],.int .i64 0,v3,.int .i64 F.length,.int .i64 i]) (m:=F.length) ⟨rfl,0,_,Aa _,rfl,by simp,rfl⟩ ?_;rintro u fr st' ⟨rfl,i,v3,hi,rfl,l,rfl⟩;simp only[a9k];by_cases e:i < F.length
 rotate_left
 · rw[List.drop_of_length_le (by omega)]at l;simp only[SS,e];refine we ?_;simp only[a9k];exact wc ⟨_,_,rfl,rfl,_,rfl,by rw[l]; rfl⟩
 have e2:(F.map FDef.row)[i]?=some (F[i]).row:=by rw[AU,AE e]; rfl
 have t:=d03 F[i] k h;rw[List.drop_eq_getElem_cons e]at l;simp only[a3l,List.any_cons]at l;revert e2 l t;generalize F[i]=f;intro l e2 t;rw[FDef.row]at e2 t;simp only[a9k,rA,rE,e,e2];refine wl t rfl rfl ?_;rintro _ _ ⟨rfl,rfl⟩;rcases e8 (eqN f.n k)with hx|hx
 · simp only[a9k,hx];refine wh ?_;simp only[SS];exact wc ⟨_,_,rfl,rfl,_,rfl,by unfold a3l; rw[l,hx,ltI_eq]; simp⟩
 · simp only[a9k,hx,k7 (show i+1 < 2 ^ 63 by omega)];exact wd (m':=F.length - (i+1)) (by omega) ⟨rfl,i+1,_,e,rfl,by unfold a3l; rw[l,hx,Bool.false_or],rfl⟩
theorem c6s (F:List FDef) (e:F.length≤3000) (k:List Nat) {o:Nat} {st:St} (h:st[o]?=some (.cells [.str k])):EvQ tbl 147 [.list false (F.map FDef.row),.func 195 [] [.ptr o 0]] st (fun a st'=>st'=st∧a=.bool (a3l F k)):=by refine wj (fn:=a147) rfl rfl rfl ?_;simp only[d4R,rS,rE];refine wa (d0a F e k h) rfl rfl ?_;rintro _ _ ⟨rfl,i,rfl,hi⟩;simp only[SS,hi,Bool.not_not];exact wc ⟨_,_,rfl,rfl,rfl⟩
theorem a5O {st:St} {o:Nat} (h:o < st.length) (x:Cb.Obj):(st.set o x)[o]?=some x:=List.getElem?_set_self h
theorem a8a {o:Nat} {st:St} {ks:List (List Nat)} {ls:List Val} (h:st[o]?=some (E8 ks ls)) (n:List Nat) (x:Val) (t:ks.length≤3000) (u:ls.length≤3000) :
 EvQ tbl 82 [.ptr o 0,.str n,.agg x.row] st (fun a st'=>st'=st.set o (E8 (ks++[n]) (ls++[x]))):=by
 have e:o < st.length:=(AB.1 h).1;have l:(ks++[n]).map b9=ks.map b9++[[.str n]]:=by rw[AW]; rfl
 have e2:(ls++[x]).map Val.row=ls.map Val.row++[[.int .u8 x.kind,.int .i64 x.num,.str x.text,.list false (x.names.map b9),.list false (x.vals.map Val.row)]]:=by rw[AW,AH,AM,x.row_eta]
 unfold E8 at *
 rw[x.row_eta,l,e2];have g1:((ks.map b9).length+1)*16≤2 ^ 47:=by rw[AG]; omega
 have g2:((ls.map Val.row).length+1)*80≤2 ^ 47:=by rw[AG]; omega
 refine wj (fn:=a82) rfl rfl rfl ?_;simp only[K82,rA,rS,rL,rE,h,c7A,a5O e,a4t,a9j,g1,g2,List.set_set];refine wc ⟨_,_,rfl,rfl⟩
def a4o (F:List FDef) (seen:List (List Nat)):List (List Nat)→Int
 | []=>0
 | k::ks=>if k9 seen k then 7 else if a3l F k then a4o F (seen++[k]) ks else 6
theorem c56 (F:List FDef) (K:List (List Nat)) (i:Nat) (h:i < K.length):a4o F (K.take i) (K.drop i)=if k9 (K.take i) K[i]then 7 else if a3l F K[i]then a4o F (K.take (i+1)) (K.drop (i+1))else 6:=by rw[List.drop_eq_getElem_cons h,a4o,List.take_add_one,AE h];rfl
def CC.zero (so:Nat):CC:=⟨so,0,0,[],[],[]⟩
theorem CC.zero_ok (so:Nat):(CC.zero so).OK:=⟨by simp[CC.zero],fun h=>by simp[CC.zero]at h⟩
def a9c (C:CC) (N:Bool→List Nat→Val→E2) (f:FDef) (e:E2):E2:=if eqI e.2.2 0 && !e.2.1 && f.has then O2 (CC.zero C.so) false (N false) f.t f.v else e
def a4k (C:CC) (N:Bool→List Nat→Val→E2) (p:Bool) (f:FDef) (v:Val):E2:=a9c C N f (if a4M v.kind v.names f.n then O2 C p (N p) f.t (atK v.kind v.names v.vals f.n)else(Val.none,false,0))
def goF (C:CC) (N:Bool→List Nat→Val→E2) (p:Bool) (v:Val):List FDef→List (List Nat)→List Val→E2
 | [],ks,ls=>(.mk 6 0 [] ks ls,true,0)
 | f::F,ks,ls=>if eqI (a4k C N p f v).2.2 0 then(if(a4k C N p f v).2.1 then goF C N p v F (ks++[f.n]) (ls++[(a4k C N p f v).1])else if f.t.bang then G9 9 else goF C N p v F ks ls)else G9 (a4k C N p f v).2.2
def J7 (C:CC) (N:Bool→List Nat→Val→E2) (F:List FDef) (p:Bool) (v:Val):E2:=if eqI (a4o F [] v.names) 0 then goF C N p v F [] []else G9 (a4o F [] v.names)
theorem b4D (st:St) (a b:Cb.Obj):(st++[a]).set st.length b=st++[b]:=by simp
theorem a5D {st st2:St} (h:Gr st st2) {o:Nat} (e:st.length≤o) (x:Cb.Obj):Gr st (st2.set o x):=fun i y hi=>by rw[List.getElem?_set_ne (by have:=(AB.1 hi).1; omega)];exact h i y hi
theorem a2f (st:St) (a:Cb.Obj):(st++[a])[st.length]?=some a:=by simp
theorem d3b {v:Val} (h:v.Cz) (n:List Nat):(atK v.kind v.names v.vals n).Cz:=by
 unfold atK;split
 · cases pI (fun x=>eqN n x) v.names with
   | none=>exact Val.Cz.none
   | some i =>
    dsimp only;cases hi:v.vals[i]? with
    | none=>exact Val.Cz.none
    | some u=>exact h.sub u (List.mem_of_getElem? hi)
 · exact Val.Cz.none
theorem b0m {T:List SD} {C:CC} (N:Bool→List Nat→Val→E2) (F:List FDef) (b6:F.length≤3000) (a2:∀ f∈F,f.v.Cz)
 (hV:∀ f∈F,∀ (D:CC) (p:Bool),(D=C∨D=CC.zero C.so)→∀ st,SchD T C.so st→∀ x:Val,x.Cz→EvQ tbl 130 [.agg (D.row p),.agg f.t.row,.agg x.row] st (fun a st'=>st'=st∧a=y9 (O2 D p (N p) f.t x)))
 (p:Bool) {st:St} (Z:SchD T C.so st) (v:Val) (hv:v.Cz) :
 EvQ tbl 175 [.agg (C.row p),.list false (F.map FDef.row),.agg v.row] st (fun a st'=>Gr st st'∧∃ s,a=.tuple [.agg (J7 C N F p v).1.row,.str s,.int .i64 (J7 C N F p v).2.2]):=by
 have b8:=hv.ev;have c4:=hv.len;have hg:=fun n st=>a7J (k:=v.kind) (m:=v.num) (s:=v.text) (ks:=v.names) (ls:=v.vals) (by omega) b8 n st
 have b7:=d3b hv;unfold J7;generalize hK:v.names=K at *
 rw[v.row_eta,hK];unfold CC.row;refine wj (fn:=a175) rfl rfl rfl ?_;simp only[B9,rS,AG];refine wg (fun mm fr st'=>Gr st st'∧∃ (i:Nat) (v8 v9:AV),i≤K.length∧mm=K.length - i∧a4o F [] K=a4o F (K.take i) (K.drop i)∧fr=[.agg [.ptr C.so 0,.int .u8 C.vk,.int .i64 C.vn,.str C.vs,.list false (C.vks.map b9),.list false (C.vls.map Val.row),.bool p],.list false (F.map FDef.row),.agg [.int .u8 v.kind,.int .i64 v.num,.str v.text,.list false (K.map b9),.list false (v.vals.map Val.row)],
  .box [.ptr C.so 0,.int .u8 C.vk,.int .i64 C.vn,.str C.vs,.list false (C.vks.map b9),.list false (C.vls.map Val.row),.bool p],.box [.int .u8 v.kind,.int .i64 v.num,.str v.text,.list false (K.map b9),.list false (v.vals.map Val.row)],.box [.int .u8 0,.int .i64 0,.str [],.list true [],.list true []],.str [],.int .i64 0,v8,v9,.undef,.undef,.undef,.undef,.undef,.list false (K.map b9),.int .i64 K.length,.int .i64 i,.undef,.undef,.undef]) (m:=K.length) ⟨Gr.refl _,0,_,_,Aa _,rfl,rfl,rfl⟩ ?_
 rintro mm fr st' ⟨hS,i,v8,v9,hi,rfl,l,rfl⟩;simp only[B9];by_cases z:i < K.length
 · have e2:=a0A z;rw[c56 F K i z]at l;revert e2 l;generalize K[i]=k;intro l e2;have U:Gr st (st'++[.cells [.str k]]):=fun i x hx=>m3 (hS i x hx)
   have a7:=I4 (K.take i) (by rw[AP]; omega) k (st'++[.cells [.str k]]);rw[List.map_take]at a7;have c0:i≤K.length:=hi;simp only[B9,rE,z,e2,a2f,b4D,AG,c0,a4t];refine wa a7 rfl rfl ?_;rintro _ _ ⟨rfl,rfl⟩;rcases e8 (k9 (K.take i) k)with c1|c1
   · rw[if_pos c1]at l;simp only[B9,rA,rE,c1,a2f];refine wh ?_;simp only[SS];refine wc ⟨_,_,rfl,U,k,?_⟩;rw[l,show eqI 7 0=false from rfl,if_neg (by decide),G9,Val.none_row];rfl
   rw[if_neg (by rw[c1]; decide)]at l;simp only[B9,rE,c1];refine wa (c6s F b6 k (a2f _ _)) rfl rfl ?_;rintro _ _ ⟨rfl,rfl⟩;rcases e8 (a3l F k)with c2|c2
   · rw[if_pos c2]at l;simp only[B9,c2,k7 (show i+1 < 2 ^ 63 by omega)];exact wd (m':=K.length - (i+1)) (by omega) ⟨U,i+1,_,_,z,rfl,l,rfl⟩
   · rw[if_neg (by rw[c2]; decide)]at l;simp only[B9,rA,rE,c2,a2f];refine wh ?_;simp only[SS];refine wc ⟨_,_,rfl,U,k,?_⟩;rw[l,show eqI 6 0=false from rfl,if_neg (by decide),G9,Val.none_row];rfl
 · rw[List.drop_of_length_le (show K.length≤i by omega),a4o]at l;rw[l,show eqI 0 0=true from rfl,if_pos rfl];simp only[SS,z];refine we ?_;simp only[B9,rA,rL,a2f,b4D,AG];generalize a5:AV.int .i64 (i:Int)=a1;generalize Y:st'.length=o;have ho:st.length≤o:=by rw[← Y]; exact hS.len
   have a4:Gr st (st'++[E8 [] []])∧(st'++[E8 [] []])[o]?=some (E8 [] []):=⟨fun i x hx=>m3 (hS i x hx),by rw[← Y]; exact a2f _ _⟩;generalize hR:goF C N p v F [] []=R;have a6:R=goF C N p v (F.drop 0) [] []:=hR.symm;refine wg (fun mm fr st'=>∃ (i:Nat) (ks:List (List Nat)) (ls:List Val) (v8 v9 b3 v12 b4 b5 a1:AV),(Gr st st'∧st'[o]?=some (E8 ks ls))∧i≤F.length∧mm=F.length - i∧ks.length≤i∧ls.length≤i∧R=goF C N p v (F.drop i) ks ls∧fr=[.agg [.ptr C.so 0,.int .u8 C.vk,.int .i64 C.vn,.str C.vs,.list false (C.vks.map b9),.list false (C.vls.map Val.row),.bool p],.list false (F.map FDef.row),.agg [.int .u8 v.kind,.int .i64 v.num,.str v.text,.list false (K.map b9),.list false (v.vals.map Val.row)],
    .box [.ptr C.so 0,.int .u8 C.vk,.int .i64 C.vn,.str C.vs,.list false (C.vks.map b9),.list false (C.vls.map Val.row),.bool p],.box [.int .u8 v.kind,.int .i64 v.num,.str v.text,.list false (K.map b9),.list false (v.vals.map Val.row)],.box [.int .u8 0,.int .i64 0,.str [],.list true [],.list true []],.str [],.int .i64 0,v8,v9,.ptr o 0,b3,v12,b4,b5,.list false (K.map b9),.int .i64 K.length,a1,.list false (F.map FDef.row),.int .i64 F.length,.int .i64 i]) (m:=F.length) ⟨0,[],[],_,_,_,_,_,_,_,a4,Aa _,rfl,AK _,AK _,a6,rfl⟩ ?_
   clear a6 a4 a5 l Y z hi hR;clear i;rintro mm fr st2 ⟨i,ks,ls,v8,v9,b3,v12,b4,b5,a1,u,hi,rfl,c6,c7,l,rfl⟩;simp only[B9];by_cases z:i < F.length
   rotate_left
   · rw[List.drop_of_length_le (show F.length≤i by omega),goF]at l;have b0:=u.2;unfold E8 at b0;simp only[SS,z];refine we ?_;simp only[B9,rA,b0];refine wc ⟨_,_,rfl,u.1,[],?_⟩;rw[l,Val.row_eq];rfl
   have I:=k7 (show i+1 < 2 ^ 63 by omega);have W:F[i]∈F:=List.getElem_mem z;have e2:(F.map FDef.row)[i]?=some (F[i]).row:=by rw[AU,AE z]; rfl
   rw[List.drop_eq_getElem_cons z,goF]at l;revert e2 l W;generalize F[i]=f;intro l W e2;rw[FDef.row]at e2;obtain⟨x,hx⟩:∃ x,atK v.kind K v.vals f.n=x:=⟨_,rfl⟩
   obtain⟨b2,b1⟩:∃ b,a4M v.kind K f.n=b:=⟨_,rfl⟩
   have c3:x.Cz:=hx ▸ b7 f.n;have M:a4k C N p f v=a9c C N f (if b2=true then O2 C p (N p) f.t x else(Val.none,false,0)):=by rw[a4k,hK,b1,hx]
   have a9:=hg f.n st2;rw[hx,b1,x.row_eta]at a9;simp only[B9,rA,rE,z,e2];refine wa a9 rfl rfl ?_;rintro _ _ ⟨rfl,rfl⟩;cases b2 with
   | false =>
    rw[if_neg (by decide)]at M;rw[M]at l;simp only[B9,rA,rE];rcases e8 f.has with hd|hd
    · rw[show a9c C N f (Val.none,false,0)=O2 (CC.zero C.so) false (N false) f.t f.v from if_pos (by rw[hd]; rfl)]at l;have L:=hV f W (CC.zero C.so) false (.inr rfl) _ (Z.gr u.1) f.v (a2 f W);rw[show(CC.zero C.so).row false=[.ptr C.so 0,.int .u8 0,.int .i64 0,.str [],.list false [],.list false [],.bool false]from rfl]at L;rw[f.v.row_eta,f.t.row_eta]at L;simp +contextual only [B9,rA,rL,rE,show(eqI 0 0 && f.has)=true by rw[hd]; rfl];refine wa L rfl rfl ?_;rintro _ _ ⟨rfl,rfl⟩;revert l;generalize O2 (CC.zero C.so) false (N false) f.t f.v=r;obtain⟨O,a0,e2⟩:=r;intro l;dsimp only at l;rw[y9,Val.row_eta O];dsimp only;simp only[B9,rA,rE];rcases e8 (eqI e2 0)with he|he
      rotate_left
      · rw[if_neg (by rw[he]; decide)]at l;simp only[B9,rA,rE,he];refine wh ?_;simp only[SS];refine wc ⟨_,_,rfl,u.1,f.n,?_⟩;rw[l,G9,Val.none_row];rfl
      rw[if_pos he]at l;cases a0 with
      | true =>rw[if_pos rfl]at l;simp only[B9,rA,rE,he];have J:=a8a u.2 f.n O (by omega) (by omega);rw[Val.row_eta O]at J;refine wa J rfl rfl ?_;rintro _ _ rfl;simp only[B9,I];exact wd (m':=F.length - (i+1)) (by omega) ⟨i+1,ks++[f.n],ls++[O],_,_,_,_,_,_,_,⟨a5D u.1 ho _,a5O (AB.1 u.2).1 _⟩,z,rfl,by simp; omega,by simp; omega,l,rfl⟩
      | false =>
       rw[if_neg (by decide)]at l;rcases e8 f.t.bang with hb|hb
       · rw[if_pos hb]at l;simp only[B9,rA,rE,he,hb];refine wh ?_;simp only[SS];refine wc ⟨_,_,rfl,u.1,f.n,?_⟩;rw[l,G9,Val.none_row];rfl
       · rw[if_neg (by rw[hb]; decide)]at l;simp only[B9,rA,rE,he,hb,I];exact wd (m':=F.length - (i+1)) (by omega) ⟨i+1,ks,ls,_,_,_,_,_,_,_,u,z,rfl,by omega,by omega,l,rfl⟩
    · rw[show a9c C N f (Val.none,false,0)=(Val.none,false,0)from if_neg (by dsimp only; rw[hd]; decide)]at l;dsimp only at l;rw[if_pos (show eqI 0 0=true from rfl),if_neg (by decide)]at l;simp only[B9,rA,rE,hd,show eqI 0 0=true from rfl];rcases e8 f.t.bang with hb|hb
      · rw[if_pos hb]at l;simp only[B9,rA,rE,hb];refine wh ?_;simp only[SS];refine wc ⟨_,_,rfl,u.1,f.n,?_⟩;rw[l,G9,Val.none_row];rfl
      · rw[if_neg (by rw[hb]; decide)]at l;simp only[B9,hb,I];exact wd (m':=F.length - (i+1)) (by omega) ⟨i+1,ks,ls,_,_,_,_,_,_,_,u,z,rfl,by omega,by omega,l,rfl⟩
   | true =>
    rw[if_pos rfl]at M;rw[M]at l;have L:=hV f W C p (.inl rfl) _ (Z.gr u.1) x c3;unfold CC.row at L;rw[x.row_eta,f.t.row_eta]at L;simp only[B9,rA,rL,rE];refine wa L rfl rfl ?_;rintro _ _ ⟨rfl,rfl⟩;revert l;generalize O2 C p (N p) f.t x=r;obtain⟨y,ok,e⟩:=r;intro l;rw[y9,y.row_eta];dsimp only;simp only[B9,rA,rE];rcases e8 (eqI e 0 && !ok && f.has)with hd|hd
    · rw[show a9c C N f (y,ok,e)=O2 (CC.zero C.so) false (N false) f.t f.v from if_pos hd]at l;have L:=hV f W (CC.zero C.so) false (.inr rfl) _ (Z.gr u.1) f.v (a2 f W);rw[show(CC.zero C.so).row false=[.ptr C.so 0,.int .u8 0,.int .i64 0,.str [],.list false [],.list false [],.bool false]from rfl]at L;rw[f.v.row_eta,f.t.row_eta]at L;simp +contextual only [B9,rA,rL,rE,hd];refine wa L rfl rfl ?_;rintro _ _ ⟨rfl,rfl⟩;revert l;generalize O2 (CC.zero C.so) false (N false) f.t f.v=r;obtain⟨O,a0,e2⟩:=r;intro l;dsimp only at l;rw[y9,Val.row_eta O];dsimp only;simp only[B9,rA,rE];rcases e8 (eqI e2 0)with he|he
      rotate_left
      · rw[if_neg (by rw[he]; decide)]at l;simp only[B9,rA,rE,he];refine wh ?_;simp only[SS];refine wc ⟨_,_,rfl,u.1,f.n,?_⟩;rw[l,G9,Val.none_row];rfl
      rw[if_pos he]at l;cases a0 with
      | true =>rw[if_pos rfl]at l;simp only[B9,rA,rE,he];have J:=a8a u.2 f.n O (by omega) (by omega);rw[Val.row_eta O]at J;refine wa J rfl rfl ?_;rintro _ _ rfl;simp only[B9,I];exact wd (m':=F.length - (i+1)) (by omega) ⟨i+1,ks++[f.n],ls++[O],_,_,_,_,_,_,_,⟨a5D u.1 ho _,a5O (AB.1 u.2).1 _⟩,z,rfl,by simp; omega,by simp; omega,l,rfl⟩
      | false =>
       rw[if_neg (by decide)]at l;rcases e8 f.t.bang with hb|hb
       · rw[if_pos hb]at l;simp only[B9,rA,rE,he,hb];refine wh ?_;simp only[SS];refine wc ⟨_,_,rfl,u.1,f.n,?_⟩;rw[l,G9,Val.none_row];rfl
       · rw[if_neg (by rw[hb]; decide)]at l;simp only[B9,rA,rE,he,hb,I];exact wd (m':=F.length - (i+1)) (by omega) ⟨i+1,ks,ls,_,_,_,_,_,_,_,u,z,rfl,by omega,by omega,l,rfl⟩
    · rw[show a9c C N f (y,ok,e)=(y,ok,e)from if_neg (by dsimp only; rw[hd]; decide)]at l;dsimp only at l;simp +contextual only [B9,rE,hd];rcases e8 (eqI e 0)with he|he
      rotate_left
      · rw[if_neg (by rw[he]; decide)]at l;simp only[B9,rA,rE,he];refine wh ?_;simp only[SS];refine wc ⟨_,_,rfl,u.1,f.n,?_⟩;rw[l,G9,Val.none_row];rfl
      rw[if_pos he]at l;cases ok with
      | true =>rw[if_pos rfl]at l;simp only[B9,rA,rE,he];have J:=a8a u.2 f.n y (by omega) (by omega);rw[Val.row_eta y]at J;refine wa J rfl rfl ?_;rintro _ _ rfl;simp only[B9,I];exact wd (m':=F.length - (i+1)) (by omega) ⟨i+1,ks++[f.n],ls++[y],_,_,_,_,_,_,_,⟨a5D u.1 ho _,a5O (AB.1 u.2).1 _⟩,z,rfl,by simp; omega,by simp; omega,l,rfl⟩
      | false =>
       rw[if_neg (by decide)]at l;rcases e8 f.t.bang with hb|hb
       · rw[if_pos hb]at l;simp only[B9,rA,rE,he,hb];refine wh ?_;simp only[SS];refine wc ⟨_,_,rfl,u.1,f.n,?_⟩;rw[l,G9,Val.none_row];rfl
       · rw[if_neg (by rw[hb]; decide)]at l;simp only[B9,rA,rE,he,hb,I];exact wd (m':=F.length - (i+1)) (by omega) ⟨i+1,ks,ls,_,_,_,_,_,_,_,u,z,rfl,by omega,by omega,l,rfl⟩
def S0 (T:List SD) (p:Bool):List Nat→Val→E2:=a7P T p fun _=>G9 8
theorem a7u {T:List SD} {C:CC} (u:C.OK) (t:TRef) (v:H2 T t.bs 5=false) (p:Bool):∀ st,SchD T C.so st→∀ x:Val,x.Cz→EvQ tbl 130 [.agg (C.row p),.agg t.row,.agg x.row] st (fun a st'=>st'=st∧a=y9 (O2 C p (S0 T p) t x)) :=
 fun st l x z=>b2K u (G:=fun s=>s=st) (S0 T p) t (fun st' e y I=>by subst e;exact b4m (G:=fun s=>s=st') (fun s e=>e ▸ l) rfl t.bs y I _ (fun h=>by rw[v]at h; cases h)) st rfl x z
def a1N (as:List Arg):Val:=.mk 6 0 [] (as.map Arg.n) (as.map Arg.v)
theorem c0V {as:List Arg} (e:ArgsOK as) (t:∀ a∈as,a.v.Rng):(a1N as).Cz:=by
 refine⟨.mk _ _ _ _ _ (fun _=>by simp) (by rw[AG]; exact e.1) (by rw[AG]; exact e.1) fun v l=>?_,.mk _ _ _ _ _ (by decide) fun v l=>?_⟩
 · obtain⟨a,h,rfl⟩:=List.mem_map.1 l; exact e.2 a h
 · obtain⟨a,h,rfl⟩:=List.mem_map.1 l; exact t a h
theorem d0S {T:List SD} {C:CC} (hC:C.OK) {F:List FDef} (O:F.length≤3000) (U:∀ f∈F,f.v.Cz) (y:∀ f∈F,H2 T f.t.bs 5=false) {st:St} (l:SchD T C.so st) {f:FDef} (W:f.ar=F.map FDef.row) {as:List Arg} (ha:ArgsOK as) (hr:∀ a∈as,a.v.Rng) :
 EvQ tbl 135 [.ptr C.so 0,.agg f.row,.list false (as.map Arg.row),.agg [.int .u8 C.vk,.int .i64 C.vn,.str C.vs,.list false (C.vks.map b9),.list false (C.vls.map Val.row)]] st (fun a st'=>Gr st st'∧∃ s,a=.tuple [.agg (J7 C (S0 T) F false (a1N as)).1.row,.str s,.int .i64 (J7 C (S0 T) F false (a1N as)).2.2]):=by
 have Y:=c0V ha hr;have a0:=ha.1;have J:=fun(st':St) (z:Gr st st')=>b0m (C:=C) (S0 T) F O U (fun f hf D p hD st l x M=>by
  rcases hD with rfl|rfl
  · exact a7u hC f.t (y f hf) p st l x M
  · exact a7u (CC.zero_ok _) f.t (y f hf) p st l x M) false (l.gr z) (a1N as) Y
 generalize J7 C (S0 T) F false (a1N as)=R at *
 have u:(a1N as).row=[.int .u8 6,.int .i64 0,.str [],.list false ((as.map Arg.n).map b9),.list false ((as.map Arg.v).map Val.row)]:=Val.row_eq _ _ _ _ _;rw[u]at J;unfold CC.row at J;rw[FDef.row,W];refine wj (fn:=a135) rfl rfl rfl ?_;simp only[b2t,rA,rS,rL,p9,V4,AG];have h0:(st++[E8 [] []])[st.length]?=some (E8 [] []):=p9 _ _;refine wg (fun mm fr st'=>∃ (i:Nat) (L:AV),Gr st st'∧st'[st.length]?=some (E8 ((as.take i).map Arg.n) ((as.take i).map Arg.v))∧i≤as.length∧mm=as.length - i ∧
  fr=[.ptr C.so 0,.agg [.str f.n,.list false (F.map FDef.row),.str f.t.nm,.list false f.t.of,.bool f.t.bang,.bool f.has,.int .u8 f.v.kind,.int .i64 f.v.num,.str f.v.text,.list false (f.v.names.map b9),.list false (f.v.vals.map Val.row)],.list false (as.map Arg.row),.agg [.int .u8 C.vk,.int .i64 C.vn,.str C.vs,.list false (C.vks.map b9),.list false (C.vls.map Val.row)],
   .box [.str f.n,.list false (F.map FDef.row),.str f.t.nm,.list false f.t.of,.bool f.t.bang,.bool f.has,.int .u8 f.v.kind,.int .i64 f.v.num,.str f.v.text,.list false (f.v.names.map b9),.list false (f.v.vals.map Val.row)],.box [.int .u8 C.vk,.int .i64 C.vn,.str C.vs,.list false (C.vks.map b9),.list false (C.vls.map Val.row)],.box [.int .u8 0,.int .i64 0,.str [],.list true [],.list true []],.str [],.int .i64 0,.ptr st.length 0,L,.list false (as.map Arg.row),.int .i64 as.length,.int .i64 i]) (m:=as.length) ⟨0,_,fun i x M=>m3 M,h0,Aa _,rfl,rfl⟩ ?_
 rintro mm fr st1 ⟨i,L,z,I,hi,rfl,rfl⟩;simp only[b2t];by_cases e:i < as.length
 · have e2:(as.map Arg.row)[i]?=some (as[i]).row:=by rw[AU,AE e]; rfl
   have N:as.take (i+1)=as.take i++[as[i]]:=by rw[List.take_add_one,AE e]; rfl
   have hl:(as.take i).length≤3000:=by rw[AP]; omega
   revert e2 N;generalize as[i]=a;intro e2 N;rw[Arg.row,a.v.row_eta]at e2;have hp:=a8a I a.n a.v (by rw[AG]; exact hl) (by rw[AG]; exact hl);rw[a.v.row_eta]at hp;simp only[b2t,rA,rE,e,e2];refine wa hp rfl rfl ?_;rintro _ _ rfl;simp only[b2t,k7 (show i+1 < 2 ^ 63 by omega)];refine wd (m':=as.length - (i+1)) (by omega) ⟨i+1,_,a5D z (AK _) _,?_,e,rfl,rfl⟩
   rw[a5O (AB.1 I).1,N,AW,AW];rfl
 · rw[List.take_of_length_le (by omega)]at I;have J:=J st1 z;unfold E8 at I;simp only[SS,e];refine we ?_;simp only[b2t,rA,rL,rE,I];refine wa J rfl rfl ?_;rintro _ st2 ⟨Z,s,rfl⟩;rw[R.1.row_eta];simp only[SS,rA];exact wc ⟨_,_,rfl,z.trans Z,s,rfl⟩
theorem a8N (C:CC) (N:Bool→List Nat→Val→E2) (p:Bool) (v:Val):∀ (F:List FDef) (ks:List (List Nat)) (ls:List Val),ks.length=ls.length→(goF C N p v F ks ls).1.names.length=(goF C N p v F ks ls).1.vals.length∧(goF C N p v F ks ls).1.names.length≤ks.length+F.length
 | [],ks,ls,h=>by rw[goF]; exact⟨h,Nat.le_add_right _ _⟩
 | f::F,ks,ls,h=>by
  unfold goF;split
  · split
    · have:=a8N C N p v F (ks++[f.n]) (ls++[(a4k C N p f v).1]) (by simp[h]);refine⟨this.1,Nat.le_trans this.2 ?_⟩;simp; omega
    · split
      · exact⟨rfl,Aa _⟩
      · have:=a8N C N p v F ks ls h;refine⟨this.1,Nat.le_trans this.2 ?_⟩;simp
  · exact⟨rfl,Aa _⟩
theorem b3D (C:CC) (N:Bool→List Nat→Val→E2) (F:List FDef) (p:Bool) (v:Val):(J7 C N F p v).1.names.length=(J7 C N F p v).1.vals.length∧(J7 C N F p v).1.names.length≤F.length:=by
 unfold J7;split
 · have:=a8N C N p v F [] [] rfl;exact⟨this.1,by simpa using this.2⟩
 · exact⟨rfl,Aa _⟩
end Go.Cb.CodeA
namespace Go.Cb.CodeA
open Go Go.Cb
theorem FRun.sizes {K:Cfg} {l:List Sel} {s:List (List Nat)} {F:List Sel} {s':List (List Nat)} (h:FRun K l s F s'):Go.Cb.CodeA.sizes F+j7 K.frags s'≤Go.Cb.CodeA.sizes l+j7 K.frags s:=by
 induction h with
 | nil s=>exact AK _
 | skipC _ _ t=>rw[m0]; omega
 | fieldC _ _ _ t=>rw[m0,m0]; omega
 | noneC _ _ _ _ _ t=>rw[m0]; omega
 | @otherC k al nm on as ds sub l s C F i f a b c d e g z _ t =>obtain⟨x,u,v,_⟩:=G6 d;have:=N3 s nm g K.frags i f e (by rw[e]at u; cases u; exact v);rw[m0]; omega
 | @spreadC k al nm on as ds sub l s C F i f J I a b c d e g z _ _ t y =>obtain⟨x,u,v,_⟩:=G6 d;have:=N3 s nm g K.frags i f e (by rw[e]at u; cases u; exact v);rw[m0,a1R]; omega
 | inNoC _ _ _ _ _ t=>rw[m0]; omega
 | inlC _ _ _ _ _ _ t y=>rw[m0,a1R,I1]; omega
theorem FRun.all {K:Cfg} {P:Sel→Prop} (v:∀ k al nm on as ds sub,P (.mk k al nm on as ds sub)→∀ x∈sub,P x) (y:∀ f∈K.frags,∀ x∈f.sub,P x) {l:List Sel} {s:List (List Nat)} {F:List Sel} {s':List (List Nat)} (h:FRun K l s F s'):(∀ x∈l,P x)→∀ x∈F,P x:=by
 induction h with
 | nil s=>exact fun h=>h
 | skipC _ _ t=>exact fun h=>t fun x hx=>h x (by simp[hx])
 | fieldC _ _ _ t =>
  intro h x hx;rcases List.mem_cons.1 hx with rfl|hx
  · exact h _ (by simp)
  · exact t (fun x hx=>h x (by simp[hx])) x hx
 | noneC _ _ _ _ _ t=>exact fun h=>t fun x hx=>h x (by simp[hx])
 | otherC _ _ _ _ _ _ _ _ t=>exact fun h=>t fun x hx=>h x (by simp[hx])
 | spreadC _ _ _ _ e _ _ _ _ t u =>
  intro h x hx;rcases AQ.1 hx with hx|hx
  · exact t (y _ (List.mem_of_getElem? e)) x hx
  · exact u (fun x hx=>h x (by simp[hx])) x hx
 | inNoC _ _ _ _ _ t=>exact fun h=>t fun x hx=>h x (by simp[hx])
 | inlC _ _ _ _ _ _ t u =>
  intro h x hx;rcases AQ.1 hx with hx|hx
  · exact t (v _ _ _ _ _ _ _ (h _ (List.mem_cons_self ..))) x hx
  · exact u (fun x hx=>h x (by simp[hx])) x hx
theorem b6T:∀ (F:List Sel) (k:List Nat),k∈X8 F→∃ x∈F,D4 x=k:=by
 refine a3C (by simp[X8]) fun F y t=>?_
 intro k hk;rw[a0C]at hk;split at hk
 · obtain⟨x,e,l⟩:=t k hk; exact⟨x,by simp[e],l⟩
 · rcases AQ.1 hk with hk|hk
   · obtain⟨x,e,l⟩:=t k hk; exact⟨x,by simp[e],l⟩
   · simp at hk; exact⟨y,by simp,hk.symm⟩
theorem b8N:∀ F:List Sel,(X8 F).length≤F.length:=by
 refine a3C (by simp[X8]) fun F y e=>?_
 rw[a0C];split
 · simp; omega
 · simp; omega
theorem a5q (p:Sel→Bool):∀ F:List Sel,sizes (F.filter p)≤sizes F
 | []=>AK _
 | x::F=>by
  have:=a5q p F;rw[List.filter_cons,m0];split
  · rw[m0]; omega
  · omega
theorem c1Y {F:List Sel} {g:List Nat×List Sel} (e:g∈a0E F):g.2≠[]∧(∀ x∈g.2,x∈F)∧sizes g.2≤sizes F:=by rw[b3Q]at e;obtain⟨k,u,rfl⟩:=List.mem_map.1 e;obtain⟨x,l,t⟩:=b6T F k u;refine⟨?_,fun y v=>(List.mem_filter.1 v).1,a5q _ _⟩;have:x∈a1X F k:=List.mem_filter.2 ⟨l,(t7 _ _).2 t.symm⟩;exact List.ne_nil_of_mem this
theorem b3n (F:List Sel):(a0E F).length≤F.length:=by rw[b3Q,AG]; exact b8N F
noncomputable def a5w (K:Cfg) (l:List Sel):List (List Nat×List Sel):=by classical exact if h:∃ F s',FRun K l [] F s' then a0E h.choose else []
theorem b3I {K:Cfg} {l F:List Sel} {s':List (List Nat)} (h:FRun K l [] F s'):a5w K l=a0E F:=by
 unfold a5w;have e:∃ F s',FRun K l [] F s':=⟨F,s',h⟩
 rw[dif_pos e];obtain⟨u,t⟩:=e.choose_spec;rw[(h.det t).1]
theorem a8w (K:Cfg) (l:List Sel):(∃ F s',FRun K l [] F s'∧a5w K l=a0E F)∨a5w K l=[]:=by
 by_cases e:∃ F s',FRun K l [] F s'
 · obtain⟨F,s',h⟩:=e;exact .inl ⟨F,s',h,b3I h⟩
 · right;unfold a5w;rw[dif_neg e]
structure Cfg.Fit (K:Cfg):Prop where
 ok:K.OK
 un:j7 K.frags []≤2001
 rg:∀ f∈K.frags,∀ x∈f.sub,x.Rg
theorem Sel.OK.sub_ok:∀ k al nm on as ds sub,Sel.OK (.mk k al nm on as ds sub)→∀ x∈sub,Sel.OK x:=fun _ _ _ _ _ _ _ h=>a8A h
theorem Sel.Rg.sub_rg:∀ k al nm on as ds sub,Sel.Rg (.mk k al nm on as ds sub)→∀ x∈sub,Sel.Rg x:=fun _ _ _ _ _ _ _ h=>by cases h; assumption
theorem c8Q {K:Cfg} (u:K.Fit) {N:Nat} {l:List Sel} (v:SelX N l):∀ g∈a5w K l,g.2≠[]∧SelX (N+2001) g.2:=fun g t=>by
 rcases a8w K l with⟨F,s',h,e⟩|e
 · rw[e]at t;obtain⟨C,z,L⟩:=c1Y t;have M:=h.sizes;have hu:=u.un;have J:=v.sz;refine⟨C,fun x y=>h.all (P:=Sel.OK) Sel.OK.sub_ok (fun f I=>(u.ok.frags.2 f I).2) v.ok x (z x y),fun x y=>h.all (P:=Sel.Rg) Sel.Rg.sub_rg u.rg v.rg x (z x y),by omega⟩
 · rw[e]at t; cases t
theorem b99 {K:Cfg} (t:K.Fit) {N:Nat} {l:List Sel} (u:SelX N l):(a5w K l).length≤N+2001:=by
 rcases a8w K l with⟨F,s',h,e⟩|e
 · rw[e];have x:=b3n F;have y:=h.size.1;have hu:=t.un;have v:=u.sz;omega
 · rw[e]; exact Aa _
def J0 (T:List SD) (n:List Nat):List (List Nat):=a0q (T.map SD.td) n
def Cfg.cc (K:Cfg):CC:=⟨K.so,K.vk,K.vn,K.vs,K.vks,K.vls⟩
def idF:FDef:=⟨idN,[],.base [73,68] true,false,Val.none⟩
noncomputable def mkE (T:List SD) (K:Cfg) (es:List Ent) (v tv:AV):REnv where
 so:=K.so
 ops:=K.ops
 frs:=K.frags.map Frag.row
 es:=es
 v:=v
 whole:=true
 tv:=tv
 vk:=K.vk
 vn:=K.vn
 vs:=K.vs
 vks:=K.vks.map b9
 vls:=K.vls.map Val.row
 fld:=a7j T
 grp:=fun typ l=>a5w { K with typ:=typ } l
 poss:=J0 T
 leaf:=b6O T
 fits:=b5u T
 knows:=fun _=>true
 args:=fun _ as=>((J7 K.cc (S0 T) [idF] false (a1N as)).1,(J7 K.cc (S0 T) [idF] false (a1N as)).2.2)
theorem Gr.pre {B st:St} (h:Gr B st):∀ i x,i < B.length→B[i]?=some x→st[i]?=some x:=fun i x _ e=>h i x e
theorem b7v {T:List SD} {K:Cfg} {es:List Ent} {v tv:AV} {B:St} (z:SchD T K.so B) (t:K.Fit) (J:K.poss=J0 T) (O:∀ n,(J0 T n).length≤10000) (hQ:∀ n f,a7j T H4 n=some f→f.ar.isEmpty=false→f.ar=[idF.row]) (hI:H2 T [73,68] 5=false)
 (W:EntsAt v es B) (hs:F5 es) (u:es.length≤1000) (hg:∀ e∈es,a3o e) (U:tv.weak1=tv∧tv.plain=true∧tv.weak=tv):(mkE T K es v tv).OK B where
 ents:=W
 sorted:=hs
 esl:=u
 good:=hg
 tvw:=U
 fld:=fun st h typ n=>c6F (z.gr h) typ n
 grp:=fun st h typ l u=>by
  have a1:=u.sz;have a0:=a2Z l;have hu:=t.un;refine(c1R (K:={ K with typ:=typ }) ⟨t.ok.ks,t.ok.ev,t.ok.frags,t.ok.poss⟩ l ⟨by omega,u.ok⟩ (show sizes l+j7 K.frags []≤_ by omega) st ?_).mono ?_
  · intro n st' I;have L:SchD T K.so st':=(z.gr h).gr fun i x Y=>I i x (AB.1 Y).1 Y
    have:=b1B L.sch n;rw[show({ K with typ:=typ }:Cfg).poss=J0 T from J];exact this
  · rintro a st' ⟨h1,F,s',out,gs,h2,h3,h4,h5⟩;exact⟨h1,out,gs,h3,h4,by rw[h5]; exact(b3I h2).symm⟩
 grpx:=fun typ l N u=>c8Q (K:={ K with typ:=typ }) ⟨⟨t.ok.ks,t.ok.ev,t.ok.frags,t.ok.poss⟩,t.un,t.rg⟩ u
 grpl:=fun typ l u=>Nat.le_trans (b99 (K:={ K with typ:=typ }) ⟨⟨t.ok.ks,t.ok.ev,t.ok.frags,t.ok.poss⟩,t.un,t.rg⟩ u) (by decide)
 poss:=fun st h n=>b1B (z.gr h).sch n
 possl:=fun n=>Nat.le_trans (O n) (by decide)
 leaf:=fun st h n=>c77 (z.gr h) n
 fits:=fun st h n v hv=>c74 (z.gr h) n hv
 knows:=fun st h n=>by obtain⟨Z,y2,y3,y4,y5,y6,y7⟩:=W.wk;exact c0O (by first|exact⟨y2,Z,y3,y4⟩|exact⟨Z,y2,y3,y4⟩) ⟨U.1,U.2.2⟩ K.so n st
 args:=fun st h n f y M as ha hr=>d0S (C:=K.cc) ⟨Nat.le_trans t.ok.ks (by decide),t.ok.ev⟩ (F:=[idF]) (by decide) (fun f y=>by simp at y; subst y; exact Val.Cz.none) (fun f y=>by simp at y; subst y; exact hI) (z.gr h) (hQ n f y M) ha hr
 argsx:=fun f as=>by have h:=b3D K.cc (S0 T) [idF] false (a1N as);exact⟨Nat.le_trans h.2 (by decide),fun _=>h.1⟩
end Go.Cb.CodeA
namespace Go.Cb.CodeA
open Go Go.Cb
open Nat renaming reduceAdd→rA,reduceSub→rS,reduceLeDiff→rL,reduceEqDiff→rE
attribute [local congr] g9 j3 j4 j5 i8 j0 j8 j9 V.runR_congr
theorem b0Q {E:REnv} {B:St} (e:E.OK B):∀ n,b2c E B n
 | 0=>fun h=>fun _ _ _ _ _ l=>absurd h.le (by omega)
 | n+1=>c1T e (b0Q e n) (b0p e (b0Q e n))
noncomputable def a2v (E:REnv) (sub:List Sel):a9B:=I2 E (valF E 5002) H4 Ent.none [] (E.grp H4 sub) [] [] ⟨[],false,0⟩
noncomputable def a0O (E:REnv) (sub:List Sel):Int×Val×List (Pth×Int):=if(a2v E sub).2.steps > 5000 then(2,Val.none,[])else if(a2v E sub).2.part then(11,Val.none,[])else(0,(a2v E sub).1.1,(a2v E sub).2.ps)
def ProbAt (pv:AV) (ps:List (Pth×Int)) (st:St):Prop:=(ps=[]∧(pv=.nils∨pv=.list false []))∨∃ o,pv=.sl o 0 ps.length 2∧st[o]?=some (.cells (H5 ps))
theorem ProbAt.gr {pv:AV} {ps:List (Pth×Int)} {st st':St} (h:ProbAt pv ps st) (t:Gr st st'):ProbAt pv ps st':=by
 rcases h with h|⟨o,e,l⟩
 · exact .inl h
 · exact .inr ⟨o,e,t _ _ l⟩
theorem PAt.prob {b:Nat} {pv:AV} {ps:List (Pth×Int)} {st:St} (h:PAt b pv ps st):ProbAt pv ps st:=by
 rcases h with⟨rfl,rfl⟩|⟨o,_,e,l⟩
 · exact .inl ⟨rfl,.inl rfl⟩
 · exact .inr ⟨o,e,l⟩
theorem ProbAt.wk {pv:AV} {ps:List (Pth×Int)} {st:St} (h:ProbAt pv ps st):pv.weak=pv∧pv.weak1=pv∧pv.strip=pv∧pv.stripB=pv∧pv.plain=true∧pv.cells=[pv]∧pv.cellsW=[pv]:=by rcases h with⟨_,rfl|rfl⟩|⟨o,rfl,_⟩<;>exact⟨rfl,rfl,rfl,rfl,rfl,rfl,rfl⟩
def a1G (e:Int) (d:Val) (pv:AV):AV:=.agg [.int .i64 e,.int .u8 d.kind,.int .i64 d.num,.str d.text,.list false (d.names.map b9),.list false (d.vals.map Val.row),pv]
def c8P (R:Int×Val×List (Pth×Int)) (st:St) (a:AV) (st':St):Prop:=Gr st st'∧∃ pv,a=a1G R.1 R.2.1 pv∧ProbAt pv R.2.2 st'∧R.2.2.length≤100000∧∀ x∈R.2.2,x.1.length≤100000
theorem gtI (a b:Int):ltI b a=decide (a > b):=ltI_eq _ _
theorem c4l {E:REnv} {B:St} (O:∀ W,Gr B W→E.OK W) {V:List (List AV)} {nm:List Nat} {sub:List Sel} (N:SelX 2001 sub) {name:List Nat} {whole:Bool} (hw:E.whole=whole)
 (hc:EvQ tbl 37 [.agg [.list false E.ops,.list false E.frs],.str name] B (fun a st'=>Gr B st'∧a=.tuple [.agg [.bool false,.str nm,.list false V,.list false (sub.map Sel.row)],.int .i64 0]))
 {gk gn:Int} {gs:List Nat} {gks gls:List (List AV)} (hv:∀ st,Gr B st→EvQ tbl 38 [.ptr E.so 0,.list false V,.agg [.int .u8 gk,.int .i64 gn,.str gs,.list false gks,.list false gls]] st (fun a st'=>Gr st st'∧∃ w,a=.tuple [.agg [.int .u8 E.vk,.int .i64 E.vn,.str E.vs,.list false E.vks,.list false E.vls],.str w,.int .i64 0])) :
 EvQ tbl 17 [.ptr E.so 0,.agg [E.v,.bool E.whole,E.tv],.agg [.list false E.ops,.list false E.frs],.str name,.agg [.int .u8 gk,.int .i64 gn,.str gs,.list false gks,.list false gls]] B (c8P (a0O E sub) B):=by
 obtain⟨t1,t2,t3⟩:=(O B (Gr.refl _)).tvw;obtain⟨y1,y2,y3,y4,y5,y6,y7⟩:=(O B (Gr.refl _)).ents.wk;have I:eqI 0 0=true:=rfl;refine wj (fn:=a17) rfl rfl rfl ?_;simp only[K17,rA,rS,rE];refine wa hc rfl rfl ?_;rintro _ st1 ⟨L,rfl⟩;simp only[K17,rA,rE,I];refine wa (hv st1 L) rfl rfl ?_;rintro _ st2 ⟨T,w,rfl⟩;have Y:=L.trans T;have J:=O st2 Y;have M:RunAt E st2 ⟨[],false,0⟩ .nils (st2++[.cells (H9 E ⟨[],false,0⟩ .nils)]):=⟨p9 _ _,.inl ⟨rfl,rfl⟩,Gr.app _ _,by decide,by simp⟩;have e:=b0p J (b0Q J 5002) M (typ:=H4) (x:=Ent.none) (l:=sub) (path:=[]) ⟨rfl,by decide,by simp[Ent.none]⟩ N (AK _) (AK _) (by decide);unfold H4 at e;rw[show Ent.none.row=[.str [],.str [],.list false [],.list false []]from rfl,AM]at e;have hR:I2 E (valF E 5002) [81,117,101,114,121] Ent.none [] (E.grp [81,117,101,114,121] sub) [] [] ⟨[],false,0⟩=a2v E sub:=rfl;rw[hR]at e;unfold a0O;revert e;generalize a2v E sub=r;obtain⟨⟨d,ok⟩,s⟩:=r;intro e;unfold H9 at e;dsimp only at e ⊢;simp only[K17,rA,rL,rE,I,t1,y2];refine wa e rfl rfl ?_;rintro _ U ⟨pv,rfl,C⟩;have y:Gr B U:=fun i x hx=>C.run.gr _ _ (Y i x hx)
 have t:=C.run.ob;have z:=C.run.pr.prob;obtain⟨w1,Z,w3,w4,w5,w6,w7⟩:=z.wk;unfold H9 at t;dsimp only at t z;rw[d.row_eta];simp only[K17,rA,rE,t,gtI];rcases e8 (decide ((s.steps:Int) > 5000))with h1|h1
 · have u:s.steps > 5000:=by simp at h1; omega
   rw[if_pos u];simp only[K17,rA,rL,h1];exact wc ⟨_,_,rfl,y,_,rfl,.inl ⟨rfl,.inr rfl⟩,Aa _,by simp⟩
 have u:¬ s.steps > 5000:=by simp at h1; omega
 rw[if_neg u];simp only[K17,rE,h1,t];rcases e8 s.part with h2|h2
 · rw[if_pos h2];simp only[K17,rA,rL,h2];exact wc ⟨_,_,rfl,y,_,rfl,.inl ⟨rfl,.inr rfl⟩,Aa _,by simp⟩
 rw[h2,if_neg (by decide)];simp only[K17,rA,rL,rE,h2,t,w1,Z,w4,w5,w6];refine wc ⟨_,_,rfl,y,pv,?_,z,by have h1:=C.few; have h2:=C.run.le; dsimp only at h1 h2 ⊢; omega,C.run.pl⟩;show AV.agg [.int .i64 0,.int .u8 d.kind,.int .i64 d.num,.str d.text,.list false (d.names.map b9),.list false (d.vals.map Val.row),pv.weak1]=_;rw[Z];rfl
end Go.Cb.CodeA
