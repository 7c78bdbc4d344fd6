import GoSem.Core.Sem
import GoSem.Dispatch
set_option linter.all false
namespace Go.Cb
theorem AA (a b:Bool):((a&&b)=true)=(a=true∧b=true):=Bool.and_eq_true a b
theorem AB {α:Type _} {i:Nat} {a:α} {l:List α}:l[i]?=some a↔∃ h:i<l.length,l[i]=a:=List.getElem?_eq_some_iff
theorem AC {α:Type _} (a b:α):(some a=some b)=(a=b):=Option.some.injEq a b
theorem AD {α:Type _} {l:List α} {i:Nat} (h:i<l.length):l[i]?=some l[i]:=List.getElem?_eq_getElem h
theorem AE {α:Type _} {as bs:List α}:(as++bs).length=as.length+bs.length:=List.length_append
theorem AF {α:Type _} {β:Type _} {as:List α} (f:α→β):(List.map f as).length=as.length:=List.length_map f
theorem AG {α:Type _} {β:Type _} {f:α→β} {a:α} {l:List α}:List.map f (a::l)=f a::List.map f l:=rfl
theorem AH {α:Type _} {β:Type _} (a:α) (b:β) (c:α) (d:β):((a,b)=(c,d))=(a=c∧b=d):=Prod.mk.injEq a b c d
theorem AJ (n:Nat):n≤n:=Nat.le_refl n
theorem AK {α:Type _} {b:α} {α_1:Type _} {x:Option α_1} {f:α_1→α}:Option.map f x=some b↔∃ a,x=some a∧f a=b:=Option.map_eq_some_iff
theorem AL {α:Type _} {β:Type _} {f:α→β}:List.map f []=[]:=rfl
theorem AM {α:Type _} (a:α) (b:List α) (c:α) (d:List α):(a::b=c::d)=(a=c∧b=d):=List.cons.injEq a b c d
theorem AN {α:Type _} {β:Type _} (a:α) (f:α→β):Option.map f (some a)=some (f a):=rfl
theorem AO {α:Type _} {i:Nat} {l:List α}:(List.take i l).length=min i l.length:=List.length_take
theorem AP {α:Type _} {a:α} {s t:List α}:a∈s++t↔a∈s∨a∈t:=List.mem_append
theorem AQ {α:Type _} {β:Type _} {f:α→β} {l:List α} {i:Nat}:(List.map f l)[i]?=Option.map f l[i]?:=List.getElem?_map
theorem AT {α:Type _} {β:Type _} {f:α→β} {l₁ l₂:List α}:List.map f (l₁++l₂)=List.map f l₁++List.map f l₂:=List.map_append
theorem AU {α:Type _} (as bs cs:List α):as++bs++cs=as++(bs++cs):=List.append_assoc as bs cs
theorem AX {a b:Prop} (x:a) (y:b):a∧b:=And.intro x y
inductive AV where
 | undef
 | bool (b:Bool)
 | int (k:IntKind) (n:Int)
 | str (s:List Nat)
 | list (own:Bool) (xs:List (List AV))
 | ptr (o off:Nat)
 | nilp
 | ro (cs:List AV)
 | loc (i off:Nat)
 | box (cs:List AV)
 | map (o:Nat)
 | nilm
 | func (f:Nat) (first caps:List AV)
 | nilf
 | agg (cs:List AV)
 | tuple (vs:List AV)
 | iface (t:Nat) (v:AV)
 | nili
 | sl (o f n sz:Nat)
 | fresh (xs:List (List AV))
 | nils
 deriving Inhabited
inductive Obj where
 | cells (cs:List AV)
 | map (es:List (AV×AV))
 | dead
 deriving Inhabited
abbrev St:=List Obj
def AV.weak1:AV→AV
 | .list _ xs=>.list false xs
 | v=>v
def AV.weak:AV→AV
 | .list _ xs=>.list false xs
 | .agg cs=>.agg (cs.map AV.weak1)
 | v=>v
def AV.cells:AV→List AV
 | .agg cs=>cs
 | v=>[v]
def AV.cellsW:AV→List AV
 | .agg cs=>cs
 | .list o xs=>[.list (o && xs.isEmpty) xs]
 | v=>[v]
def AV.cellW1:AV→AV
 | .list o xs=>.list (o && xs.isEmpty) xs
 | v=>v
def AV.plain:AV→Bool
 | .undef=>false
 | .loc ..=>false
 | .box _=>false
 | .tuple _=>false
 | .fresh _=>false
 | _=>true
def m4:List AV→Bool
 | []=>true
 | a::as=>a.plain && m4 as
inductive Opd where
 | t (s:Nat)|ts (s:Nat)
 | v (i:Nat)|vs (i:Nat)
 | l (i:Nat)
 | c (a:AV)
 deriving Inhabited
inductive Kind where
 | mv|pick|nilchk
 | alloc (zero:List AV)|allocO (zero:List AV)
 | boxV|boxO
 | build (zero:List AV) (offs:List (Nat×Nat))
 | bslice (sz:Nat) (zero:List (List AV)) (at_:List Nat)
 | bsliceM (sz:Nat) (zero:List (List AV)) (at_:List Nat)
 | bsliceO (sz:Nat) (zero:List (List AV)) (at_:List Nat)
 | min2|stuck
 | eqIS (neg:Bool)
 | ldLc (i:Nat) (agg:Bool) (n:Nat)|ldSt (agg:Bool) (n:Nat)|ldRo (agg:Bool) (n:Nat)
 | ldAn (agg:Bool) (n:Nat)
 | ldLcS (i:Nat)|ldStS
 | ldStR (agg:Bool) (n:Nat)|ldStSR (off:Nat)|stStA (n:Nat)|callA (f m:Nat)
 | stLc (i n:Nat)|stSt (n:Nat)
 | fad (off:Nat)
 | fld (off n:Nat) (agg:Bool)
 | iad (sz:Nat)
 | iadA (len sz:Nat)
 | idxS
 | slS (lo hi:Bool)
 | slL (sz:Nat) (lo hi:Bool)
 | slZ
 | slA (len sz:Nat) (lo hi:Bool)
 | bin (op:BinOp)
 | binB (op:BinOp)
 | binP (op:BinOp)
 | un (op:UnOp)
 | conv (k:IntKind)
 | mkF (f nfirst:Nat)
 | mkM
 | mget (kc:Nat) (zero:List AV) (agg ok:Bool)
 | mset (kc:Nat)
 | ext (i:Nat)
 | call (f:Nat)
 | callV
 | lenS|lenL
 | app (sz bytes:Nat)
 | appM (sz bytes:Nat)
 | b2s
 | appA (bytes:Nat)
 deriving Inhabited
inductive Dst where
 | none|t (s:Nat)|v (i:Nat)|bx
 deriving Inhabited
structure AOper where
 dst:Dst
 kind:Kind
 args:List Opd
 box:Option Nat:=.none
 guard:Option (Opd×Bool):=.none
 deriving Inhabited
inductive ACode where
 | skip
 | reg (kill:List Nat) (ops:List AOper)
 | test (kill:List Nat) (ops:List AOper) (c:Opd) (a b:ACode)
 | seq (a b:ACode)
 | blk (id:Nat) (a:ACode)
 | loop (a:ACode)
 | either (kill:List Nat) (a b:ACode)
 | exit (id:Nat)
 | ret
 deriving Inhabited
inductive ResK where
 | v (i:Nat)|vs (i:Nat)|bx (i:Nat) (agg:Bool) (n:Nat)|po (i:Nat) (agg:Bool) (n:Nat)
 deriving Inhabited
structure AFn where
 np:Nat
 nv:Nat
 results:List ResK
 code:ACode
 ext:Option (List AV→St→Option (AV×St)):=none
 deriving Inhabited
structure Sig where
 fr:List AV
 τ:Nat→AV
 st:St
def fN {α:Type} (m:Nat) (k:Nat→α):α :=
 match m with
 | .zero=>k .zero
 | .succ n=>k (.succ n)
def fI {α:Type} (n:Int) (k:Int→α):α :=
 match n with
 | .ofNat m=>fN m fun m=>k (.ofNat m)
 | .negSucc m=>fN m fun m=>k (.negSucc m)
def fL {α β:Type} (l:List α) (k:List α→β):β :=
 match l with
 | []=>k []
 | a::l=>fL l fun l=>k (a::l)
def fLN {β:Type} (l:List Nat) (k:List Nat→β):β :=
 match l with
 | []=>k []
 | a::l=>fN a fun a=>fLN l fun l=>k (a::l)
def fV {α:Type} (v:AV) (k:AV→α):α :=
 match v with
 | .undef=>k .undef
 | .bool b=>match b with|true=>k (.bool true)|false=>k (.bool false)
 | .int t n=>k (.int t n)
 | .str s=>k (.str s)
 | .list o xs=>match o with|true=>k (.list true xs)|false=>k (.list false xs)
 | .ptr o f=>k (.ptr o f)
 | .nilp=>k .nilp
 | .ro cs=>k (.ro cs)
 | .loc i f=>k (.loc i f)
 | .box cs=>k (.box cs)
 | .map o=>k (.map o)
 | .nilm=>k .nilm
 | .func f a b=>k (.func f a b)
 | .nilf=>k .nilf
 | .agg cs=>k (.agg cs)
 | .tuple vs=>k (.tuple vs)
 | .iface t v=>k (.iface t v)
 | .nili=>k .nili
 | .sl o f n s=>k (.sl o f n s)
 | .fresh xs=>k (.fresh xs)
 | .nils=>k .nils
def a2c {α:Type} (v:AV) (k:AV→α):α :=
 match v with
 | .int t n=>fI n fun n=>k (.int t n)
 | .str s=>fLN s fun s=>k (.str s)
 | .list o xs=>fL xs fun xs=>fV (.list o xs) k
 | .fresh xs=>fL xs fun xs=>k (.fresh xs)
 | .ptr o f=>fN o fun o=>fN f fun f=>k (.ptr o f)
 | .loc o f=>fN o fun o=>fN f fun f=>k (.loc o f)
 | .box cs=>fL cs fun cs=>k (.box cs)
 | .agg cs=>fL cs fun cs=>k (.agg cs)
 | .ro cs=>fL cs fun cs=>k (.ro cs)
 | .map o=>fN o fun o=>k (.map o)
 | .sl o f n s=>fN o fun o=>fN f fun f=>fN n fun n=>k (.sl o f n s)
 | v=>fV v k
abbrev d8:=Nat→List AV→St→Option (AV×St)
def n6 (cs:List AV) (off:Nat) (new:List AV):List AV:=cs.take off++new++cs.drop (off+new.length)
def u9:List (Nat×Nat)→List AV→List AV→Option (List AV)
 | [],[],cs=>some cs
 | (off,n)::offs,p::ps,cs=>if p.plain=true∧p.cells.length=n∧off+n≤cs.length then u9 offs ps (n6 cs off p.cells)else none
 | _,_,_=>none
def r9 (j:Nat):List Nat→List AV→List (List AV)→Option (List (List AV))
 | [],[],rs=>some rs
 | i::is,p::ps,rs=>if p.plain=true∧p.cells.length=j∧i < rs.length then r9 j is ps (rs.set i (p.cells.map AV.weak1))else none
 | _,_,_=>none
def m7 (j:Nat):List Nat→List AV→List (List AV)→Option (List (List AV))
 | [],[],rs=>some rs
 | i::is,p::ps,rs=>if p.plain=true∧p.cells.length=j∧i < rs.length then m7 j is ps (rs.set i (p.cells.map AV.cellW1))else none
 | _,_,_=>none
def m2 (i:Nat):List (List AV)→Bool
 | []=>true
 | r::_=>r.length == i
def i8 (agg:Bool) (n:Nat) (cs:List AV):Option AV :=
 if agg then(if n≤cs.length then some (.agg ((cs.take n).map AV.weak1))else none)
 else match cs with
  | c::_=>some c.weak1
  | []=>none
def B2 (k:IntKind) (n:Int):Int :=
 match k,n with
 | .i64,.ofNat m=>if Nat.blt m 9223372036854775808 then .ofNat m else k.wrap n
 | .i64,.negSucc m=>if Nat.blt m 9223372036854775808 then .negSucc m else k.wrap n
 | .u8,.ofNat m=>if Nat.blt m 256 then .ofNat m else k.wrap n
 | .u64,.ofNat m=>if Nat.blt m 18446744073709551616 then .ofNat m else k.wrap n
 | .i32,.ofNat m=>if Nat.blt m 2147483648 then .ofNat m else k.wrap n
 | .i32,.negSucc m=>if Nat.blt m 2147483648 then .negSucc m else k.wrap n
 | k,n=>k.wrap n
def eqI:Int→Int→Bool
 | .ofNat a,.ofNat b=>Nat.beq a b
 | .negSucc a,.negSucc b=>Nat.beq a b
 | _,_=>false
def ltI:Int→Int→Bool
 | .ofNat a,.ofNat b=>Nat.blt a b
 | .negSucc a,.negSucc b=>Nat.blt b a
 | .negSucc _,.ofNat _=>true
 | .ofNat _,.negSucc _=>false
def a6K:Int→Int→Int
 | .ofNat a,.ofNat b=>.ofNat (Nat.add a b)
 | a,b=>a+b
def b0A:Int→Int→Int
 | .ofNat a,.ofNat b=>if Nat.ble b a then .ofNat (Nat.sub a b)else .ofNat a - .ofNat b
 | a,b=>a - b
def l6:List Nat→List Nat→Bool
 | _,[]=>false
 | [],_::_=>true
 | a::x,b::y=>Nat.blt a b || (Nat.beq a b && l6 x y)
def eqN:List Nat→List Nat→Bool
 | [],[]=>true
 | a::x,b::y=>Nat.beq a b && eqN x y
 | _,_=>false
def l7 (op:BinOp):AV→AV→Option AV
 | .int k a,.int i b =>
  match op with
  | .shl=>if b < 0 then none else some (.int k (k.wrap (a*2 ^ (min b.toNat k.bits))))
  | .shr=>if b < 0 then none else some (.int k (a.fdiv (2 ^ (min b.toNat k.bits))))
  | _ =>
  if k=i then
   match op with
   | .add=>some (.int k (B2 k (a6K a b)))
   | .sub=>some (.int k (B2 k (b0A a b)))
   | .mul=>some (.int k (B2 k (a*b)))
   | .quo=>if b=0 then none else some (.int k (k.wrap (a.tdiv b)))
   | .rem=>if b=0 then none else some (.int k (a.tmod b))
   | .and=>some (.int k (k.wrap (BitVec.ofInt k.bits a &&& BitVec.ofInt k.bits b).toNat))
   | .or=>some (.int k (k.wrap (BitVec.ofInt k.bits a ||| BitVec.ofInt k.bits b).toNat))
   | .eql=>some (.bool (eqI a b))
   | .neq=>some (.bool !(eqI a b))
   | .lss=>some (.bool (ltI a b))
   | .leq=>some (.bool !(ltI b a))
   | .gtr=>some (.bool (ltI b a))
   | .geq=>some (.bool !(ltI a b))
   | _=>none
  else none
 | .str a,.str b =>
  match op with
  | .add=>if a.length+b.length≤2 ^ 62 then some (.str (a++b))else none
  | .eql=>some (.bool (eqN a b))
  | .neq=>some (.bool !(eqN a b))
  | .lss=>some (.bool (l6 a b))
  | .gtr=>some (.bool !(l6 a b || eqN a b))
  | .leq=>some (.bool (l6 a b || eqN a b))
  | .geq=>some (.bool !(l6 a b))
  | _=>none
 | _,_=>none
def a4L (op:BinOp):AV→AV→Option AV
 | .bool a,.bool b =>
  match op with
  | .eql=>some (.bool (a == b))
  | .neq=>some (.bool !(a == b))
  | _=>none
 | _,_=>none
def Z4 (op:BinOp):AV→AV→Option AV
 | .ptr ..,.nilp|.nilp,.ptr .. =>
  match op with
  | .eql=>some (.bool false)
  | .neq=>some (.bool true)
  | _=>none
 | .nilp,.nilp =>
  match op with
  | .eql=>some (.bool true)
  | .neq=>some (.bool false)
  | _=>none
 | .ro _,.nilp|.nilp,.ro _ =>
  match op with
  | .eql=>some (.bool false)
  | .neq=>some (.bool true)
  | _=>none
 | .nili,.nili =>
  match op with
  | .lss=>some (.bool true)
  | .gtr=>some (.bool false)
  | _=>none
 | _,_=>none
def K4 (i:Nat):AV→AV→Option Bool
 | .int k a,.int j b=>if i=0∧k=j then some (eqI a b)else none
 | .str a,.str b=>if i=1 then some (eqN a b)else none
 | .bool a,.bool b=>if i=2 then some (a == b)else none
 | _,_=>none
def D7 (j:Nat) (k:AV):List (AV×AV)→Nat→Option (Option (Nat×AV))
 | [],_=>some none
 | (k',v)::es,i =>
  match K4 j k k' with
  | some true=>some (some (i,v))
  | some false=>D7 j k es (i+1)
  | none=>none
def L8 (x:AV) (j:Nat):Option Nat :=
 match x with
 | .int _ i=>if 0≤i∧i≤(j:Int)then some i.toNat else none
 | _=>none
def D4 (i hi:Bool) (as:List AV) (len:Nat):Option (Nat×Nat) :=
 match i,hi,as with
 | false,false,[]=>some (0,len)
 | true,false,[l]=>(L8 l len).map (·,len)
 | false,true,[h]=>(L8 h len).map (0,·)
 | true,true,[l,h]=>match L8 h len with
  | some h=>(L8 l h).map (·,h)
  | none=>none
 | _,_,_=>none
def P6 (i:Nat):Nat→List AV→List (List AV)
 | 0,_=>[]
 | n+1,cs=>cs.take i::P6 i n (cs.drop i)
def D9:List (List AV)→Option (List Nat)
 | []=>some []
 | [.int .u8 n]::rs=>if 0≤n∧n < 256 then(D9 rs).map (n.toNat::·)else none
 | _=>none
def a0u :d8→List AV→AV→St→Option (AV×AV×St):=fun _ as bx st=>match as with
 | [a]=>some (a,bx,st)
 | _=>none
def A9 :d8→List AV→AV→St→Option (AV×AV×St):=fun _ as bx st=>match as with
 | [.bool c,a,b]=>if c then(if a.plain then some (a,bx,st)else none)else(if b.plain then some (b,bx,st)else none)
 | _=>none
def B8 :d8→List AV→AV→St→Option (AV×AV×St):=fun _ as bx st=>match as with
 | [.ptr o f]=>some (.ptr o f,bx,st)
 | [.loc i f]=>some (.loc i f,bx,st)
 | [.ro cs]=>some (.ro cs,bx,st)
 | [.func f a b]=>some (.func f a b,bx,st)
 | _=>none
def O0 (zero:List AV):d8→List AV→AV→St→Option (AV×AV×St):=fun _ as bx st=>match as,bx with
 | [],.undef=>some (.undef,.box zero,st)
 | _,_=>none
def Q5 :d8→List AV→AV→St→Option (AV×AV×St):=fun _ as bx st=>match as,bx with
 | [a],.undef=>if a.plain then some (.undef,.box a.cellsW,st)else none
 | _,_=>none
def E1 (zero:List AV):d8→List AV→AV→St→Option (AV×AV×St):=fun _ as bx st=>match as with
 | []=>some (.ptr st.length 0,bx,st++[.cells zero])
 | _=>none
def J3 :d8→List AV→AV→St→Option (AV×AV×St):=fun _ as bx st=>match as with
 | [a]=>if a.plain then some (.ptr st.length 0,bx,st++[.cells a.cellsW])else none
 | _=>none
def I3 (zero:List AV) (i:List (Nat×Nat)):d8→List AV→AV→St→Option (AV×AV×St):=fun _ as bx st=>(u9 i as zero).map fun cs=>(.agg cs,bx,st)
def H8 (i:Nat) (zero:List (List AV)) (at_:List Nat):d8→List AV→AV→St→Option (AV×AV×St):=fun _ as bx st=>(r9 i at_ as zero).map fun rs=>(.list true rs,bx,st)
def G6 (i:Nat) (agg:Bool) (n:Nat):d8→List AV→AV→St→Option (AV×AV×St):=fun _ as bx st=>match as,bx with
 | [.loc j off],.box cs=>if i=j then(i8 agg n (cs.drop off)).map (·,bx,st)else none
 | _,_=>none
def B1 (agg:Bool) (n:Nat):d8→List AV→AV→St→Option (AV×AV×St):=fun _ as bx st=>match as with
 | [.ptr o off]=>match st[o]? with
  | some (.cells cs)=>(i8 agg n (cs.drop off)).map (·,bx,st)
  | _=>none
 | _=>none
def J8 (agg:Bool) (n:Nat):d8→List AV→AV→St→Option (AV×AV×St):=fun _ as bx st=>match as with
 | [.ro cs]=>(i8 agg n cs).map (·,bx,st)
 | _=>none
def D2 (agg:Bool) (n:Nat):d8→List AV→AV→St→Option (AV×AV×St):=fun _ as bx st=>match as with
 | [.ro cs]=>(i8 agg n cs).map (·,bx,st)
 | [.ptr o off]=>match st[o]? with
  | some (.cells cs)=>(i8 agg n (cs.drop off)).map (·,bx,st)
  | _=>none
 | _=>none
def I5 (i:Nat):d8→List AV→AV→St→Option (AV×AV×St):=fun _ as bx st=>match as,bx with
 | [.loc j off],.box cs=>if i=j then match cs[off]? with
  | some c=>some (c,.box (cs.set off c.weak1),st)
  | none=>none
  else none
 | _,_=>none
def B6 :d8→List AV→AV→St→Option (AV×AV×St):=fun _ as bx st=>match as with
 | [.ptr o off]=>match st[o]? with
  | some (.cells cs)=>match cs[off]? with
   | some c=>some (c,bx,st.set o (.cells (cs.set off c.weak1)))
   | none=>none
  | _=>none
 | _=>none
def J2 (i n:Nat):d8→List AV→AV→St→Option (AV×AV×St):=fun _ as bx st=>match as,bx with
 | [.loc j off,x],.box cs=>if i=j∧x.plain=true∧x.cells.length=n∧off+n≤cs.length then some (.tuple [],.box (n6 cs off x.cells),st)else none
 | _,_=>none
def D5 (n:Nat):d8→List AV→AV→St→Option (AV×AV×St):=fun _ as bx st=>match as with
 | [.ptr o off,x]=>match st[o]? with
  | some (.cells cs)=>if x.plain=true∧x.cells.length=n∧off+n≤cs.length then fL (n6 cs off x.cells) fun cs=>some (.tuple [],bx,st.set o (.cells cs))else none
  | _=>none
 | _=>none
def K0 (off:Nat):d8→List AV→AV→St→Option (AV×AV×St):=fun _ as bx st=>match as with
 | [.ptr o f]=>some (.ptr o (f+off),bx,st)
 | [.loc i f]=>some (.loc i (f+off),bx,st)
 | [.ro cs]=>some (.ro (cs.drop off),bx,st)
 | _=>none
def O9 (off n:Nat) (agg:Bool):d8→List AV→AV→St→Option (AV×AV×St):=fun _ as bx st=>match as with
 | [.agg cs]=>if off+n≤cs.length then(i8 agg n (cs.drop off)).map (·,bx,st)else none
 | _=>none
def I7 (j:Nat):d8→List AV→AV→St→Option (AV×AV×St):=fun _ as bx st=>match as with
 | [.list _ xs,.int _ i]=>if 0≤i then match xs[i.toNat]? with
  | some r=>if r.length=j then some (.ro r,bx,st)else none
  | none=>none
  else none
 | [.sl o f n s,.int _ i]=>if 0≤i∧i < (n:Int)∧s=j then some (.ptr o (f+i.toNat*j),bx,st)else none
 | _=>none
def E0 (len l:Nat):d8→List AV→AV→St→Option (AV×AV×St):=fun _ as bx st=>match as with
 | [.ro cs,.int _ i]=>if 0≤i∧i < (len:Int)then some (.ro (cs.drop (i.toNat*l)),bx,st)else none
 | [.ptr o f,.int _ i]=>if 0≤i∧i < (len:Int)then some (.ptr o (f+i.toNat*l),bx,st)else none
 | [.loc j f,.int _ i]=>if 0≤i∧i < (len:Int)then some (.loc j (f+i.toNat*l),bx,st)else none
 | _=>none
def I0 :d8→List AV→AV→St→Option (AV×AV×St):=fun _ as bx st=>match as with
 | [.str s,.int _ i]=>if 0≤i then match s[i.toNat]? with
  | some b=>some (.int .u8 b,bx,st)
  | none=>none
  else none
 | _=>none
def M9 (i hi:Bool):d8→List AV→AV→St→Option (AV×AV×St):=fun _ as bx st=>match as with
 | .str s::r=>(D4 i hi r s.length).map fun(l,h)=>(.str ((s.take h).drop l),bx,st)
 | _=>none
def slB (i hi:Bool) (r:List AV) (n:Nat):Option (Nat×Nat):=match D4 i hi r n with
 | some p=>if p.1=0∨p.1 < n then some p else none
 | none=>none
def K8 (i:Nat) (j hi:Bool):d8→List AV→AV→St→Option (AV×AV×St):=fun _ as bx st=>match as with
 | .list _ xs::r=>if m2 i xs then(D4 j hi r xs.length).map fun(l,h)=>(.list false ((xs.take h).drop l),bx,st)else none
 | .sl o f n s::r=>if s=i then(slB j hi r n).map fun(l,h)=>(.sl o (f+l*i) (h - l) s,bx,st)else none
 | _=>none
def S6 :d8→List AV→AV→St→Option (AV×AV×St):=fun _ as bx st=>match as with
 | [.list _ _]=>some (.list true [],bx,st)
 | _=>none
def P0 (len i:Nat) (j hi:Bool):d8→List AV→AV→St→Option (AV×AV×St):=fun _ as bx st=>match as with
 | .ro cs::r=>if cs.length=len*i then(D4 j hi r len).map fun(l,h)=>(.list false (((P6 i len cs).take h).drop l),bx,st)else none
 | _=>none
def A0 (op:BinOp):d8→List AV→AV→St→Option (AV×AV×St):=fun _ as bx st=>match as with
 | [a,b]=>(l7 op a b).map (·,bx,st)
 | _=>none
def N5 (op:BinOp):d8→List AV→AV→St→Option (AV×AV×St):=fun _ as bx st=>match as with
 | [a,b]=>(a4L op a b).map (·,bx,st)
 | _=>none
def I1 (op:BinOp):d8→List AV→AV→St→Option (AV×AV×St):=fun _ as bx st=>match as with
 | [a,b]=>(Z4 op a b).map (·,bx,st)
 | _=>none
def W4 (op:UnOp):d8→List AV→AV→St→Option (AV×AV×St):=fun _ as bx st=>match op,as with
 | .not,[.bool b]=>some (.bool !b,bx,st)
 | .neg,[.int k n]=>some (.int k (B2 k (0 - n)),bx,st)
 | _,_=>none
def M0 (k:IntKind):d8→List AV→AV→St→Option (AV×AV×St):=fun _ as bx st=>match as with
 | [.int _ n]=>some (.int k (B2 k n),bx,st)
 | _=>none
def R8 (f n:Nat):d8→List AV→AV→St→Option (AV×AV×St):=fun _ as bx st=>if m4 as then some (.func f ((as.map AV.weak).take n) ((as.map AV.weak).drop n),bx,st)else none
def S7 :d8→List AV→AV→St→Option (AV×AV×St):=fun _ as bx st=>match as with
 | []=>some (.map st.length,bx,st++[.map []])
 | _=>none
def Q1 (i:Nat) (zero:List AV) (agg ok:Bool):d8→List AV→AV→St→Option (AV×AV×St):=fun _ as bx st=>   let fin (r:Option (Option (Nat×AV))):Option (AV×AV×St):=match r with
 | some r=>match (match r with|some (_,v)=>some v|none=>i8 agg zero.length zero)with
  | some v=>some (if ok then .tuple [v,.bool r.isSome]else v,bx,st)
  | none=>none
 | none=>none
 match as with
 | [.nilm,k]=>fin (D7 i k [] 0)
 | [.map o,k]=>match st[o]? with
  | some (.map es)=>fin (D7 i k es 0)
  | _=>none
 | _=>none
def P9 (j:Nat):d8→List AV→AV→St→Option (AV×AV×St):=fun _ as bx st=>match as with
 | [.map o,k,v]=>if v.plain then match st[o]? with
  | some (.map es)=>match D7 j k es 0 with
   | some (some (i,_))=>some (.tuple [],bx,st.set o (.map (es.set i (k,v.weak))))
   | some none=>(K4 j k k).bind fun _=>some (.tuple [],bx,st.set o (.map (es++[(k,v.weak)])))
   | none=>none
  | _=>none
  else none
 | _=>none
def L9 (i:Nat):d8→List AV→AV→St→Option (AV×AV×St):=fun _ as bx st=>match as with
 | [.tuple vs]=>match vs[i]? with
  | some v=>some (v.weak,bx,st)
  | none=>none
 | _=>none
def n4 (f:Nat):d8→List AV→AV→St→Option (AV×AV×St):=fun call as bx st=>if m4 as then(call f (as.map AV.weak) st).map fun(v,st)=>(v,bx,st)else none
def D6 :d8→List AV→AV→St→Option (AV×AV×St):=fun call as bx st=>match as with
 | .func f first caps::as=>if m4 as then(call f ((first++as++caps).map AV.weak) st).map fun(v,st)=>(v,bx,st)else none
 | _=>none
def M4 :d8→List AV→AV→St→Option (AV×AV×St):=fun _ as bx st=>match as with
 | [.str s]=>some (.int .i64 s.length,bx,st)
 | _=>none
def G5 :d8→List AV→AV→St→Option (AV×AV×St):=fun _ as bx st=>match as with
 | [.list _ xs]=>some (.int .i64 xs.length,bx,st)
 | [.sl _ _ n _]=>some (.int .i64 n,bx,st)
 | [.nils]=>some (.int .i64 0,bx,st)
 | _=>none
def P5 (i bytes:Nat):d8→List AV→AV→St→Option (AV×AV×St):=fun _ as bx st=>match as with
 | [.list true xs,.list _ ys] =>if m2 i xs && m2 i ys && decide ((xs.length+ys.length)*bytes≤2 ^ 47)then some (.list true (xs++ys),bx,st)else none
 | _=>none
def U3 (bytes:Nat):d8→List AV→AV→St→Option (AV×AV×St):=fun _ as bx st=>match as with
 | [.list true xs,.nils]=>if m2 1 xs && decide (xs.length*bytes≤2 ^ 47)then some (.list true xs,bx,st)else none
 | [.list true xs,.sl o 0 n 1]=>match st[o]? with
  | some (.cells cs)=>if m2 1 xs && Nat.beq n cs.length && decide ((xs.length+cs.length)*bytes≤2 ^ 47)then some (.list true (xs++cs.map fun c=>[c]),bx,st)else none
  | _=>none
 | _=>none
def F0 (i:Nat) (zero:List (List AV)) (at_:List Nat):d8→List AV→AV→St→Option (AV×AV×St):=fun _ as bx st=>(m7 i at_ as zero).map fun rs=>(.fresh rs,bx,st)
def E9 (i:Nat) (zero:List (List AV)) (at_:List Nat):d8→List AV→AV→St→Option (AV×AV×St):=fun _ as bx st=>(m7 i at_ as zero).map fun rs=>(.sl st.length 0 zero.length i,bx,st++[.cells rs.flatten])
def b2o (a b:Int):Int:=if ltI b a then b else a
def P8:d8→List AV→AV→St→Option (AV×AV×St):=fun _ as bx st=>match as with
 | [.int k a,.int k' b]=>if k=k' then some (.int k (b2o a b),bx,st)else none
 | _=>none
def a6B (neg:Bool) (a b:Int) (s t:List Nat):Bool:=Bool.xor neg (eqI a b && eqN s t)
def Q2 (neg:Bool):d8→List AV→AV→St→Option (AV×AV×St):=fun _ as bx st=>match as with
 | [.agg [.int k a,.str s],.agg [.int k' b,.str t]]=>if k=k' then some (.bool (a6B neg a b s t),bx,st)else none
 | _=>none
def J9:AV→Option Nat
 | .ptr p _=>some p
 | .sl p _ _ _=>some p
 | _=>none
def I9 (o:Option Nat) (n:Nat):List AV→Bool
 | []=>true
 | g::gs=>(match J9 g with|some p=>Nat.blt p n && (match o with|some o=>!Nat.beq p o|none=>true)|none=>false) && I9 o n gs
def C0 (i bytes:Nat):d8→List AV→AV→St→Option (AV×AV×St):=fun _ as bx st=>match as with
 | .list true []::.fresh ys::gs=>if ys.isEmpty=false∧m2 i ys=true∧ys.length*bytes≤2 ^ 47∧I9 none st.length gs=true then some (.sl st.length 0 ys.length i,bx,st++[.cells ys.flatten])else none
 | .nils::.fresh ys::gs=>if ys.isEmpty=false∧m2 i ys=true∧ys.length*bytes≤2 ^ 47∧I9 none st.length gs=true then some (.sl st.length 0 ys.length i,bx,st++[.cells ys.flatten])else none
 | .nils::.nils::gs=>if I9 none st.length gs=true then some (.nils,bx,st)else none
 | .sl o 0 n s::.fresh ys::gs=>match st[o]? with
  | some (.cells xs)=>if s=i∧ys.isEmpty=false∧m2 i ys=true∧xs.length=n*i∧(n+ys.length)*bytes≤2 ^ 47∧I9 (some o) st.length gs=true then some (.sl st.length 0 (n+ys.length) i,bx,st.set o .dead++[.cells (xs++ys.flatten)])else none
  | _=>none
 | _=>none
def C7 (agg:Bool) (n:Nat):d8→List AV→AV→St→Option (AV×AV×St):=fun call as bx st=>match as with
 | [.ptr o off,r]=>match J9 r with
  | some p=>if Nat.beq o p=true then B1 agg n call [.ptr o off] bx st else none
  | none=>none
 | _=>none
def D3 (d:Nat):d8→List AV→AV→St→Option (AV×AV×St):=fun call as bx st=>match as with
 | [.ptr o off,.ptr p f]=>if Nat.beq o p=true∧Nat.beq off (f+d)=true then B6 call [.ptr o off] bx st else none
 | _=>none
def C6 (n:Nat):d8→List AV→AV→St→Option (AV×AV×St):=fun call as bx st=>match as with
 | .ptr o off::x::r::gs=>match J9 r with
  | some p=>if Nat.beq o p=true∧I9 (some o) st.length gs=true then D5 n call [.ptr o off,x] bx st else none
  | none=>none
 | _=>none
mutual
def G1:AV→AV→Bool
 | .undef,.undef=>true
 | .bool a,.bool b=>a == b
 | .int k a,.int z b=>decide (k=z) && eqI a b
 | .str a,.str b=>eqN a b
 | .list o xs,.list i ys=>(o == i) && a2u xs ys
 | .ptr o f,.ptr i j=>Nat.beq o i && Nat.beq f j
 | .nilp,.nilp=>true
 | .ro xs,.ro ys=>N9 xs ys
 | .loc o f,.loc i j=>Nat.beq o i && Nat.beq f j
 | .box xs,.box ys=>N9 xs ys
 | .map o,.map i=>Nat.beq o i
 | .nilm,.nilm=>true
 | .func f xs ys,.func j l u=>Nat.beq f j && N9 xs l && N9 ys u
 | .nilf,.nilf=>true
 | .agg xs,.agg ys=>N9 xs ys
 | .tuple xs,.tuple ys=>N9 xs ys
 | .iface t x,.iface D y=>Nat.beq t D && G1 x y
 | .nili,.nili=>true
 | .nils,.nils=>true
 | .fresh xs,.fresh ys=>a2u xs ys
 | .sl o f n s,.sl i j B C=>Nat.beq o i && Nat.beq f j && Nat.beq n B && Nat.beq s C
 | _,_=>false
def N9:List AV→List AV→Bool
 | [],[]=>true
 | a::as,b::bs=>G1 a b && N9 as bs
 | _,_=>false
def a2u:List (List AV)→List (List AV)→Bool
 | [],[]=>true
 | a::as,b::bs=>N9 a b && a2u as bs
 | _,_=>false
end
def a7u:List (AV×AV)→List (AV×AV)→Bool
 | [],[]=>true
 | (a,b)::as,(c,d)::bs=>G1 a c && G1 b d && a7u as bs
 | _,_=>false
def a8m:Obj→Obj→Bool
 | .cells a,.cells b=>N9 a b
 | .map a,.map b=>a7u a b
 | .dead,.dead=>true
 | _,_=>false
def a9N:St→St→Bool
 | [],[]=>true
 | a::as,b::bs=>a8m a b && a9N as bs
 | _,_=>false
def kept (st st':St):List AV→Bool
 | []=>true
 | g::gs=>(match J9 g with|some p=>(match st[p]?,st'[p]? with|some a,some b=>a8m a b|_,_=>false)|none=>false) && kept st st' gs
def C9 (f m:Nat):d8→List AV→AV→St→Option (AV×AV×St):=fun call as bx st=>match n4 f call (as.take m) bx st with
 | some (v,b,st')=>if kept st st' (as.drop m)then some (v,b,st')else none
 | none=>none
def P4:d8→List AV→AV→St→Option (AV×AV×St):=fun _ as bx st=>match as with
 | [.list _ xs]=>(D9 xs).map fun s=>(.str s,bx,st)
 | _=>none
def sem:Kind→d8→List AV→AV→St→Option (AV×AV×St)
 | .mv=>a0u
 | .pick=>A9
 | .nilchk=>B8
 | .alloc zero=>O0 zero
 | .boxV=>Q5
 | .allocO zero=>E1 zero
 | .boxO=>J3
 | .build zero t=>I3 zero t
 | .bslice j zero at_=>H8 j zero at_
 | .bsliceM j zero at_=>F0 j zero at_
 | .bsliceO j zero at_=>E9 j zero at_
 | .min2=>P8
 | .eqIS neg=>Q2 neg
 | .stuck=>fun _ _ _ _=>none
 | .ldLc i agg n=>G6 i agg n
 | .ldSt agg n=>B1 agg n
 | .ldRo agg n=>J8 agg n
 | .ldAn agg n=>D2 agg n
 | .ldLcS i=>I5 i
 | .ldStS=>B6
 | .ldStR agg n=>C7 agg n
 | .ldStSR d=>D3 d
 | .stStA n=>C6 n
 | .callA f m=>C9 f m
 | .stLc i n=>J2 i n
 | .stSt n=>D5 n
 | .fad off=>K0 off
 | .fld off n agg=>O9 off n agg
 | .iad j=>I7 j
 | .iadA len j=>E0 len j
 | .idxS=>I0
 | .slS l hi=>M9 l hi
 | .slL j l hi=>K8 j l hi
 | .slZ=>S6
 | .slA len j l hi=>P0 len j l hi
 | .bin op=>A0 op
 | .binB op=>N5 op
 | .binP op=>I1 op
 | .un op=>W4 op
 | .conv k=>M0 k
 | .mkF f n=>R8 f n
 | .mkM=>S7
 | .mget u zero agg ok=>Q1 u zero agg ok
 | .mset u=>P9 u
 | .ext i=>L9 i
 | .call f=>n4 f
 | .callV=>D6
 | .lenS=>M4
 | .lenL=>G5
 | .app j bytes=>P5 j bytes
 | .appM j bytes=>C0 j bytes
 | .b2s=>P4
 | .appA bytes=>U3 bytes
def Opd.read (x:Opd) (σ:Sig):AV :=
 match x with
 | .t s=>(σ.τ s).weak
 | .ts s=>σ.τ s
 | .v i=>(σ.fr.getD i .undef).weak
 | .vs i=>σ.fr.getD i .undef
 | .l i=>match σ.fr.getD i .undef with
  | .box _=>.loc i 0
  | _=>.undef
 | .c a=>a
def q8 (τ:Nat→AV) (s:Nat) (a:AV):Nat→AV:=fun j=>if Nat.beq j s then a else τ j
def Opd.spend (x:Opd) (σ:Sig):Sig :=
 match x with
 | .ts s=>{ σ with τ:=q8 σ.τ s (σ.τ s).weak }
 | .vs i=>{ σ with fr:=σ.fr.set i (σ.fr.getD i .undef).weak }
 | _=>σ
def AV.strip:AV→AV
 | .loc ..=>.undef
 | .box _=>.undef
 | v=>v
def AV.stripB:AV→AV
 | .box _=>.undef
 | v=>v
def Dst.put (d:Dst) (a:AV) (σ:Sig):Sig :=
 match d with
 | .none|.bx=>σ
 | .t s=>{ σ with τ:=q8 σ.τ s a.stripB }
 | .v i=>{ σ with fr:=σ.fr.set i a.strip }
def d9:List Opd→Sig→Sig
 | [],σ=>σ
 | x::xs,σ=>d9 xs (x.spend σ)
def a4K {α:Type}:List Opd→Sig→(List AV→α)→α
 | [],_,k=>k []
 | x::xs,σ,k=>fV (x.read σ) fun a=>a4K xs σ fun as=>k (a::as)
def Kind.fresh:Kind→Bool
 | .bin _|.binB _|.binP _|.un _|.conv _|.lenS|.lenL|.slS ..|.slL ..|.slA ..|.app ..|.fad _|.iadA ..|.idxS|.b2s|.build ..|.bslice ..|.bsliceM ..|.bsliceO ..|.min2|.eqIS _|.appM ..|.appA _|.allocO _|.mkM=>true
 | _=>false
def Kind.alters:Kind→Bool
 | .alloc _|.boxV|.ldLcS _|.stLc ..=>true
 | _=>false
def y9 (call:d8) (o:AOper) (σ:Sig):Option Sig :=
 a4K o.args σ fun as =>
 match sem o.kind call as (match o.box with|some i=>σ.fr.getD i .undef|none=>.undef) σ.st with
 | some (r,bx,st) =>
  let σ:=d9 o.args σ
  (if o.kind.fresh then a2c r else fV r) fun r =>
  match o.box with
  | some i=>(if o.kind.alters then a2c bx else fV bx) fun bx=>some (o.dst.put r { σ with fr:=σ.fr.set i bx,st })
  | none=>some (o.dst.put r { σ with st })
 | none=>none
def i7 (call:d8) (o:AOper) (σ:Sig):Option Sig :=
 match o.guard with
 | none=>y9 call o σ
 | some (x,want)=>match x.read σ with
  | .bool b=>if b == want then y9 call o σ else some (o.dst.put (.tuple []) σ)
  | .tuple []=>some (o.dst.put (.tuple []) σ)
  | _=>none
def g9 (call:d8):List AOper→Sig→Option Sig
 | [],σ=>some σ
 | o::os,σ=>match i7 call o σ with
  | some σ=>g9 call os σ
  | none=>none
def i6:List Nat→List AV→List AV
 | [],fr=>fr
 | i::is,fr=>i6 is (fr.set i .undef)
inductive Ex where
 | normal|exit (id:Nat)|ret
 deriving DecidableEq,Inhabited
abbrev Out:=Ex×List AV×St
def E5 (body:List AV→St→Option Out):Nat→List AV→St→Option Out
 | 0,_,_=>none
 | n+1,fr,st=>match body fr st with
  | some (.normal,fr,st)=>E5 body n fr st
  | r=>r
def a7d:Ex→Ex→Bool
 | .normal,.normal=>true
 | .exit a,.exit b=>Nat.beq a b
 | .ret,.ret=>true
 | _,_=>false
def a8d (a b:Out):Bool:=a7d a.1 b.1 && N9 a.2.1 b.2.1 && a9N a.2.2 b.2.2
def C1 (kill:List Nat) (o:Out):Out:=(o.1,i6 kill o.2.1,o.2.2)
def a4D (kill:List Nat) (x y:Option Out):Option Out:=match x,y with
 | some a,some b=>if a8d (C1 kill a) (C1 kill b)then some (C1 kill a)else none
 | _,_=>none
def exec (call:d8) (n:Nat):ACode→List AV→St→Option Out
 | .skip,fr,st=>some (.normal,fr,st)
 | .reg kill ops,fr,st=>match g9 call ops ⟨i6 kill fr,fun _=>.undef,st⟩with
  | some σ=>fL σ.fr fun fr=>fL σ.st fun st=>some (.normal,fr,st)
  | none=>none
 | .test kill ops c a b,fr,st=>match g9 call ops ⟨i6 kill fr,fun _=>.undef,st⟩with
  | some σ=>match c.read σ with
   | .bool true=>fL σ.fr fun fr=>fL σ.st fun st=>exec call n a fr st
   | .bool false=>fL σ.fr fun fr=>fL σ.st fun st=>exec call n b fr st
   | _=>none
  | none=>none
 | .seq a b,fr,st=>match exec call n a fr st with
  | some (.normal,fr,st)=>exec call n b fr st
  | r=>r
 | .blk id a,fr,st=>match exec call n a fr st with
  | some (.exit i,fr,st)=>some (if i=id then .normal else .exit i,fr,st)
  | r=>r
 | .loop a,fr,st=>E5 (exec call n a) n fr st
 | .either kill a b,fr,st=>a4D kill (exec call n a fr st) (exec call n b fr st)
 | .exit id,fr,st=>some (.exit id,fr,st)
 | .ret,fr,st=>some (.ret,fr,st)
def ResK.get (r:ResK) (fr:List AV) (st:St):Option AV :=
 match r with
 | .v i=>some (fr.getD i .undef).weak
 | .vs i=>some (fr.getD i .undef)
 | .bx i agg n=>match fr.getD i .undef with
  | .box cs=>i8 agg n cs
  | _=>none
 | .po i agg n=>match fr.getD i .undef with
  | .ptr o off=>match st[o]? with
   | some (.cells cs)=>i8 agg n (cs.drop off)
   | _=>none
  | _=>none
def B3:List ResK→List AV→St→Option (List AV)
 | [],_,_=>some []
 | r::rs,fr,st=>match r.get fr st,B3 rs fr st with
  | some v,some vs=>some (v::vs)
  | _,_=>none
def AFn.run (fn:AFn) (call:d8) (n:Nat) (args:List AV) (st:St):Option (AV×St) :=
 if args.length=fn.np then
  match exec call n fn.code (args++List.replicate (fn.nv - fn.np) .undef) st with
  | some (.exit _,_,_)=>none
  | some (_,fr,st)=>match B3 fn.results fr st with
   | some [v]=>some (v,st)
   | some vs=>some (.tuple vs,st)
   | none=>none
  | none=>none
 else none
def d6D (l:List (List (Option AFn))) (f:Nat):Option AFn:=((l.getD (f / 10) []).getD (f % 10) none)
def Y3 (i bytes:Nat) (as:List AV) (st:St):Option (AV×St) :=
 match as with
 | [.list _ xs]=>if m2 i xs && decide (xs.length*bytes≤2 ^ 47)then some (.list true xs,st)else none
 | _=>none
def j0 (tbl:Nat→Option AFn):Nat→d8
 | 0=>fun _ _ _=>none
 | n+1=>fun f args st=>match tbl f with
  | some fn=>match fn.ext with
   | some e=>e args st
   | none=>fn.run (j0 tbl n) n args st
  | none=>none
end Go.Cb
