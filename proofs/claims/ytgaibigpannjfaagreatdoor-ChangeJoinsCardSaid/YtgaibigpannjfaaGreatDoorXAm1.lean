import GoSem.Core.Sem
import GoSem.Dispatch
set_option linter.all false
namespace Go.Cb
inductive AV where
 | undef
 | bool (b:Bool)
 | int (k:IntKind) (n:Int)
 | str (s:List Nat)
 | list (own:Bool) (xs:List (List AV))
 | ptr (o off:Nat)
 | nilp
 | ro (cs:List AV)
 | loc (i off:Nat)
 | box (cs:List AV)
 | map (o:Nat)
 | nilm
 | func (f:Nat) (first caps:List AV)
 | nilf
 | agg (cs:List AV)
 | tuple (vs:List AV)
 | iface (t:Nat) (v:AV)
 | nili
 | sl (o f n sz:Nat)
 | fresh (xs:List (List AV))
 | nils
 deriving Inhabited
inductive Obj where
 | cells (cs:List AV)
 | map (es:List (AV×AV))
 | dead
 deriving Inhabited
abbrev St:=List Obj
def AV.weak1:AV→AV
 | .list _ xs=>.list false xs
 | v=>v
def AV.weak:AV→AV
 | .list _ xs=>.list false xs
 | .agg cs=>.agg (cs.map AV.weak1)
 | v=>v
def AV.cells:AV→List AV
 | .agg cs=>cs
 | v=>[v]
def AV.cellsW:AV→List AV
 | .agg cs=>cs
 | .list o xs=>[.list (o && xs.isEmpty) xs]
 | v=>[v]
def AV.cellW1:AV→AV
 | .list o xs=>.list (o && xs.isEmpty) xs
 | v=>v
def AV.plain:AV→Bool
 | .undef=>false
 | .loc ..=>false
 | .box _=>false
 | .tuple _=>false
 | .fresh _=>false
 | _=>true
def y9:List AV→Bool
 | []=>true
 | a::as=>a.plain && y9 as
inductive Opd where
 | t (s:Nat)|ts (s:Nat)
 | v (i:Nat)|vs (i:Nat)
 | l (i:Nat)
 | c (a:AV)
 deriving Inhabited
inductive Kind where
 | mv|pick|nilchk
 | alloc (zero:List AV)|allocO (zero:List AV)
 | boxV|boxO
 | build (zero:List AV) (offs:List (Nat×Nat))
 | bslice (sz:Nat) (zero:List (List AV)) (at_:List Nat)
 | bsliceM (sz:Nat) (zero:List (List AV)) (at_:List Nat)
 | bsliceO (sz:Nat) (zero:List (List AV)) (at_:List Nat)
 | min2|stuck
 | eqIS (neg:Bool)
 | ldLc (i:Nat) (agg:Bool) (n:Nat)|ldSt (agg:Bool) (n:Nat)|ldRo (agg:Bool) (n:Nat)
 | ldAn (agg:Bool) (n:Nat)
 | ldLcS (i:Nat)|ldStS
 | ldStR (agg:Bool) (n:Nat)|ldStSR (off:Nat)|stStA (n:Nat)|callA (f m:Nat)
 | stLc (i n:Nat)|stSt (n:Nat)
 | fad (off:Nat)
 | fld (off n:Nat) (agg:Bool)
 | iad (sz:Nat)
 | iadA (len sz:Nat)
 | idxS
 | slS (lo hi:Bool)
 | slL (sz:Nat) (lo hi:Bool)
 | slZ
 | slA (len sz:Nat) (lo hi:Bool)
 | bin (op:BinOp)
 | binB (op:BinOp)
 | binP (op:BinOp)
 | un (op:UnOp)
 | conv (k:IntKind)
 | mkF (f nfirst:Nat)
 | mkM
 | mget (kc:Nat) (zero:List AV) (agg ok:Bool)
 | mset (kc:Nat)
 | ext (i:Nat)
 | call (f:Nat)
 | callV
 | lenS|lenL
 | app (sz bytes:Nat)
 | appM (sz bytes:Nat)
 | b2s
 | appA (bytes:Nat)
 deriving Inhabited
inductive Dst where
 | none|t (s:Nat)|v (i:Nat)|bx
 deriving Inhabited
structure AOper where
 dst:Dst
 kind:Kind
 args:List Opd
 box:Option Nat:=.none
 guard:Option (Opd×Bool):=.none
 deriving Inhabited
inductive ACode where
 | skip
 | reg (kill:List Nat) (ops:List AOper)
 | test (kill:List Nat) (ops:List AOper) (c:Opd) (a b:ACode)
 | seq (a b:ACode)
 | blk (id:Nat) (a:ACode)
 | loop (a:ACode)
 | either (kill:List Nat) (a b:ACode)
 | exit (id:Nat)
 | ret
 deriving Inhabited
inductive ResK where
 | v (i:Nat)|vs (i:Nat)|bx (i:Nat) (agg:Bool) (n:Nat)|po (i:Nat) (agg:Bool) (n:Nat)
 deriving Inhabited
structure AFn where
 np:Nat
 nv:Nat
 results:List ResK
 code:ACode
 ext:Option (List AV→St→Option (AV×St)):=none
 deriving Inhabited
structure Sig where
 fr:List AV
 τ:Nat→AV
 st:St
def fN {α:Type} (m:Nat) (k:Nat→α):α :=
 match m with
 | .zero=>k .zero
 | .succ n=>k (.succ n)
def fI {α:Type} (n:Int) (k:Int→α):α :=
 match n with
 | .ofNat m=>fN m fun m=>k (.ofNat m)
 | .negSucc m=>fN m fun m=>k (.negSucc m)
def fL {α β:Type} (l:List α) (k:List α→β):β :=
 match l with
 | []=>k []
 | a::l=>fL l fun l=>k (a::l)
def fLN {β:Type} (l:List Nat) (k:List Nat→β):β :=
 match l with
 | []=>k []
 | a::l=>fN a fun a=>fLN l fun l=>k (a::l)
def fV {α:Type} (v:AV) (k:AV→α):α :=
 match v with
 | .undef=>k .undef
 | .bool b=>match b with|true=>k (.bool true)|false=>k (.bool false)
 | .int t n=>k (.int t n)
 | .str s=>k (.str s)
 | .list o xs=>match o with|true=>k (.list true xs)|false=>k (.list false xs)
 | .ptr o f=>k (.ptr o f)
 | .nilp=>k .nilp
 | .ro cs=>k (.ro cs)
 | .loc i f=>k (.loc i f)
 | .box cs=>k (.box cs)
 | .map o=>k (.map o)
 | .nilm=>k .nilm
 | .func f a b=>k (.func f a b)
 | .nilf=>k .nilf
 | .agg cs=>k (.agg cs)
 | .tuple vs=>k (.tuple vs)
 | .iface t v=>k (.iface t v)
 | .nili=>k .nili
 | .sl o f n s=>k (.sl o f n s)
 | .fresh xs=>k (.fresh xs)
 | .nils=>k .nils
def a3m {α:Type} (v:AV) (k:AV→α):α :=
 match v with
 | .int t n=>fI n fun n=>k (.int t n)
 | .str s=>fLN s fun s=>k (.str s)
 | .list o xs=>fL xs fun xs=>fV (.list o xs) k
 | .fresh xs=>fL xs fun xs=>k (.fresh xs)
 | .ptr o f=>fN o fun o=>fN f fun f=>k (.ptr o f)
 | .loc o f=>fN o fun o=>fN f fun f=>k (.loc o f)
 | .box cs=>fL cs fun cs=>k (.box cs)
 | .agg cs=>fL cs fun cs=>k (.agg cs)
 | .ro cs=>fL cs fun cs=>k (.ro cs)
 | .map o=>fN o fun o=>k (.map o)
 | .sl o f n s=>fN o fun o=>fN f fun f=>fN n fun n=>k (.sl o f n s)
 | v=>fV v k
abbrev e9:=Nat→List AV→St→Option (AV×St)
def B7 (cs:List AV) (off:Nat) (new:List AV):List AV:=cs.take off++new++cs.drop (off+new.length)
def E4:List (Nat×Nat)→List AV→List AV→Option (List AV)
 | [],[],cs=>some cs
 | (off,n)::offs,p::ps,cs=>if p.plain=true∧p.cells.length=n∧off+n≤cs.length then E4 offs ps (B7 cs off p.cells)else none
 | _,_,_=>none
def D8 (j:Nat):List Nat→List AV→List (List AV)→Option (List (List AV))
 | [],[],rs=>some rs
 | i::is,p::ps,rs=>if p.plain=true∧p.cells.length=j∧i < rs.length then D8 j is ps (rs.set i (p.cells.map AV.weak1))else none
 | _,_,_=>none
def B0 (j:Nat):List Nat→List AV→List (List AV)→Option (List (List AV))
 | [],[],rs=>some rs
 | i::is,p::ps,rs=>if p.plain=true∧p.cells.length=j∧i < rs.length then B0 j is ps (rs.set i (p.cells.map AV.cellW1))else none
 | _,_,_=>none
def s5 (i:Nat):List (List AV)→Bool
 | []=>true
 | r::_=>r.length == i
def m4 (agg:Bool) (n:Nat) (cs:List AV):Option AV :=
 if agg then(if n≤cs.length then some (.agg ((cs.take n).map AV.weak1))else none)
 else match cs with
  | c::_=>some c.weak1
  | []=>none
def D9 (k:IntKind) (n:Int):Int :=
 match k,n with
 | .i64,.ofNat m=>if Nat.blt m 9223372036854775808 then .ofNat m else k.wrap n
 | .i64,.negSucc m=>if Nat.blt m 9223372036854775808 then .negSucc m else k.wrap n
 | .u8,.ofNat m=>if Nat.blt m 256 then .ofNat m else k.wrap n
 | .u64,.ofNat m=>if Nat.blt m 18446744073709551616 then .ofNat m else k.wrap n
 | .i32,.ofNat m=>if Nat.blt m 2147483648 then .ofNat m else k.wrap n
 | .i32,.negSucc m=>if Nat.blt m 2147483648 then .negSucc m else k.wrap n
 | k,n=>k.wrap n
def eqI:Int→Int→Bool
 | .ofNat a,.ofNat b=>Nat.beq a b
 | .negSucc a,.negSucc b=>Nat.beq a b
 | _,_=>false
def ltI:Int→Int→Bool
 | .ofNat a,.ofNat b=>Nat.blt a b
 | .negSucc a,.negSucc b=>Nat.blt b a
 | .negSucc _,.ofNat _=>true
 | .ofNat _,.negSucc _=>false
def a5t:Int→Int→Int
 | .ofNat a,.ofNat b=>.ofNat (Nat.add a b)
 | a,b=>a+b
def b0N:Int→Int→Int
 | .ofNat a,.ofNat b=>if Nat.ble b a then .ofNat (Nat.sub a b)else .ofNat a - .ofNat b
 | a,b=>a - b
def m9:List Nat→List Nat→Bool
 | _,[]=>false
 | [],_::_=>true
 | a::x,b::y=>Nat.blt a b || (Nat.beq a b && m9 x y)
def eqN:List Nat→List Nat→Bool
 | [],[]=>true
 | a::x,b::y=>Nat.beq a b && eqN x y
 | _,_=>false
def s4 (op:BinOp):AV→AV→Option AV
 | .int k a,.int i b =>
  match op with
  | .shl=>if b < 0 then none else some (.int k (k.wrap (a*2 ^ (min b.toNat k.bits))))
  | .shr=>if b < 0 then none else some (.int k (a.fdiv (2 ^ (min b.toNat k.bits))))
  | _ =>
  if k=i then
   match op with
   | .add=>some (.int k (D9 k (a5t a b)))
   | .sub=>some (.int k (D9 k (b0N a b)))
   | .mul=>some (.int k (D9 k (a*b)))
   | .quo=>if b=0 then none else some (.int k (k.wrap (a.tdiv b)))
   | .rem=>if b=0 then none else some (.int k (a.tmod b))
   | .and=>some (.int k (k.wrap (BitVec.ofInt k.bits a &&& BitVec.ofInt k.bits b).toNat))
   | .or=>some (.int k (k.wrap (BitVec.ofInt k.bits a ||| BitVec.ofInt k.bits b).toNat))
   | .eql=>some (.bool (eqI a b))
   | .neq=>some (.bool !(eqI a b))
   | .lss=>some (.bool (ltI a b))
   | .leq=>some (.bool !(ltI b a))
   | .gtr=>some (.bool (ltI b a))
   | .geq=>some (.bool !(ltI a b))
   | _=>none
  else none
 | .str a,.str b =>
  match op with
  | .add=>if a.length+b.length≤2 ^ 62 then some (.str (a++b))else none
  | .eql=>some (.bool (eqN a b))
  | .neq=>some (.bool !(eqN a b))
  | .lss=>some (.bool (m9 a b))
  | .gtr=>some (.bool !(m9 a b || eqN a b))
  | .leq=>some (.bool (m9 a b || eqN a b))
  | .geq=>some (.bool !(m9 a b))
  | _=>none
 | _,_=>none
def a6k (op:BinOp):AV→AV→Option AV
 | .bool a,.bool b =>
  match op with
  | .eql=>some (.bool (a == b))
  | .neq=>some (.bool !(a == b))
  | _=>none
 | _,_=>none
def a0L (op:BinOp):AV→AV→Option AV
 | .ptr ..,.nilp|.nilp,.ptr .. =>
  match op with
  | .eql=>some (.bool false)
  | .neq=>some (.bool true)
  | _=>none
 | .nilp,.nilp =>
  match op with
  | .eql=>some (.bool true)
  | .neq=>some (.bool false)
  | _=>none
 | .ro _,.nilp|.nilp,.ro _ =>
  match op with
  | .eql=>some (.bool false)
  | .neq=>some (.bool true)
  | _=>none
 | .nili,.nili =>
  match op with
  | .lss=>some (.bool true)
  | .gtr=>some (.bool false)
  | _=>none
 | _,_=>none
def Q4 (i:Nat):AV→AV→Option Bool
 | .int k a,.int j b=>if i=0∧k=j then some (eqI a b)else none
 | .str a,.str b=>if i=1 then some (eqN a b)else none
 | .bool a,.bool b=>if i=2 then some (a == b)else none
 | _,_=>none
def I0 (j:Nat) (k:AV):List (AV×AV)→Nat→Option (Option (Nat×AV))
 | [],_=>some none
 | (k',v)::es,i =>
  match Q4 j k k' with
  | some true=>some (some (i,v))
  | some false=>I0 j k es (i+1)
  | none=>none
def R2 (x:AV) (j:Nat):Option Nat :=
 match x with
 | .int _ i=>if 0≤i∧i≤(j:Int)then some i.toNat else none
 | _=>none
def H2 (i hi:Bool) (as:List AV) (len:Nat):Option (Nat×Nat) :=
 match i,hi,as with
 | false,false,[]=>some (0,len)
 | true,false,[l]=>(R2 l len).map (·,len)
 | false,true,[h]=>(R2 h len).map (0,·)
 | true,true,[l,h]=>match R2 h len with
  | some h=>(R2 l h).map (·,h)
  | none=>none
 | _,_,_=>none
def W4 (i:Nat):Nat→List AV→List (List AV)
 | 0,_=>[]
 | n+1,cs=>cs.take i::W4 i n (cs.drop i)
def I5:List (List AV)→Option (List Nat)
 | []=>some []
 | [.int .u8 n]::rs=>if 0≤n∧n < 256 then(I5 rs).map (n.toNat::·)else none
 | _=>none
def a1a :e9→List AV→AV→St→Option (AV×AV×St):=fun _ as bx st=>match as with
 | [a]=>some (a,bx,st)
 | _=>none
def F3 :e9→List AV→AV→St→Option (AV×AV×St):=fun _ as bx st=>match as with
 | [.bool c,a,b]=>if c then(if a.plain then some (a,bx,st)else none)else(if b.plain then some (b,bx,st)else none)
 | _=>none
def G0 :e9→List AV→AV→St→Option (AV×AV×St):=fun _ as bx st=>match as with
 | [.ptr o f]=>some (.ptr o f,bx,st)
 | [.loc i f]=>some (.loc i f,bx,st)
 | [.ro cs]=>some (.ro cs,bx,st)
 | [.func f a b]=>some (.func f a b,bx,st)
 | _=>none
def V4 (zero:List AV):e9→List AV→AV→St→Option (AV×AV×St):=fun _ as bx st=>match as,bx with
 | [],.undef=>some (.undef,.box zero,st)
 | _,_=>none
def X1 :e9→List AV→AV→St→Option (AV×AV×St):=fun _ as bx st=>match as,bx with
 | [a],.undef=>if a.plain then some (.undef,.box a.cellsW,st)else none
 | _,_=>none
def I7 (zero:List AV):e9→List AV→AV→St→Option (AV×AV×St):=fun _ as bx st=>match as with
 | []=>some (.ptr st.length 0,bx,st++[.cells zero])
 | _=>none
def O7 :e9→List AV→AV→St→Option (AV×AV×St):=fun _ as bx st=>match as with
 | [a]=>if a.plain then some (.ptr st.length 0,bx,st++[.cells a.cellsW])else none
 | _=>none
def N9 (zero:List AV) (i:List (Nat×Nat)):e9→List AV→AV→St→Option (AV×AV×St):=fun _ as bx st=>(E4 i as zero).map fun cs=>(.agg cs,bx,st)
def N3 (i:Nat) (zero:List (List AV)) (at_:List Nat):e9→List AV→AV→St→Option (AV×AV×St):=fun _ as bx st=>(D8 i at_ as zero).map fun rs=>(.list true rs,bx,st)
def M0 (i:Nat) (agg:Bool) (n:Nat):e9→List AV→AV→St→Option (AV×AV×St):=fun _ as bx st=>match as,bx with
 | [.loc j off],.box cs=>if i=j then(m4 agg n (cs.drop off)).map (·,bx,st)else none
 | _,_=>none
def F4 (agg:Bool) (n:Nat):e9→List AV→AV→St→Option (AV×AV×St):=fun _ as bx st=>match as with
 | [.ptr o off]=>match st[o]? with
  | some (.cells cs)=>(m4 agg n (cs.drop off)).map (·,bx,st)
  | _=>none
 | _=>none
def P1 (agg:Bool) (n:Nat):e9→List AV→AV→St→Option (AV×AV×St):=fun _ as bx st=>match as with
 | [.ro cs]=>(m4 agg n cs).map (·,bx,st)
 | _=>none
def H3 (agg:Bool) (n:Nat):e9→List AV→AV→St→Option (AV×AV×St):=fun _ as bx st=>match as with
 | [.ro cs]=>(m4 agg n cs).map (·,bx,st)
 | [.ptr o off]=>match st[o]? with
  | some (.cells cs)=>(m4 agg n (cs.drop off)).map (·,bx,st)
  | _=>none
 | _=>none
def O0 (i:Nat):e9→List AV→AV→St→Option (AV×AV×St):=fun _ as bx st=>match as,bx with
 | [.loc j off],.box cs=>if i=j then match cs[off]? with
  | some c=>some (c,.box (cs.set off c.weak1),st)
  | none=>none
  else none
 | _,_=>none
def E8 :e9→List AV→AV→St→Option (AV×AV×St):=fun _ as bx st=>match as with
 | [.ptr o off]=>match st[o]? with
  | some (.cells cs)=>match cs[off]? with
   | some c=>some (c,bx,st.set o (.cells (cs.set off c.weak1)))
   | none=>none
  | _=>none
 | _=>none
def O6 (i n:Nat):e9→List AV→AV→St→Option (AV×AV×St):=fun _ as bx st=>match as,bx with
 | [.loc j off,x],.box cs=>if i=j∧x.plain=true∧x.cells.length=n∧off+n≤cs.length then some (.tuple [],.box (B7 cs off x.cells),st)else none
 | _,_=>none
def H5 (n:Nat):e9→List AV→AV→St→Option (AV×AV×St):=fun _ as bx st=>match as with
 | [.ptr o off,x]=>match st[o]? with
  | some (.cells cs)=>if x.plain=true∧x.cells.length=n∧off+n≤cs.length then fL (B7 cs off x.cells) fun cs=>some (.tuple [],bx,st.set o (.cells cs))else none
  | _=>none
 | _=>none
def P6 (off:Nat):e9→List AV→AV→St→Option (AV×AV×St):=fun _ as bx st=>match as with
 | [.ptr o f]=>some (.ptr o (f+off),bx,st)
 | [.loc i f]=>some (.loc i (f+off),bx,st)
 | [.ro cs]=>some (.ro (cs.drop off),bx,st)
 | _=>none
def W5 (off n:Nat) (agg:Bool):e9→List AV→AV→St→Option (AV×AV×St):=fun _ as bx st=>match as with
 | [.agg cs]=>if off+n≤cs.length then(m4 agg n (cs.drop off)).map (·,bx,st)else none
 | _=>none
def O1 (j:Nat):e9→List AV→AV→St→Option (AV×AV×St):=fun _ as bx st=>match as with
 | [.list _ xs,.int _ i]=>if 0≤i then match xs[i.toNat]? with
  | some r=>if r.length=j then some (.ro r,bx,st)else none
  | none=>none
  else none
 | [.sl o f n s,.int _ i]=>if 0≤i∧i < (n:Int)∧s=j then some (.ptr o (f+i.toNat*j),bx,st)else none
 | _=>none
def I4 (len l:Nat):e9→List AV→AV→St→Option (AV×AV×St):=fun _ as bx st=>match as with
 | [.ro cs,.int _ i]=>if 0≤i∧i < (len:Int)then some (.ro (cs.drop (i.toNat*l)),bx,st)else none
 | [.ptr o f,.int _ i]=>if 0≤i∧i < (len:Int)then some (.ptr o (f+i.toNat*l),bx,st)else none
 | [.loc j f,.int _ i]=>if 0≤i∧i < (len:Int)then some (.loc j (f+i.toNat*l),bx,st)else none
 | _=>none
def N7 :e9→List AV→AV→St→Option (AV×AV×St):=fun _ as bx st=>match as with
 | [.str s,.int _ i]=>if 0≤i then match s[i.toNat]? with
  | some b=>some (.int .u8 b,bx,st)
  | none=>none
  else none
 | _=>none
def S0 (i hi:Bool):e9→List AV→AV→St→Option (AV×AV×St):=fun _ as bx st=>match as with
 | .str s::r=>(H2 i hi r s.length).map fun(l,h)=>(.str ((s.take h).drop l),bx,st)
 | _=>none
def slB (i hi:Bool) (r:List AV) (n:Nat):Option (Nat×Nat):=match H2 i hi r n with
 | some p=>if p.1=0∨p.1 < n then some p else none
 | none=>none
def P3 (i:Nat) (j hi:Bool):e9→List AV→AV→St→Option (AV×AV×St):=fun _ as bx st=>match as with
 | .list _ xs::r=>if s5 i xs then(H2 j hi r xs.length).map fun(l,h)=>(.list false ((xs.take h).drop l),bx,st)else none
 | .sl o f n s::r=>if s=i then(slB j hi r n).map fun(l,h)=>(.sl o (f+l*i) (h - l) s,bx,st)else none
 | _=>none
def Y8 :e9→List AV→AV→St→Option (AV×AV×St):=fun _ as bx st=>match as with
 | [.list _ _]=>some (.list true [],bx,st)
 | _=>none
def W2 (len i:Nat) (j hi:Bool):e9→List AV→AV→St→Option (AV×AV×St):=fun _ as bx st=>match as with
 | .ro cs::r=>if cs.length=len*i then(H2 j hi r len).map fun(l,h)=>(.list false (((W4 i len cs).take h).drop l),bx,st)else none
 | _=>none
def F1 (op:BinOp):e9→List AV→AV→St→Option (AV×AV×St):=fun _ as bx st=>match as with
 | [a,b]=>(s4 op a b).map (·,bx,st)
 | _=>none
def S7 (op:BinOp):e9→List AV→AV→St→Option (AV×AV×St):=fun _ as bx st=>match as with
 | [a,b]=>(a6k op a b).map (·,bx,st)
 | _=>none
def N8 (op:BinOp):e9→List AV→AV→St→Option (AV×AV×St):=fun _ as bx st=>match as with
 | [a,b]=>(a0L op a b).map (·,bx,st)
 | _=>none
def a0q (op:UnOp):e9→List AV→AV→St→Option (AV×AV×St):=fun _ as bx st=>match op,as with
 | .not,[.bool b]=>some (.bool !b,bx,st)
 | .neg,[.int k n]=>some (.int k (D9 k (0 - n)),bx,st)
 | _,_=>none
def R8 (k:IntKind):e9→List AV→AV→St→Option (AV×AV×St):=fun _ as bx st=>match as with
 | [.int _ n]=>some (.int k (D9 k n),bx,st)
 | _=>none
def Y3 (f n:Nat):e9→List AV→AV→St→Option (AV×AV×St):=fun _ as bx st=>if y9 as then some (.func f ((as.map AV.weak).take n) ((as.map AV.weak).drop n),bx,st)else none
def Y4 :e9→List AV→AV→St→Option (AV×AV×St):=fun _ as bx st=>match as with
 | []=>some (.map st.length,bx,st++[.map []])
 | _=>none
def X3 (i:Nat) (zero:List AV) (agg ok:Bool):e9→List AV→AV→St→Option (AV×AV×St):=fun _ as bx st=>   let fin (r:Option (Option (Nat×AV))):Option (AV×AV×St):=match r with
 | some r=>match (match r with|some (_,v)=>some v|none=>m4 agg zero.length zero)with
  | some v=>some (if ok then .tuple [v,.bool r.isSome]else v,bx,st)
  | none=>none
 | none=>none
 match as with
 | [.nilm,k]=>fin (I0 i k [] 0)
 | [.map o,k]=>match st[o]? with
  | some (.map es)=>fin (I0 i k es 0)
  | _=>none
 | _=>none
def X0 (j:Nat):e9→List AV→AV→St→Option (AV×AV×St):=fun _ as bx st=>match as with
 | [.map o,k,v]=>if v.plain then match st[o]? with
  | some (.map es)=>match I0 j k es 0 with
   | some (some (i,_))=>some (.tuple [],bx,st.set o (.map (es.set i (k,v.weak))))
   | some none=>(Q4 j k k).bind fun _=>some (.tuple [],bx,st.set o (.map (es++[(k,v.weak)])))
   | none=>none
  | _=>none
  else none
 | _=>none
def S1 (i:Nat):e9→List AV→AV→St→Option (AV×AV×St):=fun _ as bx st=>match as with
 | [.tuple vs]=>match vs[i]? with
  | some v=>some (v.weak,bx,st)
  | none=>none
 | _=>none
def B6 (f:Nat):e9→List AV→AV→St→Option (AV×AV×St):=fun call as bx st=>if y9 as then(call f (as.map AV.weak) st).map fun(v,st)=>(v,bx,st)else none
def H9 :e9→List AV→AV→St→Option (AV×AV×St):=fun call as bx st=>match as with
 | .func f first caps::as=>if y9 as then(call f ((first++as++caps).map AV.weak) st).map fun(v,st)=>(v,bx,st)else none
 | _=>none
def R9 :e9→List AV→AV→St→Option (AV×AV×St):=fun _ as bx st=>match as with
 | [.str s]=>some (.int .i64 s.length,bx,st)
 | _=>none
def J6 :e9→List AV→AV→St→Option (AV×AV×St):=fun _ as bx st=>match as with
 | [.list _ xs]=>some (.int .i64 xs.length,bx,st)
 | [.sl _ _ n _]=>some (.int .i64 n,bx,st)
 | [.nils]=>some (.int .i64 0,bx,st)
 | _=>none
def W6 (i bytes:Nat):e9→List AV→AV→St→Option (AV×AV×St):=fun _ as bx st=>match as with
 | [.list true xs,.list _ ys] =>if s5 i xs && s5 i ys && decide ((xs.length+ys.length)*bytes≤2 ^ 47)then some (.list true (xs++ys),bx,st)else none
 | _=>none
def a0c (bytes:Nat):e9→List AV→AV→St→Option (AV×AV×St):=fun _ as bx st=>match as with
 | [.list true xs,.nils]=>if s5 1 xs && decide (xs.length*bytes≤2 ^ 47)then some (.list true xs,bx,st)else none
 | [.list true xs,.sl o 0 n 1]=>match st[o]? with
  | some (.cells cs)=>if s5 1 xs && Nat.beq n cs.length && decide ((xs.length+cs.length)*bytes≤2 ^ 47)then some (.list true (xs++cs.map fun c=>[c]),bx,st)else none
  | _=>none
 | _=>none
def K4 (i:Nat) (zero:List (List AV)) (at_:List Nat):e9→List AV→AV→St→Option (AV×AV×St):=fun _ as bx st=>(B0 i at_ as zero).map fun rs=>(.fresh rs,bx,st)
def K5 (i:Nat) (zero:List (List AV)) (at_:List Nat):e9→List AV→AV→St→Option (AV×AV×St):=fun _ as bx st=>(B0 i at_ as zero).map fun rs=>(.sl st.length 0 zero.length i,bx,st++[.cells rs.flatten])
def b5c (a b:Int):Int:=if ltI b a then b else a
def W7:e9→List AV→AV→St→Option (AV×AV×St):=fun _ as bx st=>match as with
 | [.int k a,.int k' b]=>if k=k' then some (.int k (b5c a b),bx,st)else none
 | _=>none
def a7S (neg:Bool) (a b:Int) (s t:List Nat):Bool:=Bool.xor neg (eqI a b && eqN s t)
def W9 (neg:Bool):e9→List AV→AV→St→Option (AV×AV×St):=fun _ as bx st=>match as with
 | [.agg [.int k a,.str s],.agg [.int k' b,.str t]]=>if k=k' then some (.bool (a7S neg a b s t),bx,st)else none
 | _=>none
def P5:AV→Option Nat
 | .ptr p _=>some p
 | .sl p _ _ _=>some p
 | _=>none
def N2 (o:Option Nat) (n:Nat):List AV→Bool
 | []=>true
 | g::gs=>(match P5 g with|some p=>Nat.blt p n && (match o with|some o=>!Nat.beq p o|none=>true)|none=>false) && N2 o n gs
def F6 (i bytes:Nat):e9→List AV→AV→St→Option (AV×AV×St):=fun _ as bx st=>match as with
 | .list true []::.fresh ys::gs=>if ys.isEmpty=false∧s5 i ys=true∧ys.length*bytes≤2 ^ 47∧N2 none st.length gs=true then some (.sl st.length 0 ys.length i,bx,st++[.cells ys.flatten])else none
 | .nils::.fresh ys::gs=>if ys.isEmpty=false∧s5 i ys=true∧ys.length*bytes≤2 ^ 47∧N2 none st.length gs=true then some (.sl st.length 0 ys.length i,bx,st++[.cells ys.flatten])else none
 | .nils::.nils::gs=>if N2 none st.length gs=true then some (.nils,bx,st)else none
 | .sl o 0 n s::.fresh ys::gs=>match st[o]? with
  | some (.cells xs)=>if s=i∧ys.isEmpty=false∧s5 i ys=true∧xs.length=n*i∧(n+ys.length)*bytes≤2 ^ 47∧N2 (some o) st.length gs=true then some (.sl st.length 0 (n+ys.length) i,bx,st.set o .dead++[.cells (xs++ys.flatten)])else none
  | _=>none
 | .sl o f n s::.nils::gs=>if N2 none st.length gs=true then some (.sl o f n s,bx,st)else none
 | _=>none
def G8 (agg:Bool) (n:Nat):e9→List AV→AV→St→Option (AV×AV×St):=fun call as bx st=>match as with
 | [.ptr o off,r]=>match P5 r with
  | some p=>if Nat.beq o p=true then F4 agg n call [.ptr o off] bx st else none
  | none=>none
 | _=>none
def F0 (d:Nat):e9→List AV→AV→St→Option (AV×AV×St):=fun call as bx st=>match as with
 | [.ptr o off,.ptr p f]=>if Nat.beq o p=true∧Nat.beq off (f+d)=true then E8 call [.ptr o off] bx st else none
 | _=>none
def H1 (n:Nat):e9→List AV→AV→St→Option (AV×AV×St):=fun call as bx st=>match as with
 | .ptr o off::x::r::gs=>match P5 r with
  | some p=>if Nat.beq o p=true∧N2 (some o) st.length gs=true then H5 n call [.ptr o off,x] bx st else none
  | none=>none
 | _=>none
mutual
def K9:AV→AV→Bool
 | .undef,.undef=>true
 | .bool a,.bool b=>a == b
 | .int k a,.int z b=>decide (k=z) && eqI a b
 | .str a,.str b=>eqN a b
 | .list o xs,.list i ys=>(o == i) && a3s xs ys
 | .ptr o f,.ptr i j=>Nat.beq o i && Nat.beq f j
 | .nilp,.nilp=>true
 | .ro xs,.ro ys=>U7 xs ys
 | .loc o f,.loc i j=>Nat.beq o i && Nat.beq f j
 | .box xs,.box ys=>U7 xs ys
 | .map o,.map i=>Nat.beq o i
 | .nilm,.nilm=>true
 | .func f xs ys,.func j l u=>Nat.beq f j && U7 xs l && U7 ys u
 | .nilf,.nilf=>true
 | .agg xs,.agg ys=>U7 xs ys
 | .tuple xs,.tuple ys=>U7 xs ys
 | .iface t x,.iface E y=>Nat.beq t E && K9 x y
 | .nili,.nili=>true
 | .nils,.nils=>true
 | .fresh xs,.fresh ys=>a3s xs ys
 | .sl o f n s,.sl i j B C=>Nat.beq o i && Nat.beq f j && Nat.beq n B && Nat.beq s C
 | _,_=>false
def U7:List AV→List AV→Bool
 | [],[]=>true
 | a::as,b::bs=>K9 a b && U7 as bs
 | _,_=>false
def a3s:List (List AV)→List (List AV)→Bool
 | [],[]=>true
 | a::as,b::bs=>U7 a b && a3s as bs
 | _,_=>false
end
def a8D:List (AV×AV)→List (AV×AV)→Bool
 | [],[]=>true
 | (a,b)::as,(c,d)::bs=>K9 a c && K9 b d && a8D as bs
 | _,_=>false
def a9O:Obj→Obj→Bool
 | .cells a,.cells b=>U7 a b
 | .map a,.map b=>a8D a b
 | .dead,.dead=>true
 | _,_=>false
def b0f:St→St→Bool
 | [],[]=>true
 | a::as,b::bs=>a9O a b && b0f as bs
 | _,_=>false
def kept (st st':St):List AV→Bool
 | []=>true
 | g::gs=>(match P5 g with|some p=>(match st[p]?,st'[p]? with|some a,some b=>a9O a b|_,_=>false)|none=>false) && kept st st' gs
def G9 (f m:Nat):e9→List AV→AV→St→Option (AV×AV×St):=fun call as bx st=>match B6 f call (as.take m) bx st with
 | some (v,b,st')=>if kept st st' (as.drop m)then some (v,b,st')else none
 | none=>none
def W3:e9→List AV→AV→St→Option (AV×AV×St):=fun _ as bx st=>match as with
 | [.list _ xs]=>(I5 xs).map fun s=>(.str s,bx,st)
 | _=>none
def sem:Kind→e9→List AV→AV→St→Option (AV×AV×St)
 | .mv=>a1a
 | .pick=>F3
 | .nilchk=>G0
 | .alloc zero=>V4 zero
 | .boxV=>X1
 | .allocO zero=>I7 zero
 | .boxO=>O7
 | .build zero t=>N9 zero t
 | .bslice j zero at_=>N3 j zero at_
 | .bsliceM j zero at_=>K4 j zero at_
 | .bsliceO j zero at_=>K5 j zero at_
 | .min2=>W7
 | .eqIS neg=>W9 neg
 | .stuck=>fun _ _ _ _=>none
 | .ldLc i agg n=>M0 i agg n
 | .ldSt agg n=>F4 agg n
 | .ldRo agg n=>P1 agg n
 | .ldAn agg n=>H3 agg n
 | .ldLcS i=>O0 i
 | .ldStS=>E8
 | .ldStR agg n=>G8 agg n
 | .ldStSR d=>F0 d
 | .stStA n=>H1 n
 | .callA f m=>G9 f m
 | .stLc i n=>O6 i n
 | .stSt n=>H5 n
 | .fad off=>P6 off
 | .fld off n agg=>W5 off n agg
 | .iad j=>O1 j
 | .iadA len j=>I4 len j
 | .idxS=>N7
 | .slS l hi=>S0 l hi
 | .slL j l hi=>P3 j l hi
 | .slZ=>Y8
 | .slA len j l hi=>W2 len j l hi
 | .bin op=>F1 op
 | .binB op=>S7 op
 | .binP op=>N8 op
 | .un op=>a0q op
 | .conv k=>R8 k
 | .mkF f n=>Y3 f n
 | .mkM=>Y4
 | .mget u zero agg ok=>X3 u zero agg ok
 | .mset u=>X0 u
 | .ext i=>S1 i
 | .call f=>B6 f
 | .callV=>H9
 | .lenS=>R9
 | .lenL=>J6
 | .app j bytes=>W6 j bytes
 | .appM j bytes=>F6 j bytes
 | .b2s=>W3
 | .appA bytes=>a0c bytes
def Opd.read (x:Opd) (σ:Sig):AV :=
 match x with
 | .t s=>(σ.τ s).weak
 | .ts s=>σ.τ s
 | .v i=>(σ.fr.getD i .undef).weak
 | .vs i=>σ.fr.getD i .undef
 | .l i=>match σ.fr.getD i .undef with
  | .box _=>.loc i 0
  | _=>.undef
 | .c a=>a
def C6 (τ:Nat→AV) (s:Nat) (a:AV):Nat→AV:=fun j=>if Nat.beq j s then a else τ j
def Opd.spend (x:Opd) (σ:Sig):Sig :=
 match x with
 | .ts s=>{ σ with τ:=C6 σ.τ s (σ.τ s).weak }
 | .vs i=>{ σ with fr:=σ.fr.set i (σ.fr.getD i .undef).weak }
 | _=>σ
def AV.strip:AV→AV
 | .loc ..=>.undef
 | .box _=>.undef
 | v=>v
def AV.stripB:AV→AV
 | .box _=>.undef
 | v=>v
def Dst.put (d:Dst) (a:AV) (σ:Sig):Sig :=
 match d with
 | .none|.bx=>σ
 | .t s=>{ σ with τ:=C6 σ.τ s a.stripB }
 | .v i=>{ σ with fr:=σ.fr.set i a.strip }
def g9:List Opd→Sig→Sig
 | [],σ=>σ
 | x::xs,σ=>g9 xs (x.spend σ)
def a6f {α:Type}:List Opd→Sig→(List AV→α)→α
 | [],_,k=>k []
 | x::xs,σ,k=>fV (x.read σ) fun a=>a6f xs σ fun as=>k (a::as)
def Kind.fresh:Kind→Bool
 | .bin _|.binB _|.binP _|.un _|.conv _|.lenS|.lenL|.slS ..|.slL ..|.slA ..|.app ..|.fad _|.iadA ..|.idxS|.b2s|.build ..|.bslice ..|.bsliceM ..|.bsliceO ..|.min2|.eqIS _|.appM ..|.appA _|.allocO _|.mkM=>true
 | _=>false
def Kind.alters:Kind→Bool
 | .alloc _|.boxV|.ldLcS _|.stLc ..=>true
 | _=>false
def E9 (call:e9) (o:AOper) (σ:Sig):Option Sig :=
 a6f o.args σ fun as =>
 match sem o.kind call as (match o.box with|some i=>σ.fr.getD i .undef|none=>.undef) σ.st with
 | some (r,bx,st) =>
  let σ:=g9 o.args σ
  (if o.kind.fresh then a3m r else fV r) fun r =>
  match o.box with
  | some i=>(if o.kind.alters then a3m bx else fV bx) fun bx=>some (o.dst.put r { σ with fr:=σ.fr.set i bx,st })
  | none=>some (o.dst.put r { σ with st })
 | none=>none
def m2 (call:e9) (o:AOper) (σ:Sig):Option Sig :=
 match o.guard with
 | none=>E9 call o σ
 | some (x,want)=>match x.read σ with
  | .bool b=>if b == want then E9 call o σ else some (o.dst.put (.tuple []) σ)
  | .tuple []=>some (o.dst.put (.tuple []) σ)
  | _=>none
def l7 (call:e9):List AOper→Sig→Option Sig
 | [],σ=>some σ
 | o::os,σ=>match m2 call o σ with
  | some σ=>l7 call os σ
  | none=>none
def m0:List Nat→List AV→List AV
 | [],fr=>fr
 | i::is,fr=>m0 is (fr.set i .undef)
inductive Ex where
 | normal|exit (id:Nat)|ret
 deriving DecidableEq,Inhabited
abbrev Out:=Ex×List AV×St
def J2 (body:List AV→St→Option Out):Nat→List AV→St→Option Out
 | 0,_,_=>none
 | n+1,fr,st=>match body fr st with
  | some (.normal,fr,st)=>J2 body n fr st
  | r=>r
def a8I:Ex→Ex→Bool
 | .normal,.normal=>true
 | .exit a,.exit b=>Nat.beq a b
 | .ret,.ret=>true
 | _,_=>false
def a9L (a b:Out):Bool:=a8I a.1 b.1 && U7 a.2.1 b.2.1 && b0f a.2.2 b.2.2
def G1 (kill:List Nat) (o:Out):Out:=(o.1,m0 kill o.2.1,o.2.2)
def a6g (kill:List Nat) (x y:Option Out):Option Out:=match x,y with
 | some a,some b=>if a9L (G1 kill a) (G1 kill b)then some (G1 kill a)else none
 | _,_=>none
def exec (call:e9) (n:Nat):ACode→List AV→St→Option Out
 | .skip,fr,st=>some (.normal,fr,st)
 | .reg kill ops,fr,st=>match l7 call ops ⟨m0 kill fr,fun _=>.undef,st⟩with
  | some σ=>fL σ.fr fun fr=>fL σ.st fun st=>some (.normal,fr,st)
  | none=>none
 | .test kill ops c a b,fr,st=>match l7 call ops ⟨m0 kill fr,fun _=>.undef,st⟩with
  | some σ=>match c.read σ with
   | .bool true=>fL σ.fr fun fr=>fL σ.st fun st=>exec call n a fr st
   | .bool false=>fL σ.fr fun fr=>fL σ.st fun st=>exec call n b fr st
   | _=>none
  | none=>none
 | .seq a b,fr,st=>match exec call n a fr st with
  | some (.normal,fr,st)=>exec call n b fr st
  | r=>r
 | .blk id a,fr,st=>match exec call n a fr st with
  | some (.exit i,fr,st)=>some (if i=id then .normal else .exit i,fr,st)
  | r=>r
 | .loop a,fr,st=>J2 (exec call n a) n fr st
 | .either kill a b,fr,st=>a6g kill (exec call n a fr st) (exec call n b fr st)
 | .exit id,fr,st=>some (.exit id,fr,st)
 | .ret,fr,st=>some (.ret,fr,st)
def ResK.get (r:ResK) (fr:List AV) (st:St):Option AV :=
 match r with
 | .v i=>some (fr.getD i .undef).weak
 | .vs i=>some (fr.getD i .undef)
 | .bx i agg n=>match fr.getD i .undef with
  | .box cs=>m4 agg n cs
  | _=>none
 | .po i agg n=>match fr.getD i .undef with
  | .ptr o off=>match st[o]? with
   | some (.cells cs)=>m4 agg n (cs.drop off)
   | _=>none
  | _=>none
def H4:List ResK→List AV→St→Option (List AV)
 | [],_,_=>some []
 | r::rs,fr,st=>match r.get fr st,H4 rs fr st with
  | some v,some vs=>some (v::vs)
  | _,_=>none
def AFn.run (fn:AFn) (call:e9) (n:Nat) (args:List AV) (st:St):Option (AV×St) :=
 if args.length=fn.np then
  match exec call n fn.code (args++List.replicate (fn.nv - fn.np) .undef) st with
  | some (.exit _,_,_)=>none
  | some (_,fr,st)=>match H4 fn.results fr st with
   | some [v]=>some (v,st)
   | some vs=>some (.tuple vs,st)
   | none=>none
  | none=>none
 else none
def e3r (l:List (List (Option AFn))) (f:Nat):Option AFn:=((l.getD (f / 10) []).getD (f % 10) none)
def a0O (i bytes:Nat) (as:List AV) (st:St):Option (AV×St) :=
 match as with
 | [.list _ xs]=>if s5 i xs && decide (xs.length*bytes≤2 ^ 47)then some (.list true xs,st)else none
 | _=>none
def m6 (tbl:Nat→Option AFn):Nat→e9
 | 0=>fun _ _ _=>none
 | n+1=>fun f args st=>match tbl f with
  | some fn=>match fn.ext with
   | some e=>e args st
   | none=>fn.run (m6 tbl n) n args st
  | none=>none
end Go.Cb
