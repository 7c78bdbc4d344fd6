/-
 THE ABSTRACT MACHINE, part 1: values, operations, code, and how they run. A program's functions are told once more in this small language; part 2 shows that a run here is a run of the model.
-/
import GoSem.Core.Sem
import GoSem.Dispatch
set_option linter.unusedVariables false
namespace Go.Cb

inductive AV where
 | undef
 | bool (b:Bool)
 | int (k:IntKind) (n:Int)
 | str (s:List Nat)
 | list (own:Bool) (xs:List (List AV))
 | ptr (o off:Nat)
 | nilp
 | ro (cs:List AV)
 | loc (i off:Nat)
 | box (cs:List AV)
 | map (o:Nat)
 | nilm
 | func (f:Nat) (first caps:List AV)
 | nilf
 | agg (cs:List AV)
 | tuple (vs:List AV)
 | iface (t:Nat) (v:AV)
 | nili
 | sl (o f n sz:Nat)
 | fresh (xs:List (List AV))
 | nils
 deriving Inhabited

inductive Obj where
 | cells (cs:List AV)
 | map (es:List (AV×AV))
 | dead
 deriving Inhabited

abbrev St:=List Obj

def AV.weak1:AV→AV
 | .list _ xs=>.list false xs
 | v=>v

def AV.weak:AV→AV
 | .list _ xs=>.list false xs
 | .agg cs=>.agg (cs.map AV.weak1)
 | v=>v

def AV.cells:AV→List AV
 | .agg cs=>cs
 | v=>[v]

def AV.cellsW:AV→List AV
 | .agg cs=>cs
 | .list o xs=>[.list (o && xs.isEmpty) xs]
 | v=>[v]

def AV.cellW1:AV→AV
 | .list o xs=>.list (o && xs.isEmpty) xs
 | v=>v

def AV.plain:AV→Bool
 | .undef=>false
 | .loc ..=>false
 | .box _=>false
 | .tuple _=>false
 | .fresh _=>false
 | _=>true
def p5:List AV→Bool
 | []=>true
 | a::as=>a.plain && p5 as

inductive Opd where
 | t (s:Nat)|ts (s:Nat)
 | v (i:Nat)|vs (i:Nat)
 | l (i:Nat)
 | c (a:AV)
 deriving Inhabited

inductive Kind where
 | mv|pick|nilchk
 | alloc (zero:List AV)|allocO (zero:List AV)
 | boxV|boxO
 | build (zero:List AV) (offs:List (Nat×Nat))
 | bslice (sz:Nat) (zero:List (List AV)) (at_:List Nat)
 | bsliceM (sz:Nat) (zero:List (List AV)) (at_:List Nat)
 | bsliceO (sz:Nat) (zero:List (List AV)) (at_:List Nat)
 | min2|stuck
 | eqIS (neg:Bool)
 | ldLc (i:Nat) (agg:Bool) (n:Nat)|ldSt (agg:Bool) (n:Nat)|ldRo (agg:Bool) (n:Nat)
 | ldAn (agg:Bool) (n:Nat)
 | ldLcS (i:Nat)|ldStS
 | ldStR (agg:Bool) (n:Nat)|ldStSR (off:Nat)|stStA (n:Nat)|callA (f m:Nat)
 | stLc (i n:Nat)|stSt (n:Nat)
 | fad (off:Nat)
 | fld (off n:Nat) (agg:Bool)
 | iad (sz:Nat)
 | iadA (len sz:Nat)
 | idxS
 | slS (lo hi:Bool)
 | slL (sz:Nat) (lo hi:Bool)
 | slZ
 | slA (len sz:Nat) (lo hi:Bool)
 | bin (op:BinOp)
 | binB (op:BinOp)
 | binP (op:BinOp)
 | un (op:UnOp)
 | conv (k:IntKind)
 | mkF (f nfirst:Nat)
 | mkM
 | mget (kc:Nat) (zero:List AV) (agg ok:Bool)
 | mset (kc:Nat)
 | mdel (kc:Nat)|slO (sz:Nat)
 | max2|idxA (len sz:Nat) (agg:Bool)
 | appS (bytes:Nat)|clrS|mgetR (kc:Nat) (zero:List AV) (agg ok:Bool)
 | ext (i:Nat)
 | call (f:Nat)
 | callV
 | lenS|lenL
 | app (sz bytes:Nat)
 | appM (sz bytes:Nat)
 | b2s
 | appA (bytes:Nat)
 deriving Inhabited

inductive Dst where
 | none|t (s:Nat)|v (i:Nat)|bx
 deriving Inhabited

structure AOper where
 dst:Dst
 kind:Kind
 args:List Opd
 box:Option Nat:=.none
 guard:Option (Opd×Bool):=.none
 deriving Inhabited

inductive ACode where
 | skip
 | reg (kill:List Nat) (ops:List AOper)
 | test (kill:List Nat) (ops:List AOper) (c:Opd) (a b:ACode)
 | seq (a b:ACode)
 | blk (id:Nat) (a:ACode)
 | loop (a:ACode)
 | either (kill:List Nat) (a b:ACode)
 | exit (id:Nat)
 | ret
 deriving Inhabited

inductive ResK where
 | v (i:Nat)|vs (i:Nat)|bx (i:Nat) (agg:Bool) (n:Nat)|po (i:Nat) (agg:Bool) (n:Nat)
 deriving Inhabited

structure AFn where
 np:Nat
 nv:Nat
 results:List ResK
 code:ACode
 ext:Option (List AV→St→Option (AV×St)):=none
 deriving Inhabited

structure Sig where
 fr:List AV
 τ:Nat→AV
 st:St

/-! the same value again, reckoned out first: for the kernel's sake -/
def fN {α:Type} (m:Nat) (k:Nat→α):α :=
 match m with
 | .zero=>k .zero
 | .succ n=>k (.succ n)
def fI {α:Type} (n:Int) (k:Int→α):α :=
 match n with
 | .ofNat m=>fN m fun m=>k (.ofNat m)
 | .negSucc m=>fN m fun m=>k (.negSucc m)
def fL {α β:Type} (l:List α) (k:List α→β):β :=
 match l with
 | []=>k []
 | a::l=>fL l fun l=>k (a::l)
def fLN {β:Type} (l:List Nat) (k:List Nat→β):β :=
 match l with
 | []=>k []
 | a::l=>fN a fun a=>fLN l fun l=>k (a::l)
def fV {α:Type} (v:AV) (k:AV→α):α :=
 match v with
 | .undef=>k .undef
 | .bool b=>match b with|true=>k (.bool true)|false=>k (.bool false)
 | .int t n=>k (.int t n)
 | .str s=>k (.str s)
 | .list o xs=>match o with|true=>k (.list true xs)|false=>k (.list false xs)
 | .ptr o f=>k (.ptr o f)
 | .nilp=>k .nilp
 | .ro cs=>k (.ro cs)
 | .loc i f=>k (.loc i f)
 | .box cs=>k (.box cs)
 | .map o=>k (.map o)
 | .nilm=>k .nilm
 | .func f a b=>k (.func f a b)
 | .nilf=>k .nilf
 | .agg cs=>k (.agg cs)
 | .tuple vs=>k (.tuple vs)
 | .iface t v=>k (.iface t v)
 | .nili=>k .nili
 | .sl o f n s=>k (.sl o f n s)
 | .fresh xs=>k (.fresh xs)
 | .nils=>k .nils
def a1m {α:Type} (v:AV) (k:AV→α):α :=
 match v with
 | .int t n=>fI n fun n=>k (.int t n)
 | .str s=>fLN s fun s=>k (.str s)
 | .list o xs=>fL xs fun xs=>fV (.list o xs) k
 | .fresh xs=>fL xs fun xs=>k (.fresh xs)
 | .ptr o f=>fN o fun o=>fN f fun f=>k (.ptr o f)
 | .loc o f=>fN o fun o=>fN f fun f=>k (.loc o f)
 | .box cs=>fL cs fun cs=>k (.box cs)
 | .agg cs=>fL cs fun cs=>k (.agg cs)
 | .ro cs=>fL cs fun cs=>k (.ro cs)
 | .map o=>fN o fun o=>k (.map o)
 | .sl o f n s=>fN o fun o=>fN f fun f=>fN n fun n=>k (.sl o f n s)
 | v=>fV v k

abbrev b6:=Nat→List AV→St→Option (AV×St)

/-! the operations -/

def j9 (cs:List AV) (off:Nat) (new:List AV):List AV:=cs.take off++new++cs.drop (off+new.length)

def s9:List (Nat×Nat)→List AV→List AV→Option (List AV)
 | [],[],cs=>some cs
 | (off,n)::offs,p::ps,cs=>if p.plain=true∧p.cells.length=n∧off+n≤cs.length then s9 offs ps (j9 cs off p.cells) else none
 | _,_,_=>none

def r7 (sz:Nat):List Nat→List AV→List (List AV)→Option (List (List AV))
 | [],[],rs=>some rs
 | i::is,p::ps,rs=>if p.plain=true∧p.cells.length=sz∧i < rs.length then r7 sz is ps (rs.set i (p.cells.map AV.weak1)) else none
 | _,_,_=>none

def m8 (sz:Nat):List Nat→List AV→List (List AV)→Option (List (List AV))
 | [],[],rs=>some rs
 | i::is,p::ps,rs=>if p.plain=true∧p.cells.length=sz∧i < rs.length then m8 sz is ps (rs.set i (p.cells.map AV.cellW1)) else none
 | _,_,_=>none

def g8 (sz:Nat):List (List AV)→Bool
 | []=>true
 | r::_=>r.length == sz

def d9 (agg:Bool) (n:Nat) (cs:List AV):Option AV :=
 if agg then (if n≤cs.length then some (.agg ((cs.take n).map AV.weak1)) else none)
 else match cs with
  | c::_=>some c.weak1
  | []=>none

def l4 (k:IntKind) (n:Int):Int :=
 match k,n with
 | .i64,.ofNat m=>if Nat.blt m 9223372036854775808 then .ofNat m else k.wrap n
 | .i64,.negSucc m=>if Nat.blt m 9223372036854775808 then .negSucc m else k.wrap n
 | .u8,.ofNat m=>if Nat.blt m 256 then .ofNat m else k.wrap n
 | .u64,.ofNat m=>if Nat.blt m 18446744073709551616 then .ofNat m else k.wrap n
 | .i32,.ofNat m=>if Nat.blt m 2147483648 then .ofNat m else k.wrap n
 | .i32,.negSucc m=>if Nat.blt m 2147483648 then .negSucc m else k.wrap n
 | k,n=>k.wrap n

def eqI:Int→Int→Bool
 | .ofNat a,.ofNat b=>Nat.beq a b
 | .negSucc a,.negSucc b=>Nat.beq a b
 | _,_=>false
def ltI:Int→Int→Bool
 | .ofNat a,.ofNat b=>Nat.blt a b
 | .negSucc a,.negSucc b=>Nat.blt b a
 | .negSucc _,.ofNat _=>true
 | .ofNat _,.negSucc _=>false
def a5t:Int→Int→Int
 | .ofNat a,.ofNat b=>.ofNat (Nat.add a b)
 | a,b=>a+b
def W4:Int→Int→Int
 | .ofNat a,.ofNat b=>if Nat.ble b a then .ofNat (Nat.sub a b) else .ofNat a - .ofNat b
 | a,b=>a - b

def l8:List Nat→List Nat→Bool
 | _,[]=>false
 | [],_::_=>true
 | a::x,b::y=>Nat.blt a b || (Nat.beq a b && l8 x y)

def eqN:List Nat→List Nat→Bool
 | [],[]=>true
 | a::x,b::y=>Nat.beq a b && eqN x y
 | _,_=>false

def i7 (op:BinOp):AV→AV→Option AV
 | .int k a,.int k' b =>
  match op with
  | .shl=>if b < 0 then none else some (.int k (k.wrap (a*2 ^ (min b.toNat k.bits))))
  | .shr=>if b < 0 then none else some (.int k (a.fdiv (2 ^ (min b.toNat k.bits))))
  | _ =>
  if k=k' then
   match op with
   | .add=>some (.int k (l4 k (a5t a b)))
   | .sub=>some (.int k (l4 k (W4 a b)))
   | .mul=>some (.int k (l4 k (a*b)))
   | .quo=>if b=0 then none else some (.int k (k.wrap (a.tdiv b)))
   | .rem=>if b=0 then none else some (.int k (a.tmod b))
   | .and=>some (.int k (k.wrap (BitVec.ofInt k.bits a &&& BitVec.ofInt k.bits b).toNat))
   | .or=>some (.int k (k.wrap (BitVec.ofInt k.bits a ||| BitVec.ofInt k.bits b).toNat))
   | .xor=>some (.int k (k.wrap (BitVec.ofInt k.bits a ^^^ BitVec.ofInt k.bits b).toNat))
   | .eql=>some (.bool (eqI a b))
   | .neq=>some (.bool !(eqI a b))
   | .lss=>some (.bool (ltI a b))
   | .leq=>some (.bool !(ltI b a))
   | .gtr=>some (.bool (ltI b a))
   | .geq=>some (.bool !(ltI a b))
   | _=>none
  else none
 | .str a,.str b =>
  match op with
  | .add=>if a.length+b.length≤2 ^ 62 then some (.str (a++b)) else none
  | .eql=>some (.bool (eqN a b))
  | .neq=>some (.bool !(eqN a b))
  | .lss=>some (.bool (l8 a b))
  | .gtr=>some (.bool !(l8 a b || eqN a b))
  | .leq=>some (.bool (l8 a b || eqN a b))
  | .geq=>some (.bool !(l8 a b))
  | _=>none
 | _,_=>none

def a3l (op:BinOp):AV→AV→Option AV
 | .bool a,.bool b =>
  match op with
  | .eql=>some (.bool (a == b))
  | .neq=>some (.bool !(a == b))
  | _=>none
 | _,_=>none

def W3 (op:BinOp):AV→AV→Option AV
 | .ptr ..,.nilp|.nilp,.ptr .. =>
  match op with
  | .eql=>some (.bool false)
  | .neq=>some (.bool true)
  | _=>none
 | .nilp,.nilp =>
  match op with
  | .eql=>some (.bool true)
  | .neq=>some (.bool false)
  | _=>none
 | .ro _,.nilp|.nilp,.ro _ =>
  match op with
  | .eql=>some (.bool false)
  | .neq=>some (.bool true)
  | _=>none
 | .nili,.nili =>
  match op with
  | .lss=>some (.bool true)
  | .gtr=>some (.bool false)
  | _=>none
 | _,_=>none

def t6 (kc:Nat):AV→AV→Option Bool
 | .int k a,.int k' b=>if kc=0∧k=k' then some (eqI a b) else none
 | .str a,.str b=>if kc=1 then some (eqN a b) else none
 | .bool a,.bool b=>if kc=2 then some (a == b) else none
 | _,_=>none

def m2 (kc:Nat) (k:AV):List (AV×AV)→Nat→Option (Option (Nat×AV))
 | [],_=>some none
 | (k',v)::es,i =>
  match t6 kc k k' with
  | some true=>some (some (i,v))
  | some false=>m2 kc k es (i+1)
  | none=>none

def G5 (x:AV) (top:Nat):Option Nat :=
 match x with
 | .int _ i=>if 0≤i∧i≤(top:Int) then some i.toNat else none
 | _=>none

def q7 (lo hi:Bool) (as:List AV) (len:Nat):Option (Nat×Nat) :=
 match lo,hi,as with
 | false,false,[]=>some (0,len)
 | true,false,[l]=>(G5 l len).map (·,len)
 | false,true,[h]=>(G5 h len).map (0,·)
 | true,true,[l,h]=>match G5 h len with
  | some h=>(G5 l h).map (·,h)
  | none=>none
 | _,_,_=>none

def O0 (sz:Nat):Nat→List AV→List (List AV)
 | 0,_=>[]
 | n+1,cs=>cs.take sz::O0 sz n (cs.drop sz)

def z8:List (List AV)→Option (List Nat)
 | []=>some []
 | [.int .u8 n]::rs=>if 0≤n∧n < 256 then (z8 rs).map (n.toNat::·) else none
 | _=>none

def Y9 :b6→List AV→AV→St→Option (AV×AV×St):=fun _ as bx st=>match as with
 | [a]=>some (a,bx,st)
 | _=>none

def w8 :b6→List AV→AV→St→Option (AV×AV×St):=fun _ as bx st=>match as with
 | [.bool c,a,b]=>if c then (if a.plain then some (a,bx,st) else none) else (if b.plain then some (b,bx,st) else none)
 | _=>none

def z7 :b6→List AV→AV→St→Option (AV×AV×St):=fun _ as bx st=>match as with
 | [.ptr o f]=>some (.ptr o f,bx,st)
 | [.loc i f]=>some (.loc i f,bx,st)
 | [.ro cs]=>some (.ro cs,bx,st)
 | [.func f a b]=>some (.func f a b,bx,st)
 | _=>none

def N5 (zero:List AV):b6→List AV→AV→St→Option (AV×AV×St):=fun _ as bx st=>match as,bx with
 | [],.undef=>some (.undef,.box zero,st)
 | _,_=>none

def P0 :b6→List AV→AV→St→Option (AV×AV×St):=fun _ as bx st=>match as,bx with
 | [a],.undef=>if a.plain then some (.undef,.box a.cellsW,st) else none
 | _,_=>none

def D5 (zero:List AV):b6→List AV→AV→St→Option (AV×AV×St):=fun _ as bx st=>match as with
 | []=>some (.ptr st.length 0,bx,st++[.cells zero])
 | _=>none

def I5 :b6→List AV→AV→St→Option (AV×AV×St):=fun _ as bx st=>match as with
 | [a]=>if a.plain then some (.ptr st.length 0,bx,st++[.cells a.cellsW]) else none
 | _=>none

def I3 (zero:List AV) (offs:List (Nat×Nat)):b6→List AV→AV→St→Option (AV×AV×St):=fun _ as bx st=>(s9 offs as zero).map fun cs=>(.agg cs,bx,st)

def G7 (sz:Nat) (zero:List (List AV)) (at_:List Nat):b6→List AV→AV→St→Option (AV×AV×St):=fun _ as bx st=>(r7 sz at_ as zero).map fun rs=>(.list true rs,bx,st)

def F8 (i:Nat) (agg:Bool) (n:Nat):b6→List AV→AV→St→Option (AV×AV×St):=fun _ as bx st=>match as,bx with
 | [.loc j off],.box cs=>if i=j then (d9 agg n (cs.drop off)).map (·,bx,st) else none
 | _,_=>none

def w9 (agg:Bool) (n:Nat):b6→List AV→AV→St→Option (AV×AV×St):=fun _ as bx st=>match as with
 | [.ptr o off]=>match st[o]? with
  | some (.cells cs)=>(d9 agg n (cs.drop off)).map (·,bx,st)
  | _=>none
 | _=>none

def I8 (agg:Bool) (n:Nat):b6→List AV→AV→St→Option (AV×AV×St):=fun _ as bx st=>match as with
 | [.ro cs]=>(d9 agg n cs).map (·,bx,st)
 | _=>none

def C0 (agg:Bool) (n:Nat):b6→List AV→AV→St→Option (AV×AV×St):=fun _ as bx st=>match as with
 | [.ro cs]=>(d9 agg n cs).map (·,bx,st)
 | [.ptr o off]=>match st[o]? with
  | some (.cells cs)=>(d9 agg n (cs.drop off)).map (·,bx,st)
  | _=>none
 | _=>none

def H7 (i:Nat):b6→List AV→AV→St→Option (AV×AV×St):=fun _ as bx st=>match as,bx with
 | [.loc j off],.box cs=>if i=j then match cs[off]? with
  | some c=>some (c,.box (cs.set off c.weak1),st)
  | none=>none
  else none
 | _,_=>none

def y8 :b6→List AV→AV→St→Option (AV×AV×St):=fun _ as bx st=>match as with
 | [.ptr o off]=>match st[o]? with
  | some (.cells cs)=>match cs[off]? with
   | some c=>some (c,bx,st.set o (.cells (cs.set off c.weak1)))
   | none=>none
  | _=>none
 | _=>none

def I9 (i n:Nat):b6→List AV→AV→St→Option (AV×AV×St):=fun _ as bx st=>match as,bx with
 | [.loc j off,x],.box cs=>if i=j∧x.plain=true∧x.cells.length=n∧off+n≤cs.length then some (.tuple [],.box (j9 cs off x.cells),st) else none
 | _,_=>none

def B9 (n:Nat):b6→List AV→AV→St→Option (AV×AV×St):=fun _ as bx st=>match as with
 | [.ptr o off,x]=>match st[o]? with
  | some (.cells cs)=>if x.plain=true∧x.cells.length=n∧off+n≤cs.length then fL (j9 cs off x.cells) fun cs=>some (.tuple [],bx,st.set o (.cells cs)) else none
  | _=>none
 | _=>none

def J8 (off:Nat):b6→List AV→AV→St→Option (AV×AV×St):=fun _ as bx st=>match as with
 | [.ptr o f]=>some (.ptr o (f+off),bx,st)
 | [.loc i f]=>some (.loc i (f+off),bx,st)
 | [.ro cs]=>some (.ro (cs.drop off),bx,st)
 | _=>none

def O4 (off n:Nat) (agg:Bool):b6→List AV→AV→St→Option (AV×AV×St):=fun _ as bx st=>match as with
 | [.agg cs]=>if off+n≤cs.length then (d9 agg n (cs.drop off)).map (·,bx,st) else none
 | _=>none

def L2 (len sz:Nat) (agg:Bool):b6→List AV→AV→St→Option (AV×AV×St):=fun _ as bx st=>match as with
 | [.agg cs,.int _ i]=>if 0≤i∧i < (len:Int)∧i.toNat*sz+sz≤cs.length then (d9 agg sz (cs.drop (i.toNat*sz))).map (·,bx,st) else none
 | _=>none

def H8 (sz:Nat):b6→List AV→AV→St→Option (AV×AV×St):=fun _ as bx st=>match as with
 | [.list _ xs,.int _ i]=>if 0≤i then match xs[i.toNat]? with
  | some r=>if r.length=sz then some (.ro r,bx,st) else none
  | none=>none
  else none
 | [.sl o f n s,.int _ i]=>if 0≤i∧i < (n:Int)∧s=sz then some (.ptr o (f+i.toNat*sz),bx,st) else none
 | _=>none

def D3 (len sz:Nat):b6→List AV→AV→St→Option (AV×AV×St):=fun _ as bx st=>match as with
 | [.ro cs,.int _ i]=>if 0≤i∧i < (len:Int) then some (.ro (cs.drop (i.toNat*sz)),bx,st) else none
 | [.ptr o f,.int _ i]=>if 0≤i∧i < (len:Int) then some (.ptr o (f+i.toNat*sz),bx,st) else none
 | [.loc j f,.int _ i]=>if 0≤i∧i < (len:Int) then some (.loc j (f+i.toNat*sz),bx,st) else none
 | _=>none

def H2 :b6→List AV→AV→St→Option (AV×AV×St):=fun _ as bx st=>match as with
 | [.str s,.int _ i]=>if 0≤i then match s[i.toNat]? with
  | some b=>some (.int .u8 b,bx,st)
  | none=>none
  else none
 | _=>none

def L7 (lo hi:Bool):b6→List AV→AV→St→Option (AV×AV×St):=fun _ as bx st=>match as with
 | .str s::r=>(q7 lo hi r s.length).map fun (l,h)=>(.str ((s.take h).drop l),bx,st)
 | _=>none

def slB (lo hi:Bool) (r:List AV) (n:Nat):Option (Nat×Nat):=match q7 lo hi r n with
 | some p=>if p.1=0∨p.1 < n then some p else none
 | none=>none
def J3 (sz:Nat) (lo hi:Bool):b6→List AV→AV→St→Option (AV×AV×St):=fun _ as bx st=>match as with
 | .list _ xs::r=>if g8 sz xs then (q7 lo hi r xs.length).map fun (l,h)=>(.list false ((xs.take h).drop l),bx,st) else none
 | .sl o f n s::r=>if s=sz then (slB lo hi r n).map fun (l,h)=>(.sl o (f+l*sz) (h - l) s,bx,st) else none
 | _=>none

def Q5 :b6→List AV→AV→St→Option (AV×AV×St):=fun _ as bx st=>match as with
 | [.list _ _]=>some (.list true [],bx,st)
 | _=>none

def O2 (len sz:Nat) (lo hi:Bool):b6→List AV→AV→St→Option (AV×AV×St):=fun _ as bx st=>match as with
 | .ro cs::r=>if cs.length=len*sz then (q7 lo hi r len).map fun (l,h)=>(.list false (((O0 sz len cs).take h).drop l),bx,st) else none
 | _=>none

def v6 (op:BinOp):b6→List AV→AV→St→Option (AV×AV×St):=fun _ as bx st=>match as with
 | [a,b]=>(i7 op a b).map (·,bx,st)
 | _=>none

def L3 (op:BinOp):b6→List AV→AV→St→Option (AV×AV×St):=fun _ as bx st=>match as with
 | [a,b]=>(a3l op a b).map (·,bx,st)
 | _=>none

def H6 (op:BinOp):b6→List AV→AV→St→Option (AV×AV×St):=fun _ as bx st=>match as with
 | [a,b]=>(W3 op a b).map (·,bx,st)
 | _=>none

def S5 (op:UnOp):b6→List AV→AV→St→Option (AV×AV×St):=fun _ as bx st=>match op,as with
 | .not,[.bool b]=>some (.bool !b,bx,st)
 | .neg,[.int k n]=>some (.int k (l4 k (0 - n)),bx,st)
 | _,_=>none

def L4 (k:IntKind):b6→List AV→AV→St→Option (AV×AV×St):=fun _ as bx st=>match as with
 | [.int _ n]=>some (.int k (l4 k n),bx,st)
 | _=>none

def Q3 (f n:Nat):b6→List AV→AV→St→Option (AV×AV×St):=fun _ as bx st=>if p5 as then some (.func f ((as.map AV.weak).take n) ((as.map AV.weak).drop n),bx,st) else none

def Q1 :b6→List AV→AV→St→Option (AV×AV×St):=fun _ as bx st=>match as with
 | []=>some (.map st.length,bx,st++[.map []])
 | _=>none

def B7 (kc:Nat) (zero:List AV) (agg ok:Bool):b6→List AV→AV→St→Option (AV×AV×St):=fun _ as bx st=>   let fin (r:Option (Option (Nat×AV))):Option (AV×AV×St):=match r with
 | some r=>match (match r with|some (_,v)=>some v|none=>d9 agg zero.length zero) with
  | some v=>some (if ok then .tuple [v,.bool r.isSome] else v,bx,st)
  | none=>none
 | none=>none
 match as with
 | [.nilm,k]=>fin (m2 kc k [] 0)
 | [.map o,k]=>match st[o]? with
  | some (.map es)=>fin (m2 kc k es 0)
  | _=>none
 | _=>none

def H5 (kc:Nat):b6→List AV→AV→St→Option (AV×AV×St):=fun _ as bx st=>match as with
 | [.map o,k,v]=>if v.plain then match st[o]? with
  | some (.map es)=>match m2 kc k es 0 with
   | some (some (i,_))=>some (.tuple [],bx,st.set o (.map (es.set i (k,v.weak))))
   | some none=>(t6 kc k k).bind fun _=>some (.tuple [],bx,st.set o (.map (es++[(k,v.weak)])))
   | none=>none
  | _=>none
  else none
 | _=>none

def R1 (kc:Nat):b6→List AV→AV→St→Option (AV×AV×St):=fun _ as bx st=>match as with
 | [.map o,k]=>match st[o]? with
  | some (.map es)=>match m2 kc k es 0 with
   | some (some (i,_))=>some (.tuple [],bx,st.set o (.map (es.eraseIdx i)))
   | some none=>some (.tuple [],bx,st.set o (.map es))
   | none=>none
  | _=>none
 | _=>none

def J0:b6→List AV→AV→St→Option (AV×AV×St):=fun _ as bx st=>match as with
 | [.sl o f n s]=>match st[o]? with
  | some (.cells cs)=>if s=1∧f+n≤cs.length then fL (j9 cs f (List.replicate n (.str []))) fun cs=>some (.tuple [],bx,st.set o (.cells cs)) else none
  | _=>none
 | [.nils]=>some (.tuple [],bx,st)
 | _=>none

def R9 (sz:Nat):b6→List AV→AV→St→Option (AV×AV×St):=fun _ as bx st=>match as with
 | [.list w xs,.int _ l]=>if g8 sz xs=true∧0≤l∧l < xs.length then some (.list w (xs.drop l.toNat),bx,st) else none
 | _=>none

def M3 (i:Nat):b6→List AV→AV→St→Option (AV×AV×St):=fun _ as bx st=>match as with
 | [.tuple vs]=>match vs[i]? with
  | some v=>some (v.weak,bx,st)
  | none=>none
 | _=>none

def q9 (f:Nat):b6→List AV→AV→St→Option (AV×AV×St):=fun call as bx st=>if p5 as then (call f (as.map AV.weak) st).map fun (v,st)=>(v,bx,st) else none

def C8 :b6→List AV→AV→St→Option (AV×AV×St):=fun call as bx st=>match as with
 | .func f first caps::as=>if p5 as then (call f ((first++as++caps).map AV.weak) st).map fun (v,st)=>(v,bx,st) else none
 | _=>none

def N0 :b6→List AV→AV→St→Option (AV×AV×St):=fun _ as bx st=>match as with
 | [.str s]=>some (.int .i64 s.length,bx,st)
 | _=>none

def C9 :b6→List AV→AV→St→Option (AV×AV×St):=fun _ as bx st=>match as with
 | [.list _ xs]=>some (.int .i64 xs.length,bx,st)
 | [.sl _ _ n _]=>some (.int .i64 n,bx,st)
 | [.nils]=>some (.int .i64 0,bx,st)
 | _=>none

def O5 (sz bytes:Nat):b6→List AV→AV→St→Option (AV×AV×St):=fun _ as bx st=>match as with
 | [.list true xs,.list _ ys] =>
  if g8 sz xs && g8 sz ys && decide ((xs.length+ys.length)*bytes≤2 ^ 47) then some (.list true (xs++ys),bx,st) else none
 | _=>none

def U1 (b:Nat):List AV:=[.int .u8 b]
def O9 (bytes:Nat):b6→List AV→AV→St→Option (AV×AV×St):=fun _ as bx st=>match as with
 | [.list true xs,.str s]=>if g8 1 xs && decide ((xs.length+s.length)*bytes≤2 ^ 47) then some (.list true (xs++s.map U1),bx,st) else none
 | _=>none
def Q9 (bytes:Nat):b6→List AV→AV→St→Option (AV×AV×St):=fun _ as bx st=>match as with
 | [.list true xs,.nils]=>if g8 1 xs && decide (xs.length*bytes≤2 ^ 47) then some (.list true xs,bx,st) else none
 | [.list true xs,.sl o 0 n 1]=>match st[o]? with
  | some (.cells cs)=>if g8 1 xs && Nat.beq n cs.length && decide ((xs.length+cs.length)*bytes≤2 ^ 47) then some (.list true (xs++cs.map fun c=>[c]),bx,st) else none
  | _=>none
 | _=>none

def E5 (sz:Nat) (zero:List (List AV)) (at_:List Nat):b6→List AV→AV→St→Option (AV×AV×St):=fun _ as bx st=>(m8 sz at_ as zero).map fun rs=>(.fresh rs,bx,st)

def E7 (sz:Nat) (zero:List (List AV)) (at_:List Nat):b6→List AV→AV→St→Option (AV×AV×St):=fun _ as bx st=>(m8 sz at_ as zero).map fun rs=>(.sl st.length 0 zero.length sz,bx,st++[.cells rs.flatten])

def b2n (a b:Int):Int:=if ltI b a then b else a
def O8:b6→List AV→AV→St→Option (AV×AV×St):=fun _ as bx st=>match as with
 | [.int k a,.int k' b]=>if k=k' then some (.int k (b2n a b),bx,st) else none
 | _=>none

def a5w (a b:Int):Int:=if ltI a b then b else a
def L6:b6→List AV→AV→St→Option (AV×AV×St):=fun _ as bx st=>match as with
 | [.int k a,.int k' b]=>if k=k' then some (.int k (a5w a b),bx,st) else none
 | _=>none

def a4O (neg:Bool) (a b:Int) (s t:List Nat):Bool:=Bool.xor neg (eqI a b && eqN s t)
def P1 (neg:Bool):b6→List AV→AV→St→Option (AV×AV×St):=fun _ as bx st=>match as with
 | [.agg [.int k a,.str s],.agg [.int k' b,.str t]]=>if k=k' then some (.bool (a4O neg a b s t),bx,st) else none
 | _=>none

def I1:AV→Option Nat
 | .ptr p _=>some p
 | .sl p _ _ _=>some p
 | _=>none

def E9 (o:Option Nat) (n:Nat):List AV→Bool
 | []=>true
 | g::gs=>(match I1 g with|some p=>Nat.blt p n && (match o with|some o=>!Nat.beq p o|none=>true)|none=>false) && E9 o n gs

def q8 (sz bytes:Nat):b6→List AV→AV→St→Option (AV×AV×St):=fun _ as bx st=>match as with
 | .list true []::.fresh ys::gs=>if ys.isEmpty=false∧g8 sz ys=true∧ys.length*bytes≤2 ^ 47∧E9 none st.length gs=true then some (.sl st.length 0 ys.length sz,bx,st++[.cells ys.flatten]) else none
 | .nils::.fresh ys::gs=>if ys.isEmpty=false∧g8 sz ys=true∧ys.length*bytes≤2 ^ 47∧E9 none st.length gs=true then some (.sl st.length 0 ys.length sz,bx,st++[.cells ys.flatten]) else none
 | .nils::.nils::gs=>if E9 none st.length gs=true then some (.nils,bx,st) else none
 | .sl o 0 n s::.fresh ys::gs=>match st[o]? with
  | some (.cells xs)=>if s=sz∧ys.isEmpty=false∧g8 sz ys=true∧xs.length=n*sz∧(n+ys.length)*bytes≤2 ^ 47∧E9 (some o) st.length gs=true then some (.sl st.length 0 (n+ys.length) sz,bx,st.set o .dead++[.cells (xs++ys.flatten)]) else none
  | _=>none
 | .sl o f n s::.nils::gs=>if E9 none st.length gs=true then some (.sl o f n s,bx,st) else none
 | _=>none

def C3 (agg:Bool) (n:Nat):b6→List AV→AV→St→Option (AV×AV×St):=fun call as bx st=>match as with
 | [.ptr o off,r]=>match I1 r with
  | some p=>if Nat.beq o p=true then w9 agg n call [.ptr o off] bx st else none
  | none=>none
 | _=>none
def C1 (d:Nat):b6→List AV→AV→St→Option (AV×AV×St):=fun call as bx st=>match as with
 | [.ptr o off,.ptr p f]=>if Nat.beq o p=true∧Nat.beq off (f+d)=true then y8 call [.ptr o off] bx st else none
 | _=>none
def B0 (n:Nat):b6→List AV→AV→St→Option (AV×AV×St):=fun call as bx st=>match as with
 | .ptr o off::x::r::gs=>match I1 r with
  | some p=>if Nat.beq o p=true∧E9 (some o) st.length gs=true then B9 n call [.ptr o off,x] bx st else none
  | none=>none
 | _=>none

/-! are two the same? -/
mutual
def F1:AV→AV→Bool
 | .undef,.undef=>true
 | .bool a,.bool b=>a == b
 | .int k a,.int k' b=>decide (k=k') && eqI a b
 | .str a,.str b=>eqN a b
 | .list o xs,.list o' ys=>(o == o') && a1M xs ys
 | .ptr o f,.ptr o' f'=>Nat.beq o o' && Nat.beq f f'
 | .nilp,.nilp=>true
 | .ro xs,.ro ys=>N7 xs ys
 | .loc o f,.loc o' f'=>Nat.beq o o' && Nat.beq f f'
 | .box xs,.box ys=>N7 xs ys
 | .map o,.map o'=>Nat.beq o o'
 | .nilm,.nilm=>true
 | .func f xs ys,.func f' xs' ys'=>Nat.beq f f' && N7 xs xs' && N7 ys ys'
 | .nilf,.nilf=>true
 | .agg xs,.agg ys=>N7 xs ys
 | .tuple xs,.tuple ys=>N7 xs ys
 | .iface t x,.iface t' y=>Nat.beq t t' && F1 x y
 | .nili,.nili=>true
 | .nils,.nils=>true
 | .fresh xs,.fresh ys=>a1M xs ys
 | .sl o f n s,.sl o' f' n' s'=>Nat.beq o o' && Nat.beq f f' && Nat.beq n n' && Nat.beq s s'
 | _,_=>false
def N7:List AV→List AV→Bool
 | [],[]=>true
 | a::as,b::bs=>F1 a b && N7 as bs
 | _,_=>false
def a1M:List (List AV)→List (List AV)→Bool
 | [],[]=>true
 | a::as,b::bs=>N7 a b && a1M as bs
 | _,_=>false
end
def a5z:List (AV×AV)→List (AV×AV)→Bool
 | [],[]=>true
 | (a,b)::as,(c,d)::bs=>F1 a c && F1 b d && a5z as bs
 | _,_=>false
def a4I:Obj→Obj→Bool
 | .cells a,.cells b=>N7 a b
 | .map a,.map b=>a5z a b
 | .dead,.dead=>true
 | _,_=>false
def a6T:St→St→Bool
 | [],[]=>true
 | a::as,b::bs=>a4I a b && a6T as bs
 | _,_=>false
def J7 (st st':St):List AV→Bool
 | []=>true
 | .map q::cs=>(match st[q]?,st'[q]? with|some a,some b=>a4I a b|_,_=>false) && J7 st st' cs
 | _::cs=>J7 st st' cs
def a6x (st st':St):Obj→Bool
 | .cells cs=>J7 st st' cs
 | _=>true
def G3 (o:Nat):List AV→Bool
 | []=>false
 | .map q::cs=>Nat.beq q o || G3 o cs
 | _::cs=>G3 o cs
def C7 (kc:Nat) (zero:List AV) (agg ok:Bool):b6→List AV→AV→St→Option (AV×AV×St):=fun call as bx st=>match as with
 | [.map o,k,.ptr p _]=>match st[p]? with
  | some (.cells cs)=>if G3 o cs=true then B7 kc zero agg ok call [.map o,k] bx st else none
  | _=>none
 | _=>none
def kept (st st':St):List AV→Bool
 | []=>true
 | g::gs=>(match I1 g with|some p=>(match st[p]?,st'[p]? with|some a,some b=>a4I a b && a6x st st' a|_,_=>false)|none=>false) && kept st st' gs
def z6 (f m:Nat):b6→List AV→AV→St→Option (AV×AV×St):=fun call as bx st=>match q9 f call (as.take m) bx st with
 | some (v,b,st')=>if kept st st' (as.drop m) then some (v,b,st') else none
 | none=>none

def O3:b6→List AV→AV→St→Option (AV×AV×St):=fun _ as bx st=>match as with
 | [.list _ xs]=>(z8 xs).map fun s=>(.str s,bx,st)
 | _=>none

def sem:Kind→b6→List AV→AV→St→Option (AV×AV×St)
 | .mv=>Y9
 | .pick=>w8
 | .nilchk=>z7
 | .alloc zero=>N5 zero
 | .boxV=>P0
 | .allocO zero=>D5 zero
 | .boxO=>I5
 | .build zero offs=>I3 zero offs
 | .bslice sz zero at_=>G7 sz zero at_
 | .bsliceM sz zero at_=>E5 sz zero at_
 | .bsliceO sz zero at_=>E7 sz zero at_
 | .min2=>O8
 | .max2=>L6
 | .idxA len sz agg=>L2 len sz agg
 | .eqIS neg=>P1 neg
 | .stuck=>fun _ _ _ _=>none
 | .ldLc i agg n=>F8 i agg n
 | .ldSt agg n=>w9 agg n
 | .ldRo agg n=>I8 agg n
 | .ldAn agg n=>C0 agg n
 | .ldLcS i=>H7 i
 | .ldStS=>y8
 | .ldStR agg n=>C3 agg n
 | .ldStSR d=>C1 d
 | .stStA n=>B0 n
 | .callA f m=>z6 f m
 | .stLc i n=>I9 i n
 | .stSt n=>B9 n
 | .fad off=>J8 off
 | .fld off n agg=>O4 off n agg
 | .iad sz=>H8 sz
 | .iadA len sz=>D3 len sz
 | .idxS=>H2
 | .slS lo hi=>L7 lo hi
 | .slL sz lo hi=>J3 sz lo hi
 | .slZ=>Q5
 | .slA len sz lo hi=>O2 len sz lo hi
 | .bin op=>v6 op
 | .binB op=>L3 op
 | .binP op=>H6 op
 | .un op=>S5 op
 | .conv k=>L4 k
 | .mkF f n=>Q3 f n
 | .mkM=>Q1
 | .mget kc zero agg ok=>B7 kc zero agg ok
 | .mset kc=>H5 kc
 | .mdel kc=>R1 kc
 | .slO sz=>R9 sz
 | .ext i=>M3 i
 | .call f=>q9 f
 | .callV=>C8
 | .lenS=>N0
 | .lenL=>C9
 | .app sz bytes=>O5 sz bytes
 | .appM sz bytes=>q8 sz bytes
 | .b2s=>O3
 | .appA bytes=>Q9 bytes
 | .appS bytes=>O9 bytes
 | .clrS=>J0
 | .mgetR kc zero agg ok=>C7 kc zero agg ok

def Opd.read (x:Opd) (σ:Sig):AV :=
 match x with
 | .t s=>(σ.τ s).weak
 | .ts s=>σ.τ s
 | .v i=>(σ.fr.getD i .undef).weak
 | .vs i=>σ.fr.getD i .undef
 | .l i=>match σ.fr.getD i .undef with
  | .box _=>.loc i 0
  | _=>.undef
 | .c a=>a

def p8 (τ:Nat→AV) (s:Nat) (a:AV):Nat→AV:=fun j=>if Nat.beq j s then a else τ j

def Opd.spend (x:Opd) (σ:Sig):Sig :=
 match x with
 | .ts s=>{ σ with τ:=p8 σ.τ s (σ.τ s).weak }
 | .vs i=>{ σ with fr:=σ.fr.set i (σ.fr.getD i .undef).weak }
 | _=>σ

def AV.strip:AV→AV
 | .loc ..=>.undef
 | .box _=>.undef
 | v=>v
def AV.stripB:AV→AV
 | .box _=>.undef
 | v=>v

def Dst.put (d:Dst) (a:AV) (σ:Sig):Sig :=
 match d with
 | .none|.bx=>σ
 | .t s=>{ σ with τ:=p8 σ.τ s a.stripB }
 | .v i=>{ σ with fr:=σ.fr.set i a.strip }

def b7:List Opd→Sig→Sig
 | [],σ=>σ
 | x::xs,σ=>b7 xs (x.spend σ)

def a3z {α:Type}:List Opd→Sig→(List AV→α)→α
 | [],_,k=>k []
 | x::xs,σ,k=>fV (x.read σ) fun a=>a3z xs σ fun as=>k (a::as)

def Kind.fresh:Kind→Bool
 | .bin _|.binB _|.binP _|.un _|.conv _|.lenS|.lenL|.slS ..|.slL ..|.slO _|.slA ..|.app ..|.fad _|.iadA ..|.idxS|.b2s|.build ..|.bslice ..|.bsliceM ..|.bsliceO ..|.min2|.max2|.eqIS _|.appM ..|.appA _|.appS _|.allocO _|.mkM=>true
 | _=>false

def Kind.alters:Kind→Bool
 | .alloc _|.boxV|.ldLcS _|.stLc ..=>true
 | _=>false

def C2 (call:b6) (o:AOper) (σ:Sig):Option Sig :=
 a3z o.args σ fun as =>
 match sem o.kind call as (match o.box with|some i=>σ.fr.getD i .undef|none=>.undef) σ.st with
 | some (r,bx,st) =>
  let σ:=b7 o.args σ
  (if o.kind.fresh then a1m r else fV r) fun r =>
  match o.box with
  | some i=>(if o.kind.alters then a1m bx else fV bx) fun bx=>some (o.dst.put r { σ with fr:=σ.fr.set i bx,st })
  | none=>some (o.dst.put r { σ with st })
 | none=>none

def e8 (call:b6) (o:AOper) (σ:Sig):Option Sig :=
 match o.guard with
 | none=>C2 call o σ
 | some (x,want)=>match x.read σ with
  | .bool b=>if b == want then C2 call o σ else some (o.dst.put (.tuple []) σ)
  | .tuple []=>some (o.dst.put (.tuple []) σ)
  | _=>none

def g9 (call:b6):List AOper→Sig→Option Sig
 | [],σ=>some σ
 | o::os,σ=>match e8 call o σ with
  | some σ=>g9 call os σ
  | none=>none

def e7:List Nat→List AV→List AV
 | [],fr=>fr
 | i::is,fr=>e7 is (fr.set i .undef)

inductive Ex where
 | normal|exit (id:Nat)|ret
 deriving DecidableEq,Inhabited

abbrev Out:=Ex×List AV×St

def F0 (body:List AV→St→Option Out):Nat→List AV→St→Option Out
 | 0,_,_=>none
 | n+1,fr,st=>match body fr st with
  | some (.normal,fr,st)=>F0 body n fr st
  | r=>r

def b5n:Ex→Ex→Bool
 | .normal,.normal=>true
 | .exit a,.exit b=>Nat.beq a b
 | .ret,.ret=>true
 | _,_=>false
def a6F (a b:Out):Bool:=b5n a.1 b.1 && N7 a.2.1 b.2.1 && a6T a.2.2 b.2.2
def G0 (kill:List Nat) (o:Out):Out:=(o.1,e7 kill o.2.1,o.2.2)
def a3u (kill:List Nat) (x y:Option Out):Option Out:=match x,y with
 | some a,some b=>if a6F (G0 kill a) (G0 kill b) then some (G0 kill a) else none
 | _,_=>none

def b9 (call:b6) (n:Nat):ACode→List AV→St→Option Out
 | .skip,fr,st=>some (.normal,fr,st)
 | .reg kill ops,fr,st=>match g9 call ops ⟨e7 kill fr,fun _=>.undef,st⟩ with
  | some σ=>fL σ.fr fun fr=>fL σ.st fun st=>some (.normal,fr,st)
  | none=>none
 | .test kill ops c a b,fr,st=>match g9 call ops ⟨e7 kill fr,fun _=>.undef,st⟩ with
  | some σ=>match c.read σ with
   | .bool true=>fL σ.fr fun fr=>fL σ.st fun st=>b9 call n a fr st
   | .bool false=>fL σ.fr fun fr=>fL σ.st fun st=>b9 call n b fr st
   | _=>none
  | none=>none
 | .seq a b,fr,st=>match b9 call n a fr st with
  | some (.normal,fr,st)=>b9 call n b fr st
  | r=>r
 | .blk id a,fr,st=>match b9 call n a fr st with
  | some (.exit id',fr,st)=>some (if id'=id then .normal else .exit id',fr,st)
  | r=>r
 | .loop a,fr,st=>F0 (b9 call n a) n fr st
 | .either kill a b,fr,st=>a3u kill (b9 call n a fr st) (b9 call n b fr st)
 | .exit id,fr,st=>some (.exit id,fr,st)
 | .ret,fr,st=>some (.ret,fr,st)

def ResK.get (r:ResK) (fr:List AV) (st:St):Option AV :=
 match r with
 | .v i=>some (fr.getD i .undef).weak
 | .vs i=>some (fr.getD i .undef)
 | .bx i agg n=>match fr.getD i .undef with
  | .box cs=>d9 agg n cs
  | _=>none
 | .po i agg n=>match fr.getD i .undef with
  | .ptr o off=>match st[o]? with
   | some (.cells cs)=>d9 agg n (cs.drop off)
   | _=>none
  | _=>none

def B8:List ResK→List AV→St→Option (List AV)
 | [],_,_=>some []
 | r::rs,fr,st=>match r.get fr st,B8 rs fr st with
  | some v,some vs=>some (v::vs)
  | _,_=>none

def AFn.run (fn:AFn) (call:b6) (n:Nat) (args:List AV) (st:St):Option (AV×St) :=
 if args.length=fn.np then
  match b9 call n fn.code (args++List.replicate (fn.nv - fn.np) .undef) st with
  | some (.exit _,_,_)=>none
  | some (_,fr,st)=>match B8 fn.results fr st with
   | some [v]=>some (v,st)
   | some vs=>some (.tuple vs,st)
   | none=>none
  | none=>none
 else none

def c7O (l:List (List (Option AFn))) (f:Nat):Option AFn:=((l.getD (f / 10) []).getD (f % 10) none)

def N1 (sz bytes:Nat) (as:List AV) (st:St):Option (AV×St) :=
 match as with
 | [.list _ xs]=>if g8 sz xs && decide (xs.length*bytes≤2 ^ 47) then some (.list true xs,st) else none
 | _=>none

def l3 (tbl:Nat→Option AFn):Nat→b6
 | 0=>fun _ _ _=>none
 | n+1=>fun f args st=>match tbl f with
  | some fn=>match fn.ext with
   | some e=>e args st
   | none=>fn.run (l3 tbl n) n args st
  | none=>none

end Go.Cb
