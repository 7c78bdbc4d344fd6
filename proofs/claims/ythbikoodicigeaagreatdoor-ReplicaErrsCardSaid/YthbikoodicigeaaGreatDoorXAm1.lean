/-
 THE ABSTRACT MACHINE, part 1: values, operations, code, and how they run. A program's functions are told once more in this small language; part 2 shows that a run here is a run of the model.
-/
import GoSem.Core.Sem
import GoSem.Dispatch
set_option linter.unusedVariables false
namespace Go.Cb

inductive AV where
 | undef
 | bool (b:Bool)
 | int (k:IntKind) (n:Int)
 | str (s:List Nat)
 | list (own:Bool) (xs:List (List AV))
 | ptr (o off:Nat)
 | nilp
 | ro (cs:List AV)
 | loc (i off:Nat)
 | box (cs:List AV)
 | map (o:Nat)
 | nilm
 | func (f:Nat) (first caps:List AV)
 | nilf
 | agg (cs:List AV)
 | tuple (vs:List AV)
 | iface (t:Nat) (v:AV)
 | nili
 | sl (o f n sz:Nat)
 | fresh (xs:List (List AV))
 | nils
 deriving Inhabited

inductive Obj where
 | cells (cs:List AV)
 | map (es:List (AV×AV))
 | dead
 deriving Inhabited

abbrev St:=List Obj

def AV.weak1:AV→AV
 | .list _ xs=>.list false xs
 | v=>v

def AV.weak:AV→AV
 | .list _ xs=>.list false xs
 | .agg cs=>.agg (cs.map AV.weak1)
 | v=>v

def AV.cells:AV→List AV
 | .agg cs=>cs
 | v=>[v]

def AV.cellsW:AV→List AV
 | .agg cs=>cs
 | .list o xs=>[.list (o && xs.isEmpty) xs]
 | v=>[v]

def AV.cellW1:AV→AV
 | .list o xs=>.list (o && xs.isEmpty) xs
 | v=>v

def AV.plain:AV→Bool
 | .undef=>false
 | .loc ..=>false
 | .box _=>false
 | .tuple _=>false
 | .fresh _=>false
 | _=>true
def allPlain:List AV→Bool
 | []=>true
 | a::as=>a.plain && allPlain as

inductive Opd where
 | t (s:Nat)|ts (s:Nat)
 | v (i:Nat)|vs (i:Nat)
 | l (i:Nat)
 | c (a:AV)
 deriving Inhabited

inductive Kind where
 | mv|pick|nilchk
 | alloc (zero:List AV)|allocO (zero:List AV)
 | boxV|boxO
 | build (zero:List AV) (offs:List (Nat×Nat))
 | bslice (sz:Nat) (zero:List (List AV)) (at_:List Nat)
 | bsliceM (sz:Nat) (zero:List (List AV)) (at_:List Nat)
 | bsliceO (sz:Nat) (zero:List (List AV)) (at_:List Nat)
 | min2|stuck
 | eqIS (neg:Bool)
 | ldLc (i:Nat) (agg:Bool) (n:Nat)|ldSt (agg:Bool) (n:Nat)|ldRo (agg:Bool) (n:Nat)
 | ldAn (agg:Bool) (n:Nat)
 | ldLcS (i:Nat)|ldStS
 | ldStR (agg:Bool) (n:Nat)|ldStSR (off:Nat)|stStA (n:Nat)|callA (f m:Nat)
 | stLc (i n:Nat)|stSt (n:Nat)
 | fad (off:Nat)
 | fld (off n:Nat) (agg:Bool)
 | iad (sz:Nat)
 | iadA (len sz:Nat)
 | idxS
 | slS (lo hi:Bool)
 | slL (sz:Nat) (lo hi:Bool)
 | slZ
 | slA (len sz:Nat) (lo hi:Bool)
 | bin (op:BinOp)
 | binB (op:BinOp)
 | binP (op:BinOp)
 | un (op:UnOp)
 | conv (k:IntKind)
 | mkF (f nfirst:Nat)
 | mkM
 | mget (kc:Nat) (zero:List AV) (agg ok:Bool)
 | mset (kc:Nat)
 | mdel (kc:Nat)|slO (sz:Nat)
 | max2|idxA (len sz:Nat) (agg:Bool)
 | appS (bytes:Nat)|clrS|mgetR (kc:Nat) (zero:List AV) (agg ok:Bool)
 | ext (i:Nat)
 | call (f:Nat)
 | callV
 | lenS|lenL
 | app (sz bytes:Nat)
 | appM (sz bytes:Nat)
 | b2s
 | appA (bytes:Nat)
 deriving Inhabited

inductive Dst where
 | none|t (s:Nat)|v (i:Nat)|bx
 deriving Inhabited

structure AOper where
 dst:Dst
 kind:Kind
 args:List Opd
 box:Option Nat:=.none
 guard:Option (Opd×Bool):=.none
 deriving Inhabited

inductive ACode where
 | skip
 | reg (kill:List Nat) (ops:List AOper)
 | test (kill:List Nat) (ops:List AOper) (c:Opd) (a b:ACode)
 | seq (a b:ACode)
 | blk (id:Nat) (a:ACode)
 | loop (a:ACode)
 | either (kill:List Nat) (a b:ACode)
 | exit (id:Nat)
 | ret
 deriving Inhabited

inductive ResK where
 | v (i:Nat)|vs (i:Nat)|bx (i:Nat) (agg:Bool) (n:Nat)|po (i:Nat) (agg:Bool) (n:Nat)
 deriving Inhabited

structure AFn where
 np:Nat
 nv:Nat
 results:List ResK
 code:ACode
 ext:Option (List AV→St→Option (AV×St)):=none
 deriving Inhabited

structure Sig where
 fr:List AV
 τ:Nat→AV
 st:St

/-! the same value again, reckoned out first: for the kernel's sake -/
def fN {α:Type} (m:Nat) (k:Nat→α):α :=
 match m with
 | .zero=>k .zero
 | .succ n=>k (.succ n)
def fI {α:Type} (n:Int) (k:Int→α):α :=
 match n with
 | .ofNat m=>fN m fun m=>k (.ofNat m)
 | .negSucc m=>fN m fun m=>k (.negSucc m)
def fL {α β:Type} (l:List α) (k:List α→β):β :=
 match l with
 | []=>k []
 | a::l=>fL l fun l=>k (a::l)
def fLN {β:Type} (l:List Nat) (k:List Nat→β):β :=
 match l with
 | []=>k []
 | a::l=>fN a fun a=>fLN l fun l=>k (a::l)
def fV {α:Type} (v:AV) (k:AV→α):α :=
 match v with
 | .undef=>k .undef
 | .bool b=>match b with|true=>k (.bool true)|false=>k (.bool false)
 | .int t n=>k (.int t n)
 | .str s=>k (.str s)
 | .list o xs=>match o with|true=>k (.list true xs)|false=>k (.list false xs)
 | .ptr o f=>k (.ptr o f)
 | .nilp=>k .nilp
 | .ro cs=>k (.ro cs)
 | .loc i f=>k (.loc i f)
 | .box cs=>k (.box cs)
 | .map o=>k (.map o)
 | .nilm=>k .nilm
 | .func f a b=>k (.func f a b)
 | .nilf=>k .nilf
 | .agg cs=>k (.agg cs)
 | .tuple vs=>k (.tuple vs)
 | .iface t v=>k (.iface t v)
 | .nili=>k .nili
 | .sl o f n s=>k (.sl o f n s)
 | .fresh xs=>k (.fresh xs)
 | .nils=>k .nils
def fNew {α:Type} (v:AV) (k:AV→α):α :=
 match v with
 | .int t n=>fI n fun n=>k (.int t n)
 | .str s=>fLN s fun s=>k (.str s)
 | .list o xs=>fL xs fun xs=>fV (.list o xs) k
 | .fresh xs=>fL xs fun xs=>k (.fresh xs)
 | .ptr o f=>fN o fun o=>fN f fun f=>k (.ptr o f)
 | .loc o f=>fN o fun o=>fN f fun f=>k (.loc o f)
 | .box cs=>fL cs fun cs=>k (.box cs)
 | .agg cs=>fL cs fun cs=>k (.agg cs)
 | .ro cs=>fL cs fun cs=>k (.ro cs)
 | .map o=>fN o fun o=>k (.map o)
 | .sl o f n s=>fN o fun o=>fN f fun f=>fN n fun n=>k (.sl o f n s)
 | v=>fV v k

abbrev CallT:=Nat→List AV→St→Option (AV×St)

/-! the operations -/

def setSeg (cs:List AV) (off:Nat) (new:List AV):List AV:=cs.take off++new++cs.drop (off+new.length)

def fillSegs:List (Nat×Nat)→List AV→List AV→Option (List AV)
 | [],[],cs=>some cs
 | (off,n)::offs,p::ps,cs=>if p.plain=true∧p.cells.length=n∧off+n≤cs.length then fillSegs offs ps (setSeg cs off p.cells) else none
 | _,_,_=>none

def fillRows (sz:Nat):List Nat→List AV→List (List AV)→Option (List (List AV))
 | [],[],rs=>some rs
 | i::is,p::ps,rs=>if p.plain=true∧p.cells.length=sz∧i < rs.length then fillRows sz is ps (rs.set i (p.cells.map AV.weak1)) else none
 | _,_,_=>none

def fillRowsM (sz:Nat):List Nat→List AV→List (List AV)→Option (List (List AV))
 | [],[],rs=>some rs
 | i::is,p::ps,rs=>if p.plain=true∧p.cells.length=sz∧i < rs.length then fillRowsM sz is ps (rs.set i (p.cells.map AV.cellW1)) else none
 | _,_,_=>none

def rowsOk (sz:Nat):List (List AV)→Bool
 | []=>true
 | r::_=>r.length == sz

def takeVal (agg:Bool) (n:Nat) (cs:List AV):Option AV :=
 if agg then (if n≤cs.length then some (.agg ((cs.take n).map AV.weak1)) else none)
 else match cs with
  | c::_=>some c.weak1
  | []=>none

def wrapA (k:IntKind) (n:Int):Int :=
 match k,n with
 | .i64,.ofNat m=>if Nat.blt m 9223372036854775808 then .ofNat m else k.wrap n
 | .i64,.negSucc m=>if Nat.blt m 9223372036854775808 then .negSucc m else k.wrap n
 | .u8,.ofNat m=>if Nat.blt m 256 then .ofNat m else k.wrap n
 | .u64,.ofNat m=>if Nat.blt m 18446744073709551616 then .ofNat m else k.wrap n
 | .i32,.ofNat m=>if Nat.blt m 2147483648 then .ofNat m else k.wrap n
 | .i32,.negSucc m=>if Nat.blt m 2147483648 then .negSucc m else k.wrap n
 | k,n=>k.wrap n

def eqI:Int→Int→Bool
 | .ofNat a,.ofNat b=>Nat.beq a b
 | .negSucc a,.negSucc b=>Nat.beq a b
 | _,_=>false
def ltI:Int→Int→Bool
 | .ofNat a,.ofNat b=>Nat.blt a b
 | .negSucc a,.negSucc b=>Nat.blt b a
 | .negSucc _,.ofNat _=>true
 | .ofNat _,.negSucc _=>false
def addI:Int→Int→Int
 | .ofNat a,.ofNat b=>.ofNat (Nat.add a b)
 | a,b=>a+b
def subI:Int→Int→Int
 | .ofNat a,.ofNat b=>if Nat.ble b a then .ofNat (Nat.sub a b) else .ofNat a - .ofNat b
 | a,b=>a - b

def lessN:List Nat→List Nat→Bool
 | _,[]=>false
 | [],_::_=>true
 | a::x,b::y=>Nat.blt a b || (Nat.beq a b && lessN x y)

def eqN:List Nat→List Nat→Bool
 | [],[]=>true
 | a::x,b::y=>Nat.beq a b && eqN x y
 | _,_=>false

def binA (op:BinOp):AV→AV→Option AV
 | .int k a,.int k' b =>
  match op with
  | .shl=>if b < 0 then none else some (.int k (k.wrap (a*2 ^ (min b.toNat k.bits))))
  | .shr=>if b < 0 then none else some (.int k (a.fdiv (2 ^ (min b.toNat k.bits))))
  | _ =>
  if k=k' then
   match op with
   | .add=>some (.int k (wrapA k (addI a b)))
   | .sub=>some (.int k (wrapA k (subI a b)))
   | .mul=>some (.int k (wrapA k (a*b)))
   | .quo=>if b=0 then none else some (.int k (k.wrap (a.tdiv b)))
   | .rem=>if b=0 then none else some (.int k (a.tmod b))
   | .and=>some (.int k (k.wrap (BitVec.ofInt k.bits a &&& BitVec.ofInt k.bits b).toNat))
   | .or=>some (.int k (k.wrap (BitVec.ofInt k.bits a ||| BitVec.ofInt k.bits b).toNat))
   | .xor=>some (.int k (k.wrap (BitVec.ofInt k.bits a ^^^ BitVec.ofInt k.bits b).toNat))
   | .eql=>some (.bool (eqI a b))
   | .neq=>some (.bool !(eqI a b))
   | .lss=>some (.bool (ltI a b))
   | .leq=>some (.bool !(ltI b a))
   | .gtr=>some (.bool (ltI b a))
   | .geq=>some (.bool !(ltI a b))
   | _=>none
  else none
 | .str a,.str b =>
  match op with
  | .add=>if a.length+b.length≤2 ^ 62 then some (.str (a++b)) else none
  | .eql=>some (.bool (eqN a b))
  | .neq=>some (.bool !(eqN a b))
  | .lss=>some (.bool (lessN a b))
  | .gtr=>some (.bool !(lessN a b || eqN a b))
  | .leq=>some (.bool (lessN a b || eqN a b))
  | .geq=>some (.bool !(lessN a b))
  | _=>none
 | _,_=>none

def binBA (op:BinOp):AV→AV→Option AV
 | .bool a,.bool b =>
  match op with
  | .eql=>some (.bool (a == b))
  | .neq=>some (.bool !(a == b))
  | _=>none
 | _,_=>none

def binPA (op:BinOp):AV→AV→Option AV
 | .ptr ..,.nilp|.nilp,.ptr .. =>
  match op with
  | .eql=>some (.bool false)
  | .neq=>some (.bool true)
  | _=>none
 | .nilp,.nilp =>
  match op with
  | .eql=>some (.bool true)
  | .neq=>some (.bool false)
  | _=>none
 | .ro _,.nilp|.nilp,.ro _ =>
  match op with
  | .eql=>some (.bool false)
  | .neq=>some (.bool true)
  | _=>none
 | .nili,.nili =>
  match op with
  | .lss=>some (.bool true)
  | .gtr=>some (.bool false)
  | _=>none
 | _,_=>none

def eqKey (kc:Nat):AV→AV→Option Bool
 | .int k a,.int k' b=>if kc=0∧k=k' then some (eqI a b) else none
 | .str a,.str b=>if kc=1 then some (eqN a b) else none
 | .bool a,.bool b=>if kc=2 then some (a == b) else none
 | _,_=>none

def mfind (kc:Nat) (k:AV):List (AV×AV)→Nat→Option (Option (Nat×AV))
 | [],_=>some none
 | (k',v)::es,i =>
  match eqKey kc k k' with
  | some true=>some (some (i,v))
  | some false=>mfind kc k es (i+1)
  | none=>none

def bound (x:AV) (top:Nat):Option Nat :=
 match x with
 | .int _ i=>if 0≤i∧i≤(top:Int) then some i.toNat else none
 | _=>none

def bounds (lo hi:Bool) (as:List AV) (len:Nat):Option (Nat×Nat) :=
 match lo,hi,as with
 | false,false,[]=>some (0,len)
 | true,false,[l]=>(bound l len).map (·,len)
 | false,true,[h]=>(bound h len).map (0,·)
 | true,true,[l,h]=>match bound h len with
  | some h=>(bound l h).map (·,h)
  | none=>none
 | _,_,_=>none

def chunks (sz:Nat):Nat→List AV→List (List AV)
 | 0,_=>[]
 | n+1,cs=>cs.take sz::chunks sz n (cs.drop sz)

def bytesOf:List (List AV)→Option (List Nat)
 | []=>some []
 | [.int .u8 n]::rs=>if 0≤n∧n < 256 then (bytesOf rs).map (n.toNat::·) else none
 | _=>none

def semMv :CallT→List AV→AV→St→Option (AV×AV×St):=fun _ as bx st=>match as with
 | [a]=>some (a,bx,st)
 | _=>none

def semPick :CallT→List AV→AV→St→Option (AV×AV×St):=fun _ as bx st=>match as with
 | [.bool c,a,b]=>if c then (if a.plain then some (a,bx,st) else none) else (if b.plain then some (b,bx,st) else none)
 | _=>none

def semNilchk :CallT→List AV→AV→St→Option (AV×AV×St):=fun _ as bx st=>match as with
 | [.ptr o f]=>some (.ptr o f,bx,st)
 | [.loc i f]=>some (.loc i f,bx,st)
 | [.ro cs]=>some (.ro cs,bx,st)
 | [.func f a b]=>some (.func f a b,bx,st)
 | _=>none

def semAlloc (zero:List AV):CallT→List AV→AV→St→Option (AV×AV×St):=fun _ as bx st=>match as,bx with
 | [],.undef=>some (.undef,.box zero,st)
 | _,_=>none

def semBoxV :CallT→List AV→AV→St→Option (AV×AV×St):=fun _ as bx st=>match as,bx with
 | [a],.undef=>if a.plain then some (.undef,.box a.cellsW,st) else none
 | _,_=>none

def semAllocO (zero:List AV):CallT→List AV→AV→St→Option (AV×AV×St):=fun _ as bx st=>match as with
 | []=>some (.ptr st.length 0,bx,st++[.cells zero])
 | _=>none

def semBoxO :CallT→List AV→AV→St→Option (AV×AV×St):=fun _ as bx st=>match as with
 | [a]=>if a.plain then some (.ptr st.length 0,bx,st++[.cells a.cellsW]) else none
 | _=>none

def semBuild (zero:List AV) (offs:List (Nat×Nat)):CallT→List AV→AV→St→Option (AV×AV×St):=fun _ as bx st=>(fillSegs offs as zero).map fun cs=>(.agg cs,bx,st)

def semBslice (sz:Nat) (zero:List (List AV)) (at_:List Nat):CallT→List AV→AV→St→Option (AV×AV×St):=fun _ as bx st=>(fillRows sz at_ as zero).map fun rs=>(.list true rs,bx,st)

def semLdLc (i:Nat) (agg:Bool) (n:Nat):CallT→List AV→AV→St→Option (AV×AV×St):=fun _ as bx st=>match as,bx with
 | [.loc j off],.box cs=>if i=j then (takeVal agg n (cs.drop off)).map (·,bx,st) else none
 | _,_=>none

def semLdSt (agg:Bool) (n:Nat):CallT→List AV→AV→St→Option (AV×AV×St):=fun _ as bx st=>match as with
 | [.ptr o off]=>match st[o]? with
  | some (.cells cs)=>(takeVal agg n (cs.drop off)).map (·,bx,st)
  | _=>none
 | _=>none

def semLdRo (agg:Bool) (n:Nat):CallT→List AV→AV→St→Option (AV×AV×St):=fun _ as bx st=>match as with
 | [.ro cs]=>(takeVal agg n cs).map (·,bx,st)
 | _=>none

def semLdAn (agg:Bool) (n:Nat):CallT→List AV→AV→St→Option (AV×AV×St):=fun _ as bx st=>match as with
 | [.ro cs]=>(takeVal agg n cs).map (·,bx,st)
 | [.ptr o off]=>match st[o]? with
  | some (.cells cs)=>(takeVal agg n (cs.drop off)).map (·,bx,st)
  | _=>none
 | _=>none

def semLdLcS (i:Nat):CallT→List AV→AV→St→Option (AV×AV×St):=fun _ as bx st=>match as,bx with
 | [.loc j off],.box cs=>if i=j then match cs[off]? with
  | some c=>some (c,.box (cs.set off c.weak1),st)
  | none=>none
  else none
 | _,_=>none

def semLdStS :CallT→List AV→AV→St→Option (AV×AV×St):=fun _ as bx st=>match as with
 | [.ptr o off]=>match st[o]? with
  | some (.cells cs)=>match cs[off]? with
   | some c=>some (c,bx,st.set o (.cells (cs.set off c.weak1)))
   | none=>none
  | _=>none
 | _=>none

def semStLc (i n:Nat):CallT→List AV→AV→St→Option (AV×AV×St):=fun _ as bx st=>match as,bx with
 | [.loc j off,x],.box cs=>if i=j∧x.plain=true∧x.cells.length=n∧off+n≤cs.length then some (.tuple [],.box (setSeg cs off x.cells),st) else none
 | _,_=>none

def semStSt (n:Nat):CallT→List AV→AV→St→Option (AV×AV×St):=fun _ as bx st=>match as with
 | [.ptr o off,x]=>match st[o]? with
  | some (.cells cs)=>if x.plain=true∧x.cells.length=n∧off+n≤cs.length then fL (setSeg cs off x.cells) fun cs=>some (.tuple [],bx,st.set o (.cells cs)) else none
  | _=>none
 | _=>none

def semFad (off:Nat):CallT→List AV→AV→St→Option (AV×AV×St):=fun _ as bx st=>match as with
 | [.ptr o f]=>some (.ptr o (f+off),bx,st)
 | [.loc i f]=>some (.loc i (f+off),bx,st)
 | [.ro cs]=>some (.ro (cs.drop off),bx,st)
 | _=>none

def semFld (off n:Nat) (agg:Bool):CallT→List AV→AV→St→Option (AV×AV×St):=fun _ as bx st=>match as with
 | [.agg cs]=>if off+n≤cs.length then (takeVal agg n (cs.drop off)).map (·,bx,st) else none
 | _=>none

def semIdxA (len sz:Nat) (agg:Bool):CallT→List AV→AV→St→Option (AV×AV×St):=fun _ as bx st=>match as with
 | [.agg cs,.int _ i]=>if 0≤i∧i < (len:Int)∧i.toNat*sz+sz≤cs.length then (takeVal agg sz (cs.drop (i.toNat*sz))).map (·,bx,st) else none
 | _=>none

def semIad (sz:Nat):CallT→List AV→AV→St→Option (AV×AV×St):=fun _ as bx st=>match as with
 | [.list _ xs,.int _ i]=>if 0≤i then match xs[i.toNat]? with
  | some r=>if r.length=sz then some (.ro r,bx,st) else none
  | none=>none
  else none
 | [.sl o f n s,.int _ i]=>if 0≤i∧i < (n:Int)∧s=sz then some (.ptr o (f+i.toNat*sz),bx,st) else none
 | _=>none

def semIadA (len sz:Nat):CallT→List AV→AV→St→Option (AV×AV×St):=fun _ as bx st=>match as with
 | [.ro cs,.int _ i]=>if 0≤i∧i < (len:Int) then some (.ro (cs.drop (i.toNat*sz)),bx,st) else none
 | [.ptr o f,.int _ i]=>if 0≤i∧i < (len:Int) then some (.ptr o (f+i.toNat*sz),bx,st) else none
 | [.loc j f,.int _ i]=>if 0≤i∧i < (len:Int) then some (.loc j (f+i.toNat*sz),bx,st) else none
 | _=>none

def semIdxS :CallT→List AV→AV→St→Option (AV×AV×St):=fun _ as bx st=>match as with
 | [.str s,.int _ i]=>if 0≤i then match s[i.toNat]? with
  | some b=>some (.int .u8 b,bx,st)
  | none=>none
  else none
 | _=>none

def semSlS (lo hi:Bool):CallT→List AV→AV→St→Option (AV×AV×St):=fun _ as bx st=>match as with
 | .str s::r=>(bounds lo hi r s.length).map fun (l,h)=>(.str ((s.take h).drop l),bx,st)
 | _=>none

def slB (lo hi:Bool) (r:List AV) (n:Nat):Option (Nat×Nat):=match bounds lo hi r n with
 | some p=>if p.1=0∨p.1 < n then some p else none
 | none=>none
def semSlL (sz:Nat) (lo hi:Bool):CallT→List AV→AV→St→Option (AV×AV×St):=fun _ as bx st=>match as with
 | .list _ xs::r=>if rowsOk sz xs then (bounds lo hi r xs.length).map fun (l,h)=>(.list false ((xs.take h).drop l),bx,st) else none
 | .sl o f n s::r=>if s=sz then (slB lo hi r n).map fun (l,h)=>(.sl o (f+l*sz) (h - l) s,bx,st) else none
 | _=>none

def semSlZ :CallT→List AV→AV→St→Option (AV×AV×St):=fun _ as bx st=>match as with
 | [.list _ _]=>some (.list true [],bx,st)
 | _=>none

def semSlA (len sz:Nat) (lo hi:Bool):CallT→List AV→AV→St→Option (AV×AV×St):=fun _ as bx st=>match as with
 | .ro cs::r=>if cs.length=len*sz then (bounds lo hi r len).map fun (l,h)=>(.list false (((chunks sz len cs).take h).drop l),bx,st) else none
 | _=>none

def semBin (op:BinOp):CallT→List AV→AV→St→Option (AV×AV×St):=fun _ as bx st=>match as with
 | [a,b]=>(binA op a b).map (·,bx,st)
 | _=>none

def semBinB (op:BinOp):CallT→List AV→AV→St→Option (AV×AV×St):=fun _ as bx st=>match as with
 | [a,b]=>(binBA op a b).map (·,bx,st)
 | _=>none

def semBinP (op:BinOp):CallT→List AV→AV→St→Option (AV×AV×St):=fun _ as bx st=>match as with
 | [a,b]=>(binPA op a b).map (·,bx,st)
 | _=>none

def semUn (op:UnOp):CallT→List AV→AV→St→Option (AV×AV×St):=fun _ as bx st=>match op,as with
 | .not,[.bool b]=>some (.bool !b,bx,st)
 | .neg,[.int k n]=>some (.int k (wrapA k (0 - n)),bx,st)
 | _,_=>none

def semConv (k:IntKind):CallT→List AV→AV→St→Option (AV×AV×St):=fun _ as bx st=>match as with
 | [.int _ n]=>some (.int k (wrapA k n),bx,st)
 | _=>none

def semMkF (f n:Nat):CallT→List AV→AV→St→Option (AV×AV×St):=fun _ as bx st=>if allPlain as then some (.func f ((as.map AV.weak).take n) ((as.map AV.weak).drop n),bx,st) else none

def semMkM :CallT→List AV→AV→St→Option (AV×AV×St):=fun _ as bx st=>match as with
 | []=>some (.map st.length,bx,st++[.map []])
 | _=>none

def semMget (kc:Nat) (zero:List AV) (agg ok:Bool):CallT→List AV→AV→St→Option (AV×AV×St):=fun _ as bx st=>   let fin (r:Option (Option (Nat×AV))):Option (AV×AV×St):=match r with
 | some r=>match (match r with|some (_,v)=>some v|none=>takeVal agg zero.length zero) with
  | some v=>some (if ok then .tuple [v,.bool r.isSome] else v,bx,st)
  | none=>none
 | none=>none
 match as with
 | [.nilm,k]=>fin (mfind kc k [] 0)
 | [.map o,k]=>match st[o]? with
  | some (.map es)=>fin (mfind kc k es 0)
  | _=>none
 | _=>none

def semMset (kc:Nat):CallT→List AV→AV→St→Option (AV×AV×St):=fun _ as bx st=>match as with
 | [.map o,k,v]=>if v.plain then match st[o]? with
  | some (.map es)=>match mfind kc k es 0 with
   | some (some (i,_))=>some (.tuple [],bx,st.set o (.map (es.set i (k,v.weak))))
   | some none=>(eqKey kc k k).bind fun _=>some (.tuple [],bx,st.set o (.map (es++[(k,v.weak)])))
   | none=>none
  | _=>none
  else none
 | _=>none

def semMdel (kc:Nat):CallT→List AV→AV→St→Option (AV×AV×St):=fun _ as bx st=>match as with
 | [.map o,k]=>match st[o]? with
  | some (.map es)=>match mfind kc k es 0 with
   | some (some (i,_))=>some (.tuple [],bx,st.set o (.map (es.eraseIdx i)))
   | some none=>some (.tuple [],bx,st.set o (.map es))
   | none=>none
  | _=>none
 | _=>none

def semClrS:CallT→List AV→AV→St→Option (AV×AV×St):=fun _ as bx st=>match as with
 | [.sl o f n s]=>match st[o]? with
  | some (.cells cs)=>if s=1∧f+n≤cs.length then fL (setSeg cs f (List.replicate n (.str []))) fun cs=>some (.tuple [],bx,st.set o (.cells cs)) else none
  | _=>none
 | [.nils]=>some (.tuple [],bx,st)
 | _=>none

def semSlO (sz:Nat):CallT→List AV→AV→St→Option (AV×AV×St):=fun _ as bx st=>match as with
 | [.list w xs,.int _ l]=>if rowsOk sz xs=true∧0≤l∧l < xs.length then some (.list w (xs.drop l.toNat),bx,st) else none
 | _=>none

def semExt (i:Nat):CallT→List AV→AV→St→Option (AV×AV×St):=fun _ as bx st=>match as with
 | [.tuple vs]=>match vs[i]? with
  | some v=>some (v.weak,bx,st)
  | none=>none
 | _=>none

def semCall (f:Nat):CallT→List AV→AV→St→Option (AV×AV×St):=fun call as bx st=>if allPlain as then (call f (as.map AV.weak) st).map fun (v,st)=>(v,bx,st) else none

def semCallV :CallT→List AV→AV→St→Option (AV×AV×St):=fun call as bx st=>match as with
 | .func f first caps::as=>if allPlain as then (call f ((first++as++caps).map AV.weak) st).map fun (v,st)=>(v,bx,st) else none
 | _=>none

def semLenS :CallT→List AV→AV→St→Option (AV×AV×St):=fun _ as bx st=>match as with
 | [.str s]=>some (.int .i64 s.length,bx,st)
 | _=>none

def semLenL :CallT→List AV→AV→St→Option (AV×AV×St):=fun _ as bx st=>match as with
 | [.list _ xs]=>some (.int .i64 xs.length,bx,st)
 | [.sl _ _ n _]=>some (.int .i64 n,bx,st)
 | [.nils]=>some (.int .i64 0,bx,st)
 | _=>none

def semApp (sz bytes:Nat):CallT→List AV→AV→St→Option (AV×AV×St):=fun _ as bx st=>match as with
 | [.list true xs,.list _ ys] =>
  if rowsOk sz xs && rowsOk sz ys && decide ((xs.length+ys.length)*bytes≤2 ^ 47) then some (.list true (xs++ys),bx,st) else none
 | _=>none

def byteRow (b:Nat):List AV:=[.int .u8 b]
def semAppS (bytes:Nat):CallT→List AV→AV→St→Option (AV×AV×St):=fun _ as bx st=>match as with
 | [.list true xs,.str s]=>if rowsOk 1 xs && decide ((xs.length+s.length)*bytes≤2 ^ 47) then some (.list true (xs++s.map byteRow),bx,st) else none
 | _=>none
def semAppA (bytes:Nat):CallT→List AV→AV→St→Option (AV×AV×St):=fun _ as bx st=>match as with
 | [.list true xs,.nils]=>if rowsOk 1 xs && decide (xs.length*bytes≤2 ^ 47) then some (.list true xs,bx,st) else none
 | [.list true xs,.sl o 0 n 1]=>match st[o]? with
  | some (.cells cs)=>if rowsOk 1 xs && Nat.beq n cs.length && decide ((xs.length+cs.length)*bytes≤2 ^ 47) then some (.list true (xs++cs.map fun c=>[c]),bx,st) else none
  | _=>none
 | _=>none

def semBsliceM (sz:Nat) (zero:List (List AV)) (at_:List Nat):CallT→List AV→AV→St→Option (AV×AV×St):=fun _ as bx st=>(fillRowsM sz at_ as zero).map fun rs=>(.fresh rs,bx,st)

def semBsliceO (sz:Nat) (zero:List (List AV)) (at_:List Nat):CallT→List AV→AV→St→Option (AV×AV×St):=fun _ as bx st=>(fillRowsM sz at_ as zero).map fun rs=>(.sl st.length 0 zero.length sz,bx,st++[.cells rs.flatten])

def minI (a b:Int):Int:=if ltI b a then b else a
def semMin2:CallT→List AV→AV→St→Option (AV×AV×St):=fun _ as bx st=>match as with
 | [.int k a,.int k' b]=>if k=k' then some (.int k (minI a b),bx,st) else none
 | _=>none

def maxI (a b:Int):Int:=if ltI a b then b else a
def semMax2:CallT→List AV→AV→St→Option (AV×AV×St):=fun _ as bx st=>match as with
 | [.int k a,.int k' b]=>if k=k' then some (.int k (maxI a b),bx,st) else none
 | _=>none

def eqISB (neg:Bool) (a b:Int) (s t:List Nat):Bool:=Bool.xor neg (eqI a b && eqN s t)
def semEqIS (neg:Bool):CallT→List AV→AV→St→Option (AV×AV×St):=fun _ as bx st=>match as with
 | [.agg [.int k a,.str s],.agg [.int k' b,.str t]]=>if k=k' then some (.bool (eqISB neg a b s t),bx,st) else none
 | _=>none

def rootOf:AV→Option Nat
 | .ptr p _=>some p
 | .sl p _ _ _=>some p
 | _=>none

def aside (o:Option Nat) (n:Nat):List AV→Bool
 | []=>true
 | g::gs=>(match rootOf g with|some p=>Nat.blt p n && (match o with|some o=>!Nat.beq p o|none=>true)|none=>false) && aside o n gs

def semAppM (sz bytes:Nat):CallT→List AV→AV→St→Option (AV×AV×St):=fun _ as bx st=>match as with
 | .list true []::.fresh ys::gs=>if ys.isEmpty=false∧rowsOk sz ys=true∧ys.length*bytes≤2 ^ 47∧aside none st.length gs=true then some (.sl st.length 0 ys.length sz,bx,st++[.cells ys.flatten]) else none
 | .nils::.fresh ys::gs=>if ys.isEmpty=false∧rowsOk sz ys=true∧ys.length*bytes≤2 ^ 47∧aside none st.length gs=true then some (.sl st.length 0 ys.length sz,bx,st++[.cells ys.flatten]) else none
 | .nils::.nils::gs=>if aside none st.length gs=true then some (.nils,bx,st) else none
 | .sl o 0 n s::.fresh ys::gs=>match st[o]? with
  | some (.cells xs)=>if s=sz∧ys.isEmpty=false∧rowsOk sz ys=true∧xs.length=n*sz∧(n+ys.length)*bytes≤2 ^ 47∧aside (some o) st.length gs=true then some (.sl st.length 0 (n+ys.length) sz,bx,st.set o .dead++[.cells (xs++ys.flatten)]) else none
  | _=>none
 | .sl o f n s::.nils::gs=>if aside none st.length gs=true then some (.sl o f n s,bx,st) else none
 | _=>none

def semLdStR (agg:Bool) (n:Nat):CallT→List AV→AV→St→Option (AV×AV×St):=fun call as bx st=>match as with
 | [.ptr o off,r]=>match rootOf r with
  | some p=>if Nat.beq o p=true then semLdSt agg n call [.ptr o off] bx st else none
  | none=>none
 | _=>none
def semLdStSR (d:Nat):CallT→List AV→AV→St→Option (AV×AV×St):=fun call as bx st=>match as with
 | [.ptr o off,.ptr p f]=>if Nat.beq o p=true∧Nat.beq off (f+d)=true then semLdStS call [.ptr o off] bx st else none
 | _=>none
def semStStA (n:Nat):CallT→List AV→AV→St→Option (AV×AV×St):=fun call as bx st=>match as with
 | .ptr o off::x::r::gs=>match rootOf r with
  | some p=>if Nat.beq o p=true∧aside (some o) st.length gs=true then semStSt n call [.ptr o off,x] bx st else none
  | none=>none
 | _=>none

/-! are two the same? -/
mutual
def eqAV:AV→AV→Bool
 | .undef,.undef=>true
 | .bool a,.bool b=>a == b
 | .int k a,.int k' b=>decide (k=k') && eqI a b
 | .str a,.str b=>eqN a b
 | .list o xs,.list o' ys=>(o == o') && eqRows xs ys
 | .ptr o f,.ptr o' f'=>Nat.beq o o' && Nat.beq f f'
 | .nilp,.nilp=>true
 | .ro xs,.ro ys=>eqAVs xs ys
 | .loc o f,.loc o' f'=>Nat.beq o o' && Nat.beq f f'
 | .box xs,.box ys=>eqAVs xs ys
 | .map o,.map o'=>Nat.beq o o'
 | .nilm,.nilm=>true
 | .func f xs ys,.func f' xs' ys'=>Nat.beq f f' && eqAVs xs xs' && eqAVs ys ys'
 | .nilf,.nilf=>true
 | .agg xs,.agg ys=>eqAVs xs ys
 | .tuple xs,.tuple ys=>eqAVs xs ys
 | .iface t x,.iface t' y=>Nat.beq t t' && eqAV x y
 | .nili,.nili=>true
 | .nils,.nils=>true
 | .fresh xs,.fresh ys=>eqRows xs ys
 | .sl o f n s,.sl o' f' n' s'=>Nat.beq o o' && Nat.beq f f' && Nat.beq n n' && Nat.beq s s'
 | _,_=>false
def eqAVs:List AV→List AV→Bool
 | [],[]=>true
 | a::as,b::bs=>eqAV a b && eqAVs as bs
 | _,_=>false
def eqRows:List (List AV)→List (List AV)→Bool
 | [],[]=>true
 | a::as,b::bs=>eqAVs a b && eqRows as bs
 | _,_=>false
end
def eqEs:List (AV×AV)→List (AV×AV)→Bool
 | [],[]=>true
 | (a,b)::as,(c,d)::bs=>eqAV a c && eqAV b d && eqEs as bs
 | _,_=>false
def eqObj:Obj→Obj→Bool
 | .cells a,.cells b=>eqAVs a b
 | .map a,.map b=>eqEs a b
 | .dead,.dead=>true
 | _,_=>false
def eqSt:St→St→Bool
 | [],[]=>true
 | a::as,b::bs=>eqObj a b && eqSt as bs
 | _,_=>false
def keptM (st st':St):List AV→Bool
 | []=>true
 | .map q::cs=>(match st[q]?,st'[q]? with|some a,some b=>eqObj a b|_,_=>false) && keptM st st' cs
 | _::cs=>keptM st st' cs
def keptC (st st':St):Obj→Bool
 | .cells cs=>keptM st st' cs
 | _=>true
def hasMap (o:Nat):List AV→Bool
 | []=>false
 | .map q::cs=>Nat.beq q o || hasMap o cs
 | _::cs=>hasMap o cs
def semMgetR (kc:Nat) (zero:List AV) (agg ok:Bool):CallT→List AV→AV→St→Option (AV×AV×St):=fun call as bx st=>match as with
 | [.map o,k,.ptr p _]=>match st[p]? with
  | some (.cells cs)=>if hasMap o cs=true then semMget kc zero agg ok call [.map o,k] bx st else none
  | _=>none
 | _=>none
def kept (st st':St):List AV→Bool
 | []=>true
 | g::gs=>(match rootOf g with|some p=>(match st[p]?,st'[p]? with|some a,some b=>eqObj a b && keptC st st' a|_,_=>false)|none=>false) && kept st st' gs
def semCallA (f m:Nat):CallT→List AV→AV→St→Option (AV×AV×St):=fun call as bx st=>match semCall f call (as.take m) bx st with
 | some (v,b,st')=>if kept st st' (as.drop m) then some (v,b,st') else none
 | none=>none

def semB2s:CallT→List AV→AV→St→Option (AV×AV×St):=fun _ as bx st=>match as with
 | [.list _ xs]=>(bytesOf xs).map fun s=>(.str s,bx,st)
 | _=>none

def sem:Kind→CallT→List AV→AV→St→Option (AV×AV×St)
 | .mv=>semMv
 | .pick=>semPick
 | .nilchk=>semNilchk
 | .alloc zero=>semAlloc zero
 | .boxV=>semBoxV
 | .allocO zero=>semAllocO zero
 | .boxO=>semBoxO
 | .build zero offs=>semBuild zero offs
 | .bslice sz zero at_=>semBslice sz zero at_
 | .bsliceM sz zero at_=>semBsliceM sz zero at_
 | .bsliceO sz zero at_=>semBsliceO sz zero at_
 | .min2=>semMin2
 | .max2=>semMax2
 | .idxA len sz agg=>semIdxA len sz agg
 | .eqIS neg=>semEqIS neg
 | .stuck=>fun _ _ _ _=>none
 | .ldLc i agg n=>semLdLc i agg n
 | .ldSt agg n=>semLdSt agg n
 | .ldRo agg n=>semLdRo agg n
 | .ldAn agg n=>semLdAn agg n
 | .ldLcS i=>semLdLcS i
 | .ldStS=>semLdStS
 | .ldStR agg n=>semLdStR agg n
 | .ldStSR d=>semLdStSR d
 | .stStA n=>semStStA n
 | .callA f m=>semCallA f m
 | .stLc i n=>semStLc i n
 | .stSt n=>semStSt n
 | .fad off=>semFad off
 | .fld off n agg=>semFld off n agg
 | .iad sz=>semIad sz
 | .iadA len sz=>semIadA len sz
 | .idxS=>semIdxS
 | .slS lo hi=>semSlS lo hi
 | .slL sz lo hi=>semSlL sz lo hi
 | .slZ=>semSlZ
 | .slA len sz lo hi=>semSlA len sz lo hi
 | .bin op=>semBin op
 | .binB op=>semBinB op
 | .binP op=>semBinP op
 | .un op=>semUn op
 | .conv k=>semConv k
 | .mkF f n=>semMkF f n
 | .mkM=>semMkM
 | .mget kc zero agg ok=>semMget kc zero agg ok
 | .mset kc=>semMset kc
 | .mdel kc=>semMdel kc
 | .slO sz=>semSlO sz
 | .ext i=>semExt i
 | .call f=>semCall f
 | .callV=>semCallV
 | .lenS=>semLenS
 | .lenL=>semLenL
 | .app sz bytes=>semApp sz bytes
 | .appM sz bytes=>semAppM sz bytes
 | .b2s=>semB2s
 | .appA bytes=>semAppA bytes
 | .appS bytes=>semAppS bytes
 | .clrS=>semClrS
 | .mgetR kc zero agg ok=>semMgetR kc zero agg ok

def Opd.read (x:Opd) (σ:Sig):AV :=
 match x with
 | .t s=>(σ.τ s).weak
 | .ts s=>σ.τ s
 | .v i=>(σ.fr.getD i .undef).weak
 | .vs i=>σ.fr.getD i .undef
 | .l i=>match σ.fr.getD i .undef with
  | .box _=>.loc i 0
  | _=>.undef
 | .c a=>a

def updT (τ:Nat→AV) (s:Nat) (a:AV):Nat→AV:=fun j=>if Nat.beq j s then a else τ j

def Opd.spend (x:Opd) (σ:Sig):Sig :=
 match x with
 | .ts s=>{ σ with τ:=updT σ.τ s (σ.τ s).weak }
 | .vs i=>{ σ with fr:=σ.fr.set i (σ.fr.getD i .undef).weak }
 | _=>σ

def AV.strip:AV→AV
 | .loc ..=>.undef
 | .box _=>.undef
 | v=>v
def AV.stripB:AV→AV
 | .box _=>.undef
 | v=>v

def Dst.put (d:Dst) (a:AV) (σ:Sig):Sig :=
 match d with
 | .none|.bx=>σ
 | .t s=>{ σ with τ:=updT σ.τ s a.stripB }
 | .v i=>{ σ with fr:=σ.fr.set i a.strip }

def spendAll:List Opd→Sig→Sig
 | [],σ=>σ
 | x::xs,σ=>spendAll xs (x.spend σ)

def readAll {α:Type}:List Opd→Sig→(List AV→α)→α
 | [],_,k=>k []
 | x::xs,σ,k=>fV (x.read σ) fun a=>readAll xs σ fun as=>k (a::as)

def Kind.fresh:Kind→Bool
 | .bin _|.binB _|.binP _|.un _|.conv _|.lenS|.lenL|.slS ..|.slL ..|.slO _|.slA ..|.app ..|.fad _|.iadA ..|.idxS|.b2s|.build ..|.bslice ..|.bsliceM ..|.bsliceO ..|.min2|.max2|.eqIS _|.appM ..|.appA _|.appS _|.allocO _|.mkM=>true
 | _=>false

def Kind.alters:Kind→Bool
 | .alloc _|.boxV|.ldLcS _|.stLc ..=>true
 | _=>false

def goOp (call:CallT) (o:AOper) (σ:Sig):Option Sig :=
 readAll o.args σ fun as =>
 match sem o.kind call as (match o.box with|some i=>σ.fr.getD i .undef|none=>.undef) σ.st with
 | some (r,bx,st) =>
  let σ:=spendAll o.args σ
  (if o.kind.fresh then fNew r else fV r) fun r =>
  match o.box with
  | some i=>(if o.kind.alters then fNew bx else fV bx) fun bx=>some (o.dst.put r { σ with fr:=σ.fr.set i bx,st })
  | none=>some (o.dst.put r { σ with st })
 | none=>none

def stepOp (call:CallT) (o:AOper) (σ:Sig):Option Sig :=
 match o.guard with
 | none=>goOp call o σ
 | some (x,want)=>match x.read σ with
  | .bool b=>if b == want then goOp call o σ else some (o.dst.put (.tuple []) σ)
  | .tuple []=>some (o.dst.put (.tuple []) σ)
  | _=>none

def runOps (call:CallT):List AOper→Sig→Option Sig
 | [],σ=>some σ
 | o::os,σ=>match stepOp call o σ with
  | some σ=>runOps call os σ
  | none=>none

def killAll:List Nat→List AV→List AV
 | [],fr=>fr
 | i::is,fr=>killAll is (fr.set i .undef)

inductive Ex where
 | normal|exit (id:Nat)|ret
 deriving DecidableEq,Inhabited

abbrev Out:=Ex×List AV×St

def iter (body:List AV→St→Option Out):Nat→List AV→St→Option Out
 | 0,_,_=>none
 | n+1,fr,st=>match body fr st with
  | some (.normal,fr,st)=>iter body n fr st
  | r=>r

def eqEx:Ex→Ex→Bool
 | .normal,.normal=>true
 | .exit a,.exit b=>Nat.beq a b
 | .ret,.ret=>true
 | _,_=>false
def eqOut (a b:Out):Bool:=eqEx a.1 b.1 && eqAVs a.2.1 b.2.1 && eqSt a.2.2 b.2.2
def killOut (kill:List Nat) (o:Out):Out:=(o.1,killAll kill o.2.1,o.2.2)
def agree (kill:List Nat) (x y:Option Out):Option Out:=match x,y with
 | some a,some b=>if eqOut (killOut kill a) (killOut kill b) then some (killOut kill a) else none
 | _,_=>none

def exec (call:CallT) (n:Nat):ACode→List AV→St→Option Out
 | .skip,fr,st=>some (.normal,fr,st)
 | .reg kill ops,fr,st=>match runOps call ops ⟨killAll kill fr,fun _=>.undef,st⟩ with
  | some σ=>fL σ.fr fun fr=>fL σ.st fun st=>some (.normal,fr,st)
  | none=>none
 | .test kill ops c a b,fr,st=>match runOps call ops ⟨killAll kill fr,fun _=>.undef,st⟩ with
  | some σ=>match c.read σ with
   | .bool true=>fL σ.fr fun fr=>fL σ.st fun st=>exec call n a fr st
   | .bool false=>fL σ.fr fun fr=>fL σ.st fun st=>exec call n b fr st
   | _=>none
  | none=>none
 | .seq a b,fr,st=>match exec call n a fr st with
  | some (.normal,fr,st)=>exec call n b fr st
  | r=>r
 | .blk id a,fr,st=>match exec call n a fr st with
  | some (.exit id',fr,st)=>some (if id'=id then .normal else .exit id',fr,st)
  | r=>r
 | .loop a,fr,st=>iter (exec call n a) n fr st
 | .either kill a b,fr,st=>agree kill (exec call n a fr st) (exec call n b fr st)
 | .exit id,fr,st=>some (.exit id,fr,st)
 | .ret,fr,st=>some (.ret,fr,st)

def ResK.get (r:ResK) (fr:List AV) (st:St):Option AV :=
 match r with
 | .v i=>some (fr.getD i .undef).weak
 | .vs i=>some (fr.getD i .undef)
 | .bx i agg n=>match fr.getD i .undef with
  | .box cs=>takeVal agg n cs
  | _=>none
 | .po i agg n=>match fr.getD i .undef with
  | .ptr o off=>match st[o]? with
   | some (.cells cs)=>takeVal agg n (cs.drop off)
   | _=>none
  | _=>none

def getAll:List ResK→List AV→St→Option (List AV)
 | [],_,_=>some []
 | r::rs,fr,st=>match r.get fr st,getAll rs fr st with
  | some v,some vs=>some (v::vs)
  | _,_=>none

def AFn.run (fn:AFn) (call:CallT) (n:Nat) (args:List AV) (st:St):Option (AV×St) :=
 if args.length=fn.np then
  match exec call n fn.code (args++List.replicate (fn.nv - fn.np) .undef) st with
  | some (.exit _,_,_)=>none
  | some (_,fr,st)=>match getAll fn.results fr st with
   | some [v]=>some (v,st)
   | some vs=>some (.tuple vs,st)
   | none=>none
  | none=>none
 else none

def nth2 (l:List (List (Option AFn))) (f:Nat):Option AFn:=((l.getD (f / 10) []).getD (f % 10) none)

def cloneX (sz bytes:Nat) (as:List AV) (st:St):Option (AV×St) :=
 match as with
 | [.list _ xs]=>if rowsOk sz xs && decide (xs.length*bytes≤2 ^ 47) then some (.list true xs,st) else none
 | _=>none

def callF (tbl:Nat→Option AFn):Nat→CallT
 | 0=>fun _ _ _=>none
 | n+1=>fun f args st=>match tbl f with
  | some fn=>match fn.ext with
   | some e=>e args st
   | none=>fn.run (callF tbl n) n args st
  | none=>none

end Go.Cb
