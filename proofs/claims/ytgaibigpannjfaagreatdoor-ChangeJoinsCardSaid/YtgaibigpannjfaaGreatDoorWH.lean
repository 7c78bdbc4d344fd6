import Derived.Test.YtgaibigpannjfaaGreatDoorQxK
import Derived.Test.YtgaibigpannjfaaGreatDoorMb0
import Derived.Test.YtgaibigpannjfaaGreatDoorXAms4
set_option maxRecDepth 100000
set_option linter.all false
namespace Go.Cb.CodeA
open Go Go.Cb Go.Cb.G
class Lt where
 n:Nat
 m:Int
 k0:Int
 k1:Int
 k2:Int
 al:List Nat
 p0:AV
 p1:AV
 t:List Nat
 C:List AV
 C2:List AV
 D:List AV
 K:List (List AV)
 L:List (List AV)
 K1:List (List AV)
 L1:List (List AV)
 K2:List (List AV)
 L2:List (List AV)
def MOK (m:Int):Prop:=-2147483648≤m∧m < 2147483648
theorem b4I {v:Lt} (hn:v.n≤13) {P:Lt→Prop} (h:∀ m k0 k1 k2 al p0 p1 t C C2 D K L K1 L1 K2 L2,P ⟨0,m,k0,k1,k2,al,p0,p1,t,C,C2,D,K,L,K1,L1,K2,L2⟩∧P ⟨1,m,k0,k1,k2,al,p0,p1,t,C,C2,D,K,L,K1,L1,K2,L2⟩∧P ⟨2,m,k0,k1,k2,al,p0,p1,t,C,C2,D,K,L,K1,L1,K2,L2⟩∧P ⟨3,m,k0,k1,k2,al,p0,p1,t,C,C2,D,K,L,K1,L1,K2,L2⟩∧P ⟨4,m,k0,k1,k2,al,p0,p1,t,C,C2,D,K,L,K1,L1,K2,L2⟩∧P ⟨5,m,k0,k1,k2,al,p0,p1,t,C,C2,D,K,L,K1,L1,K2,L2⟩∧P ⟨6,m,k0,k1,k2,al,p0,p1,t,C,C2,D,K,L,K1,L1,K2,L2⟩∧P ⟨7,m,k0,k1,k2,al,p0,p1,t,C,C2,D,K,L,K1,L1,K2,L2⟩∧P ⟨8,m,k0,k1,k2,al,p0,p1,t,C,C2,D,K,L,K1,L1,K2,L2⟩∧P ⟨9,m,k0,k1,k2,al,p0,p1,t,C,C2,D,K,L,K1,L1,K2,L2⟩∧P ⟨10,m,k0,k1,k2,al,p0,p1,t,C,C2,D,K,L,K1,L1,K2,L2⟩∧P ⟨11,m,k0,k1,k2,al,p0,p1,t,C,C2,D,K,L,K1,L1,K2,L2⟩∧P ⟨12,m,k0,k1,k2,al,p0,p1,t,C,C2,D,K,L,K1,L1,K2,L2⟩∧P ⟨13,m,k0,k1,k2,al,p0,p1,t,C,C2,D,K,L,K1,L1,K2,L2⟩):P v:=by
 obtain⟨n,m,k0,k1,k2,al,p0,p1,t,C,C2,D,K,L,K1,L1,K2,L2⟩:=v;obtain⟨x,y,z,B,E,F,G,I,J,M,i,j,l,u⟩:=h m k0 k1 k2 al p0 p1 t C C2 D K L K1 L1 K2 L2;have hn:n≤13:=hn;match n,hn with
 | 0,_=>exact x
 | 1,_=>exact y
 | 2,_=>exact z
 | 3,_=>exact B
 | 4,_=>exact E
 | 5,_=>exact F
 | 6,_=>exact G
 | 7,_=>exact I
 | 8,_=>exact J
 | 9,_=>exact M
 | 10,_=>exact i
 | 11,_=>exact j
 | 12,_=>exact l
 | 13,_=>exact u
 | n+14,h=>omega
def spn (c:e9) (n:Nat):Nat→ACode→List AV→St→Option (List AV×St)
 | 0,_,fr,st=>some (fr,st)
 | k+1,.seq a b,fr,st=>match exec c n a fr st with
  | some (.normal,i,j)=>spn c n k b i j
  | _=>none
 | _,_,_,_=>none
def rst:Nat→ACode→ACode
 | 0,x=>x
 | k+1,.seq _ b=>rst k b
 | _,x=>x
section
variable {code:ACode} {fr:List AV} {st:St} {out:Out}
theorem wS (k:Nat) (i:List AV) (st':St) (l:XC e7 (rst k code) i st' out) (h:spn (callG e7 400) 400 k code fr st=some (i,st'):=by kernel_rfl):XC e7 code fr st out:=by
 induction k generalizing code fr st with
 | zero=>unfold spn at h; cases h; exact l
 | succ k u =>
  cases code with
  | seq a b =>
   unfold spn at h;cases j:exec (callG e7 400) 400 a fr st with
   | none=>rw[j]at h; cases h
   | some o =>
    obtain⟨e,t,x⟩:=o;rw[j]at h;cases e with
    | normal=>exact XC.seq (b4j j) (u l h)
    | _=>cases h
  | _=>cases h
theorem wN (i:List AV) (j:St) (h:exec (callG e7 400) 400 code fr st=some (.normal,i,j):=by kernel_rfl):XC e7 code fr st (.normal,i,j):=b4j h
theorem wR (i:List AV) (j:St) (h:exec (callG e7 400) 400 code fr st=some (.ret,i,j):=by kernel_rfl):XC e7 code fr st (.ret,i,j):=b4j h
theorem wC {kill:List Nat} {ops:List AOper} {f:Nat} {as:List AV} {l:St} {r:AV} {t:St} (i:Nat) (j:List AV) (st':St) (y:Ev e7 f as l r t) (u:a5S (callG e7 400) kill ops i fr st=some (f,as,l):=by kernel_rfl) (x:a3p (callG e7 400) kill ops i (.c .undef) fr st r t=some (.undef,j,st'):=by kernel_rfl):XC e7 (.reg kill ops) fr st (.normal,j,st'):=c7K u y x
theorem wD {kill:List Nat} {ops:List AOper} {x:Opd} {a b:ACode} {f:Nat} {as:List AV} {l:St} {r:AV} {t:St} (i:Nat) (y:Bool) (j:List AV) (st':St) (C:Ev e7 f as l r t) (B:XC e7 (bif y then a else b) j st' out) (u:a5S (callG e7 400) kill ops i fr st=some (f,as,l):=by kernel_rfl) (z:a3p (callG e7 400) kill ops i x fr st r t=some (.bool y,j,st'):=by kernel_rfl):XC e7 (.test kill ops x a b) fr st out:=b9R u C z B
theorem wT {kill:List Nat} {ops:List AOper} {x:Opd} {a b:ACode} (y:Bool) (i:List AV) (st':St) (l:XC e7 (bif y then a else b) i st' out) (j:tst (callG e7 400) kill ops x fr st=some (.bool y,i,st'):=by kernel_rfl):XC e7 (.test kill ops x a b) fr st out:=b1E j l
theorem wU {kill:List Nat} {ops:List AOper} {x:Opd} {a b:ACode} (y:Bool) (j:XC e7 (bif y then a else b) fr st out) (i:tst (callG e7 400) kill ops x fr st=some (.bool y,fr,st):=by kernel_rfl):XC e7 (.test kill ops x a b) fr st out:=b1E i j
theorem wO {kill:List Nat} {a b:ACode} (o1 o2 o:Out) (j:exec (callG e7 400) 400 a fr st=some o1:=by kernel_rfl) (l:exec (callG e7 400) 400 b fr st=some o2:=by kernel_rfl) (t:G1 kill o1=o:=by kernel_rfl) (i:G1 kill o2=o:=by kernel_rfl):XC e7 (.either kill a b) fr st o:=b7V j l t i
theorem wL (m:Nat) (out:Out) (h:J2 (exec (callG e7 400) 400 code) m fr st=some out:=by kernel_rfl):LX e7 code fr st out:=e9H h
theorem wZ {a b:ACode} {e:Ex} {i:List AV} {j:St} (h:XC e7 a fr st (e,i,j)) (hn:e≠.normal:=by intro h; cases h):XC e7 (.seq a b) fr st (e,i,j):=XC.seq_out h hn
theorem wB1 {id:Nat} {a:ACode} {i:List AV} {j:St} (h:XC e7 a fr st (.exit id,i,j)):XC e7 (.blk id a) fr st (.normal,i,j):=c2F h
theorem wB0 {id:Nat} {a:ACode} {e:Ex} {i:List AV} {j:St} (h:XC e7 a fr st (e,i,j)) (l:a8I e (.exit id)=false:=by rfl):XC e7 (.blk id a) fr st (e,i,j):=c7y h l
theorem wF {f:Nat} {fn:AFn} {as:List AV} {e:Ex} {i:List AV} {st':St} {r:AV} (h:XC e7 fn.code (as++List.replicate (fn.nv - fn.np) .undef) st (e,i,st')) (t:finK fn.results (some (e,i,st'))=some (r,st'):=by kernel_rfl) (j:e7 f=some fn:=by rfl) (l:fn.ext=none:=by rfl) (hl:as.length=fn.np:=by rfl):Ev e7 f as st r st':=Ev.of_body (r:=(r,st')) j l hl h t
end
end Go.Cb.CodeA
