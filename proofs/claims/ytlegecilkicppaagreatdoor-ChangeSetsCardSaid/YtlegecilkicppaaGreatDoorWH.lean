import Derived.Test.YtlegecilkicppaaGreatDoorMrd1
import Derived.Test.YtlegecilkicppaaGreatDoorMrd2
import Derived.Test.YtlegecilkicppaaGreatDoorMrd3
import Derived.Test.YtlegecilkicppaaGreatDoorMb0
import Derived.Test.YtlegecilkicppaaGreatDoorShX
import Derived.Test.YtlegecilkicppaaGreatDoorXAms4
set_option maxRecDepth 100000
set_option linter.all false
namespace Go.Cb.CodeA
open Go Go.Cb Go.Cb.G
class Lt where
 n:Nat
 m:Int
 X:List Nat
 C:List AV
 C2:List AV
 C3:List AV
 C4:List AV
def MOK (m:Int):Prop:=-2147483648≤m∧m < 2147483648
theorem d7u {v:Lt} (hn:v.n≤12) {P:Lt→Prop} (h:∀ m X C C2 C3 i,P ⟨0,m,X,C,C2,C3,i⟩∧P ⟨1,m,X,C,C2,C3,i⟩∧P ⟨2,m,X,C,C2,C3,i⟩∧P ⟨3,m,X,C,C2,C3,i⟩∧P ⟨4,m,X,C,C2,C3,i⟩∧P ⟨5,m,X,C,C2,C3,i⟩∧P ⟨6,m,X,C,C2,C3,i⟩∧P ⟨7,m,X,C,C2,C3,i⟩∧P ⟨8,m,X,C,C2,C3,i⟩∧P ⟨9,m,X,C,C2,C3,i⟩∧P ⟨10,m,X,C,C2,C3,i⟩∧P ⟨11,m,X,C,C2,C3,i⟩∧P ⟨12,m,X,C,C2,C3,i⟩):P v:=by
 obtain⟨n,m,X,C,C2,C3,i⟩:=v;obtain⟨u,x,y,z,B,D,E,F,G,I,j,l,t⟩:=h m X C C2 C3 i;have hn:n≤12:=hn;match n,hn with
 | 0,_=>exact u
 | 1,_=>exact x
 | 2,_=>exact y
 | 3,_=>exact z
 | 4,_=>exact B
 | 5,_=>exact D
 | 6,_=>exact E
 | 7,_=>exact F
 | 8,_=>exact G
 | 9,_=>exact I
 | 10,_=>exact j
 | 11,_=>exact l
 | 12,_=>exact t
 | n+13,h=>omega
def spn (c:d8) (n:Nat):Nat→ACode→List AV→St→Option (List AV×St)
 | 0,_,fr,st=>some (fr,st)
 | k+1,.seq a b,fr,st=>match exec c n a fr st with
  | some (.normal,i,j)=>spn c n k b i j
  | _=>none
 | _,_,_,_=>none
def rst:Nat→ACode→ACode
 | 0,x=>x
 | k+1,.seq _ b=>rst k b
 | _,x=>x
section
variable {code:ACode} {fr:List AV} {st:St} {out:Out}
theorem wS (k:Nat) (i:List AV) (st':St) (l:XC e7 (rst k code) i st' out) (h:spn (callG e7 400) 400 k code fr st=some (i,st'):=by kernel_rfl):XC e7 code fr st out:=by
 induction k generalizing code fr st with
 | zero=>unfold spn at h; cases h; exact l
 | succ k u =>
  cases code with
  | seq a b =>
   unfold spn at h;cases j:exec (callG e7 400) 400 a fr st with
   | none=>rw[j]at h; cases h
   | some o =>
    obtain⟨e,t,x⟩:=o;rw[j]at h;cases e with
    | normal=>exact XC.seq (a8X j) (u l h)
    | _=>cases h
  | _=>cases h
theorem wN (i:List AV) (j:St) (h:exec (callG e7 400) 400 code fr st=some (.normal,i,j):=by kernel_rfl):XC e7 code fr st (.normal,i,j):=a8X h
theorem wR (i:List AV) (j:St) (h:exec (callG e7 400) 400 code fr st=some (.ret,i,j):=by kernel_rfl):XC e7 code fr st (.ret,i,j):=a8X h
theorem wC {kill:List Nat} {ops:List AOper} {f:Nat} {as:List AV} {l:St} {r:AV} {t:St} (i:Nat) (j:List AV) (st':St) (y:Ev e7 f as l r t) (u:a4x (callG e7 400) kill ops i fr st=some (f,as,l):=by kernel_rfl) (x:a2p (callG e7 400) kill ops i (.c .undef) fr st r t=some (.undef,j,st'):=by kernel_rfl):XC e7 (.reg kill ops) fr st (.normal,j,st'):=c0n u y x
theorem wD {kill:List Nat} {ops:List AOper} {x:Opd} {a b:ACode} {f:Nat} {as:List AV} {l:St} {r:AV} {t:St} (i:Nat) (y:Bool) (j:List AV) (st':St) (C:Ev e7 f as l r t) (B:XC e7 (bif y then a else b) j st' out) (u:a4x (callG e7 400) kill ops i fr st=some (f,as,l):=by kernel_rfl) (z:a2p (callG e7 400) kill ops i x fr st r t=some (.bool y,j,st'):=by kernel_rfl):XC e7 (.test kill ops x a b) fr st out:=b7x u C z B
theorem wT {kill:List Nat} {ops:List AOper} {x:Opd} {a b:ACode} (y:Bool) (i:List AV) (st':St) (l:XC e7 (bif y then a else b) i st' out) (j:tst (callG e7 400) kill ops x fr st=some (.bool y,i,st'):=by kernel_rfl):XC e7 (.test kill ops x a b) fr st out:=b0F j l
theorem wU {kill:List Nat} {ops:List AOper} {x:Opd} {a b:ACode} (y:Bool) (j:XC e7 (bif y then a else b) fr st out) (i:tst (callG e7 400) kill ops x fr st=some (.bool y,fr,st):=by kernel_rfl):XC e7 (.test kill ops x a b) fr st out:=b0F i j
theorem wO {kill:List Nat} {a b:ACode} (o1 o2 o:Out) (j:exec (callG e7 400) 400 a fr st=some o1:=by kernel_rfl) (l:exec (callG e7 400) 400 b fr st=some o2:=by kernel_rfl) (t:C1 kill o1=o:=by kernel_rfl) (i:C1 kill o2=o:=by kernel_rfl):XC e7 (.either kill a b) fr st o:=b5w j l t i
theorem wL (m:Nat) (out:Out) (h:E5 (exec (callG e7 400) 400 code) m fr st=some out:=by kernel_rfl):LX e7 code fr st out:=e0Y h
theorem wY (m:Nat) (i:List AV) (j:St) (l:LX e7 code i j out) (h:b0M (exec (callG e7 400) 400 code) m fr st=some (i,j):=by kernel_rfl):LX e7 code fr st out:=c2i h l
theorem wZ {a b:ACode} {e:Ex} {i:List AV} {j:St} (h:XC e7 a fr st (e,i,j)) (hn:e≠.normal:=by intro h; cases h):XC e7 (.seq a b) fr st (e,i,j):=XC.seq_out h hn
theorem wB1 {id:Nat} {a:ACode} {i:List AV} {j:St} (h:XC e7 a fr st (.exit id,i,j)):XC e7 (.blk id a) fr st (.normal,i,j):=c1I h
theorem wB0 {id:Nat} {a:ACode} {e:Ex} {i:List AV} {j:St} (h:XC e7 a fr st (e,i,j)) (l:a7d e (.exit id)=false:=by rfl):XC e7 (.blk id a) fr st (e,i,j):=c3m h l
theorem wF {f:Nat} {fn:AFn} {as:List AV} {e:Ex} {i:List AV} {st':St} {r:AV} (h:XC e7 fn.code (as++List.replicate (fn.nv - fn.np) .undef) st (e,i,st')) (t:finK fn.results (some (e,i,st'))=some (r,st'):=by kernel_rfl) (j:e7 f=some fn:=by rfl) (l:fn.ext=none:=by rfl) (hl:as.length=fn.np:=by rfl):Ev e7 f as st r st':=Ev.of_body (r:=(r,st')) j l hl h t
end
theorem c86:a00 a5Q:=fun L ext as st r st' i h=>by
 unfold a5Q at h;split at h
 · split at h
   · rename_i j;cases h;refine⟨?_,i⟩;simp only[List.map_cons,List.map_nil,AV.sh,a5Q];rw[if_pos j]
   · cases h
 · cases h
def extL:List Nat:=[22,28,40,24,190,195,261,285,289]
theorem d1n:(List.range 400).all (fun f=>match tbl f with|some fn=>fn.code.shut && (fn.ext.isNone || extL.any (Nat.beq f))|none=>true)=true:=by kernel_rfl
theorem c0J:Nat.ble tblL.length 40=true:=by kernel_rfl
theorem T5:a3u tbl:=fun f fn h=>by
 have u:f < 400:=by
  rcases Nat.lt_or_ge f 400 with h1|h1
  · exact h1
  · exfalso;have h:(tblL.getD (f / 10) []).getD (f % 10) none=some fn:=h;have:=Nat.le_of_ble_eq_true c0J;rw[show tblL.getD (f / 10) []=[]by rw[List.getD_eq_getElem?_getD,List.getElem?_eq_none (by omega)]; rfl]at h;cases h
 have l:=List.all_eq_true.1 d1n f (List.mem_range.2 u);simp only[h,Bool.and_eq_true,Bool.or_eq_true]at l;refine⟨l.1,fun e i=>?_⟩;rcases l.2 with h1|h1
 · rw[i]at h1; cases h1
 · obtain⟨k,t,j⟩:=List.any_eq_true.1 h1;have j:=Nat.eq_of_beq_eq_true j;subst j;simp only[extL,List.mem_cons,List.not_mem_nil,or_false]at t;rcases t with rfl|rfl|rfl|rfl|rfl|rfl|rfl|rfl|rfl
   · have h:some a22=some fn:=h; cases h; cases i; exact b55 4 80
   · have h:some a28=some fn:=h; cases h; cases i; exact a7T 4 72
   · have h:some a40=some fn:=h; cases h; cases i; exact b6b 4 80
   · have h:some a24=some fn:=h; cases h; cases i; exact b5F 4 80
   · have h:some c8Z=some fn:=h; cases h; cases i; exact c1n
   · have h:some c5C=some fn:=h; cases h; cases i; exact c2l
   · have h:some c67=some fn:=h; cases h; cases i; exact a7T 1 16
   · have h:some c9m=some fn:=h; cases h; cases i; exact c86
   · have h:some c51=some fn:=h; cases h; cases i; exact b7q
theorem P2:a3u e7:=fun f fn h=>by
 unfold e7 at h;cases i:Nat.beq f 203 with
 | true =>rw[i]at h;cases h;exact⟨by kernel_rfl,fun e j=>by cases j⟩
 | false =>rw[i]at h;exact T5 f fn h
def a7k (C:List AV):St:=shS 31 [.cells C] W.T_rd1
theorem d0F (C:List AV):Ev e7 19 [.ptr 2 0,W.txt1] (T_b0++[.cells C]) (W.R_rd1.sh 31 1) (a7k C):=by have h:=Ev.sh P2 (L:=31) [.cells C] (show 31≤T_b0.length from Nat.le_of_eq (show 31=T_b0.length by kernel_rfl)) (ev_ofG W.m_rd1);rw[show shS 31 [.cells C] T_b0=T_b0++[.cells C]by kernel_rfl]at h;exact h
def a6D (C:List AV):St:=shS 31 [.cells C] W.T_rd2
theorem c8l (C:List AV):Ev e7 19 [.ptr 2 0,W.txt2] (T_b0++[.cells C]) (W.R_rd2.sh 31 1) (a6D C):=by have h:=Ev.sh P2 (L:=31) [.cells C] (show 31≤T_b0.length from Nat.le_of_eq (show 31=T_b0.length by kernel_rfl)) (ev_ofG W.m_rd2);rw[show shS 31 [.cells C] T_b0=T_b0++[.cells C]by kernel_rfl]at h;exact h
theorem c5R:Ev e7 19 [.ptr 2 0,W.txt1] T_b0 W.R_rd1 W.T_rd1:=ev_ofG W.m_rd1
end Go.Cb.CodeA
