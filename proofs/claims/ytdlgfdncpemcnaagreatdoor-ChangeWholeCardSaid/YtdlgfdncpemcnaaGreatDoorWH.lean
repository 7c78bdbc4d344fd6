import Derived.Test.YtdlgfdncpemcnaaGreatDoorMrd
import Derived.Test.YtdlgfdncpemcnaaGreatDoorMb0
import Derived.Test.YtdlgfdncpemcnaaGreatDoorShX
import Derived.Test.YtdlgfdncpemcnaaGreatDoorXAms4
set_option maxRecDepth 100000
set_option linter.all false
namespace Go.Cb.CodeA
open Go Go.Cb Go.Cb.G
structure Lt where
 n:Nat
 m:Int
 X:List Nat
 C:List AV
 C2:List AV
 C3:List AV
 K:List (List AV)
 L:List (List AV)
 K1:List (List AV)
 L1:List (List AV)
 K2:List (List AV)
 L2:List (List AV)
def MOK (m:Int):Prop:=-2147483648≤m∧m < 2147483648
theorem g6i {v:Lt} (t:v.n≤12) {P:Lt→Prop} (h:∀ m X C C2 C3 K L K1 L1 K2 L2,P ⟨0,m,X,C,C2,C3,K,L,K1,L1,K2,L2⟩∧P ⟨1,m,X,C,C2,C3,K,L,K1,L1,K2,L2⟩∧P ⟨2,m,X,C,C2,C3,K,L,K1,L1,K2,L2⟩∧P ⟨3,m,X,C,C2,C3,K,L,K1,L1,K2,L2⟩∧P ⟨4,m,X,C,C2,C3,K,L,K1,L1,K2,L2⟩∧P ⟨5,m,X,C,C2,C3,K,L,K1,L1,K2,L2⟩∧P ⟨6,m,X,C,C2,C3,K,L,K1,L1,K2,L2⟩∧P ⟨7,m,X,C,C2,C3,K,L,K1,L1,K2,L2⟩∧P ⟨8,m,X,C,C2,C3,K,L,K1,L1,K2,L2⟩∧P ⟨9,m,X,C,C2,C3,K,L,K1,L1,K2,L2⟩∧P ⟨10,m,X,C,C2,C3,K,L,K1,L1,K2,L2⟩∧P ⟨11,m,X,C,C2,C3,K,L,K1,L1,K2,L2⟩∧P ⟨12,m,X,C,C2,C3,K,L,K1,L1,K2,L2⟩):P v:=by
 obtain⟨n,m,X,C,C2,C3,K,L,K1,L1,K2,L2⟩:=v;obtain⟨u,x,y,z,B,D,E,F,G,I,i,j,l⟩:=h m X C C2 C3 K L K1 L1 K2 L2;have t:n≤12:=t;match n,t with
 | 0,_=>exact u
 | 1,_=>exact x
 | 2,_=>exact y
 | 3,_=>exact z
 | 4,_=>exact B
 | 5,_=>exact D
 | 6,_=>exact E
 | 7,_=>exact F
 | 8,_=>exact G
 | 9,_=>exact I
 | 10,_=>exact i
 | 11,_=>exact j
 | 12,_=>exact l
 | n+13,h=>omega
def spn (c:d8) (n:Nat):Nat→ACode→List AV→St→Option (List AV×St)
 | 0,_,fr,st=>some (fr,st)
 | k+1,.seq a b,fr,st=>match exec c n a fr st with
  | some (.normal,i,j)=>spn c n k b i j
  | _=>none
 | _,_,_,_=>none
def rst:Nat→ACode→ACode
 | 0,x=>x
 | k+1,.seq _ b=>rst k b
 | _,x=>x
section
variable {code:ACode} {fr:List AV} {st:St} {out:Out}
theorem wS (k:Nat) (i:List AV) (st':St) (l:XC e8 (rst k code) i st' out) (h:spn (callG e8 400) 400 k code fr st=some (i,st'):=by kernel_rfl):XC e8 code fr st out:=by
 induction k generalizing code fr st with
 | zero=>unfold spn at h; cases h; exact l
 | succ k u =>
  cases code with
  | seq a b =>
   unfold spn at h;cases j:exec (callG e8 400) 400 a fr st with
   | none=>rw[j]at h; cases h
   | some o =>
    obtain⟨e,t,v⟩:=o;rw[j]at h;cases e with
    | normal=>exact XC.seq (b0J j) (u l h)
    | _=>cases h
  | _=>cases h
theorem wN (i:List AV) (j:St) (h:exec (callG e8 400) 400 code fr st=some (.normal,i,j):=by kernel_rfl):XC e8 code fr st (.normal,i,j):=b0J h
theorem wR (i:List AV) (j:St) (h:exec (callG e8 400) 400 code fr st=some (.ret,i,j):=by kernel_rfl):XC e8 code fr st (.ret,i,j):=b0J h
theorem wC {kill:List Nat} {ops:List AOper} {f:Nat} {as:List AV} {l:St} {r:AV} {t:St} (i:Nat) (j:List AV) (st':St) (x:Ev e8 f as l r t) (u:a4u (callG e8 400) kill ops i fr st=some (f,as,l):=by kernel_rfl) (v:a2k (callG e8 400) kill ops i (.c .undef) fr st r t=some (.undef,j,st'):=by kernel_rfl):XC e8 (.reg kill ops) fr st (.normal,j,st'):=c7Z u x v
theorem wD {kill:List Nat} {ops:List AOper} {x:Opd} {a b:ACode} {f:Nat} {as:List AV} {l:St} {r:AV} {t:St} (i:Nat) (y:Bool) (j:List AV) (st':St) (B:Ev e8 f as l r t) (z:XC e8 (bif y then a else b) j st' out) (u:a4u (callG e8 400) kill ops i fr st=some (f,as,l):=by kernel_rfl) (v:a2k (callG e8 400) kill ops i x fr st r t=some (.bool y,j,st'):=by kernel_rfl):XC e8 (.test kill ops x a b) fr st out:=b8g u B v z
theorem wT {kill:List Nat} {ops:List AOper} {x:Opd} {a b:ACode} (y:Bool) (i:List AV) (st':St) (l:XC e8 (bif y then a else b) i st' out) (j:tst (callG e8 400) kill ops x fr st=some (.bool y,i,st'):=by kernel_rfl):XC e8 (.test kill ops x a b) fr st out:=a8R j l
theorem wU {kill:List Nat} {ops:List AOper} {x:Opd} {a b:ACode} (y:Bool) (j:XC e8 (bif y then a else b) fr st out) (i:tst (callG e8 400) kill ops x fr st=some (.bool y,fr,st):=by kernel_rfl):XC e8 (.test kill ops x a b) fr st out:=a8R i j
theorem wO {kill:List Nat} {a b:ACode} (o1 o2 o:Out) (j:exec (callG e8 400) 400 a fr st=some o1:=by kernel_rfl) (l:exec (callG e8 400) 400 b fr st=some o2:=by kernel_rfl) (t:B7 kill o1=o:=by kernel_rfl) (i:B7 kill o2=o:=by kernel_rfl):XC e8 (.either kill a b) fr st o:=b5C j l t i
theorem wL (m:Nat) (out:Out) (h:E6 (exec (callG e8 400) 400 code) m fr st=some out:=by kernel_rfl):LX e8 code fr st out:=g4G h
theorem wY (m:Nat) (i:List AV) (j:St) (l:LX e8 code i j out) (h:a9E (exec (callG e8 400) 400 code) m fr st=some (i,j):=by kernel_rfl):LX e8 code fr st out:=c0M h l
theorem wZ {a b:ACode} {e:Ex} {i:List AV} {j:St} (h:XC e8 a fr st (e,i,j)) (l:e≠.normal:=by intro h; cases h):XC e8 (.seq a b) fr st (e,i,j):=XC.seq_out h l
theorem wB1 {id:Nat} {a:ACode} {i:List AV} {j:St} (h:XC e8 a fr st (.exit id,i,j)):XC e8 (.blk id a) fr st (.normal,i,j):=c86 h
theorem wB0 {id:Nat} {a:ACode} {e:Ex} {i:List AV} {j:St} (h:XC e8 a fr st (e,i,j)) (l:a7e e (.exit id)=false:=by rfl):XC e8 (.blk id a) fr st (e,i,j):=d1J h l
theorem wF {f:Nat} {fn:AFn} {as:List AV} {e:Ex} {i:List AV} {st':St} {r:AV} (h:XC e8 fn.code (as++List.replicate (fn.nv - fn.np) .undef) st (e,i,st')) (t:finK fn.results (some (e,i,st'))=some (r,st'):=by kernel_rfl) (j:e8 f=some fn:=by rfl) (l:fn.ext=none:=by rfl) (hl:as.length=fn.np:=by rfl):Ev e8 f as st r st':=Ev.of_body (r:=(r,st')) j l hl h t
end
theorem e00:a0L a5S:=fun L ext as st r st' i h=>by
 unfold a5S at h;split at h
 · split at h
   · rename_i j;cases h;refine⟨?_,i⟩;simp only[List.map_cons,List.map_nil,AV.sh,a5S];rw[if_pos j]
   · cases h
 · cases h
def extL:List Nat:=[22,26,39,184,191,196,262,286,290]
theorem e8V:(List.range 400).all (fun f=>match tbl f with|some fn=>fn.code.shut && (fn.ext.isNone || extL.any (Nat.beq f))|none=>true)=true:=by kernel_rfl
theorem d3E:Nat.ble tblL.length 40=true:=by kernel_rfl
theorem a00:a2M tbl:=fun f fn h=>by
 have t:f < 400:=by
  rcases Nat.lt_or_ge f 400 with h1|h1
  · exact h1
  · exfalso;have h:(tblL.getD (f / 10) []).getD (f % 10) none=some fn:=h;have:=Nat.le_of_ble_eq_true d3E;rw[show tblL.getD (f / 10) []=[]by rw[List.getD_eq_getElem?_getD,List.getElem?_eq_none (by omega)]; rfl]at h;cases h
 have l:=List.all_eq_true.1 e8V f (List.mem_range.2 t);simp only[h,Bool.and_eq_true,Bool.or_eq_true]at l;refine⟨l.1,fun e i=>?_⟩;rcases l.2 with h1|h1
 · rw[i]at h1; cases h1
 · obtain⟨k,hk,j⟩:=List.any_eq_true.1 h1;have j:=Nat.eq_of_beq_eq_true j;subst j;simp only[extL,List.mem_cons,List.not_mem_nil,or_false]at hk;rcases hk with rfl|rfl|rfl|rfl|rfl|rfl|rfl|rfl|rfl
   · have h:some a22=some fn:=h; cases h; cases i; exact b6x 4 80
   · have h:some a26=some fn:=h; cases h; cases i; exact a7X 4 72
   · have h:some a39=some fn:=h; cases h; cases i; exact b5c 4 80
   · have h:some e2P=some fn:=h; cases h; cases i; exact b61 4 80
   · have h:some e9a=some fn:=h; cases h; cases i; exact c4J
   · have h:some d49=some fn:=h; cases h; cases i; exact d2e
   · have h:some e8D=some fn:=h; cases h; cases i; exact a7X 1 16
   · have h:some e9x=some fn:=h; cases h; cases i; exact e00
   · have h:some e3k=some fn:=h; cases h; cases i; exact b9p
theorem b6N:a2M e8:=fun f fn h=>by
 unfold e8 at h;cases i:Nat.beq f 204 with
 | true =>rw[i]at h;cases h;exact⟨by kernel_rfl,fun e j=>by cases j⟩
 | false =>rw[i]at h;exact a00 f fn h
def T_m (C:List AV):St:=shS 31 [.cells C] W.T_rd
theorem c0A (C:List AV):Ev e8 19 [.ptr 2 0,W.txtW] (T_b0++[.cells C]) (W.R_rd.sh 31 1) (T_m C):=by have h:=Ev.sh b6N (L:=31) [.cells C] (show 31≤T_b0.length from Nat.le_of_eq (show 31=T_b0.length by kernel_rfl)) (ev_ofG W.m_rd);rw[show shS 31 [.cells C] T_b0=T_b0++[.cells C]by kernel_rfl]at h;exact h
theorem e5m:Ev e8 19 [.ptr 2 0,W.txtW] T_b0 W.R_rd W.T_rd:=ev_ofG W.m_rd
end Go.Cb.CodeA
