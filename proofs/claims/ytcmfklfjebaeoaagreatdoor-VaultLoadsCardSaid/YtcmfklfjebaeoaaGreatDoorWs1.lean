import Derived.Test.YtcmfklfjebaeoaaGreatDoorE0
import Derived.Test.YtcmfklfjebaeoaaGreatDoorMb0
import Derived.Test.YtcmfklfjebaeoaaGreatDoorMaw
import Derived.Test.YtcmfklfjebaeoaaGreatDoorShR
import Derived.Test.YtcmfklfjebaeoaaGreatDoorXAms4
import Derived.KernelRfl
/-
 How numbers, texts, values and entities lie as bytes: plain lists of numbers, no program in sight.
-/
set_option maxRecDepth 4000
set_option linter.unusedVariables false
set_option linter.unusedSimpArgs false
namespace Go.Cb.CodeA
open Go Go.Cb
/-- a number as bytes -/
def wrU (n:Nat):List Nat:=if h:128≤n then (n % 128+128)::wrU (n / 128) else [n]
termination_by n
decreasing_by omega
theorem a8G {n:Nat} (h:n < 128):wrU n=[n]:=by rw [wrU,dif_neg (by omega)]
theorem a8i {n:Nat} (h:128≤n):wrU n=(n % 128+128)::wrU (n / 128):=by rw [wrU,dif_pos h]
/-- what bytes come to -/
def E1:List Nat→Nat
 | []=>0
 | b::bs=>b % 128+128*E1 bs
theorem a6r:∀ (bs:List Nat) (b:Nat),E1 (bs++[b])=E1 bs+b % 128*128 ^ bs.length
 | [],b=>by simp [E1]
 | a::bs,b=>by
  have h:=a6r bs b
  rw [List.cons_append,E1,E1,h,List.length_cons,Nat.pow_succ,Nat.mul_add,Nat.add_assoc]
  congr 2
  rw [Nat.mul_comm 128,Nat.mul_assoc]
theorem b0f:∀ bs:List Nat,E1 bs < 128 ^ bs.length
 | []=>by simp [E1]
 | b::bs=>by
  have h:=b0f bs
  have hb:=Nat.mod_lt b (show 0 < 128 by decide)
  rw [E1,List.length_cons,Nat.pow_succ]
  omega
theorem b7n {bs:List Nat} {l:Nat} (h0:l≠0) (h1:l < 128):0 < E1 (bs++[l]):=by
 induction bs with
 | nil=>simp only [List.nil_append,E1]; omega
 | cons b bs ih=>rw [List.cons_append,E1]; omega
theorem b3G {l:Nat} (hl:l < 128):∀ {bs:List Nat},(∀ b∈bs,128≤b∧b < 256)→(bs≠[]→l≠0)→wrU (E1 (bs++[l]))=bs++[l]
 | [],_,_=>by
  rw [List.nil_append,show E1 [l]=l by simp only [E1]; omega,a8G hl]
 | b::bs,hb,h0=>by
  have hz:=h0 (by simp)
  have hp:=b7n (bs:=bs) hz hl
  have h1:=hb b (List.mem_cons_self ..)
  have ih:=b3G hl (bs:=bs) (fun x hx=>hb x (List.mem_cons_of_mem _ hx)) fun _=>hz
  rw [List.cons_append,E1,a8i (by omega)]
  congr 1
  · omega
  · rw [show (b % 128+128*E1 (bs++[l])) / 128=E1 (bs++[l]) by omega,ih]
/-- a number with a sign, as one without -/
def zig (n:Int):Nat:=if 0≤n then (2*n).toNat else (-2*n - 1).toNat
def wrI (n:Int):List Nat:=wrU (zig n)
def wrT (s:List Nat):List Nat:=wrU s.length++s
mutual
def Val.wr:Val→List Nat
 | .mk k n s ks ls=>wrU k.toNat++(if k=1∨k=3 then wrI n else if k=2∨k=4∨k=7∨k=8 then wrT s else if k=5 then wrU ls.length++D9 ls else if k=6 then wrU ls.length++C4 ks ls else [])
def D9:List Val→List Nat
 | []=>[]
 | v::vs=>v.wr++D9 vs
def C4:List (List Nat)→List Val→List Nat
 | k::ks,v::vs=>wrT k++(v.wr++C4 ks vs)
 | _,_=>[]
end
theorem a2R:∀ (l:List Val) (v:Val),D9 (l++[v])=D9 l++v.wr
 | [],v=>by simp [D9]
 | a::l,v=>by rw [List.cons_append,D9,D9,a2R l v,List.append_assoc]
theorem a2Y:∀ (ks:List (List Nat)) (l:List Val) (k:List Nat) (v:Val),ks.length=l.length→C4 (ks++[k]) (l++[v])=C4 ks l++(wrT k++v.wr)
 | [],[],k,v,_=>by simp [C4]
 | a::ks,b::l,k,v,h=>by
  rw [List.cons_append,List.cons_append,C4,C4,a2Y ks l k v (by simpa using h)]
  simp only [List.append_assoc]
 | [],_::_,_,_,h=>by simp at h
 | _::_,[],_,_,h=>by simp at h
/-- an entity, as it is laid -/
def Ent.wr (e:Ent):List Nat:=wrT e.t++(wrT e.id++(Val.mk 6 0 [] e.ks e.ls).wr)
theorem Z0 {n:Nat} (h:n < 2 ^ 64):l4 .u64 (n:Int)=n:=by
 rw [D7]; simp [IntKind.wrap,IntKind.signed,IntKind.bits]; omega
theorem b2E {n:Nat} (h:n < 2 ^ 63):l4 .i64 (n:Int)=n:=O1 (by omega) (by omega)
theorem c7q {n:Nat} (h:n < 256):l4 .u8 (n:Int)=n:=by
 rw [D7]; simp [IntKind.wrap,IntKind.signed,IntKind.bits]; omega
theorem c9M (n:Nat):l4 .u8 (n:Int)=((n % 256:Nat):Int):=by
 rw [D7]; simp [IntKind.wrap,IntKind.signed,IntKind.bits]
theorem a4R {n:Nat} (h:n < 2 ^ 64):IntKind.u64.wrap (n:Int)=n:=by
 simp [IntKind.wrap,IntKind.signed,IntKind.bits]; omega
theorem c2s {n:Nat} (h:n < 256):IntKind.u8.wrap (n:Int)=n:=by
 simp [IntKind.wrap,IntKind.signed,IntKind.bits]; omega
theorem ofI (w n:Nat):BitVec.ofInt w (n:Int)=BitVec.ofNat w n:=BitVec.ofInt_natCast ..
theorem c32 {b:Nat} (h:b < 256):i7 .and (.int .u8 (b:Int)) (.int .u8 127)=some (.int .u8 ((b % 128:Nat):Int)):=by
 show some (AV.int .u8 (IntKind.u8.wrap ((BitVec.ofInt 8 (b:Int) &&& BitVec.ofInt 8 ((127:Nat):Int)).toNat:Int)))=_
 rw [ofI,ofI,BitVec.toNat_and,BitVec.toNat_ofNat,BitVec.toNat_ofNat,Nat.mod_eq_of_lt (show b < 2 ^ 8 by omega),show 127 % 2 ^ 8=2 ^ 7 - 1 from rfl,Nat.and_two_pow_sub_one_eq_mod,c2s (by omega)]
theorem d0Z {n:Nat} (h:n < 2 ^ 64):i7 .and (.int .u64 (n:Int)) (.int .u64 1)=some (.int .u64 ((n % 2:Nat):Int)):=by
 show some (AV.int .u64 (IntKind.u64.wrap ((BitVec.ofInt 64 (n:Int) &&& BitVec.ofInt 64 ((1:Nat):Int)).toNat:Int)))=_
 rw [ofI,ofI,BitVec.toNat_and,BitVec.toNat_ofNat,BitVec.toNat_ofNat,Nat.mod_eq_of_lt (show n < 2 ^ 64 by omega),show 1 % 2 ^ 64=2 ^ 1 - 1 from rfl,Nat.and_two_pow_sub_one_eq_mod,a4R (by omega)]
theorem c4c {a c i:Nat} (ha:a < 128 ^ i) (h:a+c*128 ^ i < 2 ^ 64):i7 .or (.int .u64 (a:Int)) (.int .u64 ((c*128 ^ i:Nat):Int))=some (.int .u64 ((a+c*128 ^ i:Nat):Int)):=by
 show some (AV.int .u64 (IntKind.u64.wrap ((BitVec.ofInt 64 (a:Int) ||| BitVec.ofInt 64 ((c*128 ^ i:Nat):Int)).toNat:Int)))=_
 rw [ofI,ofI,BitVec.toNat_or,BitVec.toNat_ofNat,BitVec.toNat_ofNat,Nat.mod_eq_of_lt (show a < 2 ^ 64 by omega),Nat.mod_eq_of_lt (show c*128 ^ i < 2 ^ 64 by omega)]
 have e:(128:Nat) ^ i=2 ^ (7*i):=by rw [show (128:Nat)=2 ^ 7 from rfl,← Nat.pow_mul]
 have h1:=Nat.two_pow_add_eq_or_of_lt (b:=a) (i:=7*i) (by rw [← e]; exact ha) c
 rw [Nat.or_comm,e,Nat.mul_comm c,← h1,← e,Nat.mul_comm _ c,Nat.add_comm,a4R h]
theorem c6w {b:Nat} (h:b < 256):i7 .or (.int .u8 (b:Int)) (.int .u8 128)=some (.int .u8 ((b % 128+128:Nat):Int)):=by
 show some (AV.int .u8 (IntKind.u8.wrap ((BitVec.ofInt 8 (b:Int) ||| BitVec.ofInt 8 ((128:Nat):Int)).toNat:Int)))=_
 rw [ofI,ofI,BitVec.toNat_or,BitVec.toNat_ofNat,BitVec.toNat_ofNat,Nat.mod_eq_of_lt (show b < 2 ^ 8 by omega),show 128 % 2 ^ 8=2 ^ 7*1 from rfl]
 have h1:b ||| 2 ^ 7*1=b % 128+128:=by
  have e2:2 ^ 7*1+b % 2 ^ 7=2 ^ 7*1 ||| b % 2 ^ 7:=Nat.two_pow_add_eq_or_of_lt (by omega) 1
  rw [show b % 128+128=2 ^ 7*1+b % 2 ^ 7 by omega,e2]
  apply Nat.eq_of_testBit_eq
  intro j
  rw [Nat.testBit_or,Nat.testBit_or,show 2 ^ 7*1=2 ^ 7 from rfl,Nat.testBit_mod_two_pow]
  by_cases hj:j < 7
  · simp [hj,Bool.or_comm]
  · by_cases hj2:j=7
    · subst hj2; simp; intro _; decide
    · have:Nat.testBit b j=false:=Nat.testBit_lt_two_pow (Nat.lt_of_lt_of_le h (show 2 ^ 8≤2 ^ j from Nat.pow_le_pow_right (by decide) (by omega)))
      simp [hj,this]
 rw [h1,c2s (by omega)]
theorem c8F {c i:Nat} (hi:i≤9) (h:c*128 ^ i < 2 ^ 64):i7 .shl (.int .u64 (c:Int)) (.int .i64 ((7*i:Nat):Int))=some (.int .u64 ((c*128 ^ i:Nat):Int)):=by
 simp only [i7]
 rw [if_neg (by omega),Int.toNat_natCast,show IntKind.u64.bits=64 from rfl,Nat.min_eq_left (by omega)]
 have e:(c:Int)*2 ^ (7*i)=((c*128 ^ i:Nat):Int):=by
  rw [show (128:Nat)=2 ^ 7 from rfl,← Nat.pow_mul,Int.natCast_mul,Int.natCast_pow]; rfl
 rw [e,a4R h]
theorem d05 (n:Nat):i7 .shr (.int .u64 (n:Int)) (.int .u64 7)=some (.int .u64 ((n / 128:Nat):Int)):=by
 have e:(2:Int) ^ (min (7:Int).toNat IntKind.u64.bits)=128:=by decide
 simp only [i7]
 rw [e,Int.fdiv_eq_ediv_of_nonneg _ (by omega),if_neg (by decide)]
 congr 1
theorem c5D (n:Nat):i7 .shr (.int .u64 (n:Int)) (.int .u64 1)=some (.int .u64 ((n / 2:Nat):Int)):=by
 have e:(2:Int) ^ (min (1:Int).toNat IntKind.u64.bits)=2:=by decide
 simp only [i7]
 rw [e,Int.fdiv_eq_ediv_of_nonneg _ (by omega),if_neg (by decide)]
 congr 1
/-- a number without a sign as one with -/
def a02 (n:Nat):Int:=if n % 2=0 then ((n / 2:Nat):Int) else -((n / 2:Nat):Int) - 1
theorem b3M (n:Nat):zig (a02 n)=n:=by unfold zig a02; split <;> split <;> omega
theorem a3Q {n:Nat} (h:n < 2 ^ 64):-2 ^ 63≤a02 n∧a02 n < 2 ^ 63:=by unfold a02; split <;> omega
theorem c9V {n:Nat}:l4 .i64 (0 - ((n % 2:Nat):Int))=-((n % 2:Nat):Int):=by
 rw [O1 (by omega) (by omega)]; omega
theorem c4S {n:Int} (h1:-2 ^ 63≤n) (h2:n < 2 ^ 63):IntKind.i64.wrap n=n:=by
 rw [← D7]; exact O1 h1 h2
theorem d0S {n:Nat} (h:n < 2 ^ 64):i7 .xor (.int .i64 ((n / 2:Nat):Int)) (.int .i64 (-((n % 2:Nat):Int)))=some (.int .i64 (a02 n)):=by
 show some (AV.int .i64 (IntKind.i64.wrap ((BitVec.ofInt 64 ((n / 2:Nat):Int) ^^^ BitVec.ofInt 64 (-((n % 2:Nat):Int))).toNat:Int)))=_
 unfold a02
 have hz:n % 2=0∨n % 2=1:=by omega
 rcases hz with hz|hz
 · rw [if_pos hz,hz,show -((0:Nat):Int)=((0:Nat):Int) from rfl,ofI,ofI,BitVec.xor_zero,BitVec.toNat_ofNat,Nat.mod_eq_of_lt (by omega),c4S (by omega) (by omega)]
 · rw [if_neg (by omega),hz,show BitVec.ofInt 64 (-((1:Nat):Int))=BitVec.allOnes 64 from by decide,BitVec.xor_allOnes,ofI,BitVec.toNat_not,BitVec.toNat_ofNat,Nat.mod_eq_of_lt (show n / 2 < 2 ^ 64 by omega)]
   congr 2
   have e:(((2 ^ 64 - 1 - n / 2:Nat)):Int)=2 ^ 64+(-((n / 2:Nat):Int) - 1):=by omega
   rw [e]
   simp [IntKind.wrap,IntKind.signed,IntKind.bits]
   omega
theorem c8k {n:Int} (h1:-2 ^ 63≤n) (h2:n < 2 ^ 63):∃ x,i7 .shl (.int .i64 n) (.int .u64 1)=some (.int .i64 x)∧l4 .u64 x=if 0≤n then 2*n else 2 ^ 64+2*n:=by
 refine ⟨_,by simp only [i7]; rfl,?_⟩
 have e:(2:Int) ^ (min (1:Int).toNat IntKind.i64.bits)=2:=by decide
 rw [e,D7]
 simp only [IntKind.wrap,IntKind.signed,IntKind.bits,Bool.false_and,Bool.false_eq_true,if_false,Bool.true_and,decide_eq_true_eq]
 split <;> split <;> omega
theorem c9t {n:Int} (h1:-2 ^ 63≤n) (h2:n < 2 ^ 63):i7 .shr (.int .i64 n) (.int .u64 63)=some (.int .i64 (if 0≤n then 0 else -1)):=by
 have e:(2:Int) ^ (min (63:Int).toNat IntKind.i64.bits)=9223372036854775808:=by decide
 simp only [i7]
 rw [e,if_neg (by decide),Int.fdiv_eq_ediv_of_nonneg _ (by decide)]
 congr 2
 split <;> omega
theorem c62 {n:Int} (h1:-2 ^ 63≤n) (h2:n < 2 ^ 63):i7 .xor (.int .u64 (if 0≤n then 2*n else 2 ^ 64+2*n)) (.int .u64 (l4 .u64 (if 0≤n then 0 else -1)))=some (.int .u64 ((zig n:Nat):Int)):=by
 unfold zig
 by_cases h:0≤n
 · rw [if_pos h,if_pos h,if_pos h]
   obtain ⟨k,rfl⟩:∃ k:Nat,n=k:=⟨n.toNat,by omega⟩
   show some (AV.int .u64 (IntKind.u64.wrap ((BitVec.ofInt 64 (2*(k:Int)) ^^^ BitVec.ofInt 64 ((0:Nat):Int)).toNat:Int)))=_
   rw [show 2*(k:Int)=((2*k:Nat):Int) by omega,ofI,ofI,BitVec.xor_zero,BitVec.toNat_ofNat,Nat.mod_eq_of_lt (by omega),a4R (by omega),Int.toNat_natCast]
 · rw [if_neg h,if_neg h,if_neg h]
   obtain ⟨k,rfl⟩:∃ k:Nat,n=-(k:Int) - 1:=⟨(-n - 1).toNat,by omega⟩
   show some (AV.int .u64 (IntKind.u64.wrap ((BitVec.ofInt 64 (2 ^ 64+2*(-(k:Int) - 1)) ^^^ BitVec.ofInt 64 (l4 .u64 (-1))).toNat:Int)))=_
   rw [show BitVec.ofInt 64 (l4 .u64 (-1))=BitVec.allOnes 64 by decide,BitVec.xor_allOnes,show (2 ^ 64+2*(-(k:Int) - 1):Int)=((2 ^ 64 - 2*k - 2:Nat):Int) by omega,ofI,BitVec.toNat_not,BitVec.toNat_ofNat,Nat.mod_eq_of_lt (show 2 ^ 64 - 2*k - 2 < 2 ^ 64 by omega),a4R (by omega)]
   congr 2
   omega
end Go.Cb.CodeA
set_option maxRecDepth 20000
set_option linter.unusedSimpArgs false
set_option linter.unusedVariables false
namespace Go.Cb.CodeA
open Go Go.Cb
open Nat renaming reduceAdd→rA,reduceSub→rS,reduceLeDiff→rL,reduceEqDiff→rE
attribute [local congr] p6 s8 t8 u9 r8 r9 B2 B3 V.runR_congr
/-- bytes as rows -/
def a4k (b:Nat):List AV:=[.int .u8 b]
def m0 (q:List Nat):List (List AV):=q.map a4k
theorem G8 (q:List Nat):(m0 q).length=q.length:=List.length_map _
theorem a0K (q:List Nat):g8 1 (m0 q)=true:=a0p fun r hr=>by
 obtain ⟨x,_,rfl⟩:=List.mem_map.1 hr
 rfl
theorem b7B {q:List Nat} {i:Nat} (h:i < q.length):(m0 q)[i]?=some [.int .u8 (q[i]:Int)]:=by
 unfold m0; rw [List.getElem?_map,List.getElem?_eq_getElem h]; rfl
theorem a4U (q:List Nat) (i:Nat):(m0 q).drop i=m0 (q.drop i):=by unfold m0; rw [List.map_drop]
theorem a4M (q:List Nat) (i:Nat):(m0 q).take i=m0 (q.take i):=by unfold m0; rw [List.map_take]
/-- all but one object stay -/
def Fr (o:Nat) (T T':St):Prop:=∀ (j:Nat) (x:Cb.Obj),j≠o→T[j]?=some x→T'[j]?=some x
theorem Fr.refl (o:Nat) (T:St):Fr o T T:=fun _ _ _ h=>h
theorem Fr.trans {o:Nat} {A B C:St} (h:Fr o A B) (h':Fr o B C):Fr o A C:=fun j x hj hx=>h' j x hj (h j x hj hx)
theorem Fr.set (o:Nat) (T:St) (x:Cb.Obj):Fr o T (T.set o x):=fun j y hj hy=>by
 rw [List.getElem?_set_ne (fun e=>hj e.symm)]; exact hy
theorem Gr.fr {T T':St} (h:Gr T T') (o:Nat):Fr o T T':=fun j x _ hx=>h j x hx
def By (q:List Nat):Prop:=(∀ b∈q,b < 256)∧q.length≤2 ^ 40
theorem By.tail {a b:List Nat} (h:By (a++b)):By b:=⟨fun x hx=>h.1 x (List.mem_append_right _ hx),by have:=h.2; rw [List.length_append] at this; omega⟩
theorem By.head {a b:List Nat} (h:By (a++b)):By a:=⟨fun x hx=>h.1 x (List.mem_append_left _ hx),by have:=h.2; rw [List.length_append] at this; omega⟩
def rdO (q:List Nat) (bad:Bool):Cb.Obj:=.cells [.list false (m0 q),.bool bad]
/-- a reader: what is left, or that there was a fault -/
def Rd (T:St) (o:Nat):Option (List Nat)→Prop
 | some q=>T[o]?=some (rdO q false)∧By q
 | none=>∃ q,T[o]?=some (rdO q true)∧By q
theorem Rd.cell {T:St} {o:Nat} {s:Option (List Nat)} (h:Rd T o s):∃ q,T[o]?=some (rdO q s.isNone)∧By q:=by
 cases s with
 | none=>exact h
 | some q=>exact ⟨q,h⟩
theorem Rd.set {T:St} {o:Nat} {s:Option (List Nat)} (h:Rd T o s) {q:List Nat} (hq:By q):Rd (T.set o (rdO q false)) o (some q):=by
 obtain ⟨q',h',_⟩:=h.cell
 exact ⟨M8 h',hq⟩
theorem Rd.setB {T:St} {o:Nat} {s:Option (List Nat)} (h:Rd T o s) {q:List Nat} (hq:By q):Rd (T.set o (rdO q true)) o none:=by
 obtain ⟨q',h',_⟩:=h.cell
 exact ⟨q,M8 h',hq⟩
theorem Rd.gr {T T':St} {o:Nat} {s:Option (List Nat)} (h:Rd T o s) (hg:Gr T T'):Rd T' o s:=by
 cases s with
 | none=>obtain ⟨q,h1,h2⟩:=h; exact ⟨q,hg _ _ h1,h2⟩
 | some q=>exact ⟨hg _ _ h.1,h.2⟩
theorem Rd.fr {T T':St} {o p:Nat} {s:Option (List Nat)} (h:Rd T o s) (hg:Fr p T T') (hn:o≠p):Rd T' o s:=by
 cases s with
 | none=>obtain ⟨q,h1,h2⟩:=h; exact ⟨q,hg _ _ hn h1,h2⟩
 | some q=>exact ⟨hg _ _ hn h.1,h.2⟩
/-- what was taken -/
def Took (s:Option (List Nat)) (w:List Nat) (s':Option (List Nat)):Prop:=∀ q',s'=some q'→s=some (w++q')
theorem Took.none {s:Option (List Nat)} {w:List Nat}:Took s w Option.none:=fun _ h=>by cases h
theorem Took.nil {s:Option (List Nat)}:Took s [] s:=fun q h=>h
theorem Took.trans {a b c:Option (List Nat)} {u v:List Nat} (h:Took a u b) (h':Took b v c):Took a (u++v) c:=fun q hq=>by
 rw [List.append_assoc]; exact h _ (h' q hq)
theorem Took.not {a b:Option (List Nat)} {u:List Nat} (h:Took a u b) (ha:a=Option.none):b=Option.none:=by
 cases b with
 | none=>rfl
 | some q=>have:=h q rfl; rw [ha] at this; cases this
theorem eqD (a b:Int):eqI a b=decide (a=b):=by rw [eqI_eq]; rfl
/-- the next number -/
theorem L1 {T:St} {o:Nat} {s:Option (List Nat)} (h:Rd T o s) (most:Nat) :
 EvQ tbl 16 [.ptr o 0,.int .u64 (most:Int)] T (fun r T'=>∃ (n:Nat) (s':Option (List Nat)),r=.int .u64 (n:Int)∧n < 2 ^ 64∧n≤most∧(s'=none→n=0)∧Took s (wrU n) s'∧Rd T' o s'∧Fr o T T'):=by
 cases s with
 | none =>
  obtain ⟨q,hq,hb⟩:=id h
  unfold rdO at hq
  refine EvQ.body (fn:=a16) rfl rfl rfl ?_
  simp +contextual -implicitDefEqProofs only [K16,SS,rA,rS,rL,rE,reduceCtorEq,hq]
  exact WC.ret ⟨_,_,rfl,0,none,rfl,by decide,Nat.zero_le _,fun _=>rfl,Took.none,h,Fr.refl _ _⟩
 | some q =>
  obtain ⟨hq,hb⟩:=id h
  unfold rdO at hq
  have hql:q.length < 2 ^ 63:=by have:=hb.2; omega
  refine EvQ.body (fn:=a16) rfl rfl rfl ?_
  simp +contextual -implicitDefEqProofs only [K16,SS,rA,rS,rL,rE,reduceCtorEq,hq,G8]
  refine WC.loopR (fun mm fr T'=>T'=T∧∃ (i:Nat) (x4 x5:AV),i≤q.length∧i≤9∧mm=q.length - i∧(∀ b∈q.take i,128≤b)∧fr=[.ptr o 0,.int .u64 (most:Int),.int .u64 0,.int .u64 ((E1 (q.take i):Nat):Int),x4,x5,.list false (m0 q),.int .i64 (q.length:Int),.int .i64 (i:Int)]) (m:=q.length) ⟨rfl,0,_,_,Nat.zero_le _,by decide,rfl,by simp,rfl⟩ ?_
  rintro mm fr T' ⟨rfl,i,x4,x5,hi,hi9,rfl,h128,rfl⟩
  simp +contextual -implicitDefEqProofs only [K16,SS,rA,rS,rL,rE,reduceCtorEq,ltN]
  by_cases hil:i < q.length
  · have hbt:=hb.1 _ (List.getElem_mem hil)
    have hat:=b7B hil
    have htk:q.take (i+1)=q.take i++[q[i]]:=by rw [List.take_add_one,List.getElem?_eq_getElem hil]; rfl
    have hqs:q=q.take i++(q[i]::q.drop (i+1)):=by rw [← List.drop_eq_getElem_cons hil,List.take_append_drop]
    revert hbt hat htk hqs
    generalize q[i]=b
    intro hbt hat htk hqs
    have hli:(q.take i).length=i:=by rw [List.length_take]; omega
    have ha:=b0f (q.take i)
    rw [hli] at ha
    have e1:=c32 hbt
    have e2:l4 .u64 ((b % 128:Nat):Int)=((b % 128:Nat):Int):=Z0 (by omega)
    have e3:l4 .i64 (7*(i:Int))=((7*i:Nat):Int):=by rw [show 7*(i:Int)=((7*i:Nat):Int) by omega]; exact b2E (by omega)
    simp +contextual -implicitDefEqProofs only [K16,SS,rA,rS,rL,rE,reduceCtorEq,hil,hat]
    have hcd:(eqI (i:Int) 9 && ltI 1 (b:Int) || ltI 0 (i:Int) && eqI (b:Int) 0)=decide ((i=9∧1 < b)∨(0 < i∧b=0)):=by
     rw [eqD,eqD,ltI_eq,ltI_eq,← Bool.decide_and,← Bool.decide_and,← Bool.decide_or]
     exact decide_eq_decide.2 (by omega)
    by_cases hcc:(i=9∧1 < b)∨(0 < i∧b=0)
    · have hc:=hcd.trans (decide_eq_true hcc)
      simp +contextual -implicitDefEqProofs only [K16,SS,rA,rS,rL,rE,reduceCtorEq,hc]
      refine WC.leave ?_
      simp +contextual -implicitDefEqProofs only [K16,SS,rA,rS,rL,rE,reduceCtorEq,hq]
      refine WC.ret ⟨_,_,rfl,0,none,rfl,by decide,Nat.zero_le _,fun _=>rfl,Took.none,?_,Fr.set _ _ _⟩
      exact h.setB hb
    · have hc':=hcd.trans (decide_eq_false hcc)
      have hb9:i=9→b≤1:=fun e=>by omega
      have hb0:0 < i→b≠0:=fun e=>by omega
      have hpw:E1 (q.take i)+b % 128*128 ^ i < 2 ^ 64:=by
       have h9:i≤8∨i=9:=by omega
       rcases h9 with h9|rfl
       · have:b % 128*128 ^ i+128 ^ i≤128 ^ 9:=by
          rw [← Nat.succ_mul]
          calc (b % 128+1)*128 ^ i≤128*128 ^ 8:=Nat.mul_le_mul (by omega) (Nat.pow_le_pow_right (by decide) h9)
           _=128 ^ 9:=by decide
         have h2:(128:Nat) ^ 9 < 2 ^ 64:=by decide
         omega
       · have h1:=hb9 rfl
         have h2:(128:Nat) ^ 9=9223372036854775808:=by decide
         rw [h2] at ha ⊢
         omega
      have e4:=c8F (c:=b % 128) hi9 (by omega)
      have e5:=c4c ha hpw
      have hv:E1 (q.take (i+1))=E1 (q.take i)+b % 128*128 ^ i:=by rw [htk,a6r,hli]
      have hlt:ltI (b:Int) 128=decide (b < 128):=by rw [ltI_eq]; exact decide_eq_decide.2 (by omega)
      rw [← hv] at e5 hpw
      simp +contextual -implicitDefEqProofs only [K16,SS,rA,rS,rL,rE,reduceCtorEq,hc',e1,e2,e3,e4,e5,hlt]
      by_cases hbl:b < 128
      · have hlm:ltI (most:Int) ((E1 (q.take (i+1)):Nat):Int)=decide (most < E1 (q.take (i+1))):=by rw [ltI_eq]; exact decide_eq_decide.2 (by omega)
        simp +contextual -implicitDefEqProofs only [K16,SS,rA,rS,rL,rE,reduceCtorEq,hbl,decide_true,hlm]
        by_cases hm:most < E1 (q.take (i+1))
        · simp +contextual -implicitDefEqProofs only [K16,SS,rA,rS,rL,rE,reduceCtorEq,hm,decide_true]
          refine WC.leave ?_
          simp +contextual -implicitDefEqProofs only [K16,SS,rA,rS,rL,rE,reduceCtorEq,hq]
          refine WC.ret ⟨_,_,rfl,0,none,rfl,by decide,Nat.zero_le _,fun _=>rfl,Took.none,?_,Fr.set _ _ _⟩
          exact h.setB hb
        · have hw:wrU (E1 (q.take (i+1)))=q.take (i+1):=by
           rw [htk]
           refine b3G hbl (fun x hx=>⟨h128 x hx,hb.1 x (List.mem_of_mem_take hx)⟩) fun hne=>hb0 ?_
           rcases Nat.eq_zero_or_pos i with h0|h0
           · subst h0; exact absurd rfl hne
           · exact h0
          have hbd:By (q.drop (i+1)):=By.tail (a:=q.take (i+1)) (by rw [List.take_append_drop]; exact hb)
          have hle:(i+1≤q.length)=True:=by simp; omega
          simp +contextual -implicitDefEqProofs only [K16,SS,rA,rS,rL,rE,reduceCtorEq,hm,decide_false,hq,a0K,G8,K9 (show i+1 < 2 ^ 63 by omega),hle,if_true,Option.map_some,a4M,a4U,List.take_length]
          refine WC.leaveR ?_
          simp +contextual -implicitDefEqProofs only [K16,SS,rA,rS,rL,rE,reduceCtorEq]
          refine WC.ret ⟨_,_,rfl,E1 (q.take (i+1)),some (q.drop (i+1)),rfl,hpw,by omega,fun e=>by (cases e),fun q' hq'=>?_,?_,Fr.set _ _ _⟩
          · cases hq'
            rw [hw,List.take_append_drop]
          · exact h.set hbd
      · have hi8:i≤8:=by
         rcases Nat.lt_or_ge i 9 with h1|h1
         · omega
         · have:=hb9 (by omega); omega
        simp +contextual -implicitDefEqProofs only [K16,SS,rA,rS,rL,rE,reduceCtorEq,hbl,decide_false,K9 (show i+1 < 2 ^ 63 by omega)]
        refine WC.next (m':=q.length - (i+1)) (by omega) ⟨rfl,i+1,_,_,hil,by omega,rfl,fun x hx=>?_,rfl⟩
        rw [htk] at hx
        rcases List.mem_append.1 hx with hx|hx
        · exact h128 x hx
        · rw [List.mem_singleton.1 hx]; omega
  · simp +contextual -implicitDefEqProofs only [K16,SS,rA,rS,rL,rE,reduceCtorEq,hil]
    refine WC.leave ?_
    simp +contextual -implicitDefEqProofs only [K16,SS,rA,rS,rL,rE,reduceCtorEq,hq]
    refine WC.ret ⟨_,_,rfl,0,none,rfl,by decide,Nat.zero_le _,fun _=>rfl,Took.none,?_,Fr.set _ _ _⟩
    exact h.setB hb
end Go.Cb.CodeA
set_option maxRecDepth 20000
set_option linter.unusedSimpArgs false
set_option linter.unusedVariables false
namespace Go.Cb.CodeA
open Go Go.Cb
open Nat renaming reduceAdd→rA,reduceSub→rS,reduceLeDiff→rL,reduceEqDiff→rE
attribute [local congr] p6 s8 t8 u9 r8 r9 B2 B3 V.runR_congr
theorem a3e:∀ {q:List Nat},(∀ b∈q,b < 256)→z8 (m0 q)=some q
 | [],_=>rfl
 | b::q,hq=>by
  have h:=a3e fun x hx=>hq x (List.mem_cons_of_mem b hx)
  have hb:=hq b (List.mem_cons_self ..)
  unfold m0 at h ⊢
  rw [List.map_cons]
  simp only [a4k,z8,h]
  rw [if_pos (by omega)]
  rfl
/-- a fault -/
theorem a2Z {T:St} {o:Nat} {s:Option (List Nat)} (h:Rd T o s):EvQ tbl 56 [.ptr o 0] T (fun r T'=>Rd T' o none∧Fr o T T'):=by
 obtain ⟨q,hq,hb⟩:=h.cell
 unfold rdO at hq
 refine EvQ.body (fn:=a56) rfl rfl rfl ?_
 simp +contextual -implicitDefEqProofs only [K56,SS,rA,rS,rL,rE,reduceCtorEq,hq]
 exact WC.ret ⟨_,_,rfl,h.setB hb,Fr.set _ _ _⟩
theorem a3C {T:St} {o:Nat} {s:Option (List Nat)} (h:Rd T o s):EvQ tbl 17 [.ptr o 0] T (fun r T'=>T'=T∧r=.bool s.isNone):=by
 obtain ⟨q,hq,hb⟩:=h.cell
 unfold rdO at hq
 refine EvQ.body (fn:=a17) rfl rfl rfl ?_
 simp +contextual -implicitDefEqProofs only [K17,SS,rA,rS,rL,rE,reduceCtorEq,hq]
 exact WC.ret ⟨_,_,rfl,rfl,rfl⟩
/-- at its end, without a fault? -/
theorem c6b {T:St} {o:Nat} {s:Option (List Nat)} (h:Rd T o s):EvQ tbl 26 [.ptr o 0] T (fun r T'=>T'=T∧∃ b,r=.bool b∧(b=true→s=some [])):=by
 obtain ⟨q,hq,hb⟩:=h.cell
 cases s with
 | none =>
  unfold rdO at hq
  refine EvQ.body (fn:=a26) rfl rfl rfl ?_
  simp +contextual -implicitDefEqProofs only [K26,SS,rA,rS,rL,rE,reduceCtorEq,hq,Option.isNone_none,Bool.not_true]
  exact WC.ret ⟨_,_,rfl,rfl,false,rfl,fun e=>by (cases e)⟩
 | some q1 =>
  obtain ⟨hq1,hb1⟩:=h
  unfold rdO at hq1
  refine EvQ.body (fn:=a26) rfl rfl rfl ?_
  simp +contextual -implicitDefEqProofs only [K26,SS,rA,rS,rL,rE,reduceCtorEq,hq1,Bool.not_false,G8]
  refine WC.ret ⟨_,_,rfl,rfl,_,rfl,fun e=>?_⟩
  rw [eqD,decide_eq_true_eq] at e
  rw [List.eq_nil_of_length_eq_zero (show q1.length=0 by omega)]
/-- the next number with a sign -/
theorem b1x {T:St} {o:Nat} {s:Option (List Nat)} (h:Rd T o s) :
 EvQ tbl 22 [.ptr o 0] T (fun r T'=>∃ (n:Int) (s':Option (List Nat)),r=.int .i64 n∧-2 ^ 63≤n∧n < 2 ^ 63∧Took s (wrI n) s'∧Rd T' o s'∧Fr o T T'):=by
 have hu:=L1 h 18446744073709551615
 refine EvQ.body (fn:=a22) rfl rfl rfl ?_
 simp +contextual -implicitDefEqProofs only [K22,SS,rA,rS,rL,rE,reduceCtorEq]
 refine WC.call hu rfl rfl ?_
 rintro _ T1 ⟨n,s',rfl,hn,-,-,ht,hr,hf⟩
 have e1:=c5D n
 have e2:l4 .i64 ((n / 2:Nat):Int)=((n / 2:Nat):Int):=b2E (by omega)
 have e3:=d0Z hn
 have e4:l4 .i64 ((n % 2:Nat):Int)=((n % 2:Nat):Int):=b2E (by omega)
 have e5:=c9V (n:=n)
 have e6:=d0S hn
 simp +contextual -implicitDefEqProofs only [K22,SS,rA,rS,rL,rE,reduceCtorEq,e1,e2,e3,e4,e5,e6]
 refine WC.ret ⟨_,_,rfl,a02 n,s',rfl,(a3Q hn).1,(a3Q hn).2,?_,hr,hf⟩
 unfold wrI
 rw [b3M]
 exact ht
/-- the next text -/
theorem a1v {T:St} {o:Nat} {s:Option (List Nat)} (h:Rd T o s) {most:Nat} (hm:most < 2 ^ 60) :
 EvQ tbl 21 [.ptr o 0,.int .i64 (most:Int)] T (fun r T'=>∃ (t:List Nat) (s':Option (List Nat)),r=.str t∧t.length≤most∧Took s (wrT t) s'∧Rd T' o s'∧Fr o T T'):=by
 have hu:=L1 h most
 have e0:a5w (most:Int) 0=(most:Int):=by unfold a5w; rw [ltI_eq,if_neg]; simp
 have e1:l4 .u64 (most:Int)=(most:Int):=Z0 (by omega)
 refine EvQ.body (fn:=a21) rfl rfl rfl ?_
 simp +contextual -implicitDefEqProofs only [K21,SS,rA,rS,rL,rE,reduceCtorEq,e0,if_true,e1]
 refine WC.call hu rfl rfl ?_
 rintro _ T1 ⟨n,s',rfl,hn,hnm,hz,ht,hr,hf⟩
 cases s' with
 | none =>
  obtain ⟨q,hq,hb⟩:=id hr
  unfold rdO at hq
  simp +contextual -implicitDefEqProofs only [K21,SS,rA,rS,rL,rE,reduceCtorEq,hq]
  refine WC.call (a2Z hr) rfl rfl ?_
  rintro _ T2 ⟨h2,hf2⟩
  simp +contextual -implicitDefEqProofs only [K21,SS,rA,rS,rL,rE,reduceCtorEq]
  exact WC.ret ⟨_,_,rfl,[],none,rfl,Nat.zero_le _,Took.none,h2,hf.trans hf2⟩
 | some q =>
  obtain ⟨hq,hb⟩:=id hr
  unfold rdO at hq
  have hql:q.length < 2 ^ 60:=by have:=hb.2; omega
  have e2:l4 .u64 ((q.length:Nat):Int)=((q.length:Nat):Int):=Z0 (by omega)
  have e3:ltI (q.length:Int) (n:Int)=decide (q.length < n):=by rw [ltI_eq]; exact decide_eq_decide.2 (by omega)
  simp +contextual -implicitDefEqProofs only [K21,SS,rA,rS,rL,rE,reduceCtorEq,hq,G8,e2,e3]
  by_cases hl:q.length < n
  · simp +contextual -implicitDefEqProofs only [K21,SS,rA,rS,rL,rE,reduceCtorEq,hl,decide_true]
    refine WC.call (a2Z hr) rfl rfl ?_
    rintro _ T2 ⟨h2,hf2⟩
    simp +contextual -implicitDefEqProofs only [K21,SS,rA,rS,rL,rE,reduceCtorEq]
    exact WC.ret ⟨_,_,rfl,[],none,rfl,Nat.zero_le _,Took.none,h2,hf.trans hf2⟩
  · have e4:(n≤q.length)=True:=by simp; omega
    have hsp:=List.take_append_drop n q
    have hbo:=a3e (q:=q.take n) fun b hx=>hb.1 b (List.mem_of_mem_take hx)
    simp +contextual -implicitDefEqProofs only [K21,SS,rA,rS,rL,rE,reduceCtorEq,hl,decide_false,hq,a0K,G8,e4,if_true,Option.map_some,a4M,a4U,List.take_length,List.drop_zero,hbo]
    refine WC.ret ⟨_,_,rfl,q.take n,some (q.drop n),rfl,by rw [List.length_take]; omega,fun q' e=>?_,hr.set (By.tail (a:=q.take n) (by rw [hsp]; exact hb)),hf.trans (Fr.set _ _ _)⟩
    cases e
    have h5:=ht q rfl
    rw [h5,wrT,List.length_take,Nat.min_eq_left (by omega),List.append_assoc,hsp]
end Go.Cb.CodeA
set_option maxRecDepth 20000
set_option linter.unusedSimpArgs false
set_option linter.unusedVariables false
namespace Go.Cb.CodeA
open Go Go.Cb
open Nat renaming reduceAdd→rA,reduceSub→rS,reduceLeDiff→rL,reduceEqDiff→rE
attribute [local congr] p6 s8 t8 u9 r8 r9 B2 B3 V.runR_congr
/-- a value that was read: its numbers in range, its texts and lists not long -/
inductive Val.Fine:Val→Prop
 | mk (k n:Int) (s:List Nat) (ks:List (List Nat)) (ls:List Val) (hk:0≤k∧k≤8) (hn:-2 ^ 63≤n∧n < 2 ^ 63) (hs:s.length≤200) (h6:k=6→ks.length=ls.length) (hks:ks.length≤200) (hls:ls.length≤200) (hkl:∀ x∈ks,x.length≤32) (h:∀ v∈ls,Val.Fine v):Val.Fine (.mk k n s ks ls)
theorem u8N {n:Nat} (h:n≤8):l4 .u8 (n:Int)=(n:Int):=c7q (by omega)
theorem eqK (k:Nat) (j:Nat):eqI (k:Int) (j:Int)=decide (k=j):=by rw [eqD]; exact decide_eq_decide.2 (by omega)
theorem b6M {k:Nat} (n:Int) (s:List Nat) (ks:List (List Nat)) (ls:List Val) (h:k=1∨k=3):(Val.mk (k:Int) n s ks ls).wr=wrU k++wrI n:=by rcases h with rfl|rfl <;> simp [Val.wr]
theorem c2c {k:Nat} (n:Int) (s:List Nat) (ks:List (List Nat)) (ls:List Val) (h:k=2∨k=4∨k=7∨k=8):(Val.mk (k:Int) n s ks ls).wr=wrU k++wrT s:=by rcases h with rfl|rfl|rfl|rfl <;> simp [Val.wr]
theorem c1z {k:Nat} (n:Int) (s:List Nat) (ks:List (List Nat)) (ls:List Val) (h:k=5):(Val.mk (k:Int) n s ks ls).wr=wrU k++(wrU ls.length++D9 ls):=by subst h; simp [Val.wr]
theorem c2a {k:Nat} (n:Int) (s:List Nat) (ks:List (List Nat)) (ls:List Val) (h:k=6):(Val.mk (k:Int) n s ks ls).wr=wrU k++(wrU ls.length++C4 ks ls):=by subst h; simp [Val.wr]
theorem c2x {k:Nat} (n:Int) (s:List Nat) (ks:List (List Nat)) (ls:List Val) (h:k=0):(Val.mk (k:Int) n s ks ls).wr=wrU k:=by subst h; simp [Val.wr]
def a7U (T:St) (o:Nat) (s:Option (List Nat)) (r:AV) (T':St):Prop:=∃ (v:Val) (s':Option (List Nat)),r=.agg v.row∧v.Fine∧Took s v.wr s'∧Rd T' o s'∧Fr o T T'
theorem a5l {d:Nat} (hd:d≤24) (ih:d < 24→∀ {T:St} {o:Nat} {s:Option (List Nat)},Rd T o s→EvQ tbl 98 [.ptr o 0,.int .i64 ((d+1:Nat):Int)] T (a7U T o s)) {T:St} {o:Nat} {s:Option (List Nat)} (h:Rd T o s) :
 EvQ tbl 98 [.ptr o 0,.int .i64 (d:Int)] T (a7U T o s):=by
 have hu:=L1 h 8
 have e24:ltI (d:Int) 24=decide (d < 24):=by rw [ltI_eq]; exact decide_eq_decide.2 (by omega)
 refine EvQ.body (fn:=a98) rfl rfl rfl ?_
 simp +contextual -implicitDefEqProofs only [a5E,SS,rA,rS,rL,rE,reduceCtorEq]
 refine WC.call hu rfl rfl ?_
 rintro _ T1 ⟨k,s1,rfl,-,hk8,hz,ht,hr,hf1⟩
 have hk1:=u8N hk8
 suffices tail:∀ {T2:St} {s2:Option (List Nat)},Rd T2 o s2→Fr o T T2→Took s (wrU k) s2→(s2≠none→d < 24)→WC (fun n=>b9 (l3 tbl n) n a98s65 [.ptr o 0,.int .i64 (d:Int),.box [.int .u8 0,.int .i64 0,.str [],.list true [],.list true []],.box [.int .u8 (k:Int),.int .i64 0,.str [],.list true [],.list true []],.undef,.undef,.undef,.undef] T2)
  (fun o'=>∃ r st',Go.Cb.finK a98.results (some o')=some (r,st')∧a7U T o s r st') by
  simp +contextual -implicitDefEqProofs only [a5E,SS,rA,rS,rL,rE,reduceCtorEq,hk1,e24]
  by_cases hd24:d < 24
  · simp +contextual -implicitDefEqProofs only [a5E,SS,rA,rS,rL,rE,reduceCtorEq,hd24,decide_true,Bool.not_true]
    exact tail hr hf1 ht fun _=>hd24
  · simp +contextual -implicitDefEqProofs only [a5E,SS,rA,rS,rL,rE,reduceCtorEq,hd24,decide_false,Bool.not_false]
    refine WC.call (a2Z hr) rfl rfl ?_
    rintro _ T2 ⟨h2,hf2⟩
    simp +contextual -implicitDefEqProofs only [a5E,SS,rA,rS,rL,rE,reduceCtorEq]
    exact tail h2 (hf1.trans hf2) Took.none fun e=>absurd rfl e
 clear hr hf1 ht hu hz
 intro T2 s2 hr hf ht hlt
 have k1:eqI (k:Int) 1=decide (k=1):=eqK k 1
 have k3:eqI (k:Int) 3=decide (k=3):=eqK k 3
 have k2:eqI (k:Int) 2=decide (k=2):=eqK k 2
 have k4:eqI (k:Int) 4=decide (k=4):=eqK k 4
 have k7:eqI (k:Int) 7=decide (k=7):=eqK k 7
 have k8:eqI (k:Int) 8=decide (k=8):=eqK k 8
 have k5:eqI (k:Int) 5=decide (k=5):=eqK k 5
 have k6:eqI (k:Int) 6=decide (k=6):=eqK k 6
 have fine0:∀ (n:Int) (s:List Nat),k≠6→(-2 ^ 63≤n∧n < 2 ^ 63)→s.length≤200→(Val.mk (k:Int) n s [] []).Fine:=fun n s h6 hn hs=>.mk _ _ _ _ _ (by omega) hn hs (fun e=>by omega) (by simp) (by simp) (by simp) (by simp)
 by_cases c1:k=1
 · have f1:eqI (k:Int) 1=true:=k1.trans (decide_eq_true c1)
   simp +contextual -implicitDefEqProofs only [K98,SS,rA,rS,rL,rE,reduceCtorEq,f1]
   refine WC.call (b1x hr) rfl rfl ?_
   rintro _ T3 ⟨n,s3,rfl,hn1,hn2,ht3,hr3,hf3⟩
   simp +contextual -implicitDefEqProofs only [K98,SS,rA,rS,rL,rE,reduceCtorEq]
   exact WC.ret ⟨_,_,rfl,_,s3,by rw [Val.row_eq]; rfl,fine0 n [] (by omega) ⟨hn1,hn2⟩ (by simp),by rw [b6M _ _ _ _ (.inl c1)]; exact ht.trans ht3,hr3,hf.trans hf3⟩
 have f1:eqI (k:Int) 1=false:=k1.trans (decide_eq_false c1)
 by_cases c3:k=3
 · have f3:eqI (k:Int) 3=true:=k3.trans (decide_eq_true c3)
   simp +contextual -implicitDefEqProofs only [K98,SS,rA,rS,rL,rE,reduceCtorEq,f1,f3]
   refine WC.call (b1x hr) rfl rfl ?_
   rintro _ T3 ⟨n,s3,rfl,hn1,hn2,ht3,hr3,hf3⟩
   simp +contextual -implicitDefEqProofs only [K98,SS,rA,rS,rL,rE,reduceCtorEq]
   refine WC.br (fun hh=>?_) (fun hh=>?_)
   · simp +contextual -implicitDefEqProofs only [K98,SS,rA,rS,rL,rE,reduceCtorEq]
     refine WC.call (a2Z hr3) rfl rfl ?_
     rintro _ T4 ⟨h4,hf4⟩
     simp +contextual -implicitDefEqProofs only [K98,SS,rA,rS,rL,rE,reduceCtorEq]
     exact WC.ret ⟨_,_,rfl,_,none,by rw [Val.row_eq]; rfl,fine0 n [] (by omega) ⟨hn1,hn2⟩ (by simp),Took.none,h4,(hf.trans hf3).trans hf4⟩
   · simp +contextual -implicitDefEqProofs only [K98,SS,rA,rS,rL,rE,reduceCtorEq]
     exact WC.ret ⟨_,_,rfl,_,s3,by rw [Val.row_eq]; rfl,fine0 n [] (by omega) ⟨hn1,hn2⟩ (by simp),by rw [b6M _ _ _ _ (.inr c3)]; exact ht.trans ht3,hr3,hf.trans hf3⟩
 have f3:eqI (k:Int) 3=false:=k3.trans (decide_eq_false c3)
 by_cases cT:k=2∨k=4∨k=7∨k=8
 · have hwr:=fun n s ks ls=>c2c (k:=k) n s ks ls cT
   rcases cT with rfl|rfl|rfl|rfl
   all_goals
    simp +contextual -implicitDefEqProofs only [K98,SS,rA,rS,rL,rE,reduceCtorEq,f1,f3,k2,k4,k7,k8,decide_true,decide_false]
    refine WC.call (a1v hr (most:=200) (by decide)) rfl rfl ?_
    rintro _ T3 ⟨t,s3,rfl,hl,ht3,hr3,hf3⟩
    simp +contextual -implicitDefEqProofs only [K98,SS,rA,rS,rL,rE,reduceCtorEq]
    exact WC.ret ⟨_,_,rfl,_,s3,by rw [Val.row_eq]; rfl,fine0 0 t (by omega) (by omega) hl,by rw [hwr]; exact ht.trans ht3,hr3,hf.trans hf3⟩
 have f2:eqI (k:Int) 2=false:=k2.trans (decide_eq_false (by omega))
 have f4:eqI (k:Int) 4=false:=k4.trans (decide_eq_false (by omega))
 have f7:eqI (k:Int) 7=false:=k7.trans (decide_eq_false (by omega))
 have f8:eqI (k:Int) 8=false:=k8.trans (decide_eq_false (by omega))
 have hsub:∀ {n:Nat},0 < n→n≤200→l4 .u64 (W4 (n:Int) 1)=((n - 1:Nat):Int):=fun {n} h0 h1=>by
  rw [subI_eq,show (n:Int) - 1=((n - 1:Nat):Int) by omega]; exact Z0 (by omega)
 have hltr:∀ n:Nat,ltI 0 (n:Int)=decide (0 < n):=fun n=>by rw [ltI_eq]; exact decide_eq_decide.2 (by omega)
 by_cases c5:k=5
 · have f5:eqI (k:Int) 5=true:=k5.trans (decide_eq_true c5)
   have f6:eqI (k:Int) 6=false:=k6.trans (decide_eq_false (by omega))
   simp +contextual -implicitDefEqProofs only [K98,SS,rA,rS,rL,rE,reduceCtorEq,f1,f2,f3,f4,f5,f7,f8]
   refine WC.call (L1 hr 200) rfl rfl ?_
   rintro _ T3 ⟨m,s3,rfl,-,hm,hz3,ht3,hr3,hf3⟩
   simp +contextual -implicitDefEqProofs only [K98,SS,rA,rS,rL,rE,reduceCtorEq]
   refine WC.loopR (fun mm fr T'=>∃ (rem:Nat) (ls:List Val) (s':Option (List Nat)),mm=rem∧rem+ls.length=m∧(∀ v∈ls,v.Fine)∧Took s2 (wrU m++D9 ls) s'∧Rd T' o s'∧Fr o T T'∧fr=[.ptr o 0,.int .i64 (d:Int),.box [.int .u8 0,.int .i64 0,.str [],.list true [],.list true []],.box [.int .u8 (k:Int),.int .i64 0,.str [],.list true [],.list true (ls.map Val.row)],.int .u64 (rem:Int),.int .u8 (k:Int),.bool false,.bool true]) (m:=m)
    ⟨m,[],s3,rfl,rfl,by simp,by rw [show D9 []=[] by simp [D9],List.append_nil]; exact ht3,hr3,hf.trans hf3,rfl⟩ ?_
   rintro rem fr T4 ⟨_,ls,s4,rfl,hlen,hfine,ht4,hr4,hf4,rfl⟩
   have hfv:(Val.mk (k:Int) 0 [] [] ls).Fine:=.mk _ _ _ _ _ (by omega) (by decide) (by simp) (fun e=>by omega) (by simp) (by omega) (by simp) hfine
   simp +contextual -implicitDefEqProofs only [K98,SS,rA,rS,rL,rE,reduceCtorEq,hltr]
   by_cases h0:0 < rem
   · simp +contextual -implicitDefEqProofs only [K98,SS,rA,rS,rL,rE,reduceCtorEq,h0,decide_true]
     refine WC.call (a3C hr4) rfl rfl ?_
     rintro _ _ ⟨h7,rfl⟩
     subst h7
     cases s4 with
     | none =>
      simp +contextual -implicitDefEqProofs only [K98,SS,rA,rS,rL,rE,reduceCtorEq,Option.isNone_none,Bool.not_true]
      refine WC.leave ?_
      simp +contextual -implicitDefEqProofs only [K98,SS,rA,rS,rL,rE,reduceCtorEq]
      exact WC.ret ⟨_,_,rfl,_,none,by rw [Val.row_eq]; rfl,hfv,Took.none,hr4,hf4⟩
     | some q =>
      have hd24:=hlt (by rw [ht4 q rfl]; simp)
      simp +contextual -implicitDefEqProofs only [K98,SS,rA,rS,rL,rE,reduceCtorEq,Option.isNone_some,Bool.not_false,f6,K9 (show d+1 < 2 ^ 63 by omega)]
      refine WC.call (ih hd24 hr4) rfl rfl ?_
      rintro _ T5 ⟨v,s5,rfl,hv,ht5,hr5,hf5⟩
      obtain ⟨k',n',s',xs,ys,er⟩:=v.row_cells
      have hro:=b0z ls
      have hsz:decide ((ls.length+1)*80≤2 ^ 47)=true:=decide_eq_true (by omega)
      rw [er]
      simp +contextual -implicitDefEqProofs only [K98,SS,rA,rS,rL,rE,reduceCtorEq,hro,List.length_map,hsz,hsub h0 (by omega)]
      refine WC.next (m':=rem - 1) (by omega) ⟨rem - 1,ls++[v],s5,rfl,by rw [List.length_append,List.length_cons,List.length_nil]; omega,fun u hu=>?_,by rw [a2R,← List.append_assoc]; exact ht4.trans ht5,hr5,hf4.trans hf5,by rw [List.map_append,List.map_cons,er]; rfl⟩
      rcases List.mem_append.1 hu with hu|hu
      · exact hfine u hu
      · rw [List.mem_singleton.1 hu]; exact hv
   · simp +contextual -implicitDefEqProofs only [K98,SS,rA,rS,rL,rE,reduceCtorEq,h0,decide_false]
     refine WC.leave ?_
     simp +contextual -implicitDefEqProofs only [K98,SS,rA,rS,rL,rE,reduceCtorEq]
     refine WC.ret ⟨_,_,rfl,_,s4,by rw [Val.row_eq]; rfl,hfv,?_,hr4,hf4⟩
     rw [c1z _ _ _ _ c5,show ls.length=m by omega]
     exact ht.trans ht4
 have f5:eqI (k:Int) 5=false:=k5.trans (decide_eq_false c5)
 by_cases c6:k=6
 · have f6:eqI (k:Int) 6=true:=k6.trans (decide_eq_true c6)
   simp +contextual -implicitDefEqProofs only [K98,SS,rA,rS,rL,rE,reduceCtorEq,f1,f2,f3,f4,f5,f6,f7,f8]
   refine WC.call (L1 hr 200) rfl rfl ?_
   rintro _ T3 ⟨m,s3,rfl,-,hm,hz3,ht3,hr3,hf3⟩
   simp +contextual -implicitDefEqProofs only [K98,SS,rA,rS,rL,rE,reduceCtorEq]
   refine WC.loopR (fun mm fr T'=>∃ (rem:Nat) (ks:List (List Nat)) (ls:List Val) (s':Option (List Nat)),mm=rem∧rem+ls.length=m∧ks.length=ls.length∧(∀ x∈ks,x.length≤32)∧(∀ v∈ls,v.Fine)∧Took s2 (wrU m++C4 ks ls) s'∧Rd T' o s'∧Fr o T T'∧fr=[.ptr o 0,.int .i64 (d:Int),.box [.int .u8 0,.int .i64 0,.str [],.list true [],.list true []],.box [.int .u8 (k:Int),.int .i64 0,.str [],.list true (ks.map v7),.list true (ls.map Val.row)],.int .u64 (rem:Int),.int .u8 (k:Int),.bool false,.bool true]) (m:=m)
    ⟨m,[],[],s3,rfl,rfl,rfl,by simp,by simp,by rw [show C4 [] []=[] by simp [C4],List.append_nil]; exact ht3,hr3,hf.trans hf3,rfl⟩ ?_
   rintro rem fr T4 ⟨_,ks,ls,s4,rfl,hlen,hkl,hk32,hfine,ht4,hr4,hf4,rfl⟩
   have hfv:(Val.mk (k:Int) 0 [] ks ls).Fine:=.mk _ _ _ _ _ (by omega) (by decide) (by simp) (fun e=>hkl) (by omega) (by omega) hk32 hfine
   simp +contextual -implicitDefEqProofs only [K98,SS,rA,rS,rL,rE,reduceCtorEq,hltr]
   by_cases h0:0 < rem
   · simp +contextual -implicitDefEqProofs only [K98,SS,rA,rS,rL,rE,reduceCtorEq,h0,decide_true]
     refine WC.call (a3C hr4) rfl rfl ?_
     rintro _ _ ⟨h7,rfl⟩
     subst h7
     cases s4 with
     | none =>
      simp +contextual -implicitDefEqProofs only [K98,SS,rA,rS,rL,rE,reduceCtorEq,Option.isNone_none,Bool.not_true]
      refine WC.leave ?_
      simp +contextual -implicitDefEqProofs only [K98,SS,rA,rS,rL,rE,reduceCtorEq]
      exact WC.ret ⟨_,_,rfl,_,none,by rw [Val.row_eq]; rfl,hfv,Took.none,hr4,hf4⟩
     | some q =>
      have hd24:=hlt (by rw [ht4 q rfl]; simp)
      have hrs:=c0U ks
      have hsz1:decide ((ks.length+1)*16≤2 ^ 47)=true:=decide_eq_true (by omega)
      simp +contextual -implicitDefEqProofs only [K98,SS,rA,rS,rL,rE,reduceCtorEq,Option.isNone_some,Bool.not_false,f6]
      refine WC.call (a1v hr4 (most:=32) (by decide)) rfl rfl ?_
      rintro _ T5 ⟨t,s5,rfl,htl,ht5,hr5,hf5⟩
      simp +contextual -implicitDefEqProofs only [K98,SS,rA,rS,rL,rE,reduceCtorEq,hrs,List.length_map,hsz1,K9 (show d+1 < 2 ^ 63 by omega)]
      refine WC.call (ih hd24 hr5) rfl rfl ?_
      rintro _ T6 ⟨v,s6,rfl,hv,ht6,hr6,hf6⟩
      obtain ⟨k',n',s',xs,ys,er⟩:=v.row_cells
      have hro:=b0z ls
      have hsz:decide ((ls.length+1)*80≤2 ^ 47)=true:=decide_eq_true (by omega)
      rw [er]
      simp +contextual -implicitDefEqProofs only [K98,SS,rA,rS,rL,rE,reduceCtorEq,hro,List.length_map,hsz,hsub h0 (by omega)]
      refine WC.next (m':=rem - 1) (by omega) ⟨rem - 1,ks++[t],ls++[v],s6,rfl,by rw [List.length_append,List.length_cons,List.length_nil]; omega,by rw [List.length_append,List.length_append,hkl]; rfl,fun u hu=>?_,fun u hu=>?_,by rw [a2Y _ _ _ _ hkl,← List.append_assoc]; exact ht4.trans (ht5.trans ht6),hr6,(hf4.trans hf5).trans hf6,by rw [List.map_append,List.map_append,List.map_cons,List.map_nil,List.map_cons,List.map_nil,er]; rfl⟩
      · rcases List.mem_append.1 hu with hu|hu
        · exact hk32 u hu
        · rw [List.mem_singleton.1 hu]; exact htl
      · rcases List.mem_append.1 hu with hu|hu
        · exact hfine u hu
        · rw [List.mem_singleton.1 hu]; exact hv
   · simp +contextual -implicitDefEqProofs only [K98,SS,rA,rS,rL,rE,reduceCtorEq,h0,decide_false]
     refine WC.leave ?_
     simp +contextual -implicitDefEqProofs only [K98,SS,rA,rS,rL,rE,reduceCtorEq]
     refine WC.ret ⟨_,_,rfl,_,s4,by rw [Val.row_eq]; rfl,hfv,?_,hr4,hf4⟩
     rw [c2a _ _ _ _ c6,show ls.length=m by omega]
     exact ht.trans ht4
 have f6:eqI (k:Int) 6=false:=k6.trans (decide_eq_false c6)
 simp +contextual -implicitDefEqProofs only [K98,SS,rA,rS,rL,rE,reduceCtorEq,f1,f2,f3,f4,f5,f6,f7,f8]
 exact WC.ret ⟨_,_,rfl,_,s2,by rw [Val.row_eq]; rfl,fine0 0 [] c6 (by decide) (by simp),by rw [c2x _ _ _ _ (by omega)]; exact ht,hr,hf⟩
theorem b0u:∀ (f d:Nat),d+f=24→∀ {T:St} {o:Nat} {s:Option (List Nat)},Rd T o s→EvQ tbl 98 [.ptr o 0,.int .i64 (d:Int)] T (a7U T o s)
 | 0,d,hd,_,_,_,h=>a5l (by omega) (fun hlt=>absurd hlt (by omega)) h
 | f+1,d,hd,_,_,_,h=>a5l (by omega) (fun _ _ _ _ h'=>b0u f (d+1) (by omega) h') h
/-- (*Reader).Value -/
theorem b6l {T:St} {o:Nat} {s:Option (List Nat)} (h:Rd T o s):EvQ tbl 53 [.ptr o 0] T (a7U T o s):=by
 refine EvQ.body (fn:=a53) rfl rfl rfl ?_
 simp +contextual -implicitDefEqProofs only [K53,SS,rA,rS,rL,rE,reduceCtorEq]
 refine WC.call (b0u 24 0 rfl h) rfl rfl ?_
 rintro _ T1 ⟨v,s1,rfl,hv,ht,hr,hf⟩
 obtain ⟨k',n',s',xs,ys,er⟩:=v.row_cells
 rw [er]
 simp +contextual -implicitDefEqProofs only [K53,SS,rA,rS,rL,rE,reduceCtorEq]
 refine WC.call (a3C hr) rfl rfl ?_
 rintro _ _ ⟨h7,rfl⟩
 subst h7
 cases s1 with
 | none =>
  simp +contextual -implicitDefEqProofs only [K53,SS,rA,rS,rL,rE,reduceCtorEq,Option.isNone_none]
  exact WC.ret ⟨_,_,rfl,Val.none,none,by rw [Val.none_row]; rfl,.mk _ _ _ _ _ (by decide) (by decide) (by simp) (by simp) (by simp) (by simp) (by simp) (by simp),Took.none,hr,hf⟩
 | some q =>
  simp +contextual -implicitDefEqProofs only [K53,SS,rA,rS,rL,rE,reduceCtorEq,Option.isNone_some]
  exact WC.ret ⟨_,_,rfl,v,some q,by rw [er]; rfl,hv,ht,hr,hf⟩
end Go.Cb.CodeA
set_option maxRecDepth 20000
set_option linter.unusedSimpArgs false
set_option linter.unusedVariables false
namespace Go.Cb.CodeA
open Go Go.Cb
open Nat renaming reduceAdd→rA,reduceSub→rS,reduceLeDiff→rL,reduceEqDiff→rE
attribute [local congr] p6 s8 t8 u9 r8 r9 B2 B3 V.runR_congr
theorem c6p (a:List Nat) (T:St):EvQ tbl 148 [.str a] T (fun r T'=>T'=T∧r=.bool false):=by
 refine EvQ.body (fn:=a148) rfl rfl rfl ?_
 simp +contextual -implicitDefEqProofs only [c7A,SS,rA,rS,rL,rE,reduceCtorEq,a0P,Bool.not_true]
 exact WC.ret ⟨_,_,rfl,rfl,rfl⟩
theorem c3H (a b:List Nat) (T:St):EvQ tbl 99 [.str a,.str b] T (fun r T'=>T'=T∧∃ c,r=.bool c):=by
 refine EvQ.body (fn:=a99) rfl rfl rfl ?_
 simp +contextual -implicitDefEqProofs only [K99,SS,rA,rS,rL,rE,reduceCtorEq]
 refine WC.call (c6p a T) rfl rfl ?_
 rintro _ _ ⟨h7,rfl⟩
 subst h7
 simp +contextual -implicitDefEqProofs only [K99,SS,rA,rS,rL,rE,reduceCtorEq]
 exact WC.ret ⟨_,_,rfl,rfl,_,rfl⟩
theorem b7C (ks:List (List Nat)) (hl:ks.length≤200) (T:St):EvQ tbl 54 [.list false (ks.map v7)] T (fun r T'=>T'=T∧∃ c,r=.bool c):=by
 have e1:l4 .i64 (W4 (ks.length:Int) 1)=(ks.length:Int) - 1:=by rw [subI_eq]; exact O1 (by omega) (by omega)
 refine EvQ.body (fn:=a54) rfl rfl rfl ?_
 simp +contextual -implicitDefEqProofs only [K54,SS,rA,rS,rL,rE,reduceCtorEq,List.length_map,e1]
 refine WC.loopR (fun mm fr T'=>T'=T∧∃ i:Int,-1≤i∧i < ks.length∧mm=(i+1).toNat∧fr=[.list false (ks.map v7),.bool false,.int .i64 i]) (m:=((ks.length:Int) - 1+1).toNat) ⟨rfl,_,by omega,by omega,rfl,rfl⟩ ?_
 rintro mm fr T' ⟨rfl,i,h0,h1,rfl,rfl⟩
 have e2:ltI 0 i=decide (0 < i):=by rw [ltI_eq]
 simp +contextual -implicitDefEqProofs only [K54,SS,rA,rS,rL,rE,reduceCtorEq,e2]
 by_cases hi:0 < i
 · obtain ⟨j,rfl⟩:∃ j:Nat,i=((j+1:Nat):Int):=⟨(i - 1).toNat,by omega⟩
   have e3:l4 .i64 (W4 ((j+1:Nat):Int) 1)=(j:Int):=by rw [subI_eq,O1 (by omega) (by omega)]; omega
   have a1:=a8F (ks:=ks) (i:=j+1) (by omega)
   have a0:=a8F (ks:=ks) (i:=j) (by omega)
   simp +contextual -implicitDefEqProofs only [K54,SS,rA,rS,rL,rE,reduceCtorEq,hi,decide_true,e3,a1,a0]
   refine WC.call (c3H _ _ T') rfl rfl ?_
   rintro _ _ ⟨h7,c,rfl⟩
   subst h7
   cases c with
   | true =>
    simp +contextual -implicitDefEqProofs only [K54,SS,rA,rS,rL,rE,reduceCtorEq]
    refine WC.leaveR ?_
    simp +contextual -implicitDefEqProofs only [K54,SS,rA,rS,rL,rE,reduceCtorEq]
    exact WC.ret ⟨_,_,rfl,rfl,_,rfl⟩
   | false =>
    simp +contextual -implicitDefEqProofs only [K54,SS,rA,rS,rL,rE,reduceCtorEq,e3]
    exact WC.next (m':=j+1) (by omega) ⟨rfl,(j:Int),by omega,by omega,by omega,rfl⟩
 · simp +contextual -implicitDefEqProofs only [K54,SS,rA,rS,rL,rE,reduceCtorEq,hi,decide_false]
   refine WC.leave ?_
   simp +contextual -implicitDefEqProofs only [K54,SS,rA,rS,rL,rE,reduceCtorEq]
   exact WC.ret ⟨_,_,rfl,rfl,_,rfl⟩
theorem a7G:∀ ks:List (List Nat),(ks.map v7).flatten.map AV.weak1=ks.map AV.str
 | []=>rfl
 | k::ks=>by
  have h:=a7G ks
  rw [List.map_cons,List.flatten_cons,List.map_append,h]
  rfl
theorem b7g (ks:List (List Nat)) (hl:ks.length≤200) (T:St):EvQ tbl 1036 [.list false (ks.map v7)] T (fun r T'=>(ks=[]∧r=.list true []∧T'=T)∨(ks≠[]∧r=.sl T.length 0 ks.length 1∧T'=T++[.cells (ks.map AV.str)])):=by
 cases ks with
 | nil=>exact EvQ.of_ext (fn:=a1036) (e:=O6 1 16) (r:=(.list true [],T)) rfl rfl rfl (.inl ⟨rfl,rfl,rfl⟩)
 | cons k ks =>
  refine EvQ.of_ext (fn:=a1036) (e:=O6 1 16) (r:=(.sl T.length 0 (k::ks).length 1,T++[.cells ((k::ks).map AV.str)])) rfl rfl ?_ (.inr ⟨by simp,rfl,rfl⟩)
  have h1:=c5p (k::ks)
  have h2:=a7G (k::ks)
  rw [List.map_cons] at h1 h2 ⊢
  unfold O6
  dsimp only
  rw [if_pos ⟨h1,by rw [List.length_cons,List.length_map]; rw [List.length_cons] at hl; omega⟩,h2,List.length_cons,List.length_map]
  rfl
/-- cells that are texts -/
def Strs (cs:List AV):Prop:=∀ c∈cs,∃ s,c=.str s
theorem Strs.at {cs:List AV} (h:Strs cs) {i:Nat} (hi:i < cs.length):∃ s,d9 false 1 (cs.drop i)=some (.str s):=by
 obtain ⟨s,hs⟩:=h _ (List.getElem_mem hi)
 refine ⟨s,?_⟩
 rw [List.drop_eq_getElem_cons hi,hs]
 rfl
theorem Strs.set {cs:List AV} (h:Strs cs) (i:Nat) (s:List Nat):Strs (j9 cs i [.str s]):=by
 intro c hc
 unfold j9 at hc
 rcases List.mem_append.1 hc with hc|hc
 · rcases List.mem_append.1 hc with hc|hc
   · exact h c (List.mem_of_mem_take hc)
   · rw [List.mem_singleton.1 hc]; exact ⟨s,rfl⟩
 · exact h c (List.mem_of_mem_drop hc)
theorem b27 {k n:Nat} (h:k < n):slB true false [.int .i64 (k:Int)] n=some (k,n):=by
 have e:q7 true false [.int .i64 (k:Int)] n=some (k,n):=by
  simp [q7,G5]; omega
 unfold slB
 rw [e]
 dsimp only
 rw [if_pos (.inr h)]
theorem c3d {k n:Nat} (h:k≤n):slB false true [.int .i64 (k:Int)] n=some (0,k):=by
 have e:q7 false true [.int .i64 (k:Int)] n=some (0,k):=by
  simp [q7,G5]; omega
 unfold slB
 rw [e]
 dsimp only
 rw [if_pos (.inl rfl)]
theorem b5c {T:St} {o n:Nat} {cs:List AV} (ho:T[o]?=some (.cells cs)) (hs:Strs cs) (hn:cs.length=n) (hl:n≤200):EvQ tbl 55 [.sl o 0 n 1] T (fun r T'=>∃ m,r=.sl o 0 m 1∧Fr o T T'):=by
 refine EvQ.body (fn:=a55) rfl rfl rfl ?_
 have e1:ltI (n:Int) 2=decide (n < 2):=by rw [ltI_eq]; exact decide_eq_decide.2 (by omega)
 simp +contextual -implicitDefEqProofs only [K55,SS,rA,rS,rL,rE,reduceCtorEq,e1]
 by_cases h2:n < 2
 · simp +contextual -implicitDefEqProofs only [K55,SS,rA,rS,rL,rE,reduceCtorEq,h2,decide_true]
   exact WC.ret ⟨_,_,rfl,_,rfl,Fr.refl _ _⟩
 simp +contextual -implicitDefEqProofs only [K55,SS,rA,rS,rL,rE,reduceCtorEq,h2,decide_false]
 refine WC.loopR (fun mm fr T'=>T'=T∧∃ k:Nat,1≤k∧k≤n∧mm=n - k∧fr=[.sl o 0 n 1,.list true [],.int .i64 (k:Int),.undef,.undef]) (m:=n - 1) ⟨rfl,1,by omega,by omega,rfl,rfl⟩ ?_
 rintro mm fr T' ⟨rfl,k,hk1,hkn,rfl,rfl⟩
 simp +contextual -implicitDefEqProofs only [K55,SS,rA,rS,rL,rE,reduceCtorEq,ltN]
 by_cases hk:k < n
 · obtain ⟨j,rfl⟩:∃ j,k=j+1:=⟨k - 1,by omega⟩
   have e3:l4 .i64 (W4 ((j+1:Nat):Int) 1)=(j:Int):=by rw [subI_eq,O1 (by omega) (by omega)]; omega
   obtain ⟨s1,a1⟩:=hs.at (i:=j+1) (by omega)
   obtain ⟨s0,a0⟩:=hs.at (i:=j) (by omega)
   have i1:(((j+1:Nat):Int) < (n:Int))=True:=by simp; omega
   have i0:((j:Int) < (n:Int))=True:=by simp; omega
   simp +contextual -implicitDefEqProofs only [K55,SS,rA,rS,rL,rE,reduceCtorEq,hk,e3,ho,Nat.mul_one,a1,a0,i1,i0,if_true]
   refine WC.br (fun hh=>?_) (fun hh=>?_)
   · simp +contextual -implicitDefEqProofs only [K55,SS,rA,rS,rL,rE,reduceCtorEq,b27 hk,Option.map_some,Nat.mul_one]
     refine WC.loopR (fun mm fr T2=>∃ (k k2:Nat) (cs2:List AV),1≤k∧k+1≤j+1+k2∧1≤k2∧k2≤n - (j+1)∧mm=n - (j+1) - k2∧cs2.length=n∧Strs cs2∧T2[o]?=some (.cells cs2)∧Fr o T' T2∧fr=[.sl o 0 n 1,.list true [],.int .i64 (k:Int),.sl o (j+1) (n - (j+1)) 1,.int .i64 (k2:Int)]) (m:=n - (j+1) - 1) ⟨j+1,1,cs,by omega,by omega,by omega,by omega,rfl,hn,hs,ho,Fr.refl _ _,rfl⟩ ?_
     rintro mm fr T2 ⟨k,k2,cs2,hk3,hk4,hk5,hk6,rfl,hn2,hs2,ho2,hf2,rfl⟩
     simp +contextual -implicitDefEqProofs only [K55,SS,rA,rS,rL,rE,reduceCtorEq,ltN]
     by_cases hkk:k2 < n - (j+1)
     · obtain ⟨q,rfl⟩:∃ q,k2=q+1:=⟨k2 - 1,by omega⟩
       have e4:l4 .i64 (W4 ((q+1:Nat):Int) 1)=(q:Int):=by rw [subI_eq,O1 (by omega) (by omega)]; omega
       obtain ⟨t1,b1⟩:=hs2.at (i:=j+1+(q+1)) (by omega)
       obtain ⟨t0,b0⟩:=hs2.at (i:=j+1+q) (by omega)
       have i1:(((q+1:Nat):Int) < ((n - (j+1):Nat):Int))=True:=by simp; omega
       have i0:((q:Int) < ((n - (j+1):Nat):Int))=True:=by simp; omega
       have i4:((k:Int) < (n:Int))=True:=by simp; omega
       simp +contextual -implicitDefEqProofs only [K55,SS,rA,rS,rL,rE,reduceCtorEq,hkk,e4,ho2,Nat.mul_one,b1,b0,i1,i0,if_true]
       refine WC.br (fun hh=>?_) (fun hh=>?_)
       · have i5:(k+1≤cs2.length)=True:=by simp; omega
         simp +contextual -implicitDefEqProofs only [K55,SS,rA,rS,rL,rE,reduceCtorEq,ho2,Nat.mul_one,b1,i1,i4,i5,if_true,K9 (show k+1 < 2 ^ 63 by omega),K9 (show q+1+1 < 2 ^ 63 by omega)]
         refine WC.next (m':=n - (j+1) - (q+1+1)) (by omega) ⟨k+1,q+1+1,_,by omega,by omega,by omega,by omega,rfl,?_,hs2.set k t1,M8 ho2,hf2.trans (Fr.set _ _ _),rfl⟩
         simp only [j9,List.length_append,List.length_take,List.length_drop,List.length_cons,List.length_nil]
         omega
       · simp +contextual -implicitDefEqProofs only [K55,SS,rA,rS,rL,rE,reduceCtorEq,K9 (show q+1+1 < 2 ^ 63 by omega)]
         exact WC.next (m':=n - (j+1) - (q+1+1)) (by omega) ⟨k,q+1+1,cs2,by omega,by omega,by omega,by omega,rfl,hn2,hs2,ho2,hf2,rfl⟩
     · have i6:(k+(n - k)≤cs2.length)=True:=by simp; omega
       simp +contextual -implicitDefEqProofs only [K55,SS,rA,rS,rL,rE,reduceCtorEq,hkk]
       refine WC.leave ?_
       simp +contextual -implicitDefEqProofs only [K55,SS,rA,rS,rL,rE,reduceCtorEq,b27 (show k < n by omega),c3d (show k≤n by omega),Option.map_some,Nat.mul_one,ho2,i6,and_true,if_true]
       refine WC.leaveR ?_
       simp +contextual -implicitDefEqProofs only [K55,SS,rA,rS,rL,rE,reduceCtorEq]
       exact WC.ret ⟨_,_,rfl,_,rfl,hf2.trans (Fr.set _ _ _)⟩
   · simp +contextual -implicitDefEqProofs only [K55,SS,rA,rS,rL,rE,reduceCtorEq,K9 (show j+1+1 < 2 ^ 63 by omega)]
     exact WC.next (m':=n - (j+1+1)) (by omega) ⟨rfl,j+1+1,by omega,by omega,rfl,rfl⟩
 · simp +contextual -implicitDefEqProofs only [K55,SS,rA,rS,rL,rE,reduceCtorEq,hk]
   refine WC.leave ?_
   simp +contextual -implicitDefEqProofs only [K55,SS,rA,rS,rL,rE,reduceCtorEq]
   exact WC.ret ⟨_,_,rfl,_,rfl,Fr.refl _ _⟩
end Go.Cb.CodeA
set_option maxRecDepth 20000
set_option linter.unusedSimpArgs false
set_option linter.unusedVariables false
namespace Go.Cb.CodeA
open Go Go.Cb
open Nat renaming reduceAdd→rA,reduceSub→rS,reduceLeDiff→rL,reduceEqDiff→rE
attribute [local congr] p6 s8 t8 u9 r8 r9 B2 B3 V.runR_congr
/-- an entity that was read -/
structure Ent.Fine (e:Ent):Prop where
 t:e.t.length≤32
 id:e.id.length≤200
 v:(Val.mk 6 0 [] e.ks e.ls).Fine
theorem a9K (T:St):EvQ tbl 55 [.list false []] T (fun r T'=>r=.list false []∧T'=T):=by
 refine EvQ.body (fn:=a55) rfl rfl rfl ?_
 simp +contextual -implicitDefEqProofs only [K55,SS,rA,rS,rL,rE,reduceCtorEq,show ltI ((0:Nat):Int) 2=true from rfl,List.length_nil]
 exact WC.ret ⟨_,_,rfl,rfl,rfl⟩
theorem Rd.lt {T:St} {o:Nat} {s:Option (List Nat)} (h:Rd T o s):o < T.length:=by
 obtain ⟨q,h1,_⟩:=h.cell
 exact (List.getElem?_eq_some_iff.1 h1).1
def c2H (T:St) (o:Nat) (s:Option (List Nat)) (r:AV) (T':St):Prop:=∃ (e:Ent) (s':Option (List Nat)),r=.agg e.row∧e.Fine∧Took s e.wr s'∧Rd T' o s'∧Fr o T T'
theorem wr6 (n m:Int) (s u:List Nat) (ks:List (List Nat)) (ls:List Val):(Val.mk 6 n s ks ls).wr=(Val.mk 6 m u ks ls).wr:=by simp [Val.wr]
theorem c6F {n:Int} {s:List Nat} {ks:List (List Nat)} {ls:List Val} (h:(Val.mk 6 n s ks ls).Fine):(Val.mk 6 0 [] ks ls).Fine:=by
 cases h with
 | mk _ _ _ _ _ a b c d e f g h=>exact .mk _ _ _ _ _ a (by decide) (by simp) d e f g h
def entZ:Ent:=⟨[],[],[],[]⟩
theorem b4g:entZ.Fine:=⟨by simp [entZ],by simp [entZ],.mk _ _ _ _ _ (by decide) (by decide) (by simp) (by simp [entZ]) (by simp [entZ]) (by simp [entZ]) (by simp [entZ]) (by simp [entZ])⟩
theorem b5Y {T:St} {o:Nat} {s:Option (List Nat)} (h:Rd T o s):EvQ tbl 18 [.ptr o 0] T (c2H T o s):=by
 refine EvQ.body (fn:=a18) rfl rfl rfl ?_
 simp +contextual -implicitDefEqProofs only [P3,SS,rA,rS,rL,rE,reduceCtorEq]
 refine WC.call (a1v h (most:=32) (by decide)) rfl rfl ?_
 rintro _ T1 ⟨t,s1,rfl,ht1,k1,hr1,hf1⟩
 simp +contextual -implicitDefEqProofs only [P3,SS,rA,rS,rL,rE,reduceCtorEq]
 refine WC.call (a1v hr1 (most:=200) (by decide)) rfl rfl ?_
 rintro _ T2 ⟨id,s2,rfl,ht2,k2,hr2,hf2⟩
 simp +contextual -implicitDefEqProofs only [P3,SS,rA,rS,rL,rE,reduceCtorEq]
 refine WC.call (b6l hr2) rfl rfl ?_
 rintro _ T3 ⟨⟨k,n,u,ks,ls⟩,s3,rfl,hv,k3,hr3,hf3⟩
 have hf:Fr o T T3:=(hf1.trans hf2).trans hf3
 rw [Val.row_eq]
 suffices tail:∀ {T4:St} {s4:Option (List Nat)},Rd T4 o s4→Fr o T T4→(s4≠none→s4=s3∧k=6)→WC (fun n'=>b9 (l3 tbl n') n' a18s21 [.ptr o 0,.box [.str [],.str [],.list true [],.list true []],.box [.str t,.str id,.list true [],.list true []],.box [.int .u8 k,.int .i64 n,.str u,.list false (ks.map v7),.list false (ls.map Val.row)]] T4)
  (fun o'=>∃ r st',Go.Cb.finK a18.results (some o')=some (r,st')∧c2H T o s r st') by
  have hbad:∀ {T4:St},Rd T4 o s3→Fr o T T4→EvQ tbl 56 [.ptr o 0] T4 (fun r T'=>Rd T' o none∧Fr o T T'):=fun h4 f4=>(a2Z h4).mono fun r T' ⟨a,b⟩=>⟨a,f4.trans b⟩
  simp +contextual -implicitDefEqProofs only [P3,SS,rA,rS,rL,rE,reduceCtorEq,eqD]
  by_cases h6:k=6
  · obtain ⟨hks,hkl⟩:ks.length≤200∧ks.length=ls.length:=by cases hv with|mk _ _ _ _ _ a b c d e f g h=>exact ⟨e,d h6⟩
    simp +contextual -implicitDefEqProofs only [P3,SS,rA,rS,rL,rE,reduceCtorEq,h6,decide_true,Bool.not_true]
    refine WC.call (b7C ks hks T3) rfl rfl ?_
    rintro _ _ ⟨h7,c,rfl⟩
    replace h7:=h7.symm
    subst h7
    cases c with
    | false =>
     simp +contextual -implicitDefEqProofs only [P3,SS,rA,rS,rL,rE,reduceCtorEq,Bool.not_false]
     refine WC.call (hbad hr3 hf) rfl rfl ?_
     rintro _ T5 ⟨h5,f5⟩
     rw [h6] at tail
     simp +contextual -implicitDefEqProofs only [P3,SS,rA,rS,rL,rE,reduceCtorEq]
     exact tail h5 f5 fun e=>absurd rfl e
    | true =>
     simp +contextual -implicitDefEqProofs only [P3,SS,rA,rS,rL,rE,reduceCtorEq,Bool.not_true]
     refine WC.call (b7g ks hks _) rfl rfl ?_
     rintro r5 T5 hr5
     rcases hr5 with ⟨rfl,rfl,h7⟩|⟨hne,rfl,rfl⟩
     · subst h7
       simp +contextual -implicitDefEqProofs only [P3,SS,rA,rS,rL,rE,reduceCtorEq]
       refine WC.call (a9K T5) rfl rfl ?_
       rintro _ _ ⟨rfl,h7⟩
       subst h7
       rw [h6] at tail
       simp +contextual -implicitDefEqProofs only [P3,SS,rA,rS,rL,rE,reduceCtorEq,List.map_nil,List.length_nil,show ltI ((0:Nat):Int) ((0:Nat):Int)=false from rfl]
       exact tail hr3 hf fun _=>⟨rfl,rfl⟩
     · simp +contextual -implicitDefEqProofs only [P3,SS,rA,rS,rL,rE,reduceCtorEq]
       have hstr:Strs (ks.map AV.str):=fun c hc=>by
        obtain ⟨x,_,rfl⟩:=List.mem_map.1 hc
        exact ⟨x,rfl⟩
       refine WC.call (b5c (M9 T3 _) hstr (List.length_map _) hks) rfl rfl ?_
       rintro _ T6 ⟨m,rfl,hf6⟩
       have hr6:Rd T6 o s3:=(hr3.gr (Gr.app T3 _)).fr hf6 (by have:=hr3.lt; omega)
       have hf7:Fr o T3 T6:=fun j x hj hx=>hf6 j x (by have:=(List.getElem?_eq_some_iff.1 hx).1; omega) (Gr.app T3 _ j x hx)
       rw [h6] at tail
       simp +contextual -implicitDefEqProofs only [P3,SS,rA,rS,rL,rE,reduceCtorEq,List.length_map]
       refine WC.br (fun hh=>?_) (fun hh=>?_)
       · simp +contextual -implicitDefEqProofs only [P3,SS,rA,rS,rL,rE,reduceCtorEq]
         refine WC.call (hbad hr6 (hf.trans hf7)) rfl rfl ?_
         rintro _ T8 ⟨h8,f8⟩
         simp +contextual -implicitDefEqProofs only [P3,SS,rA,rS,rL,rE,reduceCtorEq]
         exact tail h8 f8 fun e=>absurd rfl e
       · simp +contextual -implicitDefEqProofs only [P3,SS,rA,rS,rL,rE,reduceCtorEq]
         exact tail hr6 (hf.trans hf7) fun _=>⟨rfl,rfl⟩
  · simp +contextual -implicitDefEqProofs only [P3,SS,rA,rS,rL,rE,reduceCtorEq,h6,decide_false,Bool.not_false]
    refine WC.call (hbad hr3 hf) rfl rfl ?_
    rintro _ T5 ⟨h5,f5⟩
    simp +contextual -implicitDefEqProofs only [P3,SS,rA,rS,rL,rE,reduceCtorEq]
    exact tail h5 f5 fun e=>absurd rfl e
 intro T4 s4 hr4 hf4 h4
 simp +contextual -implicitDefEqProofs only [K18,SS,rA,rS,rL,rE,reduceCtorEq]
 refine WC.call (a3C hr4) rfl rfl ?_
 rintro _ _ ⟨h7,rfl⟩
 subst h7
 cases s4 with
 | none =>
  simp +contextual -implicitDefEqProofs only [K18,SS,rA,rS,rL,rE,reduceCtorEq,Option.isNone_none]
  exact WC.ret ⟨_,_,rfl,entZ,none,rfl,b4g,Took.none,hr4,hf4⟩
 | some q =>
  obtain ⟨e3,h6⟩:=h4 (by simp)
  simp +contextual -implicitDefEqProofs only [K18,SS,rA,rS,rL,rE,reduceCtorEq,Option.isNone_some]
  refine WC.ret ⟨_,_,rfl,⟨t,id,ks,ls⟩,some q,rfl,⟨ht1,ht2,?_⟩,?_,hr4,hf4⟩
  · subst h6; exact c6F hv
  · subst h6
    rw [e3]
    refine k1.trans (k2.trans ?_)
    rw [wr6 0 n [] u]
    exact k3
end Go.Cb.CodeA
set_option maxRecDepth 20000
set_option linter.unusedSimpArgs false
set_option linter.unusedVariables false
namespace Go.Cb.CodeA
open Go Go.Cb
open Nat renaming reduceAdd→rA,reduceSub→rS,reduceLeDiff→rL,reduceEqDiff→rE
attribute [local congr] p6 s8 t8 u9 r8 r9 B2 B3 V.runR_congr
/-- what has gone: its name, its type, in which version; what is known of a client -/
structure Gon where
 id:List Nat
 typ:List Nat
 ver:Nat
structure Cli where
 seq:Nat
 e:Int
 bad:Bool
def Gon.row (g:Gon):List AV:=[.str g.id,.str g.typ,.int .u64 (g.ver:Int)]
def Cli.row (c:Cli):List AV:=[.int .u64 (c.seq:Int),.int .i64 c.e,.bool c.bad]
def Cli.zero:Cli:=⟨0,0,false⟩
def Bof (cs:List Cli):List AV:=(cs++List.replicate (5 - cs.length) Cli.zero).flatMap Cli.row
/-- a vault's object -/
def cV (sp:AV) (ver floor:Nat) (v:AV) (mo:Nat) (g:AV) (cs:List Cli):List AV:=sp::.int .u64 (ver:Int)::.int .u64 (floor:Int)::v::.map mo::g::Bof cs
def SP (sp:AV):Prop:=∃ a b,sp=.ptr a b
def n8 (gs:List Gon):List AV:=gs.flatMap Gon.row
theorem b1y (gs:List Gon):(n8 gs).length=gs.length*3:=by
 induction gs with
 | nil=>rfl
 | cons e es ih=>rw [show n8 (e::es)=e.row++n8 es from rfl,List.length_append,ih,List.length_cons]; simp [Gon.row]; omega
theorem a8S (gs:List Gon):∀ i,(n8 gs).drop (i*3)=n8 (gs.drop i):=by
 induction gs with
 | nil=>intro i; simp [n8]
 | cons e es ih =>
  intro i
  cases i with
  | zero=>rw [Nat.zero_mul,List.drop_zero,List.drop_zero]
  | succ i =>
   rw [List.drop_succ_cons,← ih i,show (i+1)*3=3+i*3 by omega,← List.drop_drop]
   rfl
theorem a2X {gs:List Gon} {i:Nat} (h:i < gs.length):d9 true 3 ((n8 gs).drop (i*3))=some (.agg gs[i].row):=by
 rw [a8S,List.drop_eq_getElem_cons h]
 rfl
theorem b1W (a b:List Gon):n8 (a++b)=n8 a++n8 b:=by simp [n8]
/-- what has gone, as an object -/
def GonsAt (g:AV) (gs:List Gon) (T:St):Prop:=(g=.nils∧gs=[])∨∃ o,gs≠[]∧g=.sl o 0 gs.length 3∧T[o]?=some (.cells (n8 gs))
theorem GonsAt.wk {g:AV} {gs:List Gon} {T:St} (h:GonsAt g gs T):g.weak=g∧g.weak1=g∧g.strip=g∧g.stripB=g∧g.plain=true∧g.cells=[g]∧g.cellsW=[g]:=by
 rcases h with ⟨rfl,_⟩|⟨o,_,rfl,_⟩ <;> exact ⟨rfl,rfl,rfl,rfl,rfl,rfl,rfl⟩
theorem a6o {gs:List Gon} (h:gs≠[]) {c:AV} {cs:List AV} (hc:∀ s,c≠.str s):n8 gs≠c::cs:=fun e=>by
 cases gs with
 | nil=>exact h rfl
 | cons x es=>exact hc _ (List.cons.inj e).1.symm
theorem a9I {gs:List Gon} (h:gs≠[]) (es:List Ent):n8 gs≠i8 es:=fun e=>by
 cases gs with
 | nil=>exact h rfl
 | cons x xs =>
  cases es with
  | nil=>cases e
  | cons y ys =>
   have h1:=(List.cons.inj (List.cons.inj (List.cons.inj e).2).2).1
   cases h1
theorem GonsAt.fr {o:Nat} {T T':St} {g:AV} {gs:List Gon} (h:GonsAt g gs T) (hf:Fr o T T') (ho:∀ gs:List Gon,gs≠[]→T[o]?≠some (.cells (n8 gs))):GonsAt g gs T':=by
 rcases h with h|⟨j,h0,h1,h2⟩
 · exact .inl h
 · exact .inr ⟨j,h0,h1,hf j _ (fun e=>ho gs h0 (e ▸ h2)) h2⟩
theorem GonsAt.gr {T T':St} {g:AV} {gs:List Gon} (h:GonsAt g gs T) (hf:Gr T T'):GonsAt g gs T':=by
 rcases h with h|⟨j,h0,h1,h2⟩
 · exact .inl h
 · exact .inr ⟨j,h0,h1,hf j _ h2⟩
/-- where a vault is being read -/
structure LS (T0:St) (vo mo ro:Nat) (sp:AV) (T:St) (ver floor:Nat) (v:AV) (es:List Ent) (M:List (AV×AV)) (g:AV) (gs:List Gon) (cs:List Cli) (s:Option (List Nat)):Prop where
 ov:T[vo]?=some (.cells (cV sp ver floor v mo g cs))
 om:T[mo]?=some (.map M)
 ev:EntsAt v es T
 gv:GonsAt g gs T
 rd:Rd T ro s
 sp:SP sp
 old:Gr T0 T
 lo:T0.length≤vo∧T0.length≤mo∧T0.length≤ro
section
variable {T0:St} {vo mo ro:Nat} {sp:AV} {T:St} {ver floor:Nat} {v:AV} {es:List Ent} {M:List (AV×AV)} {g:AV} {gs:List Gon} {cs:List Cli} {s:Option (List Nat)}
theorem LS.ne_vr (h:LS T0 vo mo ro sp T ver floor v es M g gs cs s):vo≠ro:=fun e=>by
 obtain ⟨q,h1,_⟩:=h.rd.cell
 have h2:=h.ov
 rw [e,h1] at h2
 have h3:=congrArg List.length (Cb.Obj.cells.inj (Option.some.inj h2))
 simp [cV] at h3
theorem LS.ne_mr (h:LS T0 vo mo ro sp T ver floor v es M g gs cs s):mo≠ro:=fun e=>by
 obtain ⟨q,h1,_⟩:=h.rd.cell
 have h2:=h.om
 rw [e,h1] at h2
 cases h2
theorem LS.ne_vm (h:LS T0 vo mo ro sp T ver floor v es M g gs cs s):vo≠mo:=fun e=>by
 have h1:=h.ov
 rw [e,h.om] at h1
 cases h1
theorem a1l {es:List Ent} {c:AV} {cs:List AV} (hc:∀ s,c≠.str s):i8 es≠c::cs:=fun e=>by
 cases es with
 | nil=>cases e
 | cons x es=>exact hc _ (List.cons.inj e).1.symm
theorem EntsAt.fr {o:Nat} {T T':St} {v:AV} {es:List Ent} (h:EntsAt v es T) (hf:Fr o T T') (ho:∀ es:List Ent,T[o]?≠some (.cells (i8 es))):EntsAt v es T':=by
 rcases h with h|⟨j,h1,h2⟩
 · exact .inl h
 · exact .inr ⟨j,h1,hf j _ (fun e=>ho es (e ▸ h2)) h2⟩
theorem Rd.no_ents {T:St} {o:Nat} {s:Option (List Nat)} (h:Rd T o s) (es:List Ent):T[o]?≠some (.cells (i8 es)):=fun e=>by
 obtain ⟨q,h1,_⟩:=h.cell
 rw [h1] at e
 exact a1l (fun s h=>by cases h) (Cb.Obj.cells.inj (Option.some.inj e)).symm
theorem Rd.no_gons {T:St} {o:Nat} {s:Option (List Nat)} (h:Rd T o s) (gs:List Gon) (hg:gs≠[]):T[o]?≠some (.cells (n8 gs)):=fun e=>by
 obtain ⟨q,h1,_⟩:=h.cell
 rw [h1] at e
 exact a6o hg (fun s h=>by cases h) (Cb.Obj.cells.inj (Option.some.inj e)).symm
theorem LS.no_ents (h:LS T0 vo mo ro sp T ver floor v es M g gs cs s) (es':List Ent):T[vo]?≠some (.cells (i8 es')):=fun e=>by
 rw [h.ov] at e
 obtain ⟨a,b,hs⟩:=h.sp
 exact a1l (fun s h=>by rw [hs] at h; cases h) (Cb.Obj.cells.inj (Option.some.inj e)).symm
theorem LS.no_gons (h:LS T0 vo mo ro sp T ver floor v es M g gs cs s) (gs':List Gon) (hg:gs'≠[]):T[vo]?≠some (.cells (n8 gs')):=fun e=>by
 rw [h.ov] at e
 obtain ⟨a,b,hs⟩:=h.sp
 exact a6o hg (fun s h=>by rw [hs] at h; cases h) (Cb.Obj.cells.inj (Option.some.inj e)).symm
theorem a01 {T0 T T':St} {o:Nat} (h:Gr T0 T) (hf:Fr o T T') (ho:T0.length≤o):Gr T0 T':=fun j x hx=>hf j x (fun e=>by have:=(List.getElem?_eq_some_iff.1 hx).1; omega) (h j x hx)
/-- the reader goes on -/
theorem LS.rdr (h:LS T0 vo mo ro sp T ver floor v es M g gs cs s) {T':St} {s':Option (List Nat)} (hf:Fr ro T T') (hr:Rd T' ro s'):LS T0 vo mo ro sp T' ver floor v es M g gs cs s' :=
 ⟨hf _ _ h.ne_vr h.ov,hf _ _ h.ne_mr h.om,h.ev.fr hf h.rd.no_ents,h.gv.fr hf h.rd.no_gons,hr,h.sp,a01 h.old hf h.lo.2.2,h.lo⟩
theorem LS.gr (h:LS T0 vo mo ro sp T ver floor v es M g gs cs s) {T':St} (hg:Gr T T'):LS T0 vo mo ro sp T' ver floor v es M g gs cs s :=
 ⟨hg _ _ h.ov,hg _ _ h.om,h.ev.gr hg,h.gv.gr hg,h.rd.gr hg,h.sp,fun j x hx=>hg _ _ (h.old j x hx),h.lo⟩
/-- the vault's object is other -/
theorem LS.setv (h:LS T0 vo mo ro sp T ver floor v es M g gs cs s) {ver' floor':Nat} {v':AV} {es':List Ent} {cs':List Cli} (hv:EntsAt v' es' T) :
 LS T0 vo mo ro sp (T.set vo (.cells (cV sp ver' floor' v' mo g cs'))) ver' floor' v' es' M g gs cs' s :=
 ⟨M8 h.ov,Fr.set vo T _ _ _ h.ne_vm.symm h.om,hv.fr (Fr.set vo T _) h.no_ents,h.gv.fr (Fr.set vo T _) h.no_gons,h.rd.fr (Fr.set vo T _) h.ne_vr.symm,h.sp,a01 h.old (Fr.set vo T _) h.lo.1,h.lo⟩
theorem LS.setm (h:LS T0 vo mo ro sp T ver floor v es M g gs cs s) (M':List (AV×AV)):LS T0 vo mo ro sp (T.set mo (.map M')) ver floor v es M' g gs cs s :=
 ⟨Fr.set mo T _ _ _ h.ne_vm h.ov,M8 h.om,h.ev.fr (Fr.set mo T _) (fun es' e=>by rw [h.om] at e; cases e),h.gv.fr (Fr.set mo T _) (fun es' _ e=>by rw [h.om] at e; cases e),h.rd.fr (Fr.set mo T _) h.ne_mr.symm,h.sp,a01 h.old (Fr.set mo T _) h.lo.2.1,h.lo⟩
theorem Gon.row_w (x:Gon):List.map AV.weak1 x.row=x.row:=rfl
/-- one more that has gone -/
theorem LS.app (h:LS T0 vo mo ro sp T ver floor v es M g gs cs s) (x:Gon) (hl:gs.length≤40) (hold:∀ o,g=.sl o 0 gs.length 3→T0.length≤o) :
 ∃ T1 g',(∀ call bx,q8 3 40 call [g,.fresh [x.row]] bx T=some (g',bx,T1))∧T1[vo]?=some (Cb.Obj.cells (cV sp ver floor v mo g cs))∧GonsAt g' (gs++[x]) (T1.set vo (Cb.Obj.cells (cV sp ver floor v mo g' cs)))
  ∧ LS T0 vo mo ro sp (T1.set vo (Cb.Obj.cells (cV sp ver floor v mo g' cs))) ver floor v es M g' (gs++[x]) cs s∧(∃ o n,g'=.sl o 0 n 3∧T0.length≤o):=by
 have hvl:=(List.getElem?_eq_some_iff.1 h.ov).1
 have hgl:T0.length≤T.length:=by have:=h.lo.1; omega
 rcases h.gv with ⟨rfl,rfl⟩|⟨o,h0,rfl,ho⟩
 · refine ⟨T++[Cb.Obj.cells x.row],.sl T.length 0 1 3,fun call bx=>?_,?_⟩
   · unfold q8
     simp only [E9,List.length_cons,List.length_nil,g8,Gon.row,List.isEmpty_cons]
     rfl
   have hg:=h.gr (Gr.app T [Cb.Obj.cells x.row])
   have hf:=Fr.set vo (T++[Cb.Obj.cells x.row]) (Cb.Obj.cells (cV sp ver floor v mo (.sl T.length 0 1 3) cs))
   have hne:T.length≠vo:=by omega
   have hG:GonsAt (.sl T.length 0 1 3) ([]++[x]) ((T++[Cb.Obj.cells x.row]).set vo (Cb.Obj.cells (cV sp ver floor v mo (.sl T.length 0 1 3) cs))):=.inr ⟨T.length,by simp,rfl,hf _ _ hne (by rw [M9]; simp [n8])⟩
   exact ⟨hg.ov,hG,⟨M8 hg.ov,hf _ _ hg.ne_vm.symm hg.om,hg.ev.fr hf hg.no_ents,hG,hg.rd.fr hf hg.ne_vr.symm,hg.sp,a01 hg.old hf hg.lo.1,hg.lo⟩,_,_,rfl,hgl⟩
 · have hov:o≠vo:=fun e=>h.no_gons gs h0 (by rw [← e]; exact ho)
   have hom:o≠mo:=fun e=>by rw [e,h.om] at ho; cases ho
   have hor:o≠ro:=fun e=>h.rd.no_gons gs h0 (by rw [← e]; exact ho)
   have hT0:=hold o rfl
   refine ⟨T.set o .dead++[Cb.Obj.cells (n8 (gs++[x]))],.sl T.length 0 (gs.length+1) 3,fun call bx=>?_,?_⟩
   · unfold q8
     simp only [E9,List.length_cons,List.length_nil,g8,ho,b1y,List.isEmpty_cons]
     rw [if_pos ⟨trivial,trivial,rfl,trivial,by omega,trivial⟩,b1W]
     simp [n8]
   have hf1:Fr o T (T.set o .dead++[Cb.Obj.cells (n8 (gs++[x]))]):=(Fr.set o T _).trans ((Gr.app _ _).fr o)
   have hf:=Fr.set vo (T.set o .dead++[Cb.Obj.cells (n8 (gs++[x]))]) (Cb.Obj.cells (cV sp ver floor v mo (.sl T.length 0 (gs.length+1) 3) cs))
   have hne:T.length≠vo:=by omega
   have hnew:(T.set o .dead++[Cb.Obj.cells (n8 (gs++[x]))])[T.length]?=some (Cb.Obj.cells (n8 (gs++[x]))):=by
    have:=M9 (T.set o .dead) (Cb.Obj.cells (n8 (gs++[x])))
    rwa [List.length_set] at this
   have hG:GonsAt (.sl T.length 0 (gs.length+1) 3) (gs++[x]) ((T.set o .dead++[Cb.Obj.cells (n8 (gs++[x]))]).set vo (Cb.Obj.cells (cV sp ver floor v mo (.sl T.length 0 (gs.length+1) 3) cs))):=.inr ⟨T.length,by simp,by simp,hf _ _ hne hnew⟩
   have hov1:=hf1 _ _ hov.symm h.ov
   have hev1:EntsAt v es (T.set o .dead++[Cb.Obj.cells (n8 (gs++[x]))]):=h.ev.fr hf1 fun es' e=>by
    rw [ho] at e
    exact a9I h0 es' (Cb.Obj.cells.inj (Option.some.inj e))
   refine ⟨hov1,hG,⟨M8 hov1,hf _ _ h.ne_vm.symm (hf1 _ _ hom.symm h.om),hev1.fr hf (fun es' e=>?_),hG,(h.rd.fr hf1 hor.symm).fr hf h.ne_vr.symm,h.sp,a01 (a01 h.old hf1 hT0) hf h.lo.1,h.lo⟩,_,_,rfl,hgl⟩
   rw [hov1] at e
   obtain ⟨a,b,hs⟩:=h.sp
   exact a1l (fun s h=>by rw [hs] at h; cases h) (Cb.Obj.cells.inj (Option.some.inj e)).symm
end
theorem c4E {a b:Nat} (T:St):EvQ tbl 8 [.ptr a b] T (fun r T'=>r=.tuple [.ptr (T.length+1) 0,.int .i64 0]∧T'=T++[.map []]++[.cells (cV (.ptr a b) 0 0 .nils T.length .nils [])]):=by
 refine EvQ.body (fn:=a8) rfl rfl rfl ?_
 simp +contextual -implicitDefEqProofs only [K8,SS,rA,rS,rL,rE,reduceCtorEq]
 refine WC.ret ⟨_,_,rfl,?_,?_⟩
 · simp [AV.weak]
 · rfl
theorem c4i {q:List Nat} (T:St):EvQ tbl 15 [.list false (m0 q)] T (fun r T'=>r=.ptr T.length 0∧T'=T++[rdO q false]):=by
 refine EvQ.body (fn:=a15) rfl rfl rfl ?_
 simp +contextual -implicitDefEqProofs only [K15,SS,rA,rS,rL,rE,reduceCtorEq]
 exact WC.ret ⟨_,_,rfl,rfl,rfl⟩
theorem b3j (n:Int) (T:St):EvQ tbl 60 [.int .u64 n] T (fun r T'=>T'=T∧r=.bool false):=by
 have e:eqI n n=true:=by rw [eqD]; simp
 refine EvQ.body (fn:=a60) rfl rfl rfl ?_
 simp +contextual -implicitDefEqProofs only [K60,SS,rA,rS,rL,rE,reduceCtorEq,e,Bool.not_true]
 exact WC.ret ⟨_,_,rfl,rfl,rfl⟩
theorem c1P (n m:Int) (T:St):EvQ tbl 25 [.int .u64 n,.int .u64 m] T (fun r T'=>T'=T∧∃ c,r=.int .i64 c):=by
 refine EvQ.body (fn:=a25) rfl rfl rfl ?_
 simp +contextual -implicitDefEqProofs only [K25,SS,rA,rS,rL,rE,reduceCtorEq]
 refine WC.call (b3j n T) rfl rfl ?_
 rintro _ _ ⟨h7,rfl⟩
 replace h7:=h7.symm
 subst h7
 simp +contextual -implicitDefEqProofs only [K25,SS,rA,rS,rL,rE,reduceCtorEq]
 refine WC.call (b3j m T) rfl rfl ?_
 rintro _ _ ⟨h7,rfl⟩
 replace h7:=h7.symm
 subst h7
 simp +contextual -implicitDefEqProofs only [K25,SS,rA,rS,rL,rE,reduceCtorEq]
 refine WC.br (fun hh=>?_) (fun hh=>?_)
 · simp +contextual -implicitDefEqProofs only [K25,SS,rA,rS,rL,rE,reduceCtorEq]
   exact WC.ret ⟨_,_,rfl,rfl,_,rfl⟩
 · simp +contextual -implicitDefEqProofs only [K25,SS,rA,rS,rL,rE,reduceCtorEq]
   refine WC.br (fun hh=>?_) (fun hh=>?_)
   · simp +contextual -implicitDefEqProofs only [K25,SS,rA,rS,rL,rE,reduceCtorEq]
     exact WC.ret ⟨_,_,rfl,rfl,_,rfl⟩
   · simp +contextual -implicitDefEqProofs only [K25,SS,rA,rS,rL,rE,reduceCtorEq]
     exact WC.ret ⟨_,_,rfl,rfl,_,rfl⟩
theorem c5O (a b:Gon) (T:St):EvQ tbl 24 [.agg a.row,.agg b.row] T (fun r T'=>T'=T∧∃ c,r=.int .i64 c):=by
 unfold Gon.row
 refine EvQ.body (fn:=a24) rfl rfl rfl ?_
 simp +contextual -implicitDefEqProofs only [K24,SS,rA,rS,rL,rE,reduceCtorEq]
 refine WC.call (c1P _ _ T) rfl rfl ?_
 rintro _ _ ⟨h7,c,rfl⟩
 replace h7:=h7.symm
 subst h7
 simp +contextual -implicitDefEqProofs only [K24,SS,rA,rS,rL,rE,reduceCtorEq]
 exact WC.ret ⟨_,_,rfl,rfl,_,rfl⟩
theorem b47 {T:St} {g:AV} {gs:List Gon} (hg:GonsAt g gs T) (hl:gs.length≤200):EvQ tbl 23 [g,.func 24 [] []] T (fun r T'=>T'=T∧∃ c,r=.bool c):=by
 rcases hg with ⟨rfl,rfl⟩|⟨o,h0,rfl,ho⟩
 · have e1:l4 .i64 (W4 0 1)=-1:=rfl
   refine EvQ.body (fn:=a23) rfl rfl rfl ?_
   simp +contextual -implicitDefEqProofs only [K23,SS,rA,rS,rL,rE,reduceCtorEq,e1]
   refine WC.loopR (fun mm fr T'=>T'=T∧fr=[.nils,.func 24 [] [],.bool false,.int .i64 (-1)]) (m:=0) ⟨rfl,rfl⟩ ?_
   rintro mm fr T' ⟨h7,rfl⟩
   replace h7:=h7.symm
   subst h7
   simp +contextual -implicitDefEqProofs only [K23,SS,rA,rS,rL,rE,reduceCtorEq,show ltI 0 (-1)=false from rfl]
   refine WC.leave ?_
   simp +contextual -implicitDefEqProofs only [K23,SS,rA,rS,rL,rE,reduceCtorEq]
   exact WC.ret ⟨_,_,rfl,rfl,_,rfl⟩
 have e1:l4 .i64 (W4 (gs.length:Int) 1)=(gs.length:Int) - 1:=by rw [subI_eq]; exact O1 (by omega) (by omega)
 refine EvQ.body (fn:=a23) rfl rfl rfl ?_
 simp +contextual -implicitDefEqProofs only [K23,SS,rA,rS,rL,rE,reduceCtorEq,e1]
 refine WC.loopR (fun mm fr T'=>T'=T∧∃ i:Int,-1≤i∧i < gs.length∧mm=(i+1).toNat∧fr=[.sl o 0 gs.length 3,.func 24 [] [],.bool false,.int .i64 i]) (m:=((gs.length:Int) - 1+1).toNat) ⟨rfl,_,by omega,by omega,rfl,rfl⟩ ?_
 rintro mm fr T' ⟨h7,i,h1,h2,rfl,rfl⟩
 replace h7:=h7.symm
 subst h7
 have e2:ltI 0 i=decide (0 < i):=by rw [ltI_eq]
 simp +contextual -implicitDefEqProofs only [K23,SS,rA,rS,rL,rE,reduceCtorEq,e2]
 by_cases hi:0 < i
 · obtain ⟨j,rfl⟩:∃ j:Nat,i=((j+1:Nat):Int):=⟨(i - 1).toNat,by omega⟩
   have e3:l4 .i64 (W4 ((j+1:Nat):Int) 1)=(j:Int):=by rw [subI_eq,O1 (by omega) (by omega)]; omega
   have a1:=a2X (gs:=gs) (i:=j+1) (by omega)
   have a0:=a2X (gs:=gs) (i:=j) (by omega)
   have hc:=c5O (gs[j+1]'(by omega)) (gs[j]'(by omega)) T
   have i1:(((j+1:Nat):Int) < (gs.length:Int))=True:=by simp; omega
   have i0:((j:Int) < (gs.length:Int))=True:=by simp; omega
   revert a1 a0 hc
   generalize gs[j+1]'(by omega)=g1
   generalize gs[j]'(by omega)=g0
   intro a1 a0 hc
   rw [show g1.row=[.str g1.id,.str g1.typ,.int .u64 (g1.ver:Int)] from rfl] at a1 hc
   rw [show g0.row=[.str g0.id,.str g0.typ,.int .u64 (g0.ver:Int)] from rfl] at a0 hc
   simp +contextual -implicitDefEqProofs only [K23,SS,rA,rS,rL,rE,reduceCtorEq,hi,decide_true,e3,i1,i0,if_true,ho,a1,a0,Option.map_some]
   refine WC.callV hc rfl rfl ?_
   rintro _ _ ⟨h7,c,rfl⟩
   replace h7:=h7.symm
   subst h7
   simp +contextual -implicitDefEqProofs only [K23,SS,rA,rS,rL,rE,reduceCtorEq]
   refine WC.br (fun hh=>?_) (fun hh=>?_)
   · simp +contextual -implicitDefEqProofs only [K23,SS,rA,rS,rL,rE,reduceCtorEq]
     refine WC.leaveR ?_
     simp +contextual -implicitDefEqProofs only [K23,SS,rA,rS,rL,rE,reduceCtorEq]
     exact WC.ret ⟨_,_,rfl,rfl,_,rfl⟩
   · simp +contextual -implicitDefEqProofs only [K23,SS,rA,rS,rL,rE,reduceCtorEq,e3]
     exact WC.next (m':=j+1) (by omega) ⟨rfl,(j:Int),by omega,by omega,by omega,rfl⟩
 · simp +contextual -implicitDefEqProofs only [K23,SS,rA,rS,rL,rE,reduceCtorEq,hi,decide_false]
   refine WC.leave ?_
   simp +contextual -implicitDefEqProofs only [K23,SS,rA,rS,rL,rE,reduceCtorEq]
   exact WC.ret ⟨_,_,rfl,rfl,_,rfl⟩
end Go.Cb.CodeA
set_option maxRecDepth 20000
set_option linter.unusedSimpArgs false
set_option linter.unusedVariables false
namespace Go.Cb.CodeA
open Go Go.Cb
open Nat renaming reduceAdd→rA,reduceSub→rS,reduceLeDiff→rL,reduceEqDiff→rE
attribute [local congr] p6 s8 t8 u9 r8 r9 B2 B3 V.runR_congr
/-- of each thing, in which version it was changed -/
def mpM:List Ent→List Nat→List (AV×AV)
 | e::es,a::as=>(.str e.id,.int .u64 (a:Int))::mpM es as
 | _,_=>[]
def R8:List Ent→List Nat→List Nat
 | e::es,a::as=>e.wr++(wrU a++R8 es as)
 | _,_=>[]
theorem a8w:∀ (es:List Ent) (as:List Nat) (e:Ent) (a:Nat),es.length=as.length→mpM (es++[e]) (as++[a])=mpM es as++[(.str e.id,.int .u64 (a:Int))]
 | [],[],_,_,_=>rfl
 | _::es,_::as,e,a,h=>by rw [List.cons_append,List.cons_append,mpM,mpM,a8w es as e a (by simpa using h)]; rfl
 | [],_::_,_,_,h=>by simp at h
 | _::_,[],_,_,h=>by simp at h
theorem a6d:∀ (es:List Ent) (as:List Nat) (e:Ent) (a:Nat),es.length=as.length→R8 (es++[e]) (as++[a])=R8 es as++(e.wr++wrU a)
 | [],[],_,_,_=>by simp [R8]
 | _::es,_::as,e,a,h=>by rw [List.cons_append,List.cons_append,R8,R8,a6d es as e a (by simpa using h)]; simp only [List.append_assoc]
 | [],_::_,_,_,h=>by simp at h
 | _::_,[],_,_,h=>by simp at h
def Gon.wr (g:Gon):List Nat:=wrT g.id++(wrT g.typ++wrU g.ver)
def U0 (gs:List Gon):List Nat:=gs.flatMap Gon.wr
theorem b43 (gs:List Gon) (g:Gon):U0 (gs++[g])=U0 gs++g.wr:=by simp [U0]
def Cli.wr (c:Cli):List Nat:=wrU c.seq++(wrI c.e++wrU (if c.bad then 1 else 0))
def R7 (cs:List Cli):List Nat:=cs.flatMap Cli.wr
theorem b4d (cs:List Cli) (c:Cli):R7 (cs++[c])=R7 cs++c.wr:=by simp [R7]
theorem a5V (id:List Nat) (x:AV):∀ (M:List (AV×AV)) (i:Nat),(∀ e∈M,∃ s,e.1=.str s)→∃ z,m2 1 (.str id) M i=some z
 | [],_,_=>⟨none,rfl⟩
 | (k,v)::M,i,h=>by
  obtain ⟨t,ht⟩:=h (k,v) (List.mem_cons_self ..)
  have ht:k=.str t:=ht
  subst ht
  have he:t6 1 (.str id) (.str t)=some (eqN id t):=rfl
  obtain ⟨z,hz⟩:=a5V id x M (i+1) fun e he=>h e (List.mem_cons_of_mem _ he)
  unfold m2
  rw [he]
  cases eqN id t
  · exact ⟨z,hz⟩
  · exact ⟨_,rfl⟩
theorem a7m:∀ (es:List Ent) (as:List Nat),∀ e∈mpM es as,∃ s,e.1=.str s
 | [],_,e,h=>by cases h
 | _::_,[],e,h=>by cases h
 | x::es,a::as,e,h=>by
  rcases List.mem_cons.1 h with rfl|h
  · exact ⟨_,rfl⟩
  · exact a7m es as e h
theorem a6Z (id:List Nat):∀ (es:List Ent) (as:List Nat) (i:Nat),(∀ e∈es,eqN id e.id=false)→m2 1 (.str id) (mpM es as) i=some none
 | [],_,_,_=>rfl
 | _::_,[],_,_=>rfl
 | x::es,a::as,i,h=>by
  have he:t6 1 (.str id) (.str x.id)=some (eqN id x.id):=rfl
  have ih:=a6Z id es as (i+1) fun e he=>h e (List.mem_cons_of_mem _ he)
  rw [mpM]
  unfold m2
  rw [he,h x (List.mem_cons_self ..)]
  exact ih
theorem a5m (id:List Nat) (v:AV):∀ (M:List (AV×AV)) (i:Nat),m2 1 (.str id) M i=some none→∃ j,m2 1 (.str id) (M++[(.str id,v)]) i=some (some (j,v))
 | [],i,_=>by
  refine ⟨i,?_⟩
  have he:t6 1 (.str id) (.str id)=some (eqN id id):=rfl
  rw [List.nil_append]
  unfold m2
  rw [he,a0P]
 | (k,u)::M,i,h=>by
  unfold m2 at h
  rw [List.cons_append]
  unfold m2
  split at h
  · cases h
  · exact a5m id v M (i+1) h
  · cases h
/-- the vault of some bytes -/
structure VOK (T:St) (vo:Nat) (p:List Nat) (sp:AV) (ver floor:Nat) (v:AV) (es:List Ent) (ats:List Nat) (mo:Nat) (g:AV) (gs:List Gon) (cs:List Cli):Prop where
 ov:T[vo]?=some (.cells (cV sp ver floor v mo g cs))
 om:T[mo]?=some (.map (mpM es ats))
 ev:EntsAt v es T
 gv:GonsAt g gs T
 sp:SP sp
 ln:es.length=ats.length∧es.length≤200∧gs.length≤40∧cs.length=5
 so:U9 es
 fe:∀ e∈es,e.Fine
 ra:ver < 2 ^ 64∧floor < 2 ^ 64∧(∀ a∈ats,a < 2 ^ 64)∧(∀ x∈gs,x.ver < 2 ^ 64)∧(∀ c∈cs,c.seq < 2 ^ 64∧-2 ^ 63≤c.e∧c.e < 2 ^ 63)
 eq:p=wrU ver++(wrU floor++(wrU es.length++(R8 es ats++(wrU gs.length++(U0 gs++R7 cs)))))
def a3m (T0:St) (p:List Nat) (r:AV) (T':St):Prop:=Gr T0 T'∧(r=.tuple [.nilp,.int .i64 3]∨∃ vo sp ver floor v es ats mo g gs cs,r=.tuple [.ptr vo 0,.int .i64 0]∧VOK T' vo p sp ver floor v es ats mo g gs cs)
theorem b2j {T0:St} {a b:Nat} {p:List Nat} (hp:By p):LS T0 (T0.length+1) T0.length (T0.length+2) (.ptr a b) (T0++[.map []]++[.cells (cV (.ptr a b) 0 0 .nils T0.length .nils [])]++[rdO p false]) 0 0 .nils [] [] .nils [] [] (some p):=by
 refine ⟨?_,?_,.inl ⟨rfl,rfl⟩,.inl ⟨rfl,rfl⟩,⟨?_,hp⟩,⟨_,_,rfl⟩,?_,by omega,by omega,by omega⟩
 · have:=M9 (T0++[Cb.Obj.map []]) (Cb.Obj.cells (cV (.ptr a b) 0 0 .nils T0.length .nils []))
   rw [List.length_append] at this
   exact Gr.app _ _ _ _ this
 · have:=M9 T0 (Cb.Obj.map [])
   exact Gr.app _ _ _ _ (Gr.app _ _ _ _ this)
 · have:=M9 (T0++[Cb.Obj.map []]++[Cb.Obj.cells (cV (.ptr a b) 0 0 .nils T0.length .nils [])]) (rdO p false)
   rw [List.length_append,List.length_append] at this
   exact this
 · exact fun j x hx=>Gr.app _ _ _ _ (Gr.app _ _ _ _ (Gr.app _ _ _ _ hx))
theorem a6a {st st':St} {o:Nat} {x:Cb.Obj} (h:st[o]?=some x) (h':st'[o]?=some x) (hm:∀ cs,x=.cells cs→J7 st st' cs=true):kept st st' [.ptr o 0]=true:=by
 simp only [kept,I1,h,h',Bool.and_true,Bool.and_eq_true]
 refine ⟨(J9 _ _).2 rfl,?_⟩
 cases x with
 | cells cs=>exact hm cs rfl
 | map _=>rfl
 | dead=>rfl
theorem a6g {st st':St} {q:Nat} {cs:List AV} {x:Cb.Obj} (h:st[q]?=some x) (h':st'[q]?=some x) (hc:J7 st st' cs=true):J7 st st' (.map q::cs)=true:=by
 simp only [J7,h,h',Bool.and_eq_true]
 exact ⟨(J9 _ _).2 rfl,hc⟩
theorem a2r (st st':St):∀ l:List Cli,J7 st st' (l.flatMap Cli.row)=true
 | []=>rfl
 | c::l=>by
  have h:=a2r st st' l
  rw [List.flatMap_cons]
  exact h
theorem LS.kept {T0:St} {vo mo ro:Nat} {sp:AV} {T:St} {ver floor:Nat} {v:AV} {es:List Ent} {M:List (AV×AV)} {g:AV} {gs:List Gon} {cs:List Cli} {s:Option (List Nat)} (h:LS T0 vo mo ro sp T ver floor v es M g gs cs s) {T':St} (hf:Fr ro T T'):Go.Cb.kept T T' [.ptr vo 0]=true:=by
 refine a6a h.ov (hf _ _ h.ne_vr h.ov) fun cs' e=>?_
 cases e
 obtain ⟨a,b,hs⟩:=h.sp
 subst hs
 have hk:J7 T T' (g::Bof cs)=true:=by
  have hB:=a2r T T' (cs++List.replicate (5 - cs.length) Cli.zero)
  rcases h.gv with ⟨rfl,_⟩|⟨o,_,rfl,_⟩ <;> exact hB
 have hm:=a6g h.om (hf _ _ h.ne_mr h.om) hk
 rcases h.ev with ⟨rfl,_⟩|⟨o,rfl,_⟩ <;> exact hm
theorem WC.callA {β:Type} {f m:Nat} {as as':List AV} {bx:AV} {st:St} {k:Nat→AV×St→Option β} {P:AV→St→Prop} {Q:β→Prop}
 (h:EvQ tbl f as' st P) (hp:p5 (as.take m)=true) (hw:(as.take m).map AV.weak=as') (hk:∀ r st',P r st'→Go.Cb.kept st st' (as.drop m)=true∧WC (fun n=>k n (r,st')) Q):WC (fun n=>Go.Cb.obind (p2 (z6 f m (l3 tbl n) as bx st)) (k n)) Q:=by
 obtain ⟨r,st',he,hq⟩:=h
 obtain ⟨n0,h0⟩:=he.ge
 obtain ⟨hkk,hkw⟩:=hk r st' hq
 refine WC.obind (P:=fun x=>x=(r,st')) ⟨n0,(r,st'),fun n hn=>?_,rfl⟩ (fun a ha=>ha ▸ hkw)
 simp only [z6,q9,hp,if_true,hw,h0 n hn,Option.map_some,hkk,a3o]
/-- a vault being read: what is there so far, and the bytes it was -/
structure LD (T0:St) (vo mo ro:Nat) (sp:AV) (T:St) (ver floor:Nat) (v:AV) (es:List Ent) (ats:List Nat) (g:AV) (gs:List Gon) (cs:List Cli) (s:Option (List Nat)) (p W:List Nat):Prop where
 ls:LS T0 vo mo ro sp T ver floor v es (mpM es ats) g gs cs s
 tk:Took (some p) W s
 ln:es.length=ats.length∧es.length≤200∧gs.length≤40∧cs.length≤5
 so:U9 es
 fe:∀ e∈es,e.Fine
 ra:ver < 2 ^ 64∧floor < 2 ^ 64∧(∀ a∈ats,a < 2 ^ 64)∧(∀ x∈gs,x.ver < 2 ^ 64)∧(∀ c∈cs,c.seq < 2 ^ 64∧-2 ^ 63≤c.e∧c.e < 2 ^ 63)
 go:∀ o n,g=.sl o 0 n 3→T0.length≤o
def W0 (ver floor:Nat) (es:List Ent) (ats:List Nat) (gs:List Gon):List Nat:=wrU ver++(wrU floor++(wrU es.length++(R8 es ats++(wrU gs.length++U0 gs))))
theorem c6o {T0:St} {vo mo ro a b:Nat} {T:St} {ver floor:Nat} {v:AV} {es:List Ent} {ats:List Nat} {g:AV} {gs:List Gon} {cs:List Cli} {s:Option (List Nat)} {p:List Nat}
 (h:LD T0 vo mo ro (.ptr a b) T ver floor v es ats g gs cs s p (W0 ver floor es ats gs++R7 cs)) (h5:cs.length=5) (x7 x8 x9 x10 x11 x12 x13:AV) :
 WC (fun n'=>b9 (l3 tbl n') n' a6s94 [.ptr a b,.list false (m0 p),.nilp,.int .i64 0,.ptr vo 0,.int .i64 0,.ptr ro 0,x7,x8,x9,x10,x11,x12,x13] T) (fun o'=>∃ r st',Go.Cb.finK a6.results (some o')=some (r,st')∧a3m T0 p r st'):=by
 obtain ⟨w1,w2,w3,w4,w5,w6,w7⟩:=h.ls.gv.wk
 have hov:=h.ls.ov
 unfold cV at hov
 simp +contextual -implicitDefEqProofs only [K6,SS,rA,rS,rL,rE,reduceCtorEq,hov,w1,w2,w3,w4,w5,w6,w7]
 refine WC.call (b47 h.ls.gv (by have:=h.ln; omega)) (by simp only [p5,w5]; rfl) (by simp only [List.map_cons,List.map_nil,w1]; rfl) ?_
 rintro _ _ ⟨h7,c,rfl⟩
 replace h7:=h7.symm
 subst h7
 simp +contextual -implicitDefEqProofs only [K6,SS,rA,rS,rL,rE,reduceCtorEq]
 refine WC.call (c6b h.ls.rd) rfl rfl ?_
 rintro _ _ ⟨h7,e,rfl,he⟩
 replace h7:=h7.symm
 subst h7
 cases e with
 | false =>
  simp +contextual -implicitDefEqProofs only [K6,SS,rA,rS,rL,rE,reduceCtorEq,Bool.not_false]
  exact WC.ret ⟨_,_,rfl,h.ls.old,.inl rfl⟩
 | true =>
  cases c with
  | false =>
   simp +contextual -implicitDefEqProofs only [K6,SS,rA,rS,rL,rE,reduceCtorEq,Bool.not_true,Bool.not_false]
   exact WC.ret ⟨_,_,rfl,h.ls.old,.inl rfl⟩
  | true =>
   simp +contextual -implicitDefEqProofs only [K6,SS,rA,rS,rL,rE,reduceCtorEq,Bool.not_true]
   refine WC.ret ⟨_,_,rfl,h.ls.old,.inr ⟨vo,_,ver,floor,v,es,ats,mo,g,gs,cs,rfl,h.ls.ov,h.ls.om,h.ls.ev,h.ls.gv,h.ls.sp,⟨h.ln.1,h.ln.2.1,h.ln.2.2.1,h5⟩,h.so,h.fe,h.ra,?_⟩⟩
   have hq:=h.tk [] (he rfl)
   simp only [Option.some.injEq,List.append_nil] at hq
   rw [hq]
   unfold W0
   simp only [List.append_assoc]
theorem a7a (A B:List AV) (x c:AV):j9 (A++x::B) A.length [c]=A++c::B:=by simp [j9]
theorem Cli.rows_len (cs:List Cli):(cs.flatMap Cli.row).length=cs.length*3:=by
 induction cs with
 | nil=>rfl
 | cons c cs ih=>rw [List.flatMap_cons,List.length_append,ih,List.length_cons]; simp [Cli.row]; omega
theorem c3V (sp:AV) (ver floor:Nat) (v:AV) (mo:Nat) (g:AV) {cs:List Cli} (h:cs.length≤5):(cV sp ver floor v mo g cs).length=21:=by
 simp only [cV,Bof,List.length_cons,Cli.rows_len,List.length_append,List.length_replicate]
 omega
theorem b5A {n:Nat} (h:n < 5):List.replicate (5 - n) Cli.zero=Cli.zero::List.replicate (5 - (n+1)) Cli.zero:=by
 rw [show 5 - n=(5 - (n+1))+1 by omega,List.replicate_succ]
theorem W6 (sp:AV) (ver floor:Nat) (v:AV) (mo:Nat) (g:AV) (cs:List Cli) (c:Cli):cV sp ver floor v mo g (cs++[c])=(sp::.int .u64 (ver:Int)::.int .u64 (floor:Int)::v::.map mo::g::cs.flatMap Cli.row)++.int .u64 (c.seq:Int)::.int .i64 c.e::.bool c.bad::(List.replicate (5 - (cs.length+1)) Cli.zero).flatMap Cli.row:=by
 unfold cV Bof
 simp only [List.length_append,List.length_cons,List.length_nil,List.flatMap_append,List.flatMap_cons,List.flatMap_nil,List.append_nil,List.cons_append,List.append_assoc,Cli.row,Nat.zero_add,List.nil_append]
theorem c0z (sp:AV) (ver floor:Nat) (v:AV) (mo:Nat) (g:AV) {cs:List Cli} (h:cs.length < 5):cV sp ver floor v mo g cs=cV sp ver floor v mo g (cs++[Cli.zero]):=by
 unfold cV Bof
 rw [b5A h,List.length_append,List.append_assoc]
 rfl
section
variable (sp:AV) (ver floor:Nat) (v:AV) (mo:Nat) (g:AV) (cs:List Cli)
theorem b8i (h:cs.length < 5) (x:Nat):j9 (cV sp ver floor v mo g cs) (6+cs.length*3) [.int .u64 (x:Int)]=cV sp ver floor v mo g (cs++[⟨x,0,false⟩]):=by
 rw [c0z sp ver floor v mo g h,W6,W6]
 have e:6+cs.length*3=(sp::AV.int .u64 (ver:Int)::.int .u64 (floor:Int)::v::.map mo::g::cs.flatMap Cli.row).length:=by
  simp only [List.length_cons,Cli.rows_len]; omega
 rw [e,a7a]
 rfl
theorem c0i (x:Nat) (e0 e1:Int) (b:Bool):j9 (cV sp ver floor v mo g (cs++[⟨x,e0,b⟩])) (6+cs.length*3+1) [.int .i64 e1]=cV sp ver floor v mo g (cs++[⟨x,e1,b⟩]):=by
 rw [W6,W6]
 have e:6+cs.length*3+1=((sp::AV.int .u64 (ver:Int)::.int .u64 (floor:Int)::v::.map mo::g::cs.flatMap Cli.row)++[AV.int .u64 (x:Int)]).length:=by
  simp only [List.length_append,List.length_cons,Cli.rows_len,List.length_nil]; omega
 rw [e]
 have h:=a7a ((sp::AV.int .u64 (ver:Int)::.int .u64 (floor:Int)::v::.map mo::g::cs.flatMap Cli.row)++[AV.int .u64 (x:Int)]) (.bool b::(List.replicate (5 - (cs.length+1)) Cli.zero).flatMap Cli.row) (.int .i64 e0) (.int .i64 e1)
 rw [List.append_assoc] at h
 rw [List.append_assoc] at h
 exact h
theorem c0V (x:Nat) (e0:Int) (b b':Bool):j9 (cV sp ver floor v mo g (cs++[⟨x,e0,b⟩])) (6+cs.length*3+2) [.bool b']=cV sp ver floor v mo g (cs++[⟨x,e0,b'⟩]):=by
 rw [W6,W6]
 have e:6+cs.length*3+2=((sp::AV.int .u64 (ver:Int)::.int .u64 (floor:Int)::v::.map mo::g::cs.flatMap Cli.row)++[AV.int .u64 (x:Int),.int .i64 e0]).length:=by
  simp only [List.length_append,List.length_cons,Cli.rows_len,List.length_nil]; omega
 rw [e]
 have h:=a7a ((sp::AV.int .u64 (ver:Int)::.int .u64 (floor:Int)::v::.map mo::g::cs.flatMap Cli.row)++[AV.int .u64 (x:Int),.int .i64 e0]) ((List.replicate (5 - (cs.length+1)) Cli.zero).flatMap Cli.row) (.bool b) (.bool b')
 rw [List.append_assoc] at h
 rw [List.append_assoc] at h
 exact h
end
/-- the five clients -/
theorem b7V {T0:St} {vo mo ro a b:Nat} {T:St} {ver floor:Nat} {v:AV} {es:List Ent} {ats:List Nat} {g:AV} {gs:List Gon} {s:Option (List Nat)} {p:List Nat}
 (h:LD T0 vo mo ro (.ptr a b) T ver floor v es ats g gs [] s p (W0 ver floor es ats gs)) (x7 x8 x9 x10 x11 x12 x13:AV) :
 WC (fun n'=>b9 (l3 tbl n') n' a6s95 [.ptr a b,.list false (m0 p),.nilp,.int .i64 0,.ptr vo 0,.int .i64 0,.ptr ro 0,x7,x8,x9,x10,x11,x12,x13] T) (fun o'=>∃ r st',Go.Cb.finK a6.results (some o')=some (r,st')∧a3m T0 p r st'):=by
 unfold a6s95
 simp +contextual -implicitDefEqProofs only [K6b,SS,rA,rS,rL,rE,reduceCtorEq]
 refine WC.loopR (fun mm fr T'=>∃ (i:Nat) (cs:List Cli) (s':Option (List Nat)) (y11:AV),i≤5∧mm=5 - i∧cs.length=i∧LD T0 vo mo ro (.ptr a b) T' ver floor v es ats g gs cs s' p (W0 ver floor es ats gs++R7 cs)∧fr=[.ptr a b,.list false (m0 p),.nilp,.int .i64 0,.ptr vo 0,.int .i64 0,.ptr ro 0,x7,x8,x9,x10,y11,x12,.int .i64 (i:Int)]) (m:=5) ⟨0,[],s,x11,by decide,rfl,rfl,by rw [show R7 []=[] from rfl,List.append_nil]; exact h,rfl⟩ ?_
 clear h s T
 rintro mm fr T ⟨i,cs,s,y11,hi5,rfl,hci,h,rfl⟩
 have hli:ltI (i:Int) 5=decide (i < 5):=by rw [ltI_eq]; exact decide_eq_decide.2 (by omega)
 simp +contextual -implicitDefEqProofs only [K6b,SS,rA,rS,rL,rE,reduceCtorEq,hli]
 by_cases hil:i < 5
 · have hu:=L1 h.ls.rd 1152921504606846976
   simp +contextual -implicitDefEqProofs only [K6b,SS,rA,rS,rL,rE,reduceCtorEq,hil,decide_true]
   refine WC.call hu rfl rfl ?_
   rintro _ T2 ⟨seq,s2,rfl,hq64,-,-,ht2,hr2,hf2⟩
   subst hci
   have h2:=h.ls.rdr hf2 hr2
   have hov:=h2.ov
   have hfit:∀ (cs':List Cli) (k:Nat),cs'.length≤5→k < 3→(6+cs.length*3+k+1≤(cV (.ptr a b) ver floor v mo g cs').length)=True:=fun cs' k h5 hk=>by
    rw [c3V _ _ _ _ _ _ h5]; simp; omega
   have f0:=hfit cs 0 (by omega) (by omega)
   have hl1:∀ c:Cli,(cs++[c]).length≤5:=fun c=>by rw [List.length_append]; simp; omega
   have i5:((cs.length:Int) < ((5:Nat):Int))=True:=by simp; omega
   have s0:=b8i (.ptr a b) ver floor v mo g cs hil seq
   simp only [j9,List.length_cons,List.length_nil,Nat.zero_add] at s0
   simp +contextual -implicitDefEqProofs only [K6b,SS,rA,rS,rL,rE,reduceCtorEq,i5,if_true,hov,Nat.add_zero,f0,s0]
   have h3:=h2.setv (ver':=ver) (floor':=floor) (cs':=cs++[⟨seq,0,false⟩]) h2.ev
   refine WC.call (b1x h3.rd) rfl rfl ?_
   rintro _ T4 ⟨e,s4,rfl,he1,he2,ht4,hr4,hf4⟩
   have h4:=h3.rdr hf4 hr4
   have hov4:=h4.ov
   have f1:=hfit (cs++[⟨seq,0,false⟩]) 1 (hl1 _) (by omega)
   have s1:=c0i (.ptr a b) ver floor v mo g cs seq 0 e false
   simp only [j9,List.length_cons,List.length_nil,Nat.zero_add] at s1
   simp +contextual -implicitDefEqProofs only [K6b,SS,rA,rS,rL,rE,reduceCtorEq,i5,if_true,hov4,f1,s1]
   have h5:=h4.setv (ver':=ver) (floor':=floor) (cs':=cs++[⟨seq,e,false⟩]) h4.ev
   refine WC.call (L1 h5.rd 1) rfl rfl ?_
   rintro _ T6 ⟨n,s6,rfl,-,hn1,-,ht6,hr6,hf6⟩
   have h6:=h5.rdr hf6 hr6
   have hov6:=h6.ov
   have f2:=hfit (cs++[⟨seq,e,false⟩]) 2 (hl1 _) (by omega)
   have e6:eqI (n:Int) 1=decide (n=1):=by rw [eqD]; exact decide_eq_decide.2 (by omega)
   have s2':=c0V (.ptr a b) ver floor v mo g cs seq e false (decide (n=1))
   simp only [j9,List.length_cons,List.length_nil,Nat.zero_add] at s2'
   simp +contextual -implicitDefEqProofs only [K6b,SS,rA,rS,rL,rE,reduceCtorEq,e6,i5,if_true,hov6,f2,s2',K9 (show cs.length+1 < 2 ^ 63 by omega)]
   have h7:=h6.setv (ver':=ver) (floor':=floor) (cs':=cs++[⟨seq,e,decide (n=1)⟩]) h6.ev
   refine WC.next (m':=5 - (cs.length+1)) (by omega) ⟨cs.length+1,cs++[⟨seq,e,decide (n=1)⟩],s6,_,by omega,rfl,by simp,⟨h7,?_,⟨h.ln.1,h.ln.2.1,h.ln.2.2.1,hl1 _⟩,h.so,h.fe,⟨h.ra.1,h.ra.2.1,h.ra.2.2.1,h.ra.2.2.2.1,fun c hc=>?_⟩,h.go⟩,rfl⟩
   · rw [b4d,← List.append_assoc]
     have hw:Cli.wr ⟨seq,e,decide (n=1)⟩=wrU seq++(wrI e++wrU n):=by
      unfold Cli.wr
      have hn:n=0∨n=1:=by omega
      rcases hn with rfl|rfl <;> rfl
     rw [hw]
     exact h.tk.trans (ht2.trans (ht4.trans ht6))
   · rcases List.mem_append.1 hc with hc|hc
     · exact h.ra.2.2.2.2 c hc
     · rw [List.mem_singleton.1 hc]; exact ⟨hq64,he1,he2⟩
 · obtain rfl:i=5:=by omega
   simp +contextual -implicitDefEqProofs only [K6b,SS,rA,rS,rL,rE,reduceCtorEq,hil,decide_false]
   refine WC.leave ?_
   simp +contextual -implicitDefEqProofs only [K6b,SS,rA,rS,rL,rE,reduceCtorEq]
   exact c6o h hci _ _ _ _ _ _ _
end Go.Cb.CodeA
set_option maxRecDepth 20000
set_option linter.unusedSimpArgs false
set_option linter.unusedVariables false
namespace Go.Cb.CodeA
open Go Go.Cb
open Nat renaming reduceAdd→rA,reduceSub→rS,reduceLeDiff→rL,reduceEqDiff→rE
attribute [local congr] p6 s8 t8 u9 r8 r9 B2 B3 V.runR_congr
def W1 (ver floor:Nat) (es:List Ent) (ats:List Nat):List Nat:=wrU ver++(wrU floor++(wrU es.length++R8 es ats))
theorem c5K (ver floor:Nat) (es:List Ent) (ats:List Nat) (gs:List Gon):W1 ver floor es ats++(wrU gs.length++U0 gs)=W0 ver floor es ats gs:=by
 unfold W1 W0; simp only [List.append_assoc]
theorem b6O (n:Nat):ltI 0 (n:Int)=decide (0 < n):=by rw [ltI_eq]; exact decide_eq_decide.2 (by omega)
theorem b70 {n:Nat} (h0:0 < n) (h1:n≤200):l4 .u64 (W4 (n:Int) 1)=((n - 1:Nat):Int):=by
 rw [subI_eq,show (n:Int) - 1=((n - 1:Nat):Int) by omega]; exact Z0 (by omega)
theorem a3j (call:b6) (bx:AV) (st:St) (agg:Bool) (n o off p f:Nat):C3 agg n call [.ptr o off,.ptr p f] bx st=if Nat.beq o p=true then w9 agg n call [.ptr o off] bx st else none:=b5 rfl
theorem a5u (n:Nat):(n.beq n=true)=True:=by simp
/-- what has gone -/
theorem b74 {T0:St} {vo mo ro a b:Nat} {T:St} {ver floor:Nat} {v:AV} {es:List Ent} {ats:List Nat} {s:Option (List Nat)} {p:List Nat}
 (h:LD T0 vo mo ro (.ptr a b) T ver floor v es ats .nils [] [] s p (W1 ver floor es ats)) (x7 x8 x9 x10 x11 x12 x13:AV) :
 WC (fun n'=>b9 (l3 tbl n') n' a6s96 [.ptr a b,.list false (m0 p),.nilp,.int .i64 0,.ptr vo 0,.int .i64 0,.ptr ro 0,x7,x8,x9,x10,x11,x12,x13] T) (fun o'=>∃ r st',Go.Cb.finK a6.results (some o')=some (r,st')∧a3m T0 p r st'):=by
 unfold a6s96
 simp +contextual -implicitDefEqProofs only [K6b,SS,rA,rS,rL,rE,reduceCtorEq]
 refine WC.call (L1 h.ls.rd 40) rfl rfl ?_
 rintro _ T1 ⟨m,s1,rfl,-,hm,hz1,ht1,hr1,hf1⟩
 have h1:=h.ls.rdr hf1 hr1
 simp +contextual -implicitDefEqProofs only [K6b,SS,rA,rS,rL,rE,reduceCtorEq]
 refine WC.loopR (fun mm fr T'=>∃ (rem:Nat) (gs:List Gon) (g:AV) (s':Option (List Nat)),mm=rem∧rem+gs.length=m∧LD T0 vo mo ro (.ptr a b) T' ver floor v es ats g gs [] s' p (W1 ver floor es ats++(wrU m++U0 gs))∧fr=[.ptr a b,.list false (m0 p),.nilp,.int .i64 0,.ptr vo 0,.int .i64 0,.ptr ro 0,x7,x8,x9,.int .u64 (rem:Int),x11,x12,x13]) (m:=m)
  ⟨m,[],.nils,s1,rfl,rfl,⟨h1,by rw [show U0 []=[] from rfl,List.append_nil]; exact h.tk.trans ht1,h.ln,h.so,h.fe,h.ra,fun o n e=>by cases e⟩,rfl⟩ ?_
 clear h1 hf1 hr1 ht1 hz1 h
 rintro rem fr T ⟨_,gs,g,s,rfl,hlen,h,rfl⟩
 simp +contextual -implicitDefEqProofs only [K6b,SS,rA,rS,rL,rE,reduceCtorEq,b6O]
 by_cases h0:0 < rem
 · simp +contextual -implicitDefEqProofs only [K6b,SS,rA,rS,rL,rE,reduceCtorEq,h0,decide_true]
   refine WC.call (a3C h.ls.rd) rfl rfl ?_
   rintro _ _ ⟨h7,rfl⟩
   replace h7:=h7.symm
   subst h7
   cases s with
   | none =>
    simp +contextual -implicitDefEqProofs only [K6b,SS,rA,rS,rL,rE,reduceCtorEq,Option.isNone_none,Bool.not_true]
    refine WC.leave ?_
    simp +contextual -implicitDefEqProofs only [K6b,SS,rA,rS,rL,rE,reduceCtorEq]
    exact b7V ⟨h.ls,Took.none,h.ln,h.so,h.fe,h.ra,h.go⟩ _ _ _ _ _ _ _
   | some q =>
    obtain ⟨w1,w2,w3,w4,w5,w6,w7⟩:=h.ls.gv.wk
    have hov:=h.ls.ov
    unfold cV at hov
    simp +contextual -implicitDefEqProofs only [K6b,SS,rA,rS,rL,rE,reduceCtorEq,Option.isNone_some,Bool.not_false,a3j,a5u,hov,w1,w2,w3,w4,w5,w6,w7,if_true]
    refine WC.callA (a1v h.ls.rd (most:=200) (by decide)) rfl rfl ?_
    rintro _ T2 ⟨id,s2,rfl,hl2,ht2,hr2,hf2⟩
    refine ⟨h.ls.kept hf2,?_⟩
    have h2:=h.ls.rdr hf2 hr2
    simp +contextual -implicitDefEqProofs only [K6b,SS,rA,rS,rL,rE,reduceCtorEq]
    refine WC.callA (a1v h2.rd (most:=32) (by decide)) rfl rfl ?_
    rintro _ T3 ⟨typ,s3,rfl,hl3,ht3,hr3,hf3⟩
    refine ⟨h2.kept hf3,?_⟩
    have h3:=h2.rdr hf3 hr3
    simp +contextual -implicitDefEqProofs only [K6b,SS,rA,rS,rL,rE,reduceCtorEq]
    refine WC.callA (L1 h3.rd ver) rfl rfl ?_
    rintro _ T4 ⟨n,s4,rfl,hn64,hnv,-,ht4,hr4,hf4⟩
    refine ⟨h3.kept hf4,?_⟩
    have h4:=h3.rdr hf4 hr4
    obtain ⟨T5,g',ha,hov5,hG,h5,o5,n5,rfl,ho5⟩:=h4.app ⟨id,typ,n⟩ (by omega) (fun o e=>h.go o _ e)
    rw [show Gon.row ⟨id,typ,n⟩=[.str id,.str typ,.int .u64 (n:Int)] from rfl] at ha
    have hov5':=hov5
    unfold cV at hov5
    simp +contextual -implicitDefEqProofs only [K6b,SS,rA,rS,rL,rE,reduceCtorEq,w1,w2,w3,w4,w5,w6,w7,ha,hov5,b70 h0 (by omega)]
    refine WC.next (m':=rem - 1) (by omega) ⟨rem - 1,gs++[Gon.mk id typ n],.sl o5 0 n5 3,s4,rfl,by rw [List.length_append]; simp; omega,⟨h5,?_,⟨h.ln.1,h.ln.2.1,by rw [List.length_append]; simp; omega,h.ln.2.2.2⟩,h.so,h.fe,⟨h.ra.1,h.ra.2.1,h.ra.2.2.1,fun x hx=>?_,h.ra.2.2.2.2⟩,fun o n e=>by cases e; exact ho5⟩,rfl⟩
    · rw [b43,← List.append_assoc,← List.append_assoc]
      have:=h.tk.trans (ht2.trans (ht3.trans ht4))
      rw [List.append_assoc (W1 ver floor es ats)]
      exact this
    · rcases List.mem_append.1 hx with hx|hx
      · exact h.ra.2.2.2.1 x hx
      · rw [List.mem_singleton.1 hx]; exact hn64
 · simp +contextual -implicitDefEqProofs only [K6b,SS,rA,rS,rL,rE,reduceCtorEq,h0,decide_false]
   refine WC.leave ?_
   simp +contextual -implicitDefEqProofs only [K6b,SS,rA,rS,rL,rE,reduceCtorEq]
   refine b7V ⟨h.ls,?_,h.ln,h.so,h.fe,h.ra,h.go⟩ _ _ _ _ _ _ _
   rw [← c5K,show gs.length=m by omega]
   exact h.tk
end Go.Cb.CodeA
/- What functions of the abstract machine answer. No conditions but those that each theorem names. -/
set_option maxRecDepth 20000
set_option linter.unusedSimpArgs false
set_option linter.unusedVariables false
namespace Go.Cb.CodeA
open Go Go.Cb
open Nat renaming reduceAdd→rA,reduceSub→rS,reduceLeDiff→rL,reduceEqDiff→rE
attribute [local congr] p6 s8 t8 u9 r8 r9 B2 B3 V.runR_congr
theorem b3Y {es:List Ent} {e:Ent} (h:∀ y∈es,l8 y.id e.id=true):a0m es e=es++[e]:=by
 have hp:K4 e.id es=es.length:=a5p e.id es es.length (Nat.le_refl _) (fun k hk _=>h _ (List.getElem_mem hk)) (fun hh=>absurd hh (Nat.lt_irrefl _))
 have hh:T9 e.id es=false:=by rw [T9,hp,List.getElem?_eq_none (Nat.le_refl _)]
 rw [a0m,if_neg (by rw [hh]; decide),hp,List.take_length,List.drop_length]
theorem b1Q {es:List Ent} {e:Ent} (hs:U9 es) (h:∀ y∈es,l8 y.id e.id=true):U9 (es++[e]) :=
 List.pairwise_append.2 ⟨hs,List.pairwise_singleton _ _,fun y hy z hz=>by rw [List.mem_singleton.1 hz]; exact h y hy⟩
theorem b0x {a b:List Nat} (h:l8 a b=true):eqN b a=false:=by
 rcases U3 (eqN b a) with he|he
 · rw [(b0t b a).1 he,a7H] at h; cases h
 · exact he
theorem c1l {T:St} {mo:Nat} {M:List (AV×AV)} (h:T[mo]?=some (.map M)) (hM:∀ e∈M,∃ s,e.1=.str s) (id:List Nat) (x:Int):∃ M',(∀ call bx,H5 1 call [.map mo,.str id,.int .u64 x] bx T=some (.tuple [],bx,T.set mo (.map M')))∧(m2 1 (.str id) M 0=some none→M'=M++[(.str id,.int .u64 x)]):=by
 obtain ⟨z,hz⟩:=a5V id (.int .u64 x) M 0 hM
 cases z with
 | none =>
  refine ⟨M++[(.str id,.int .u64 x)],fun call bx=>?_,fun _=>rfl⟩
  have he:t6 1 (.str id) (.str id)=some (eqN id id):=rfl
  simp only [H5,AV.plain,if_true,h,hz,he,Option.bind_some]
  rfl
 | some p =>
  obtain ⟨i,v⟩:=p
  refine ⟨M.set i (.str id,.int .u64 x),fun call bx=>?_,fun e=>?_⟩
  · simp only [H5,AV.plain,if_true,h,hz]
    rfl
  · rw [hz] at e; cases e
theorem c3y {T:St} {mo:Nat} {M:List (AV×AV)} {id:List Nat} {x:Int} (h:T[mo]?=some (.map (M++[(.str id,.int .u64 x)]))) (hM:m2 1 (.str id) M 0=some none) (call:b6) (bx:AV):B7 1 [.int .u64 0] false false call [.map mo,.str id] bx T=some (.int .u64 x,bx,T):=by
 obtain ⟨j,hj⟩:=a5m id (.int .u64 x) M 0 hM
 unfold B7
 simp only [h,hj]
 rfl
theorem c2k (a b:List Nat):i7 .leq (.str a) (.str b)=some (.bool (l8 a b || eqN a b)):=b5 rfl
theorem c6q {T0:St} {vo mo ro a b:Nat} {T:St} {ver floor:Nat} {s:Option (List Nat)} {p:List Nat}
 (h:LD T0 vo mo ro (.ptr a b) T ver floor .nils [] [] .nils [] [] s p (wrU ver++wrU floor)) (x8 x9 x10 x11 x12 x13:AV) :
 WC (fun n'=>b9 (l3 tbl n') n' a6s97 [.ptr a b,.list false (m0 p),.nilp,.int .i64 0,.ptr vo 0,.int .i64 0,.ptr ro 0,.str [],x8,x9,x10,x11,x12,x13] T) (fun o'=>∃ r st',Go.Cb.finK a6.results (some o')=some (r,st')∧a3m T0 p r st'):=by
 unfold a6s97
 simp +contextual -implicitDefEqProofs only [K6b,SS,rA,rS,rL,rE,reduceCtorEq]
 refine WC.call (L1 h.ls.rd 200) rfl rfl ?_
 rintro _ T1 ⟨m,s1,rfl,-,hm,hz1,ht1,hr1,hf1⟩
 have h1:=h.ls.rdr hf1 hr1
 simp +contextual -implicitDefEqProofs only [K6b,SS,rA,rS,rL,rE,reduceCtorEq]
 refine WC.loopR (fun mm fr T'=>∃ (rem:Nat) (es:List Ent) (ats:List Nat) (v:AV) (s':Option (List Nat)) (last:List Nat) (y9:AV),mm=rem∧rem+es.length=m∧(∀ y∈es,l8 y.id last=true∨y.id=last)∧LD T0 vo mo ro (.ptr a b) T' ver floor v es ats .nils [] [] s' p (wrU ver++wrU floor++(wrU m++R8 es ats))∧fr=[.ptr a b,.list false (m0 p),.nilp,.int .i64 0,.ptr vo 0,.int .i64 0,.ptr ro 0,.str last,.int .u64 (rem:Int),y9,x10,x11,x12,x13]) (m:=m)
  ⟨m,[],[],.nils,s1,[],x9,rfl,rfl,by simp,⟨h1,by rw [show R8 [] []=[] from rfl,List.append_nil]; exact h.tk.trans ht1,h.ln,h.so,h.fe,h.ra,h.go⟩,rfl⟩ ?_
 clear h1 hf1 hr1 ht1 hz1 h
 rintro rem fr T ⟨_,es,ats,v,s,last,y9,rfl,hlen,hlast,h,rfl⟩
 simp +contextual -implicitDefEqProofs only [K6b,SS,rA,rS,rL,rE,reduceCtorEq,b6O]
 by_cases h0:0 < rem
 · simp +contextual -implicitDefEqProofs only [K6b,SS,rA,rS,rL,rE,reduceCtorEq,h0,decide_true]
   refine WC.call (a3C h.ls.rd) rfl rfl ?_
   rintro _ _ ⟨h7,rfl⟩
   replace h7:=h7.symm
   subst h7
   cases s with
   | none =>
    simp +contextual -implicitDefEqProofs only [K6b,SS,rA,rS,rL,rE,reduceCtorEq,Option.isNone_none,Bool.not_true]
    refine WC.leave ?_
    simp +contextual -implicitDefEqProofs only [K6b,SS,rA,rS,rL,rE,reduceCtorEq]
    exact b74 ⟨h.ls,Took.none,h.ln,h.so,h.fe,h.ra,h.go⟩ _ _ _ _ _ _ _
   | some q =>
    simp +contextual -implicitDefEqProofs only [K6b,SS,rA,rS,rL,rE,reduceCtorEq,Option.isNone_some,Bool.not_false]
    refine WC.call (b5Y h.ls.rd) rfl rfl ?_
    rintro _ T2 ⟨e,s2,rfl,hfe,ht2,hr2,hf2⟩
    have h2:=h.ls.rdr hf2 hr2
    have hov:=h2.ov
    unfold cV at hov
    have er:e.row=[.str e.t,.str e.id,.list false (e.ks.map v7),.list false (e.ls.map Val.row)]:=rfl
    rw [er]
    simp +contextual -implicitDefEqProofs only [K6b,SS,rA,rS,rL,rE,reduceCtorEq,a3j,a5u,hov,if_true]
    refine WC.callA (L1 h2.rd ver) rfl rfl ?_
    rintro _ T3 ⟨n,s3,rfl,hn64,-,-,ht3,hr3,hf3⟩
    refine ⟨h2.kept hf3,?_⟩
    have h3:=h2.rdr hf3 hr3
    obtain ⟨M',hms,hM'⟩:=c1l h3.om (a7m es ats) e.id (n:Int)
    have h4:=h3.setm M'
    have hov4:=h4.ov
    unfold cV at hov4
    obtain ⟨w1,w2,w3,w4,w5,w6,w7⟩:=h4.ev.wk
    simp +contextual -implicitDefEqProofs only [K6b,SS,rA,rS,rL,rE,reduceCtorEq,hms,hov4,w1,w2,w3,w4,w5,w6,w7]
    refine WC.call (b71 h4.ev) rfl (by simp only [List.map_cons,List.map_nil,a0V,w2]) ?_
    rintro _ _ ⟨h7,rfl⟩
    replace h7:=h7.symm
    subst h7
    have hl0:ltI 0 (es.length:Int)=decide (0 < es.length):=b6O _
    rcases U3 (decide (0 < es.length) && (l8 e.id last || eqN e.id last)) with hc|hc
    · simp +contextual -implicitDefEqProofs only [K6b,SS,rA,rS,rL,rE,reduceCtorEq,hl0,c2k,hc]
      refine WC.leaveR ?_
      simp +contextual -implicitDefEqProofs only [K6b,SS,rA,rS,rL,rE,reduceCtorEq]
      exact WC.ret ⟨_,_,rfl,h4.old,.inl rfl⟩
    · have hlt:∀ y∈es,l8 y.id e.id=true:=fun y hy=>by
       have hpos:0 < es.length:=List.length_pos_of_mem hy
       rw [Bool.and_eq_false_iff,Bool.or_eq_false_iff] at hc
       rcases hc with hc|⟨hc1,hc2⟩
       · rw [decide_eq_true hpos] at hc; cases hc
       · have hle:l8 last e.id=true:=by
          rcases U3 (l8 last e.id) with hx|hx
          · exact hx
          · have:=a7f e.id last hc1 hx
            rw [this,a0P] at hc2; cases hc2
         rcases hlast y hy with hy1|hy1
         · exact a0l _ _ _ hy1 hle
         · rw [hy1]; exact hle
      have hnone:=a6Z e.id es ats 0 fun y hy=>b0x (hlt y hy)
      obtain rfl:=hM' hnone
      have hmg:=c3y h4.om hnone
      have hn0:eqI (n:Int) 0=decide (n=0):=by rw [eqD]; exact decide_eq_decide.2 (by omega)
      simp +contextual -implicitDefEqProofs only [K6b,SS,rA,rS,rL,rE,reduceCtorEq,hl0,c2k,hc,hov4,hmg,hn0]
      by_cases hz:n=0
      · have ho:=h4.old
        rw [hz] at ho
        simp +contextual -implicitDefEqProofs only [K6b,SS,rA,rS,rL,rE,reduceCtorEq,hz,decide_true]
        refine WC.leaveR ?_
        simp +contextual -implicitDefEqProofs only [K6b,SS,rA,rS,rL,rE,reduceCtorEq]
        exact WC.ret ⟨_,_,rfl,ho,.inl rfl⟩
      · have hwq:=c2m h4.ev h.so (by have:=h.ln; omega) e
        rw [er] at hwq
        simp +contextual -implicitDefEqProofs only [K6b,SS,rA,rS,rL,rE,reduceCtorEq,hz,decide_false,hov4,w1,w2,w3,w4,w5,w6,w7]
        refine WC.call hwq rfl (by simp only [List.map_cons,List.map_nil,a0V,w2]; rfl) ?_
        rintro _ T5 ⟨v',rfl,hev5,hg5⟩
        have h5:=h4.gr hg5
        have hov5:=h5.ov
        unfold cV at hov5
        obtain ⟨u1,u2,u3,u4,u5,u6,u7⟩:=hev5.wk
        simp +contextual -implicitDefEqProofs only [K6b,SS,rA,rS,rL,rE,reduceCtorEq,hov5,u1,u2,u3,u4,u5,u6,u7,b70 h0 (by omega)]
        have h6:=h5.setv (ver':=ver) (floor':=floor) (cs':=[]) hev5
        rw [b3Y hlt,← a8w es ats e n h.ln.1] at h6
        refine WC.next (m':=rem - 1) (by omega) ⟨rem - 1,es++[e],ats++[n],v',s3,e.id,_,rfl,by rw [List.length_append]; simp; omega,fun y hy=>?_,⟨h6,?_,⟨by rw [List.length_append,List.length_append,h.ln.1]; rfl,by rw [List.length_append]; simp; omega,h.ln.2.2⟩,b1Q h.so hlt,fun y hy=>?_,⟨h.ra.1,h.ra.2.1,fun x hx=>?_,h.ra.2.2.2⟩,fun o n e=>by cases e⟩,rfl⟩
        · rcases List.mem_append.1 hy with hy|hy
          · exact .inl (hlt y hy)
          · rw [List.mem_singleton.1 hy]; exact .inr rfl
        · rw [a6d es ats e n h.ln.1,← List.append_assoc,← List.append_assoc]
          have:=h.tk.trans (ht2.trans ht3)
          simpa only [List.append_assoc] using this
        · rcases List.mem_append.1 hy with hy|hy
          · exact h.fe y hy
          · rw [List.mem_singleton.1 hy]; exact hfe
        · rcases List.mem_append.1 hx with hx|hx
          · exact h.ra.2.2.1 x hx
          · rw [List.mem_singleton.1 hx]; exact hn64
 · simp +contextual -implicitDefEqProofs only [K6b,SS,rA,rS,rL,rE,reduceCtorEq,h0,decide_false]
   refine WC.leave ?_
   simp +contextual -implicitDefEqProofs only [K6b,SS,rA,rS,rL,rE,reduceCtorEq]
   refine b74 ⟨h.ls,?_,h.ln,h.so,h.fe,h.ra,h.go⟩ _ _ _ _ _ _ _
   have ht:=h.tk
   rw [← show es.length=m by omega] at ht
   unfold W1
   simpa only [List.append_assoc] using ht
theorem c1s {T0:St} {a b:Nat} {p:List Nat} (hp:By p):EvQ tbl 6 [.ptr a b,.list false (m0 p)] T0 (a3m T0 p):=by
 have hn:=c4E (a:=a) (b:=b) T0
 refine EvQ.body (fn:=a6) rfl rfl rfl ?_
 simp +contextual -implicitDefEqProofs only [K6b,SS,rA,rS,rL,rE,reduceCtorEq]
 refine WC.call hn rfl rfl ?_
 rintro _ _ ⟨rfl,rfl⟩
 simp +contextual -implicitDefEqProofs only [K6b,SS,rA,rS,rL,rE,reduceCtorEq,show eqI 0 0=true from rfl,Bool.not_true]
 refine WC.call (c4i _) rfl rfl ?_
 rintro _ T1 ⟨rfl,rfl⟩
 have h1:=b2j (T0:=T0) (a:=a) (b:=b) hp
 have hro:(T0++[Cb.Obj.map []]++[Cb.Obj.cells (cV (.ptr a b) 0 0 .nils T0.length .nils [])]).length=T0.length+2:=by simp
 rw [hro]
 revert h1
 generalize T0++[Cb.Obj.map []]++[Cb.Obj.cells (cV (.ptr a b) 0 0 .nils T0.length .nils [])]++[rdO p false]=T1
 generalize T0.length+1=vo
 generalize T0.length+2=ro
 generalize T0.length=mo
 intro h1
 have hu1:=L1 h1.rd 1152921504606846976
 simp +contextual -implicitDefEqProofs only [K6b,SS,rA,rS,rL,rE,reduceCtorEq]
 refine WC.call hu1 rfl rfl ?_
 rintro _ T2 ⟨ver,s2,rfl,hv64,-,-,ht2,hr2,hf2⟩
 have h2:=h1.rdr hf2 hr2
 have hov:=h2.ov
 unfold cV at hov
 have hsg:∀ y:Cb.Obj,(T2.set vo y)[vo]?=some y:=fun y=>M8 hov
 have h3:=h2.setv (ver':=ver) (floor':=0) (cs':=[]) h2.ev
 have hu3:=L1 h3.rd ver
 unfold cV at hu3
 simp +contextual -implicitDefEqProofs only [K6b,SS,rA,rS,rL,rE,reduceCtorEq,hov,hsg]
 refine WC.call hu3 rfl rfl ?_
 rintro _ T4 ⟨floor,s4,rfl,hw64,-,-,ht4,hr4,hf4⟩
 have h4:=h3.rdr hf4 hr4
 have hov4:=h4.ov
 unfold cV at hov4
 have h5:=h4.setv (ver':=ver) (floor':=floor) (cs':=[]) h4.ev
 simp +contextual -implicitDefEqProofs only [K6b,SS,rA,rS,rL,rE,reduceCtorEq,hov4]
 exact c6q ⟨h5,ht2.trans ht4,⟨rfl,by simp,by simp,by simp⟩,List.Pairwise.nil,by simp,⟨hv64,hw64,by simp,by simp,by simp⟩,fun o n e=>by cases e⟩ _ _ _ _ _ _
end Go.Cb.CodeA
set_option maxRecDepth 20000
set_option linter.unusedSimpArgs false
set_option linter.unusedVariables false
namespace Go.Cb.CodeA
open Go Go.Cb
open Nat renaming reduceAdd→rA,reduceSub→rS,reduceLeDiff→rL,reduceEqDiff→rE
attribute [local congr] p6 s8 t8 u9 r8 r9 B2 B3 V.runR_congr
/-- a writer: what was laid -/
def wrO (q:List Nat):Cb.Obj:=.cells [.list true (m0 q)]
structure Wr (T:St) (o:Nat) (q:List Nat):Prop where
 ow:T[o]?=some (wrO q)
theorem Wr.set {T:St} {o:Nat} {q q':List Nat} (h:Wr T o q):Wr (T.set o (wrO q')) o q':=⟨M8 h.ow⟩
theorem a2M (a b:List Nat):m0 (a++b)=m0 a++m0 b:=by unfold m0; rw [List.map_append]
def t7 (q w:List Nat):Prop:=q.length+w.length≤2 ^ 40
def WrP (T:St) (o:Nat) (q w:List Nat) (r:AV) (T':St):Prop:=r=.ptr o 0∧Wr T' o (q++w)∧Fr o T T'
theorem b9c (n:Nat):0 < (wrU n).length:=by
 rcases Nat.lt_or_ge n 128 with h|h
 · rw [a8G h]; simp
 · rw [a8i h]; simp
theorem F9 {T:St} {o:Nat} {q:List Nat} (h:Wr T o q) {n:Nat} (hn:n < 2 ^ 64) (hs:t7 q (wrU n)):EvQ tbl 27 [.ptr o 0,.int .u64 (n:Int)] T (WrP T o q (wrU n)):=by
 unfold t7 at hs
 refine EvQ.body (fn:=a27) rfl rfl rfl ?_
 simp +contextual -implicitDefEqProofs only [K27,SS,rA,rS,rL,rE,reduceCtorEq]
 refine WC.loopR (fun mm fr T'=>∃ (k:Nat) (q':List Nat),mm=k∧k < 2 ^ 64∧q++wrU n=q'++wrU k∧Wr T' o q'∧Fr o T T'∧fr=[.ptr o 0,.int .u64 (k:Int),.nilp]) (m:=n) ⟨n,q,rfl,hn,rfl,h,Fr.refl _ _,rfl⟩ ?_
 rintro k fr T1 ⟨_,q',rfl,hk,heq,hw,hf,rfl⟩
 have hle:ltI (k:Int) 128=decide (k < 128):=by rw [ltI_eq]; exact decide_eq_decide.2 (by omega)
 have how:=hw.ow
 unfold wrO at how
 have hro:=a0K q'
 have hsg:∀ y:Cb.Obj,(T1.set o y)[o]?=some y:=fun y=>M8 how
 have hlen:q'.length+(wrU k).length≤2 ^ 40:=by
  have:=congrArg List.length heq
  rw [List.length_append,List.length_append] at this
  omega
 have hpos:=b9c k
 have hsz:decide ((q'.length+1)*1≤2 ^ 47)=true:=decide_eq_true (by omega)
 have e1:=c9M k
 simp +contextual -implicitDefEqProofs only [K27,SS,rA,rS,rL,rE,reduceCtorEq,hle]
 by_cases h128:k < 128
 · have e2:((k % 256:Nat):Int)=(k:Int):=by omega
   simp +contextual -implicitDefEqProofs only [K27,SS,rA,rS,rL,rE,reduceCtorEq,h128,decide_true,Bool.not_true]
   refine WC.leave ?_
   simp +contextual -implicitDefEqProofs only [K27,SS,rA,rS,rL,rE,reduceCtorEq,how,e1,hro,G8,hsz,hsg,List.set_set]
   refine WC.ret ⟨_,_,rfl,rfl,?_,hf.trans (Fr.set o T1 _)⟩
   have h9:wrO (q++wrU n)=.cells [.list true (m0 q'++[[.int .u8 ((k % 256:Nat):Int)]])]:=by
    rw [heq,a8G h128,wrO,a2M,e2]; rfl
   rw [← h9]
   exact hw.set
 · have e3:=c6w (b:=k % 256) (by omega)
   have e4:k % 256 % 128+128=k % 128+128:=by omega
   rw [e4] at e3
   have e5:=d05 k
   simp +contextual -implicitDefEqProofs only [K27,SS,rA,rS,rL,rE,reduceCtorEq,h128,decide_false,Bool.not_false,how,e1,e3,e5,hro,G8,hsz,hsg,List.set_set]
   refine WC.next (m':=k / 128) (by omega) ⟨k / 128,q'++[k % 128+128],rfl,by omega,?_,?_,hf.trans (Fr.set o T1 _),rfl⟩
   · rw [heq,a8i (show 128≤k by omega),List.append_assoc]; rfl
   · have h9:wrO (q'++[k % 128+128])=.cells [.list true (m0 q'++[[.int .u8 ((k % 128+128:Nat):Int)]])]:=by
      rw [wrO,a2M]; rfl
     rw [← h9]
     exact hw.set
theorem b3A {T:St} {o:Nat} {q:List Nat} (h:Wr T o q) {n:Int} (h1:-2 ^ 63≤n) (h2:n < 2 ^ 63) (hs:t7 q (wrI n)):EvQ tbl 31 [.ptr o 0,.int .i64 n] T (WrP T o q (wrI n)):=by
 obtain ⟨x,hx,hx2⟩:=c8k h1 h2
 have e2:=c9t h1 h2
 have e3:=c62 h1 h2
 have hz:zig n < 2 ^ 64:=by unfold zig; split <;> omega
 have hu:=F9 h hz hs
 refine EvQ.body (fn:=a31) rfl rfl rfl ?_
 simp +contextual -implicitDefEqProofs only [K31,SS,rA,rS,rL,rE,reduceCtorEq,hx,hx2,e2,e3]
 refine WC.call hu rfl rfl ?_
 rintro _ T1 ⟨rfl,hw,hf⟩
 simp +contextual -implicitDefEqProofs only [K31,SS,rA,rS,rL,rE,reduceCtorEq]
 exact WC.ret ⟨_,_,rfl,rfl,hw,hf⟩
theorem a0D {T:St} {o:Nat} {q:List Nat} (h:Wr T o q) {s:List Nat} (hs:t7 q (wrT s)):EvQ tbl 30 [.ptr o 0,.str s] T (WrP T o q (wrT s)):=by
 have hs':q.length+((wrU s.length).length+s.length)≤2 ^ 40:=by
  unfold t7 wrT at hs; rw [List.length_append] at hs; exact hs
 have e1:l4 .u64 ((s.length:Nat):Int)=((s.length:Nat):Int):=Z0 (by omega)
 have hu:=F9 h (n:=s.length) (by omega) (show t7 q (wrU s.length) by unfold t7; omega)
 refine EvQ.body (fn:=a30) rfl rfl rfl ?_
 simp +contextual -implicitDefEqProofs only [K30,SS,rA,rS,rL,rE,reduceCtorEq,e1]
 refine WC.call hu rfl rfl ?_
 rintro _ T1 ⟨rfl,hw,hf⟩
 have how:=hw.ow
 unfold wrO at how
 have hro:=a0K (q++wrU s.length)
 have hsg:∀ y:Cb.Obj,(T1.set o y)[o]?=some y:=fun y=>M8 how
 have hsz:decide (((q++wrU s.length).length+s.length)*1≤2 ^ 47)=true:=decide_eq_true (by rw [List.length_append]; omega)
 simp +contextual -implicitDefEqProofs only [K30,SS,rA,rS,rL,rE,reduceCtorEq,how,hro,G8,hsz,hsg,List.set_set]
 refine WC.ret ⟨_,_,rfl,rfl,?_,hf.trans (Fr.set o T1 _)⟩
 have h9:wrO (q++wrT s)=.cells [.list true (m0 (q++wrU s.length)++s.map U1)]:=by
  rw [wrO,wrT,← List.append_assoc,a2M (q++wrU s.length)]; rfl
 rw [← h9]
 exact hw.set
end Go.Cb.CodeA
/- What functions of the abstract machine answer. No conditions but those that each theorem names. -/
set_option maxRecDepth 20000
set_option linter.unusedSimpArgs false
set_option linter.unusedVariables false
namespace Go.Cb.CodeA
open Go Go.Cb
open Nat renaming reduceAdd→rA,reduceSub→rS,reduceLeDiff→rL,reduceEqDiff→rE
attribute [local congr] p6 s8 t8 u9 r8 r9 B2 B3 V.runR_congr
theorem a6H:∀ a b:List Val,D9 (a++b)=D9 a++D9 b
 | [],b=>by simp [D9]
 | x::a,b=>by rw [List.cons_append,D9,D9,a6H a b,List.append_assoc]
theorem a8n:∀ (k1 k2:List (List Nat)) (l1 l2:List Val),k1.length=l1.length→C4 (k1++k2) (l1++l2)=C4 k1 l1++C4 k2 l2
 | [],k2,[],l2,_=>by simp [C4]
 | x::k1,k2,y::l1,l2,h=>by
  rw [List.cons_append,List.cons_append,C4,C4,a8n k1 k2 l1 l2 (by simpa using h)]
  simp only [List.append_assoc]
 | [],_,_::_,_,h=>by simp at h
 | _::_,_,[],_,h=>by simp at h
theorem b9C {ls:List Val} {i:Nat} (h:i < ls.length):D9 (ls.take (i+1))=D9 (ls.take i)++ls[i].wr∧(D9 (ls.take i)).length+ls[i].wr.length≤(D9 ls).length:=by
 have e1:ls.take (i+1)=ls.take i++[ls[i]]:=by rw [List.take_add_one,List.getElem?_eq_getElem h]; rfl
 have e2:ls=ls.take i++(ls[i]::ls.drop (i+1)):=by rw [← List.drop_eq_getElem_cons h,List.take_append_drop]
 refine ⟨by rw [e1,a2R],?_⟩
 have:=congrArg (fun l=>(D9 l).length) e2
 simp only [a6H,D9,List.length_append] at this
 omega
theorem b9r {ks:List (List Nat)} {ls:List Val} {i:Nat} (hk:ks.length=ls.length) (h:i < ls.length) (h':i < ks.length):C4 (ks.take (i+1)) (ls.take (i+1))=C4 (ks.take i) (ls.take i)++(wrT ks[i]++ls[i].wr)∧(C4 (ks.take i) (ls.take i)).length+((wrT ks[i]).length+ls[i].wr.length)≤(C4 ks ls).length:=by
 have e1:ls.take (i+1)=ls.take i++[ls[i]]:=by rw [List.take_add_one,List.getElem?_eq_getElem h]; rfl
 have f1:ks.take (i+1)=ks.take i++[ks[i]]:=by rw [List.take_add_one,List.getElem?_eq_getElem h']; rfl
 have e2:ls=ls.take i++(ls[i]::ls.drop (i+1)):=by rw [← List.drop_eq_getElem_cons h,List.take_append_drop]
 have f2:ks=ks.take i++(ks[i]::ks.drop (i+1)):=by rw [← List.drop_eq_getElem_cons h',List.take_append_drop]
 have hl:(ks.take i).length=(ls.take i).length:=by rw [List.length_take,List.length_take,hk]
 refine ⟨by rw [e1,f1,a2Y _ _ _ _ hl],?_⟩
 have h3:C4 ks ls=C4 (ks.take i) (ls.take i)++(wrT ks[i]++(ls[i].wr++C4 (ks.drop (i+1)) (ls.drop (i+1)))):=by
  conv=>lhs; rw [e2,f2]
  rw [a8n _ _ _ _ hl,C4]
 rw [h3,List.length_append,List.length_append,List.length_append]
 omega
theorem b7D {v:Val} (hv:v.Fine):∀ {T:St} {o:Nat} {q:List Nat},Wr T o q→t7 q v.wr→EvQ tbl 61 [.ptr o 0,.agg v.row] T (WrP T o q v.wr):=by
 induction hv with
 | mk k n s ks ls hk hn hs h6 hks hls hkl h ih =>
  intro T o q hw hsm
  obtain ⟨k,rfl⟩:∃ j:Nat,k=j:=⟨k.toNat,by omega⟩
  have k1:eqI (k:Int) 1=decide (k=1):=eqK k 1
  have k3:eqI (k:Int) 3=decide (k=3):=eqK k 3
  have k2:eqI (k:Int) 2=decide (k=2):=eqK k 2
  have k4:eqI (k:Int) 4=decide (k=4):=eqK k 4
  have k7:eqI (k:Int) 7=decide (k=7):=eqK k 7
  have k8:eqI (k:Int) 8=decide (k=8):=eqK k 8
  have k5:eqI (k:Int) 5=decide (k=5):=eqK k 5
  have k6:eqI (k:Int) 6=decide (k=6):=eqK k 6
  have hku:l4 .u64 (k:Int)=(k:Int):=Z0 (by omega)
  rw [Val.row_eq]
  have hk0:t7 q (wrU k):=by
   unfold t7 at hsm ⊢
   have:(wrU k).length≤(Val.mk (k:Int) n s ks ls).wr.length:=by
    obtain ⟨z,e⟩:∃ z,(Val.mk (k:Int) n s ks ls).wr=wrU k++z:=⟨_,by rw [Val.wr,Int.toNat_natCast]⟩
    rw [e,List.length_append]; omega
   omega
  refine EvQ.body (fn:=a61) rfl rfl rfl ?_
  simp +contextual -implicitDefEqProofs only [K61,SS,rA,rS,rL,rE,reduceCtorEq,hku]
  refine WC.call (F9 hw (n:=k) (by omega) hk0) rfl rfl ?_
  rintro _ T1 ⟨rfl,hw1,hf1⟩
  simp +contextual -implicitDefEqProofs only [K61,SS,rA,rS,rL,rE,reduceCtorEq]
  by_cases cA:k=1∨k=3
  · have hwr:=b6M n s ks ls cA
    have hsm2:t7 (q++wrU k) (wrI n):=by rw [hwr] at hsm; unfold t7 at hsm ⊢; rw [List.length_append] at hsm ⊢; omega
    rw [hwr]
    rcases cA with rfl|rfl
    all_goals
     simp +contextual -implicitDefEqProofs only [K61,SS,rA,rS,rL,rE,reduceCtorEq,k1,k3,decide_true,decide_false]
     refine WC.call (b3A hw1 hn.1 hn.2 hsm2) rfl rfl ?_
     rintro _ T2 ⟨rfl,hw2,hf2⟩
     simp +contextual -implicitDefEqProofs only [K61,SS,rA,rS,rL,rE,reduceCtorEq]
     exact WC.ret ⟨_,_,rfl,rfl,by rw [← List.append_assoc]; exact hw2,hf1.trans hf2⟩
  have f1:eqI (k:Int) 1=false:=k1.trans (decide_eq_false (by omega))
  have f3:eqI (k:Int) 3=false:=k3.trans (decide_eq_false (by omega))
  by_cases cT:k=2∨k=4∨k=7∨k=8
  · have hwr:=c2c n s ks ls cT
    have hsm2:t7 (q++wrU k) (wrT s):=by rw [hwr] at hsm; unfold t7 at hsm ⊢; rw [List.length_append] at hsm ⊢; omega
    rw [hwr]
    rcases cT with rfl|rfl|rfl|rfl
    all_goals
     simp +contextual -implicitDefEqProofs only [K61,SS,rA,rS,rL,rE,reduceCtorEq,f1,f3,k2,k4,k7,k8,decide_true,decide_false]
     refine WC.call (a0D hw1 hsm2) rfl rfl ?_
     rintro _ T2 ⟨rfl,hw2,hf2⟩
     simp +contextual -implicitDefEqProofs only [K61,SS,rA,rS,rL,rE,reduceCtorEq]
     exact WC.ret ⟨_,_,rfl,rfl,by rw [← List.append_assoc]; exact hw2,hf1.trans hf2⟩
  have f2:eqI (k:Int) 2=false:=k2.trans (decide_eq_false (by omega))
  have f4:eqI (k:Int) 4=false:=k4.trans (decide_eq_false (by omega))
  have f7:eqI (k:Int) 7=false:=k7.trans (decide_eq_false (by omega))
  have f8:eqI (k:Int) 8=false:=k8.trans (decide_eq_false (by omega))
  have hlu:l4 .u64 ((ls.length:Nat):Int)=((ls.length:Nat):Int):=Z0 (by omega)
  by_cases c5:k=5
  · have f5:eqI (k:Int) 5=true:=k5.trans (decide_eq_true c5)
    have f6:eqI (k:Int) 6=false:=k6.trans (decide_eq_false (by omega))
    have hwr:=c1z n s ks ls c5
    rw [hwr] at hsm ⊢
    have hs1:(q++wrU k).length+(wrU ls.length).length+(D9 ls).length≤2 ^ 40:=by unfold t7 at hsm; simp only [List.length_append] at hsm ⊢; omega
    simp +contextual -implicitDefEqProofs only [K61,SS,rA,rS,rL,rE,reduceCtorEq,f1,f2,f3,f4,f5,f7,f8,List.length_map,hlu]
    refine WC.call (F9 hw1 (n:=ls.length) (by omega) (by unfold t7; omega)) rfl rfl ?_
    rintro _ T2 ⟨rfl,hw2,hf2⟩
    simp +contextual -implicitDefEqProofs only [K61,SS,rA,rS,rL,rE,reduceCtorEq,List.length_map]
    refine WC.loopR (fun mm fr T'=>∃ (i:Nat) (x4 x5:AV),i≤ls.length∧mm=ls.length - i∧Wr T' o (q++wrU k++wrU ls.length++D9 (ls.take i))∧Fr o T T'∧fr=[.ptr o 0,.agg [.int .u8 (k:Int),.int .i64 n,.str s,.list false (ks.map v7),.list false (ls.map Val.row)],.box [.int .u8 (k:Int),.int .i64 n,.str s,.list false (ks.map v7),.list false (ls.map Val.row)],.nilp,x4,x5,.int .u8 (k:Int),.bool false,.bool false,.bool true,.list false (ls.map Val.row),.int .i64 (ls.length:Int),.int .i64 (i:Int)]) (m:=ls.length)
     ⟨0,_,_,Nat.zero_le _,rfl,by rw [show D9 (ls.take 0)=[] by simp [D9],List.append_nil]; exact hw2,hf1.trans hf2,rfl⟩ ?_
    rintro mm fr T3 ⟨i,x4,x5,hi,rfl,hw3,hf3,rfl⟩
    simp +contextual -implicitDefEqProofs only [K61,SS,rA,rS,rL,rE,reduceCtorEq,ltN]
    by_cases hil:i < ls.length
    · have hat:=b4j hil
      obtain ⟨e1,e2⟩:=b9C hil
      have hq:=ih _ (List.getElem_mem hil) hw3 (by unfold t7; simp only [List.length_append] at hs1 ⊢; omega)
      obtain ⟨k',n',s',xs,ys,er⟩:=(ls[i]).row_cells
      revert hat e1 e2 hq er
      generalize ls[i]=x
      intro hat e1 e2 hq er
      rw [er] at hat hq
      simp +contextual -implicitDefEqProofs only [K61,SS,rA,rS,rL,rE,reduceCtorEq,hil,hat,f6]
      refine WC.call hq rfl rfl ?_
      rintro _ T4 ⟨rfl,hw4,hf4⟩
      simp +contextual -implicitDefEqProofs only [K61,SS,rA,rS,rL,rE,reduceCtorEq,K9 (show i+1 < 2 ^ 63 by omega)]
      exact WC.next (m':=ls.length - (i+1)) (by omega) ⟨i+1,_,_,hil,rfl,by rw [e1,← List.append_assoc]; exact hw4,hf3.trans hf4,rfl⟩
    · obtain rfl:i=ls.length:=by omega
      simp +contextual -implicitDefEqProofs only [K61,SS,rA,rS,rL,rE,reduceCtorEq,hil]
      refine WC.leave ?_
      simp +contextual -implicitDefEqProofs only [K61,SS,rA,rS,rL,rE,reduceCtorEq]
      refine WC.ret ⟨_,_,rfl,rfl,?_,hf3⟩
      rw [List.take_length] at hw3
      rw [← List.append_assoc,← List.append_assoc]
      exact hw3
  have f5:eqI (k:Int) 5=false:=k5.trans (decide_eq_false c5)
  by_cases c6:k=6
  · have f6:eqI (k:Int) 6=true:=k6.trans (decide_eq_true c6)
    have hkl2:ks.length=ls.length:=h6 (by rw [c6]; rfl)
    have hwr:=c2a n s ks ls c6
    rw [hwr] at hsm ⊢
    have hs1:(q++wrU k).length+(wrU ls.length).length+(C4 ks ls).length≤2 ^ 40:=by unfold t7 at hsm; simp only [List.length_append] at hsm ⊢; omega
    simp +contextual -implicitDefEqProofs only [K61,SS,rA,rS,rL,rE,reduceCtorEq,f1,f2,f3,f4,f5,f6,f7,f8,List.length_map,hlu]
    refine WC.call (F9 hw1 (n:=ls.length) (by omega) (by unfold t7; omega)) rfl rfl ?_
    rintro _ T2 ⟨rfl,hw2,hf2⟩
    simp +contextual -implicitDefEqProofs only [K61,SS,rA,rS,rL,rE,reduceCtorEq,List.length_map]
    refine WC.loopR (fun mm fr T'=>∃ (i:Nat) (x4 x5:AV),i≤ls.length∧mm=ls.length - i∧Wr T' o (q++wrU k++wrU ls.length++C4 (ks.take i) (ls.take i))∧Fr o T T'∧fr=[.ptr o 0,.agg [.int .u8 (k:Int),.int .i64 n,.str s,.list false (ks.map v7),.list false (ls.map Val.row)],.box [.int .u8 (k:Int),.int .i64 n,.str s,.list false (ks.map v7),.list false (ls.map Val.row)],.nilp,x4,x5,.int .u8 (k:Int),.bool false,.bool false,.bool true,.list false (ls.map Val.row),.int .i64 (ls.length:Int),.int .i64 (i:Int)]) (m:=ls.length)
     ⟨0,_,_,Nat.zero_le _,rfl,by rw [show C4 (ks.take 0) (ls.take 0)=[] by simp [C4],List.append_nil]; exact hw2,hf1.trans hf2,rfl⟩ ?_
    rintro mm fr T3 ⟨i,x4,x5,hi,rfl,hw3,hf3,rfl⟩
    simp +contextual -implicitDefEqProofs only [K61,SS,rA,rS,rL,rE,reduceCtorEq,ltN]
    by_cases hil:i < ls.length
    · have hik:i < ks.length:=by omega
      have hat:=b4j hil
      have hatk:=a8F hik
      obtain ⟨e1,e2⟩:=b9r hkl2 hil hik
      have hq:∀ {T:St} {o:Nat} {q:List Nat},Wr T o q→t7 q (ls[i]).wr→EvQ tbl 61 [.ptr o 0,.agg (ls[i]).row] T (WrP T o q (ls[i]).wr):=ih _ (List.getElem_mem hil)
      obtain ⟨k',n',s',xs,ys,er⟩:=(ls[i]).row_cells
      revert hat hatk e1 e2 hq er
      generalize ls[i]=x
      generalize ks[i]=y
      intro hat hatk e1 e2 hq er
      rw [er] at hat hq
      simp +contextual -implicitDefEqProofs only [K61,SS,rA,rS,rL,rE,reduceCtorEq,hil,hat,hatk,f6]
      refine WC.call (a0D hw3 (by unfold t7; simp only [List.length_append] at hs1 ⊢; omega)) rfl rfl ?_
      rintro _ T4 ⟨rfl,hw4,hf4⟩
      have hq4:=hq hw4 (by unfold t7; simp only [List.length_append] at hs1 ⊢; omega)
      simp +contextual -implicitDefEqProofs only [K61,SS,rA,rS,rL,rE,reduceCtorEq]
      refine WC.call hq4 rfl rfl ?_
      rintro _ T5 ⟨rfl,hw5,hf5⟩
      simp +contextual -implicitDefEqProofs only [K61,SS,rA,rS,rL,rE,reduceCtorEq,K9 (show i+1 < 2 ^ 63 by omega)]
      exact WC.next (m':=ls.length - (i+1)) (by omega) ⟨i+1,_,_,hil,rfl,by rw [e1,← List.append_assoc,← List.append_assoc]; exact hw5,(hf3.trans hf4).trans hf5,rfl⟩
    · obtain rfl:i=ls.length:=by omega
      simp +contextual -implicitDefEqProofs only [K61,SS,rA,rS,rL,rE,reduceCtorEq,hil]
      refine WC.leave ?_
      simp +contextual -implicitDefEqProofs only [K61,SS,rA,rS,rL,rE,reduceCtorEq]
      refine WC.ret ⟨_,_,rfl,rfl,?_,hf3⟩
      rw [List.take_length,List.take_of_length_le (by omega)] at hw3
      rw [← List.append_assoc,← List.append_assoc]
      exact hw3
  have f6:eqI (k:Int) 6=false:=k6.trans (decide_eq_false c6)
  have hwr:=c2x n s ks ls (show k=0 by omega)
  rw [hwr]
  simp +contextual -implicitDefEqProofs only [K61,SS,rA,rS,rL,rE,reduceCtorEq,f1,f2,f3,f4,f5,f6,f7,f8]
  exact WC.ret ⟨_,_,rfl,rfl,hw1,hf1⟩
theorem b3S {e:Ent} (he:e.Fine) {T:St} {o:Nat} {q:List Nat} (hw:Wr T o q) (hsm:t7 q e.wr):EvQ tbl 29 [.ptr o 0,.agg e.row] T (WrP T o q e.wr):=by
 have er:e.row=[.str e.t,.str e.id,.list false (e.ks.map v7),.list false (e.ls.map Val.row)]:=rfl
 rw [er]
 have hs1:q.length+((wrT e.t).length+((wrT e.id).length+(Val.mk 6 0 [] e.ks e.ls).wr.length))≤2 ^ 40:=by
  unfold t7 Ent.wr at hsm; simp only [List.length_append] at hsm; exact hsm
 refine EvQ.body (fn:=a29) rfl rfl rfl ?_
 simp +contextual -implicitDefEqProofs only [K29,SS,rA,rS,rL,rE,reduceCtorEq]
 refine WC.call (a0D hw (by unfold t7; omega)) rfl rfl ?_
 rintro _ T1 ⟨rfl,hw1,hf1⟩
 simp +contextual -implicitDefEqProofs only [K29,SS,rA,rS,rL,rE,reduceCtorEq]
 refine WC.call (a0D hw1 (by unfold t7; simp only [List.length_append]; omega)) rfl rfl ?_
 rintro _ T2 ⟨rfl,hw2,hf2⟩
 have hv:=b7D he.v hw2 (by unfold t7; simp only [List.length_append]; omega)
 rw [Val.row_eq] at hv
 simp +contextual -implicitDefEqProofs only [K29,SS,rA,rS,rL,rE,reduceCtorEq]
 refine WC.call hv rfl rfl ?_
 rintro _ T3 ⟨rfl,hw3,hf3⟩
 simp +contextual -implicitDefEqProofs only [K29,SS,rA,rS,rL,rE,reduceCtorEq]
 refine WC.ret ⟨_,_,rfl,rfl,?_,(hf1.trans hf2).trans hf3⟩
 unfold Ent.wr
 rw [← List.append_assoc,← List.append_assoc]
 exact hw3
end Go.Cb.CodeA
set_option maxRecDepth 20000
set_option linter.unusedSimpArgs false
set_option linter.unusedVariables false
namespace Go.Cb.CodeA
open Go Go.Cb
open Nat renaming reduceAdd→rA,reduceSub→rS,reduceLeDiff→rL,reduceEqDiff→rE
attribute [local congr] p6 s8 t8 u9 r8 r9 B2 B3 V.runR_congr
theorem b59 (q:List Nat) (hq:q.length≤2 ^ 40) (T:St):EvQ tbl 62 [.list false (m0 q)] T (fun r T'=>r=.list true (m0 q)∧T'=T):=by
 refine EvQ.of_ext (fn:=a62) (e:=N1 1 1) (r:=(.list true (m0 q),T)) rfl rfl ?_ ⟨rfl,rfl⟩
 unfold N1
 dsimp only
 rw [if_pos (by rw [a0K,G8,Bool.true_and]; exact decide_eq_true (by omega))]
theorem c4v {T:St} {o:Nat} {q:List Nat} (hw:Wr T o q) (hq:q.length≤2 ^ 40):EvQ tbl 32 [.ptr o 0] T (fun r T'=>r=.list false (m0 q)∧T'=T):=by
 have how:=hw.ow
 unfold wrO at how
 refine EvQ.body (fn:=a32) rfl rfl rfl ?_
 simp +contextual -implicitDefEqProofs only [K32,SS,rA,rS,rL,rE,reduceCtorEq,how]
 refine WC.call (b59 q hq T) rfl rfl ?_
 rintro _ _ ⟨rfl,h7⟩
 replace h7:=h7.symm
 subst h7
 simp +contextual -implicitDefEqProofs only [K32,SS,rA,rS,rL,rE,reduceCtorEq]
 exact WC.ret ⟨_,_,rfl,rfl,rfl⟩
theorem b49:∀ {es:List Ent} {ats:List Nat},U9 es→es.length=ats.length→∀ (i:Nat) (hi:i < es.length) (hi':i < ats.length) (j0:Nat),∃ j,m2 1 (.str es[i].id) (mpM es ats) j0=some (some (j,.int .u64 (ats[i]:Int)))
 | [],_,_,_,i,hi,_,_=>absurd hi (by simp)
 | e::es,[],_,h,_,_,_,_=>by simp at h
 | e::es,a::ats,hs,h,0,_,_,j0=>by
  have he:t6 1 (.str e.id) (.str e.id)=some (eqN e.id e.id):=rfl
  refine ⟨j0,?_⟩
  rw [mpM]
  unfold m2
  show (match t6 1 (.str e.id) (.str e.id) with|some true=>_|some false=>_|none=>_)=_
  rw [he,a0P]
  rfl
 | e::es,a::ats,hs,h,i+1,hi,hi',j0=>by
  have hs2:=List.pairwise_cons.1 hs
  have hi2:i < es.length:=by simpa using hi
  have hi3:i < ats.length:=by simpa using hi'
  obtain ⟨j,hj⟩:=b49 hs2.2 (by simpa using h) i hi2 hi3 (j0+1)
  have hne:eqN (es[i]).id e.id=false:=b0x (hs2.1 _ (List.getElem_mem hi2))
  have he:t6 1 (.str (es[i]).id) (.str e.id)=some (eqN (es[i]).id e.id):=rfl
  refine ⟨j,?_⟩
  rw [mpM]
  unfold m2
  show (match t6 1 (.str (es[i]).id) (.str e.id) with|some true=>_|some false=>_|none=>_)=_
  rw [he,hne]
  exact hj
theorem EntsAt.lenL {v:AV} {es:List Ent} {T:St} (h:EntsAt v es T) (call:b6) (bx:AV) (st:St):C9 call [v] bx st=some (.int .i64 (es.length:Int),bx,st):=by
 rcases h with ⟨rfl,rfl⟩|⟨o,rfl,_⟩ <;> rfl
theorem GonsAt.lenL {g:AV} {gs:List Gon} {T:St} (h:GonsAt g gs T) (call:b6) (bx:AV) (st:St):C9 call [g] bx st=some (.int .i64 (gs.length:Int),bx,st):=by
 rcases h with ⟨rfl,rfl⟩|⟨o,_,rfl,_⟩ <;> rfl
theorem D8 {p q w r:List Nat} (hp:p.length≤2 ^ 40) (h:p=q++(w++r)):t7 q w:=by
 have:=congrArg List.length h
 simp only [List.length_append] at this
 unfold t7
 omega
/-- a vault being laid: what was there stands, and so much was laid -/
structure SvI (T0:St) (wo:Nat) (T:St) (q:List Nat):Prop where
 gr:Gr T0 T
 wr:Wr T wo q
 lo:T0.length≤wo
theorem SvI.step {T0:St} {wo:Nat} {T:St} {q w:List Nat} (h:SvI T0 wo T q) {T':St} (hw:Wr T' wo (q++w)) (hf:Fr wo T T'):SvI T0 wo T' (q++w):=⟨a01 h.gr hf h.lo,hw,h.lo⟩
section
variable {T0:St} {vo:Nat} {p:List Nat} {sp:AV} {ver floor:Nat} {v:AV} {es:List Ent} {ats:List Nat} {mo:Nat} {g:AV} {gs:List Gon} {cs:List Cli}
theorem VOK.kept (V:VOK T0 vo p sp ver floor v es ats mo g gs cs) {T T':St} (h:Gr T0 T) (h':Gr T0 T'):Go.Cb.kept T T' [.ptr vo 0]=true:=by
 refine a6a (h _ _ V.ov) (h' _ _ V.ov) fun cs' e=>?_
 cases e
 obtain ⟨a,b,hs⟩:=V.sp
 subst hs
 have hk:J7 T T' (g::Bof cs)=true:=by
  have hB:=a2r T T' (cs++List.replicate (5 - cs.length) Cli.zero)
  rcases V.gv with ⟨rfl,_⟩|⟨o,_,rfl,_⟩ <;> exact hB
 have hm:=a6g (h _ _ V.om) (h' _ _ V.om) hk
 rcases V.ev with ⟨rfl,_⟩|⟨o,rfl,_⟩ <;> exact hm
theorem VOK.has (V:VOK T0 vo p sp ver floor v es ats mo g gs cs):G3 mo (cV sp ver floor v mo g cs)=true:=by
 obtain ⟨a,b,hs⟩:=V.sp
 subst hs
 unfold cV
 rcases V.ev with ⟨rfl,_⟩|⟨o,rfl,_⟩ <;> simp [G3]
def SvQ (T0:St) (p:List Nat) (r:AV) (T':St):Prop:=r=.list false (m0 p)∧Gr T0 T'
/-- the end -/
theorem c5n (hp:p.length≤2 ^ 40) {T:St} {wo:Nat} (h:SvI T0 wo T p) (x3 x4 x5 x6 x7 x8 x9 x10 x11 x12 x13:AV) :
 WC (fun n'=>b9 (l3 tbl n') n' a7s73 [.ptr vo 0,.list true [],.ptr wo 0,x3,x4,x5,x6,x7,x8,x9,x10,x11,x12,x13] T) (fun o'=>∃ r st',Go.Cb.finK a7.results (some o')=some (r,st')∧SvQ T0 p r st'):=by
 unfold a7s73
 simp +contextual -implicitDefEqProofs only [K7b,SS,rA,rS,rL,rE,reduceCtorEq]
 refine WC.call (c4v h.wr hp) rfl rfl ?_
 rintro _ _ ⟨rfl,h7⟩
 replace h7:=h7.symm
 subst h7
 simp +contextual -implicitDefEqProofs only [K7b,SS,rA,rS,rL,rE,reduceCtorEq]
 exact WC.ret ⟨_,_,rfl,rfl,h.gr⟩
theorem c4M (cs:List Cli):(Bof cs).map AV.weak1=Bof cs:=by
 unfold Bof
 generalize cs++List.replicate (5 - cs.length) Cli.zero=l
 induction l with
 | nil=>rfl
 | cons c l ih=>rw [List.flatMap_cons,List.map_append,ih]; rfl
theorem a0A (h5:cs.length=5):(Bof cs).length=15:=by
 match cs,h5 with
 | [c0,c1,c2,c3,c4],_=>rfl
theorem c3E {cs:List Cli} {i:Nat} (h5:cs.length=5) (h:i < cs.length):i*3+3≤(Bof cs).length∧d9 true 3 ((Bof cs).drop (i*3))=some (.agg cs[i].row):=by
 match cs,h5 with
 | [c0,c1,c2,c3,c4],_ =>
  match i,h with
  | 0,_=>exact ⟨by rw [a0A (cs:=[c0,c1,c2,c3,c4]) rfl]; decide,rfl⟩
  | 1,_=>exact ⟨by rw [a0A (cs:=[c0,c1,c2,c3,c4]) rfl]; decide,rfl⟩
  | 2,_=>exact ⟨by rw [a0A (cs:=[c0,c1,c2,c3,c4]) rfl]; decide,rfl⟩
  | 3,_=>exact ⟨by rw [a0A (cs:=[c0,c1,c2,c3,c4]) rfl]; decide,rfl⟩
  | 4,_=>exact ⟨by rw [a0A (cs:=[c0,c1,c2,c3,c4]) rfl]; decide,rfl⟩
theorem b4P {i:Nat} (h:i < cs.length):R7 (cs.drop i)=cs[i].wr++R7 (cs.drop (i+1)):=by
 rw [List.drop_eq_getElem_cons h]; rfl
theorem b4z {i:Nat} (h:i < gs.length):U0 (gs.drop i)=gs[i].wr++U0 (gs.drop (i+1)):=by
 rw [List.drop_eq_getElem_cons h]; rfl
theorem b4l {i:Nat} (h:i < es.length) (h':i < ats.length):R8 (es.drop i) (ats.drop i)=es[i].wr++(wrU ats[i]++R8 (es.drop (i+1)) (ats.drop (i+1))):=by
 rw [List.drop_eq_getElem_cons h,List.drop_eq_getElem_cons h']; rfl
theorem b7P {n:Nat} {l r:List AV} (h:d9 true n l=some (.agg r)):(n≤l.length)=True∧(l.take n).map AV.weak1=r:=by
 unfold d9 at h
 simp only [if_true] at h
 split at h
 · rename_i hl
   exact ⟨eq_true hl,by cases h; rfl⟩
 · cases h
/-- the five clients -/
theorem c6D (V:VOK T0 vo p sp ver floor v es ats mo g gs cs) (hp:p.length≤2 ^ 40) {T:St} {wo:Nat} {q:List Nat} (h:SvI T0 wo T q) (he:p=q++R7 cs) (x3 x4 x5 x6 x7 x8 x9 x10 x11 x12 x13:AV) :
 WC (fun n'=>b9 (l3 tbl n') n' a7s74 [.ptr vo 0,.list true [],.ptr wo 0,x3,x4,x5,x6,x7,x8,x9,x10,x11,x12,x13] T) (fun o'=>∃ r st',Go.Cb.finK a7.results (some o')=some (r,st')∧SvQ T0 p r st'):=by
 have h5:=V.ln.2.2.2
 have hov:=h.gr _ _ V.ov
 obtain ⟨a,b,hs⟩:=V.sp
 subst hs
 unfold cV at hov
 have hbl:=a0A h5
 have hbw:=c4M cs
 have htk:(Bof cs).take 15=Bof cs:=List.take_of_length_le (by omega)
 unfold a7s74
 simp +contextual -implicitDefEqProofs only [K7b,SS,rA,rS,rL,rE,reduceCtorEq,hov,hbl,htk,hbw]
 refine WC.loopR (fun mm fr T'=>∃ (i:Nat) (q':List Nat) (y5:AV),i≤5∧mm=5 - i∧SvI T0 wo T' q'∧p=q'++R7 (cs.drop i)∧fr=[.ptr vo 0,.list true [],.ptr wo 0,x3,x4,y5,x6,x7,x8,x9,x10,x11,.agg (Bof cs),.int .i64 (i:Int)]) (m:=5) ⟨0,q,x5,by decide,rfl,h,he,rfl⟩ ?_
 clear h he hov
 rintro mm fr T ⟨i,q,y5,hi5,rfl,h,he,rfl⟩
 have hli:ltI (i:Int) 5=decide (i < 5):=by rw [ltI_eq]; exact decide_eq_decide.2 (by omega)
 simp +contextual -implicitDefEqProofs only [K7b,SS,rA,rS,rL,rE,reduceCtorEq,hli]
 by_cases hil:i < 5
 · obtain ⟨hcl,hca⟩:=c3E h5 (show i < cs.length by omega)
   have hra:=V.ra.2.2.2.2 _ (List.getElem_mem (show i < cs.length by omega))
   have hd:=b4P (cs:=cs) (show i < cs.length by omega)
   have i5:((i:Int) < ((5:Nat):Int))=True:=by simp; omega
   revert hca hra hd
   generalize cs[i]'(by omega)=c
   intro hca hra hd
   rw [show c.row=[.int .u64 (c.seq:Int),.int .i64 c.e,.bool c.bad] from rfl] at hca
   obtain ⟨hc1,hc2⟩:=b7P hca
   rw [hd,Cli.wr,List.append_assoc,List.append_assoc] at he
   simp +contextual -implicitDefEqProofs only [K7b,SS,rA,rS,rL,rE,reduceCtorEq,hil,decide_true,i5,hbw,hcl,hc1,hc2,and_true,true_and,if_true,Option.map_some]
   refine WC.call (F9 h.wr hra.1 (D8 hp he)) rfl rfl ?_
   rintro _ T1 ⟨rfl,hw1,hf1⟩
   have h1:=h.step hw1 hf1
   rw [← List.append_assoc] at he
   simp +contextual -implicitDefEqProofs only [K7b,SS,rA,rS,rL,rE,reduceCtorEq]
   refine WC.call (b3A h1.wr hra.2.1 hra.2.2 (D8 hp he)) rfl rfl ?_
   rintro _ T2 ⟨rfl,hw2,hf2⟩
   have h2:=h1.step hw2 hf2
   rw [← List.append_assoc] at he
   cases hb:c.bad with
   | true =>
    rw [hb,if_pos rfl] at he
    simp +contextual -implicitDefEqProofs only [K7b,SS,rA,rS,rL,rE,reduceCtorEq,hb]
    refine WC.call (F9 h2.wr (n:=1) (by decide) (D8 hp he)) rfl rfl ?_
    rintro _ T3 ⟨rfl,hw3,hf3⟩
    simp +contextual -implicitDefEqProofs only [K7b,SS,rA,rS,rL,rE,reduceCtorEq,K9 (show i+1 < 2 ^ 63 by omega)]
    exact WC.next (m':=5 - (i+1)) (by omega) ⟨i+1,_,_,hil,rfl,h2.step hw3 hf3,by rw [List.append_assoc]; exact he,rfl⟩
   | false =>
    rw [hb,if_neg (by decide)] at he
    simp +contextual -implicitDefEqProofs only [K7b,SS,rA,rS,rL,rE,reduceCtorEq,hb]
    refine WC.call (F9 h2.wr (n:=0) (by decide) (D8 hp he)) rfl rfl ?_
    rintro _ T3 ⟨rfl,hw3,hf3⟩
    simp +contextual -implicitDefEqProofs only [K7b,SS,rA,rS,rL,rE,reduceCtorEq,K9 (show i+1 < 2 ^ 63 by omega)]
    exact WC.next (m':=5 - (i+1)) (by omega) ⟨i+1,_,_,hil,rfl,h2.step hw3 hf3,by rw [List.append_assoc]; exact he,rfl⟩
 · obtain rfl:i=5:=by omega
   simp +contextual -implicitDefEqProofs only [K7b,SS,rA,rS,rL,rE,reduceCtorEq,hil,decide_false]
   refine WC.leave ?_
   simp +contextual -implicitDefEqProofs only [K7b,SS,rA,rS,rL,rE,reduceCtorEq]
   rw [List.drop_of_length_le (by omega),show R7 []=[] from rfl,List.append_nil] at he
   subst he
   exact c5n hp h _ _ _ _ _ _ _ _ _ _ _
end
end Go.Cb.CodeA
set_option maxRecDepth 20000
set_option linter.unusedSimpArgs false
set_option linter.unusedVariables false
namespace Go.Cb.CodeA
open Go Go.Cb
open Nat renaming reduceAdd→rA,reduceSub→rS,reduceLeDiff→rL,reduceEqDiff→rE
attribute [local congr] p6 s8 t8 u9 r8 r9 B2 B3 V.runR_congr
section
variable {T0:St} {vo:Nat} {p:List Nat} {sp:AV} {ver floor:Nat} {v:AV} {es:List Ent} {ats:List Nat} {mo:Nat} {g:AV} {gs:List Gon} {cs:List Cli}
/-- what has gone -/
theorem c5r (V:VOK T0 vo p sp ver floor v es ats mo g gs cs) (hp:p.length≤2 ^ 40) {T:St} {wo:Nat} {q:List Nat} (h:SvI T0 wo T q) (he:p=q++(wrU gs.length++(U0 gs++R7 cs))) (x3 x4 x5 x6 x7 x8 x9 x10 x11 x12 x13:AV) :
 WC (fun n'=>b9 (l3 tbl n') n' a7s76 [.ptr vo 0,.list true [],.ptr wo 0,x3,x4,x5,x6,x7,x8,x9,x10,x11,x12,x13] T) (fun o'=>∃ r st',Go.Cb.finK a7.results (some o')=some (r,st')∧SvQ T0 p r st'):=by
 have hl4:=V.ln.2.2.1
 have hov:=h.gr _ _ V.ov
 obtain ⟨a,b,hs⟩:=V.sp
 subst hs
 unfold cV at hov
 obtain ⟨w1,w2,w3,w4,w5,w6,w7⟩:=V.gv.wk
 have hgl:=V.gv.lenL
 have e1:l4 .u64 ((gs.length:Nat):Int)=((gs.length:Nat):Int):=Z0 (by omega)
 unfold a7s76
 simp +contextual -implicitDefEqProofs only [K7b,SS,rA,rS,rL,rE,reduceCtorEq,hov,w1,w2,w3,w4,w5,w6,w7,hgl,e1]
 refine WC.call (F9 h.wr (n:=gs.length) (by omega) (D8 hp he)) rfl rfl ?_
 rintro _ T1 ⟨rfl,hw1,hf1⟩
 have h1:=h.step hw1 hf1
 rw [← List.append_assoc] at he
 have hov1:=h1.gr _ _ V.ov
 unfold cV at hov1
 simp +contextual -implicitDefEqProofs only [K7b,SS,rA,rS,rL,rE,reduceCtorEq,hov1,w1,w2,w3,w4,w5,w6,w7,hgl]
 refine WC.loopR (fun mm fr T'=>∃ (i:Nat) (q':List Nat) (y4:AV),i≤gs.length∧mm=gs.length - i∧SvI T0 wo T' q'∧p=q'++(U0 (gs.drop i)++R7 cs)∧fr=[.ptr vo 0,.list true [],.ptr wo 0,x3,y4,x5,x6,x7,x8,g,.int .i64 (gs.length:Int),.int .i64 (i:Int),x12,x13]) (m:=gs.length) ⟨0,_,x4,Nat.zero_le _,rfl,h1,he,rfl⟩ ?_
 clear h1 he hov hov1 h hw1 hf1
 rintro mm fr T ⟨i,q,y4,hi,rfl,h,he,rfl⟩
 simp +contextual -implicitDefEqProofs only [K7b,SS,rA,rS,rL,rE,reduceCtorEq,ltN]
 by_cases hil:i < gs.length
 · rcases V.gv with ⟨_,hgs⟩|⟨o,h0,hg,ho⟩
   · rw [hgs] at hil; exact absurd hil (by simp)
   subst hg
   have ho:=h.gr _ _ ho
   have hgv:=V.ra.2.2.2.1 _ (List.getElem_mem hil)
   have hd:=b4z hil
   have hat:=a2X hil
   have il:((i:Int) < (gs.length:Int))=True:=by simp; omega
   revert hgv hd hat
   generalize gs[i]=c
   intro hgv hd hat
   rw [show c.row=[.str c.id,.str c.typ,.int .u64 (c.ver:Int)] from rfl] at hat
   rw [hd,Gon.wr,List.append_assoc,List.append_assoc,List.append_assoc] at he
   simp +contextual -implicitDefEqProofs only [K7b,SS,rA,rS,rL,rE,reduceCtorEq,hil,il,ho,hat,if_true,Option.map_some]
   refine WC.call (a0D h.wr (D8 hp he)) rfl rfl ?_
   rintro _ T1 ⟨rfl,hw1,hf1⟩
   have h1:=h.step hw1 hf1
   rw [← List.append_assoc] at he
   simp +contextual -implicitDefEqProofs only [K7b,SS,rA,rS,rL,rE,reduceCtorEq]
   refine WC.call (a0D h1.wr (D8 hp he)) rfl rfl ?_
   rintro _ T2 ⟨rfl,hw2,hf2⟩
   have h2:=h1.step hw2 hf2
   rw [← List.append_assoc] at he
   simp +contextual -implicitDefEqProofs only [K7b,SS,rA,rS,rL,rE,reduceCtorEq]
   refine WC.call (F9 h2.wr hgv (D8 hp he)) rfl rfl ?_
   rintro _ T3 ⟨rfl,hw3,hf3⟩
   have h3:=h2.step hw3 hf3
   rw [← List.append_assoc] at he
   simp +contextual -implicitDefEqProofs only [K7b,SS,rA,rS,rL,rE,reduceCtorEq,K9 (show i+1 < 2 ^ 63 by omega)]
   exact WC.next (m':=gs.length - (i+1)) (by omega) ⟨i+1,_,_,hil,rfl,h3,he,rfl⟩
 · obtain rfl:i=gs.length:=by omega
   simp +contextual -implicitDefEqProofs only [K7b,SS,rA,rS,rL,rE,reduceCtorEq,hil]
   refine WC.leave ?_
   simp +contextual -implicitDefEqProofs only [K7b,SS,rA,rS,rL,rE,reduceCtorEq]
   rw [List.drop_length,show U0 []=[] from rfl,List.nil_append] at he
   exact c6D V hp h he _ _ _ _ _ _ _ _ _ _ _
/-- the things -/
theorem c6z (V:VOK T0 vo p sp ver floor v es ats mo g gs cs) (hp:p.length≤2 ^ 40) {T:St} {wo:Nat} {q:List Nat} (h:SvI T0 wo T q) (he:p=q++(R8 es ats++(wrU gs.length++(U0 gs++R7 cs)))) (x3 x4 x5 x6 x7 x8 x9 x10 x11 x12 x13:AV) :
 WC (fun n'=>b9 (l3 tbl n') n' a7s77 [.ptr vo 0,.list true [],.ptr wo 0,x3,x4,x5,x6,x7,x8,x9,x10,x11,x12,x13] T) (fun o'=>∃ r st',Go.Cb.finK a7.results (some o')=some (r,st')∧SvQ T0 p r st'):=by
 have hl2:=V.ln.2.1
 have hl1:=V.ln.1
 have hov:=h.gr _ _ V.ov
 have hhm:=V.has
 have hkp:=fun {T T':St}=>V.kept (T:=T) (T':=T')
 obtain ⟨a,b,hs⟩:=V.sp
 subst hs
 unfold cV at hov hhm
 obtain ⟨w1,w2,w3,w4,w5,w6,w7⟩:=V.ev.wk
 unfold a7s77
 simp +contextual -implicitDefEqProofs only [K7b,SS,rA,rS,rL,rE,reduceCtorEq,hov,w1,w2,w3,w4,w5,w6,w7]
 refine WC.call (c6i (by omega) (V.ev.gr h.gr)) rfl (by simp only [List.map_cons,List.map_nil,a0V,w2]) ?_
 rintro av T1 ⟨hav,hg1⟩
 have h1:SvI T0 wo T1 q:=⟨fun j x hx=>hg1 _ _ (h.gr _ _ hx),⟨hg1 _ _ h.wr.ow⟩,h.lo⟩
 obtain ⟨u1,u2,u3,u4,u5,u6,u7⟩:=hav.wk
 have hal:=hav.lenL
 simp +contextual -implicitDefEqProofs only [K7b,SS,rA,rS,rL,rE,reduceCtorEq,u1,u2,u3,u4,u5,u6,u7,hal]
 refine WC.loopR (fun mm fr T'=>∃ (i:Nat) (q':List Nat) (y3:AV),i≤es.length∧mm=es.length - i∧SvI T0 wo T' q'∧EntsAt av es T'∧p=q'++(R8 (es.drop i) (ats.drop i)++(wrU gs.length++(U0 gs++R7 cs)))∧fr=[.ptr vo 0,.list true [],.ptr wo 0,y3,x4,x5,av,.int .i64 (es.length:Int),.int .i64 (i:Int),x9,x10,x11,x12,x13]) (m:=es.length) ⟨0,_,x3,Nat.zero_le _,rfl,h1,hav,he,rfl⟩ ?_
 clear h1 he hov h hg1
 rintro mm fr T ⟨i,q,y3,hi,rfl,h,hav2,he,rfl⟩
 simp +contextual -implicitDefEqProofs only [K7b,SS,rA,rS,rL,rE,reduceCtorEq,ltN]
 by_cases hil:i < es.length
 · rcases hav2 with ⟨_,hes⟩|⟨o,hg,ho⟩
   · rw [hes] at hil; exact absurd hil (by simp)
   subst hg
   have hov:=h.gr _ _ V.ov
   have hom:=h.gr _ _ V.om
   unfold cV at hov
   have hil2:i < ats.length:=by omega
   have hfe:=V.fe _ (List.getElem_mem hil)
   have hav3:=V.ra.2.2.1 _ (List.getElem_mem hil2)
   have hd:=b4l hil hil2
   have hat:=a6m hil
   obtain ⟨j,hmf⟩:=b49 V.so hl1 i hil hil2 0
   have hmg:∀ call bx,B7 1 [.int .u64 0] false false call [.map mo,.str (es[i]).id] bx T=some (.int .u64 ((ats[i]:Nat):Int),bx,T):=fun call bx=>by
    unfold B7
    simp only [hom,hmf]
    rfl
   have il:((i:Int) < (es.length:Int))=True:=by simp; omega
   revert hfe hav3 hd hat hmg
   generalize es[i]=e
   generalize ats[i]=n
   intro hfe hav3 hd hat hmg
   have er:e.row=[.str e.t,.str e.id,.list false (e.ks.map v7),.list false (e.ls.map Val.row)]:=rfl
   rw [hd,List.append_assoc,List.append_assoc] at he
   have hwe:=b3S hfe h.wr (D8 hp he)
   rw [er] at hat hwe
   simp +contextual -implicitDefEqProofs only [K7b,SS,rA,rS,rL,rE,reduceCtorEq,hil,il,ho,hat,if_true,Option.map_some,a3j,a5u,hov,hhm,hmg]
   refine WC.callA hwe rfl rfl ?_
   rintro _ T1 ⟨rfl,hw1,hf1⟩
   have h1:=h.step hw1 hf1
   refine ⟨hkp h.gr h1.gr,?_⟩
   rw [← List.append_assoc] at he
   simp +contextual -implicitDefEqProofs only [K7b,SS,rA,rS,rL,rE,reduceCtorEq]
   refine WC.call (F9 h1.wr hav3 (D8 hp he)) rfl rfl ?_
   rintro _ T2 ⟨rfl,hw2,hf2⟩
   have h2:=h1.step hw2 hf2
   rw [← List.append_assoc] at he
   simp +contextual -implicitDefEqProofs only [K7b,SS,rA,rS,rL,rE,reduceCtorEq,K9 (show i+1 < 2 ^ 63 by omega)]
   have hne:o≠wo:=fun e=>by
    have h9:=h.wr.ow
    rw [← e,ho] at h9
    exact a1l (fun s h=>by cases h) (Cb.Obj.cells.inj (Option.some.inj h9))
   exact WC.next (m':=es.length - (i+1)) (by omega) ⟨i+1,_,_,hil,rfl,h2,.inr ⟨o,rfl,hf2 _ _ hne (hf1 _ _ hne ho)⟩,he,rfl⟩
 · obtain rfl:i=es.length:=by omega
   simp +contextual -implicitDefEqProofs only [K7b,SS,rA,rS,rL,rE,reduceCtorEq,hil]
   refine WC.leave ?_
   simp +contextual -implicitDefEqProofs only [K7b,SS,rA,rS,rL,rE,reduceCtorEq]
   rw [List.drop_length,show R8 [] (ats.drop es.length)=[] from rfl,List.nil_append] at he
   exact c5r V hp h he _ _ _ _ _ _ _ _ _ _ _
theorem a6L (V:VOK T0 vo p sp ver floor v es ats mo g gs cs) (hp:p.length≤2 ^ 40):EvQ tbl 7 [.ptr vo 0] T0 (SvQ T0 p):=by
 have hl2:=V.ln.2.1
 have hov:=V.ov
 have hkp:=fun {T T':St}=>V.kept (T:=T) (T':=T')
 have he:=V.eq
 obtain ⟨a,b,hs⟩:=V.sp
 subst hs
 unfold cV at hov
 obtain ⟨w1,w2,w3,w4,w5,w6,w7⟩:=V.ev.wk
 have hvl:=(List.getElem?_eq_some_iff.1 V.ov).1
 have h1:SvI T0 T0.length (T0++[.cells [.list true []]]) []:=⟨Gr.app _ _,⟨M9 T0 _⟩,Nat.le_refl _⟩
 have hov1:=h1.gr _ _ V.ov
 unfold cV at hov1
 have e1:l4 .u64 ((es.length:Nat):Int)=((es.length:Nat):Int):=Z0 (by omega)
 refine EvQ.body (fn:=a7) rfl rfl rfl ?_
 simp +contextual -implicitDefEqProofs only [K7b,SS,rA,rS,rL,rE,reduceCtorEq,hov1,a3j,a5u,if_true,w1,w2,w3,w4,w5,w6,w7]
 refine WC.callA (F9 h1.wr V.ra.1 (D8 hp he)) rfl rfl ?_
 rintro _ T1 ⟨rfl,hw1,hf1⟩
 have h2:=h1.step hw1 hf1
 refine ⟨hkp h1.gr h2.gr,?_⟩
 simp +contextual -implicitDefEqProofs only [K7b,SS,rA,rS,rL,rE,reduceCtorEq]
 refine WC.callA (F9 h2.wr V.ra.2.1 (D8 hp he)) rfl rfl ?_
 rintro _ T2 ⟨rfl,hw2,hf2⟩
 have h3:=h2.step hw2 hf2
 refine ⟨hkp h2.gr h3.gr,?_⟩
 rw [← List.append_assoc] at he
 simp +contextual -implicitDefEqProofs only [K7b,SS,rA,rS,rL,rE,reduceCtorEq]
 refine WC.call (b71 (V.ev.gr h3.gr)) rfl (by simp only [List.map_cons,List.map_nil,a0V,w2]) ?_
 rintro _ _ ⟨h7,rfl⟩
 replace h7:=h7.symm
 subst h7
 simp +contextual -implicitDefEqProofs only [K7b,SS,rA,rS,rL,rE,reduceCtorEq,e1]
 refine WC.call (F9 h3.wr (n:=es.length) (by omega) (D8 hp he)) rfl rfl ?_
 rintro _ T3 ⟨rfl,hw3,hf3⟩
 have h4:=h3.step hw3 hf3
 rw [← List.append_assoc] at he
 simp +contextual -implicitDefEqProofs only [K7b,SS,rA,rS,rL,rE,reduceCtorEq]
 exact c6z V hp h4 he _ _ _ _ _ _ _ _ _ _ _
end
end Go.Cb.CodeA
set_option maxRecDepth 100000
set_option linter.unusedVariables false
namespace Go.Cb.CodeA
open Go Go.Cb Go.Cb.G
theorem a4E {T:St} {i:Nat} {x:Cb.Obj} (h:T[i]?=some x):i < T.length:=(List.getElem?_eq_some_iff.1 h).1
theorem RN.fmt_sh:RN.ExtRn a4e:=fun R as st r st' hL h=>by
 unfold a4e at h
 split at h
 · split at h
   · rename_i hc
     cases h
     refine ⟨?_,hL⟩
     simp only [List.map_cons,List.map_nil,AV.rn,a4e]
     rw [if_pos hc]
   · cases h
 · cases h
theorem b3T (ρ:Nat→Nat):∀ xs:List AV,K5 ρ xs=xs.map (AV.rn ρ)
 | []=>rfl
 | x::xs=>by rw [K5,List.map_cons,b3T ρ xs]
theorem a2S (ρ:Nat→Nat):∀ xs:List (List AV),a0O ρ xs=xs.map (List.map (AV.rn ρ))
 | []=>rfl
 | x::xs=>by rw [a0O,List.map_cons,a2S ρ xs,b3T]
theorem RN.cloneL_sh (sz by_:Nat):RN.ExtRn (O6 sz by_):=fun R as st r st' hL h=>by
 unfold O6 at h
 split at h
 · cases h
   exact ⟨rfl,hL⟩
 · cases h
   exact ⟨rfl,hL⟩
 · rename_i own xs hne
   split at h
   · rename_i hc
     cases h
     refine ⟨?_,R.app hL⟩
     cases xs with
     | nil=>exact absurd rfl (fun e=>hne e)
     | cons x xs =>
      have hs:∀ xs:List (List AV),(xs.map (List.map (AV.rn R.ρ))).flatten.map AV.weak1=(xs.flatten.map AV.weak1).map (AV.rn R.ρ):=fun xs=>by
       rw [← List.map_flatten,List.map_map,List.map_map]
       exact List.map_congr_left fun a _=>by cases a <;> rfl
      have h1:=hc.1
      have h2:=hc.2
      simp only [List.map_cons,List.map_nil,AV.rn,a2S]
      have e2:g8 sz ((x::xs).map (List.map (AV.rn R.ρ)))=true:=by
       simp only [List.map_cons,g8,List.length_map] at h1 ⊢
       exact h1
      have hs1:=hs (x::xs)
      rw [List.map_cons] at e2 hs1
      unfold O6
      dsimp only
      rw [if_pos ⟨e2,by simpa using h2⟩,R.len hL,R.apps hL,hs1]
      simp only [Obj.rn,List.length_cons,List.length_map]
   · cases h
 · cases h
def extR:List Nat:=[57,42,59,236,241,246,36,327,331,62,1036]
theorem b8H:(List.range 1050).all (fun f=>match tbl f with|some fn=>fn.code.shu && (fn.ext.isNone || extR.any (Nat.beq f))|none=>true)=true:=by kernel_rfl
theorem b9A:Nat.ble tblL.length 105=true:=by kernel_rfl
theorem a5n:RN.TblRn tbl:=fun f fn h=>by
 have hf:f < 1050:=by
  rcases Nat.lt_or_ge f 1050 with h1|h1
  · exact h1
  · exfalso
    have h:(tblL.getD (f / 10) []).getD (f % 10) none=some fn:=h
    have:=Nat.le_of_ble_eq_true b9A
    rw [show tblL.getD (f / 10) []=[] by rw [List.getD_eq_getElem?_getD,List.getElem?_eq_none (by omega)]; rfl] at h
    cases h
 have hc:=List.all_eq_true.1 b8H f (List.mem_range.2 hf)
 simp only [h,Bool.and_eq_true,Bool.or_eq_true] at hc
 refine ⟨hc.1,fun e he=>?_⟩
 rcases hc.2 with h1|h1
 · rw [he] at h1; cases h1
 · obtain ⟨k,hk,hb⟩:=List.any_eq_true.1 h1
   have hb:=Nat.eq_of_beq_eq_true hb
   subst hb
   simp only [extR,List.mem_cons,List.not_mem_nil,or_false] at hk
   rcases hk with rfl|rfl|rfl|rfl|rfl|rfl|rfl|rfl|rfl|rfl|rfl
   · have h:some a57=some fn:=h; cases h; cases he; exact RN.cloneM_sh 4 80
   · have h:some a42=some fn:=h; cases h; cases he; exact RN.cloneX_sh 4 72
   · have h:some a59=some fn:=h; cases h; cases he; exact RN.insert_sh 4 80
   · have h:some c3K=some fn:=h; cases h; cases he; exact RN.delete_sh 4 80
   · have h:some c1h=some fn:=h; cases h; cases he; exact RN.idxb_sh
   · have h:some c2L=some fn:=h; cases h; cases he; exact RN.text_sh
   · have h:some a36=some fn:=h; cases h; cases he; exact RN.cloneX_sh 1 16
   · have h:some c1n=some fn:=h; cases h; cases he; exact RN.fmt_sh
   · have h:some c1L=some fn:=h; cases h; cases he; exact RN.puint_sh
   · have h:some a62=some fn:=h; cases h; cases he; exact RN.cloneX_sh 1 1
   · have h:some a1036=some fn:=h; cases h; cases he; exact RN.cloneL_sh 1 16
theorem Gr.of_old {T T':St} (h:∀ j,j < T.length→T'[j]?=T[j]?):Gr T T':=fun o x hx=>by rw [h o (a4E hx)]; exact hx
theorem c09:T_aw.length=89:=by kernel_rfl
theorem b0_len:T_b0.length=31:=by kernel_rfl
theorem c2r (f g:Nat→Nat):T_b0.map (Obj.rn fun i=>bif Nat.blt i 31 then f i else g i)=T_b0.map (Obj.rn f):=by kernel_rfl
theorem c2y {ρ f:Nat→Nat} (h:∀ i,i < 31→ρ i=f i):T_b0.map (Obj.rn ρ)=T_b0.map (Obj.rn f):=by
 have e:ρ=fun i=>bif Nat.blt i 31 then f i else ρ i:=by
  funext i
  by_cases hi:i < 31
  · rw [show Nat.blt i 31=true by rw [Nat.blt_eq]; exact hi,h i hi]; rfl
  · rw [show Nat.blt i 31=false by rw [← Bool.not_eq_true,Nat.blt_eq]; exact hi]; rfl
 exact (congrArg (fun r=>T_b0.map (Obj.rn r)) e).trans (c2r f ρ)
/-- the schema, behind what awake leaves -/
def Bs (T:St):Prop:=∀ i,i < 31→T[i+89]?=(T_b0[i]?).map (Obj.rn (·+89))
theorem Bs.lt {T:St} (hb:Bs T) {i:Nat} (hi:i < 31):i+89 < T.length:=by
 have h:=hb i hi
 rw [List.getElem?_eq_getElem (show i < T_b0.length by rw [b0_len]; exact hi)] at h
 exact a4E h
theorem Bs.gr {T T':St} (hb:Bs T) (h:Gr T T'):Bs T':=fun i hi=>by
 have h1:=hb i hi
 rw [List.getElem?_eq_getElem (show i < T_b0.length by rw [b0_len]; exact hi),Option.map_some] at h1 ⊢
 exact h _ _ h1
theorem c7K (T:St):EvQ tbl 4 [] T (fun a st'=>a=.bool true):=by
 obtain ⟨T',h1,_,_,h3⟩:=RN.Ev.framed (T:=T) (n:=0) (q:=id) (fun a b h=>absurd h (by omega)) (fun a h=>absurd h (by omega)) a5n rfl (fun a h=>absurd h (by omega)) (a6J c2F)
 exact EvQ.of_ev h1 rfl
theorem c3u:EvQ tbl 5 [] T_aw (fun a st'=>a=.tuple [.ptr 91 0,.ptr 119 0]∧Bs st'):=by
 have e:RN.rho T_aw 0 id=(·+T_aw.length):=by funext i; unfold RN.rho; rw [if_neg (by omega),Nat.sub_zero]
 obtain ⟨T',h1,_,_,h3⟩:=RN.Ev.framed (T:=T_aw) (n:=0) (q:=id) (fun a b h=>absurd h (by omega)) (fun a h=>absurd h (by omega)) a5n rfl (fun a h=>absurd h (by omega)) (a6J c6L)
 rw [e,c09] at h1 h3
 exact EvQ.of_ev h1 ⟨by kernel_rfl,fun i _=>h3 i⟩
/-! what is of no place is the same at any place -/
theorem a6n (ρ:Nat→Nat) (l:List (List Nat)):(l.map v7).map (List.map (AV.rn ρ))=l.map v7:=by
 rw [List.map_map]
 exact List.map_congr_left fun x _=>rfl
mutual
theorem Val.row_rn (ρ:Nat→Nat):∀ v:Val,v.row.map (AV.rn ρ)=v.row
 | .mk k n s ks ls=>by
  have h:=Val.rows_rn ρ ls
  rw [Val.row]
  simp only [List.map_cons,List.map_nil,AV.rn,a2S,a6n,h]
theorem Val.rows_rn (ρ:Nat→Nat):∀ l:List Val,(Val.rows l).map (List.map (AV.rn ρ))=Val.rows l
 | []=>by rw [Val.rows]; rfl
 | v::l=>by rw [Val.rows,List.map_cons,Val.row_rn ρ v,Val.rows_rn ρ l]
end
theorem Ent.row_rn (ρ:Nat→Nat) (e:Ent):e.row.map (AV.rn ρ)=e.row:=by
 have h:=Val.rows_rn ρ e.ls
 rw [Val.rows_map] at h
 unfold Ent.row
 simp only [List.map_cons,List.map_nil,AV.rn,a2S,a6n,h]
theorem a5W (ρ:Nat→Nat):∀ es:List Ent,(i8 es).map (AV.rn ρ)=i8 es
 | []=>rfl
 | e::es=>by rw [show i8 (e::es)=e.row++i8 es from rfl,List.map_append,Ent.row_rn,a5W ρ es]
theorem a6k (ρ:Nat→Nat):∀ gs:List Gon,(n8 gs).map (AV.rn ρ)=n8 gs
 | []=>rfl
 | g::gs=>by rw [show n8 (g::gs)=g.row++n8 gs from rfl,List.map_append,a6k ρ gs]; rfl
theorem c1U (ρ:Nat→Nat) (cs:List Cli):(Bof cs).map (AV.rn ρ)=Bof cs:=by
 unfold Bof
 generalize cs++List.replicate (5 - cs.length) Cli.zero=l
 induction l with
 | nil=>rfl
 | cons c l ih=>rw [List.flatMap_cons,List.map_append,ih]; rfl
theorem b33 (ρ:Nat→Nat):∀ (es:List Ent) (ats:List Nat),(mpM es ats).map (fun e=>(e.1.rn ρ,e.2.rn ρ))=mpM es ats
 | [],_=>rfl
 | _::_,[]=>rfl
 | e::es,a::ats=>by rw [mpM,List.map_cons,b33 ρ es ats]; rfl
theorem b5x (ρ:Nat→Nat) (q:List Nat) (w:Bool):(AV.list w (m0 q)).rn ρ=.list w (m0 q):=by
 simp only [AV.rn,a2S]
 congr 1
 unfold m0
 rw [List.map_map]
 exact List.map_congr_left fun x _=>rfl
section
variable {T:St} {vo:Nat} {p:List Nat} {sp:AV} {ver floor:Nat} {v:AV} {es:List Ent} {ats:List Nat} {mo:Nat} {g:AV} {gs:List Gon} {cs:List Cli}
theorem VOK.gr (V:VOK T vo p sp ver floor v es ats mo g gs cs) {T':St} (h:Gr T T'):VOK T' vo p sp ver floor v es ats mo g gs cs :=
 ⟨h _ _ V.ov,h _ _ V.om,V.ev.gr h,V.gv.gr h,V.sp,V.ln,V.so,V.fe,V.ra,V.eq⟩
theorem VOK.rn (V:VOK T vo p sp ver floor v es ats mo g gs cs) {T':St} {ρ:Nat→Nat} (h:∀ o,T'[ρ o]?=(T[o]?).map (Obj.rn ρ)):VOK T' (ρ vo) p (sp.rn ρ) ver floor (v.rn ρ) es ats (ρ mo) (g.rn ρ) gs cs:=by
 refine ⟨?_,?_,?_,?_,?_,V.ln,V.so,V.fe,V.ra,V.eq⟩
 · rw [h,V.ov,Option.map_some]
   unfold cV
   simp only [Obj.rn,List.map_cons,AV.rn,c1U]
 · rw [h,V.om,Option.map_some]
   simp only [Obj.rn,b33]
 · rcases V.ev with ⟨rfl,rfl⟩|⟨o,rfl,ho⟩
   · exact .inl ⟨rfl,rfl⟩
   · refine .inr ⟨ρ o,rfl,?_⟩
     rw [h,ho,Option.map_some]
     simp only [Obj.rn,a5W]
 · rcases V.gv with ⟨rfl,rfl⟩|⟨o,h0,rfl,ho⟩
   · exact .inl ⟨rfl,rfl⟩
   · refine .inr ⟨ρ o,h0,rfl,?_⟩
     rw [h,ho,Option.map_some]
     simp only [Obj.rn,a6k]
 · obtain ⟨a,b,rfl⟩:=V.sp
   exact ⟨_,_,rfl⟩
end
end Go.Cb.CodeA
set_option maxRecDepth 20000
set_option linter.unusedSimpArgs false
set_option linter.unusedVariables false
namespace Go.Cb.CodeA
open Go Go.Cb Go.Cb.G
open Nat renaming reduceAdd→rA,reduceSub→rS,reduceLeDiff→rL,reduceEqDiff→rE
attribute [local congr] p6 s8 t8 u9 r8 r9 B2 B3 V.runR_congr
/-- one run of Load, in the small store of the schema: wherever the schema lies it answers so -/
theorem b9o {p:List Nat} (hp:By p):∃ r0 st0,a3m T_b0 p r0 st0∧∀ T,Bs T→∃ T' ρ,Ev tbl 6 [.ptr 91 0,.list false (m0 p)] T (r0.rn ρ) T'∧Gr T T'∧∀ o,T'[ρ o]?=(st0[o]?).map (Obj.rn ρ):=by
 obtain ⟨r0,st0,hev,hP⟩:=c1s (T0:=T_b0) (a:=2) (b:=0) hp
 refine ⟨r0,st0,hP,fun T hb=>?_⟩
 have hT:120≤T.length:=hb.lt (i:=30) (by decide)
 have hlo:∀ i,i < 31→RN.rho T 31 (·+89) i=i+89:=fun i hi=>by unfold RN.rho; rw [if_pos hi]
 have hq:∀ a,a < 31→T[(fun i=>i+89) a]?=(T_b0[a]?).map (Obj.rn (RN.rho T 31 (·+89))):=fun a ha=>by
  show T[a+89]?=_
  rw [hb a ha]
  have h3:=congrArg (fun l=>l[a]?) (c2y hlo)
  simp only [List.getElem?_map] at h3
  exact h3.symm
 obtain ⟨T',h1,h2,h3,h4⟩:=RN.Ev.framed (T:=T) (n:=31) (q:=fun i=>i+89) (fun a b _ _ e=>by simpa using e) (fun a ha=>by show a+89 < _; omega) a5n b0_len.symm hq hev
 refine ⟨T',RN.rho T 31 (·+89),?_,?_,h4⟩
 · have e1:[AV.ptr 2 0,.list false (m0 p)].map (AV.rn (RN.rho T 31 (·+89)))=[.ptr 91 0,.list false (m0 p)]:=by
    rw [List.map_cons,List.map_cons,List.map_nil,b5x]
    simp only [AV.rn,hlo 2 (by decide)]
   rw [e1] at h1
   exact h1
 · refine Gr.of_old fun j hj=>?_
   by_cases hq':∃ a,a < 31∧a+89=j
   · obtain ⟨a,ha,rfl⟩:=hq'
     have h5:=h4 a
     rw [hlo a ha] at h5
     have h6:=hq a ha
     rw [h5]
     refine Eq.trans ?_ h6.symm
     have hlt:a < T_b0.length:=by rw [b0_len]; exact ha
     rw [hP.1 a _ (List.getElem?_eq_getElem hlt),List.getElem?_eq_getElem hlt]
   · exact h3 j hj fun a ha e=>hq' ⟨a,ha,e⟩
theorem c51 {p:List Nat} (hb:∀ b∈p,b < 256):EvQ tbl 3 [.list false (m0 p)] [] (fun r _=>r=.bool true):=by
 have haw:EvQ tbl 4 [] [] (fun a T=>a=.bool true∧T=T_aw):=EvQ.of_ev (a6J c2F) ⟨rfl,rfl⟩
 have e1:ltI 3000 (p.length:Int)=decide (3000 < p.length):=by rw [ltI_eq]; exact decide_eq_decide.2 (by omega)
 refine EvQ.body (fn:=a3) rfl rfl rfl ?_
 simp +contextual -implicitDefEqProofs only [K3,SS,rA,rS,rL,rE,reduceCtorEq]
 refine WC.call haw rfl rfl ?_
 rintro _ _ ⟨rfl,rfl⟩
 simp +contextual -implicitDefEqProofs only [K3,SS,rA,rS,rL,rE,reduceCtorEq,Bool.not_true,G8,e1]
 by_cases hl:3000 < p.length
 · simp +contextual -implicitDefEqProofs only [K3,SS,rA,rS,rL,rE,reduceCtorEq,hl,decide_true]
   refine WC.call (c7K T_aw) rfl rfl ?_
   rintro _ T rfl
   simp +contextual -implicitDefEqProofs only [K3,SS,rA,rS,rL,rE,reduceCtorEq]
   exact WC.ret ⟨_,_,rfl,rfl⟩
 have hp:By p:=⟨hb,by omega⟩
 have hpl:p.length≤2 ^ 40:=hp.2
 simp +contextual -implicitDefEqProofs only [K3,SS,rA,rS,rL,rE,reduceCtorEq,hl,decide_false]
 refine WC.call c3u rfl rfl ?_
 rintro _ T1 ⟨rfl,hB⟩
 obtain ⟨r0,st0,hP,hL⟩:=b9o hp
 obtain ⟨T2,ρ,hev,hg,hro⟩:=hL T1 hB
 simp +contextual -implicitDefEqProofs only [K3,SS,rA,rS,rL,rE,reduceCtorEq]
 refine WC.call (EvQ.of_ev (Q:=fun r T=>r=r0.rn ρ∧T=T2) hev ⟨rfl,rfl⟩) rfl rfl ?_
 rintro _ _ ⟨rfl,rfl⟩
 rcases hP.2 with rfl|⟨vo,sp,ver,floor,v,es,ats,mo,g,gs,cs,rfl,V⟩
 · rw [show (AV.tuple [.nilp,.int .i64 3]).rn ρ=.tuple [.nilp,.int .i64 3] from rfl]
   simp +contextual -implicitDefEqProofs only [K3,SS,rA,rS,rL,rE,reduceCtorEq,show eqI 3 0=false from rfl,show eqI 3 3=true from rfl,Bool.not_false]
   exact WC.ret ⟨_,_,rfl,rfl⟩
 · have V2:=V.rn hro
   rw [show (AV.tuple [.ptr vo 0,.int .i64 0]).rn ρ=.tuple [.ptr (ρ vo) 0,.int .i64 0] from rfl]
   simp +contextual -implicitDefEqProofs only [K3,SS,rA,rS,rL,rE,reduceCtorEq,show eqI 0 0=true from rfl,Bool.not_true]
   refine WC.call (a6L V2 hpl) rfl rfl ?_
   rintro _ T3 ⟨rfl,hg3⟩
   obtain ⟨T4,ρ',hev',hg4,hro'⟩:=hL T3 ((hB.gr hg).gr hg3)
   have V4:=V.rn hro'
   rw [show (AV.tuple [.ptr vo 0,.int .i64 0]).rn ρ'=.tuple [.ptr (ρ' vo) 0,.int .i64 0] from rfl] at hev'
   simp +contextual -implicitDefEqProofs only [K3,SS,rA,rS,rL,rE,reduceCtorEq]
   refine WC.call (EvQ.of_ev (Q:=fun r T=>r=.tuple [.ptr (ρ' vo) 0,.int .i64 0]∧T=T4) hev' ⟨rfl,rfl⟩) rfl rfl ?_
   rintro _ _ ⟨rfl,rfl⟩
   have hbo:=a3e hb
   simp +contextual -implicitDefEqProofs only [K3,SS,rA,rS,rL,rE,reduceCtorEq,show eqI 0 0=true from rfl]
   refine WC.call (a6L V4 hpl) rfl rfl ?_
   rintro _ T5 ⟨rfl,hg5⟩
   simp +contextual -implicitDefEqProofs only [K3,SS,rA,rS,rL,rE,reduceCtorEq,hbo,Option.map_some]
   refine WC.call (a6L (((V2.gr hg3).gr hg4).gr hg5) hpl) rfl rfl ?_
   rintro _ T6 ⟨rfl,hg6⟩
   simp +contextual -implicitDefEqProofs only [K3,SS,rA,rS,rL,rE,reduceCtorEq,hbo,Option.map_some,a0P]
   exact WC.ret ⟨_,_,rfl,rfl⟩
theorem b7s (p:List Nat) (hb:∀ b∈p,b < 256):∃ k st',l3 tbl k 3 [.list false (m0 p)] []=some (.bool true,st'):=by
 obtain ⟨r,st',⟨k,hk⟩,rfl⟩:=c51 hb
 exact ⟨k,st',hk⟩
end Go.Cb.CodeA
