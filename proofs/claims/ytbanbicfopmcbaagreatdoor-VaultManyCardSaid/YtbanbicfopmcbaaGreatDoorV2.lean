import Derived.Test.YtbanbicfopmcbaaGreatDoorV1
set_option maxRecDepth 100000
set_option linter.unusedVariables false
namespace Go.Cb.CodeA
open Go Go.Cb Go.Cb.G
theorem a4d {T:St} {n:Nat} {q:Nat→Nat} (hi:∀ a b,a < n→b < n→q a=q b→a=b) (hl:∀ a,a < n→q a < T.length) {f:Nat} {as:List AV} {st:St} {r:AV} (hn:n=st.length)
 (hT:∀ a,a < n→T[q a]?=(st[a]?).map (Obj.rn (RN.rho T n q))) (h:Ev tbl f as st r st):Ev tbl f (as.map (AV.rn (RN.rho T n q))) T (r.rn (RN.rho T n q)) T:=by
 obtain ⟨T',h1,h2,h3⟩:=a4O hi hl hn hT (by rw [hn,List.take_length]) h
 have h4:=h3 n
 rw [show RN.rho T n q n=T.length by unfold RN.rho; rw [if_neg (by omega)]; omega,hn,List.getElem?_eq_none (Nat.le_refl _)] at h4
 have h5:T'.length≤T.length:=List.getElem?_eq_none_iff.1 h4
 have e:T'=T:=by
  apply List.ext_getElem?
  intro j
  by_cases hj:j < T.length
  · rw [List.getElem?_eq_getElem hj]
    exact h2 j _ (List.getElem?_eq_getElem hj)
  · rw [List.getElem?_eq_none (by omega),List.getElem?_eq_none (by omega)]
 rwa [e] at h1
/-- entities alone -/
theorem a7A {T:St} {v:AV} {n:Nat} (hv:EA v n T):∃ q:Nat→Nat,(∀ a b,a < (sS n).length→b < (sS n).length→q a=q b→a=b)∧(∀ a,a < (sS n).length→q a < T.length)
 ∧ (∀ a,a < (sS n).length→T[q a]?=((sS n)[a]?).map (Obj.rn (RN.rho T (sS n).length q)))∧v=vS n (RN.rho T (sS n).length q 0)∧(n≠0→RN.rho T (sS n).length q 1=T.length):=by
 obtain ⟨o,rfl,ho⟩:=hv
 refine ⟨fun _=>o,?_⟩
 cases n with
 | zero=>exact ⟨fun a b h=>absurd h (Nat.not_lt_zero _),fun a h=>absurd h (Nat.not_lt_zero _),fun a h=>absurd h (Nat.not_lt_zero _),rfl,fun h=>absurd rfl h⟩
 | succ n =>
  obtain ⟨h1,h2⟩:=ho (Nat.succ_ne_zero n)
  have hS:(sS (n+1)).length=1:=rfl
  rw [hS]
  refine ⟨fun a b ha hb _=>by omega,fun a _=>X2 h1,fun a ha=>?_,?_,fun _=>?_⟩
  · obtain rfl:a=0:=by omega
    rw [h1]
    exact (congrArg some (a4L _ (n+1))).symm
  · unfold RN.rho; rw [if_pos (by decide)]
  · unfold RN.rho; rw [if_neg (by decide)]; omega
def gR (n i:Nat):List AV:=bif Nat.blt i n then H6 i else a5A
theorem a7R (ρ:Nat→Nat):∀ i,(AV.agg (H6 i)).rn ρ=.agg (H6 i)
 | 0=>by kernel_rfl
 | 1=>by kernel_rfl
 | _+2=>by kernel_rfl
theorem c2o (ρ:Nat→Nat) (n i:Nat):(AV.agg (gR n i)).rn ρ=.agg (gR n i):=by
 unfold gR
 cases Nat.blt i n
 · rfl
 · exact a7R ρ i
def Q3 (n i:Nat):Prop:=callG tbl 400 56 [.agg [vS n 0],.str (idE i)] (sS n)=some (.tuple [.agg (gR n i),.bool (Nat.blt i n)],sS n)
theorem b7p:∀ n,n < 4→∀ i,i < 3→Q3 n i:=by
 have h:(Q3 0 0∧Q3 0 1∧Q3 0 2)∧(Q3 1 0∧Q3 1 1∧Q3 1 2)∧(Q3 2 0∧Q3 2 1∧Q3 2 2)∧(Q3 3 0∧Q3 3 1∧Q3 3 2):=by unfold Q3; and_intros <;> kernel_rfl
 obtain ⟨⟨a,b,c⟩,⟨d,e,f⟩,⟨g,k,l⟩,⟨m,o,p⟩⟩:=h
 intro n hn i hi
 match n,hn,i,hi with
 | 0,_,0,_=>exact a
 | 0,_,1,_=>exact b
 | 0,_,2,_=>exact c
 | 1,_,0,_=>exact d
 | 1,_,1,_=>exact e
 | 1,_,2,_=>exact f
 | 2,_,0,_=>exact g
 | 2,_,1,_=>exact k
 | 2,_,2,_=>exact l
 | 3,_,0,_=>exact m
 | 3,_,1,_=>exact o
 | 3,_,2,_=>exact p
theorem b5j {T:St} {v:AV} {n:Nat} (hv:EA v n T) (hn:n < 4) {i:Nat} (hi:i < 3):EvQ tbl 56 [.agg [v],.str (idE i)] T (fun a T'=>a=.tuple [.agg (gR n i),.bool (Nat.blt i n)]∧T'=T):=by
 obtain ⟨q,h1,h2,h3,h4,_⟩:=a7A hv
 have h:=a4d h1 h2 rfl h3 (ev_ofG (b7p n hn i hi))
 revert h h4
 generalize RN.rho T (sS n).length q=ρ
 intro h4 h
 have e1:[AV.agg [vS n 0],.str (idE i)].map (AV.rn ρ)=[.agg [v],.str (idE i)]:=by
  rw [h4,← a3C]; rfl
 have e2:(AV.tuple [.agg (gR n i),.bool (Nat.blt i n)]).rn ρ=.tuple [.agg (gR n i),.bool (Nat.blt i n)]:=by
  show AV.tuple [(AV.agg (gR n i)).rn ρ,_]=_
  rw [c2o]; rfl
 rw [e1,e2] at h
 exact EvQ.of_ev h ⟨rfl,rfl⟩
def a31 (n:Nat):Prop:=callG tbl 400 20 [.agg [vS n 0]] (sS n)=some (vS n 1,sS n++sS n)
theorem b5P:∀ n,n < 4→a31 n:=by
 have h:a31 0∧a31 1∧a31 2∧a31 3:=by unfold a31; and_intros <;> kernel_rfl
 obtain ⟨a,b,c,d⟩:=h
 intro n hn
 match n,hn with
 | 0,_=>exact a
 | 1,_=>exact b
 | 2,_=>exact c
 | 3,_=>exact d
theorem a4G {T:St} (hT:120≤T.length) {v:AV} {n:Nat} (hv:EA v n T) (hn:n < 4):EvQ tbl 20 [.agg [v]] T (fun a T'=>EA a n T'∧Gr T T'):=by
 obtain ⟨q,h1,h2,h3,h4,h5⟩:=a7A hv
 obtain ⟨T',h6,h7,h8⟩:=a4O h1 h2 rfl h3 (by rw [List.take_append_of_le_length (Nat.le_refl _),List.take_length]) (ev_ofG (b5P n hn))
 revert h6 h8 h4 h5
 generalize RN.rho T (sS n).length q=ρ
 intro h4 h5 h6 h8
 have e1:[AV.agg [vS n 0]].map (AV.rn ρ)=[.agg [v]]:=by
  rw [h4,← a3C]; rfl
 rw [e1] at h6
 refine EvQ.of_ev h6 ⟨⟨ρ 1,a3C,fun hne=>?_⟩,h7⟩
 refine ⟨?_,by rw [h5 hne]; exact hT⟩
 rw [h8 1]
 cases n with
 | zero=>exact absurd rfl hne
 | succ n=>exact congrArg some (a4L ρ (n+1))
def a3v (i:Nat):Prop:=callG tbl 400 57 [.agg (H6 i),.agg (H6 i)] []=some (.bool true,[])
theorem b4A:∀ i,i < 3→a3v i:=by
 have h:a3v 0∧a3v 1∧a3v 2:=by unfold a3v; and_intros <;> kernel_rfl
 obtain ⟨a,b,c⟩:=h
 intro i hi
 match i,hi with
 | 0,_=>exact a
 | 1,_=>exact b
 | 2,_=>exact c
theorem b7V {i:Nat} (hi:i < 3) (T:St):EvQ tbl 57 [.agg (H6 i),.agg (H6 i)] T (fun a T'=>a=.bool true∧T'=T):=by
 have h:=a4d (T:=T) (n:=0) (q:=id) (fun a b h=>absurd h (Nat.not_lt_zero _)) (fun a h=>absurd h (Nat.not_lt_zero _)) rfl (fun a h=>absurd h (Nat.not_lt_zero _)) (ev_ofG (b4A i hi))
 generalize RN.rho T 0 id=ρ at h
 rw [List.map_cons,List.map_cons,List.map_nil,a7R,show (AV.bool true).rn ρ=.bool true from rfl] at h
 exact EvQ.of_ev h ⟨rfl,rfl⟩
/-- a row of the entities -/
theorem a8X {T:St} {o n i:Nat} (ho:T[o]?=some (.cells (cE n))) (hn:n < 4) (hi:i < n) (call:b9) (bx:AV):r7 true 4 call [.ptr o (i*4)] bx T=some (.agg (H6 i),bx,T):=by
 unfold r7
 dsimp only
 rw [ho]
 match n,hn,i,hi with
 | 1,_,0,_=>rfl
 | 2,_,0,_=>rfl
 | 2,_,1,_=>rfl
 | 3,_,0,_=>rfl
 | 3,_,1,_=>rfl
 | 3,_,2,_=>rfl
end Go.Cb.CodeA
