import Derived.Test.YtbanbicfopmcbaaGreatDoorV0
set_option maxRecDepth 100000
set_option linter.unusedVariables false
namespace Go.Cb.CodeA
open Go Go.Cb Go.Cb.G
/-- the map of the schema's places, and of one more -/
def qv (o:Nat) (i:Nat):Nat:=if i < 31 then i+89 else o
theorem S6 {o i:Nat} (h:i < 31):qv o i=i+89:=if_pos h
theorem a2e {o:Nat}:qv o 31=o:=if_neg (by decide)
theorem b5h {T:St} (hb:Bs T) {ρ:Nat→Nat} (h:∀ i,i < 31→ρ i=i+89) {a:Nat} (ha:a < 31):T[a+89]?=(T_b0[a]?).map (Obj.rn ρ):=by
 rw [hb a ha]
 have h3:=congrArg (fun l=>l[a]?) (b8R h)
 simp only [List.getElem?_map] at h3
 exact h3.symm
theorem a3C {ρ:Nat→Nat} {n o:Nat}:(vS n o).rn ρ=vS n (ρ o):=by cases n <;> rfl
/-- the small store's places in T: the schema's and the entities' -/
theorem b4p {T:St} (hb:Bs T) {v:AV} {n:Nat} (hv:EA v n T):∃ q:Nat→Nat,(∀ a b,a < (T_b0++sS n).length→b < (T_b0++sS n).length→q a=q b→a=b)∧(∀ a,a < (T_b0++sS n).length→q a < T.length)
 ∧ (∀ a,a < (T_b0++sS n).length→T[q a]?=((T_b0++sS n)[a]?).map (Obj.rn (RN.rho T (T_b0++sS n).length q)))∧(∀ i,i < 31→RN.rho T (T_b0++sS n).length q i=i+89)∧v=vS n (RN.rho T (T_b0++sS n).length q 31)∧(∀ i,31≤i→120≤RN.rho T (T_b0++sS n).length q i):=by
 obtain ⟨o,rfl,ho⟩:=hv
 have hT:120≤T.length:=hb.lt (i:=30) (by decide)
 have hlen:(T_b0++sS n).length=if n=0 then 31 else 32:=by
  rw [List.length_append,a01]; cases n <;> rfl
 refine ⟨qv o,?_⟩
 rw [hlen]
 have hlo:∀ N,31≤N→∀ i,i < 31→RN.rho T N (qv o) i=i+89:=fun N hN i h=>by unfold RN.rho; rw [if_pos (by omega),S6 h]
 by_cases hn:n=0
 · subst hn
   rw [if_pos rfl]
   refine ⟨fun a b ha hb' e=>?_,fun a ha=>?_,fun a ha=>?_,hlo 31 (Nat.le_refl _),rfl,fun i hi=>?_⟩
   · rw [S6 ha,S6 hb'] at e; omega
   · rw [S6 ha]; exact hb.lt ha
   · rw [S6 ha,b5h hb (hlo 31 (Nat.le_refl _)) ha]
     simp [sS]
   · unfold RN.rho; rw [if_neg (by omega)]; omega
 · obtain ⟨h1,h2⟩:=ho hn
   rw [if_neg hn]
   have h31:∀ {a},a < 32→¬ a < 31→a=31:=fun h1 h2=>by omega
   have hS:sS n=[.cells (cE n)]:=by cases n with|zero=>exact absurd rfl hn|succ n=>rfl
   refine ⟨fun a b ha hb' e=>?_,fun a ha=>?_,fun a ha=>?_,hlo 32 (by decide),?_,fun i hi=>?_⟩
   · by_cases x1:a < 31
     · rw [S6 x1] at e
       by_cases x2:b < 31
       · rw [S6 x2] at e; omega
       · rw [h31 hb' x2,a2e] at e; omega
     · rw [h31 ha x1,a2e] at e
       by_cases x2:b < 31
       · rw [S6 x2] at e; omega
       · rw [h31 ha x1,h31 hb' x2]
   · by_cases x1:a < 31
     · rw [S6 x1]; exact hb.lt x1
     · rw [h31 ha x1,a2e]; exact X2 h1
   · by_cases x1:a < 31
     · rw [S6 x1,b5h hb (hlo 32 (by decide)) x1,List.getElem?_append_left (by rw [a01]; exact x1)]
     · rw [h31 ha x1,a2e,h1,List.getElem?_append_right (by rw [a01]; decide),a01,hS]
       exact (congrArg some (a4L _ n)).symm
   · rw [show RN.rho T 32 (qv o) 31=o by unfold RN.rho; rw [if_pos (by decide),a2e]]
   · by_cases x1:i=31
     · rw [x1,show RN.rho T 32 (qv o) 31=o by unfold RN.rho; rw [if_pos (by decide),a2e]]; exact h2
     · unfold RN.rho; rw [if_neg (by omega)]; omega
/-- what change.Do answers: the store's value, and problems or none -/
theorem b9b {d n n2:Nat} {bad:Bool} (F:FD d n n2 bad) {T:St} (hb:Bs T) {v:AV} (hv:EA v n T) :
 EvQ tbl 17 [.ptr 91 0,.agg [v],.str (a1d d),a1C] T (fun a T'=>∃ v' K L p,a=.tuple [.agg [v'],.agg [.int .i64 0,.int .u8 6,.int .i64 0,.str [],.list false K,.list false L,p]]∧EA v' n2 T'∧Gr T T'∧(p=.list false []∨∃ o,p=.sl o 0 1 2)):=by
 obtain ⟨q,hi,hl,hT,hlo,hv',hhi⟩:=b4p hb hv
 obtain ⟨f1,f2,f3,f4,f5,f6,f7⟩:=F
 obtain ⟨T',h1,h2,h3⟩:=a4O hi hl rfl hT f2 (ev_ofG f1)
 revert h1 h3 hlo hv' hhi
 generalize RN.rho T (T_b0++sS n).length q=ρ
 intro hlo hv' hhi h1 h3
 have e1:[AV.ptr 2 0,.agg [vS n 31],.str (a1d d),a1C].map (AV.rn ρ)=[.ptr 91 0,.agg [v],.str (a1d d),a1C]:=by
  rw [hv',← a3C]
  simp only [List.map_cons,List.map_nil,AV.rn,a1C,I3,N4,hlo 2 (by decide)]
 rw [e1] at h1
 refine EvQ.of_ev h1 ⟨_,_,_,_,rfl,⟨ρ (oD d n),by rw [f3,a3C],fun _=>⟨?_,hhi _ ?_⟩⟩,h2,?_⟩
 · rw [h3,f4]
   exact congrArg some (a4L ρ n2)
 · rw [Nat.blt_eq] at f5; omega
 · rw [f6]
   cases bad
   · exact .inl rfl
   · exact .inr ⟨_,rfl⟩
end Go.Cb.CodeA
