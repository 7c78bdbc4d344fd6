import Derived.Test.YtbanbicfopmcbaaGreatDoorMb0
import Derived.Test.YtbanbicfopmcbaaGreatDoorMaw
import Derived.Test.YtbanbicfopmcbaaGreatDoorBaseW
import Derived.Test.YtbanbicfopmcbaaGreatDoorShR
import Derived.Test.YtbanbicfopmcbaaGreatDoorXAms4
import Derived.KernelRfl
set_option maxRecDepth 100000
set_option linter.unusedVariables false
namespace Go.Cb.CodeA
open Go Go.Cb Go.Cb.G
theorem X2 {T:St} {i:Nat} {x:Cb.Obj} (h:T[i]?=some x):i < T.length:=(List.getElem?_eq_some_iff.1 h).1
theorem RN.fmt_sh:RN.ExtRn a26:=fun R as st r st' hL h=>by
 unfold a26 at h
 split at h
 · split at h
   · rename_i hc
     cases h
     refine ⟨?_,hL⟩
     simp only [List.map_cons,List.map_nil,AV.rn,a26]
     rw [if_pos hc]
   · cases h
 · cases h
def extR:List Nat:=[58,43,67,236,242,247,19,328,332]
theorem b6C:(List.range 400).all (fun f=>match tbl f with|some fn=>fn.code.shu && (fn.ext.isNone || extR.any (Nat.beq f))|none=>true)=true:=by kernel_rfl
theorem b65:Nat.ble tblL.length 40=true:=by kernel_rfl
theorem b7I:RN.TblRn tbl:=fun f fn h=>by
 have hf:f < 400:=by
  rcases Nat.lt_or_ge f 400 with h1|h1
  · exact h1
  · exfalso
    have h:(tblL.getD (f / 10) []).getD (f % 10) none=some fn:=h
    have:=Nat.le_of_ble_eq_true b65
    rw [show tblL.getD (f / 10) []=[] by rw [List.getD_eq_getElem?_getD,List.getElem?_eq_none (by omega)]; rfl] at h
    cases h
 have hc:=List.all_eq_true.1 b6C f (List.mem_range.2 hf)
 simp only [h,Bool.and_eq_true,Bool.or_eq_true] at hc
 refine ⟨hc.1,fun e he=>?_⟩
 rcases hc.2 with h1|h1
 · rw [he] at h1; cases h1
 · obtain ⟨k,hk,hb⟩:=List.any_eq_true.1 h1
   have hb:=Nat.eq_of_beq_eq_true hb
   subst hb
   simp only [extR,List.mem_cons,List.not_mem_nil,or_false] at hk
   rcases hk with rfl|rfl|rfl|rfl|rfl|rfl|rfl|rfl|rfl
   · have h:some a58=some fn:=h; cases h; cases he; exact RN.cloneM_sh 4 80
   · have h:some a43=some fn:=h; cases h; cases he; exact RN.cloneX_sh 4 72
   · have h:some a67=some fn:=h; cases h; cases he; exact RN.insert_sh 4 80
   · have h:some c0L=some fn:=h; cases h; cases he; exact RN.delete_sh 4 80
   · have h:some c0I=some fn:=h; cases h; cases he; exact RN.idxb_sh
   · have h:some b8h=some fn:=h; cases h; cases he; exact RN.text_sh
   · have h:some a19=some fn:=h; cases h; cases he; exact RN.cloneX_sh 1 16
   · have h:some b9y=some fn:=h; cases h; cases he; exact RN.fmt_sh
   · have h:some b77=some fn:=h; cases h; cases he; exact RN.puint_sh
theorem Gr.of_old {T T':St} (h:∀ j,j < T.length→T'[j]?=T[j]?):Gr T T':=fun o x hx=>by rw [h o (X2 hx)]; exact hx
/-- an answer in a small store, whose objects stay, wherever they lie -/
theorem a4O {T:St} {n:Nat} {q:Nat→Nat} (hi:∀ a b,a < n→b < n→q a=q b→a=b) (hl:∀ a,a < n→q a < T.length) {f:Nat} {as:List AV} {st:St} {r:AV} {st':St} (hn:n=st.length)
 (hT:∀ a,a < n→T[q a]?=(st[a]?).map (Obj.rn (RN.rho T n q))) (hk:st'.take n=st) (h:Ev tbl f as st r st') :
 ∃ T',Ev tbl f (as.map (AV.rn (RN.rho T n q))) T (r.rn (RN.rho T n q)) T'∧Gr T T'∧∀ o,T'[RN.rho T n q o]?=(st'[o]?).map (Obj.rn (RN.rho T n q)):=by
 obtain ⟨T',h1,h2,h3,h4⟩:=RN.Ev.framed hi hl b7I hn hT h
 refine ⟨T',h1,Gr.of_old fun j hj=>?_,h4⟩
 by_cases hq:∃ a,a < n∧q a=j
 · obtain ⟨a,ha,rfl⟩:=hq
   have h5:=h4 a
   rw [show RN.rho T n q a=q a by unfold RN.rho; rw [if_pos ha]] at h5
   rw [h5,hT a ha,← hk,List.getElem?_take,if_pos ha]
 · exact h3 j hj fun a ha e=>hq ⟨a,ha,e⟩
theorem b9P:T_aw.length=89:=by kernel_rfl
theorem a01:T_b0.length=31:=by kernel_rfl
theorem b9a (f g:Nat→Nat):T_b0.map (Obj.rn fun i=>bif Nat.blt i 31 then f i else g i)=T_b0.map (Obj.rn f):=by kernel_rfl
theorem b8R {ρ f:Nat→Nat} (h:∀ i,i < 31→ρ i=f i):T_b0.map (Obj.rn ρ)=T_b0.map (Obj.rn f):=by
 have e:ρ=fun i=>bif Nat.blt i 31 then f i else ρ i:=by
  funext i
  by_cases hi:i < 31
  · rw [show Nat.blt i 31=true by rw [Nat.blt_eq]; exact hi,h i hi]; rfl
  · rw [show Nat.blt i 31=false by rw [← Bool.not_eq_true,Nat.blt_eq]; exact hi]; rfl
 exact (congrArg (fun r=>T_b0.map (Obj.rn r)) e).trans (b9a f ρ)
/-- the schema, behind what awake leaves -/
def Bs (T:St):Prop:=∀ i,i < 31→T[i+89]?=(T_b0[i]?).map (Obj.rn (·+89))
theorem Bs.lt {T:St} (hb:Bs T) {i:Nat} (hi:i < 31):i+89 < T.length:=by
 have h:=hb i hi
 rw [List.getElem?_eq_getElem (show i < T_b0.length by rw [a01]; exact hi)] at h
 exact X2 h
theorem Bs.gr {T T':St} (hb:Bs T) (h:Gr T T'):Bs T':=fun i hi=>by
 have h1:=hb i hi
 rw [List.getElem?_eq_getElem (show i < T_b0.length by rw [a01]; exact hi),Option.map_some] at h1 ⊢
 exact h _ _ h1
theorem b9w:EvQ tbl 6 [] T_aw (fun a st'=>a=.tuple [.ptr 91 0,.ptr 119 0]∧Bs st'):=by
 have e:RN.rho T_aw 0 id=(·+T_aw.length):=by funext i; unfold RN.rho; rw [if_neg (by omega),Nat.sub_zero]
 obtain ⟨T',h1,_,h3⟩:=a4O (T:=T_aw) (n:=0) (q:=id) (fun a b h=>absurd h (by omega)) (fun a h=>absurd h (by omega)) rfl (fun a h=>absurd h (by omega)) rfl (ev_ofG c6g)
 rw [e,b9P] at h1 h3
 exact EvQ.of_ev h1 ⟨by kernel_rfl,fun i _=>h3 i⟩
/-- the three entities, one behind the other -/
def b88:List Nat:=[68,111,103]
def b8U:List Nat:=[80,101,114,115,111,110]
def C9:List Nat:=[67,97,116]
def tyE:Nat→List Nat
 | 0=>b88|1=>b8U|_=>C9
def idE:Nat→List Nat
 | 0=>[49]|1=>[50]|_=>[53]
def ksE:Nat→List (List AV)
 | 0=>[]|1=>[[.str [97,103,101]],[.str [110,97,109,101]]]|_=>[[.str [108,105,118,101,115]],[.str [110,97,109,101]]]
def vsE:Nat→List (List AV)
 | 0=>[]
 | 1=>[[.int .u8 1,.int .i64 7,.str [],.list false [],.list false []],[.int .u8 2,.int .i64 0,.str [120],.list false [],.list false []]]
 | _=>[[.int .u8 1,.int .i64 1,.str [],.list false [],.list false []],[.int .u8 2,.int .i64 0,.str [120],.list false [],.list false []]]
def H6 (i:Nat):List AV:=[.str (tyE i),.str (idE i),.list false (ksE i),.list false (vsE i)]
def a5A:List AV:=[.str [],.str [],.list false [],.list false []]
def cE:Nat→List AV
 | 0=>[]|1=>H6 0|2=>H6 0++H6 1|_=>H6 0++H6 1++H6 2
def a1d:Nat→List Nat
 | 0=>[109,117,116,97,116,105,111,110,32,123,99,114,101,97,116,101,68,111,103,40,105,100,58,32,49,44,32,105,110,112,117,116,58,32,123,125,41,32,123,98,97,114,107,115,125,125]
 | 1=>[109,117,116,97,116,105,111,110,32,123,99,114,101,97,116,101,80,101,114,115,111,110,40,105,100,58,32,50,44,32,105,110,112,117,116,58,32,123,110,97,109,101,58,32,34,120,34,125,41,32,123,110,97,109,101,125,125]
 | 2=>[109,117,116,97,116,105,111,110,32,123,99,114,101,97,116,101,67,97,116,40,105,100,58,32,53,44,32,105,110,112,117,116,58,32,123,110,97,109,101,58,32,34,120,34,44,32,108,105,118,101,115,58,32,49,125,41,32,123,110,97,109,101,125,125]
 | _=>[109,117,116,97,116,105,111,110,32,123,100,101,108,101,116,101,67,97,116,40,105,100,58,32,53,41,32,123,110,97,109,101,125,125]
def a1C:AV:=.agg [.int .u8 6,.int .i64 0,.str [],.list false [],.list false []]
def vS (n o:Nat):AV:=match n with|0=>.nils|n+1=>.sl o 0 (n+1) 4
def sS (n:Nat):St:=match n with|0=>[]|n+1=>[.cells (cE (n+1))]
theorem a4L (ρ:Nat→Nat):∀ n,(Cb.Obj.cells (cE n)).rn ρ=.cells (cE n)
 | 0=>by kernel_rfl
 | 1=>by kernel_rfl
 | 2=>by kernel_rfl
 | _+3=>by kernel_rfl
/-- n entities, in an object behind the schema -/
def EA (v:AV) (n:Nat) (T:St):Prop:=∃ o,v=vS n o∧(n≠0→T[o]?=some (.cells (cE n))∧120≤o)
theorem EA.gr {T T':St} {v:AV} {n:Nat} (hv:EA v n T) (h:Gr T T'):EA v n T':=let ⟨o,a,b⟩:=hv; ⟨o,a,fun hn=>⟨h _ _ (b hn).1,(b hn).2⟩⟩
theorem EA.wk {v:AV} {n:Nat} {st:St} (h:EA v n st):v.weak=v∧v.weak1=v∧v.strip=v∧v.stripB=v∧v.plain=true∧v.cells=[v]∧v.cellsW=[v]:=by
 obtain ⟨o,rfl,-⟩:=h
 cases n <;> exact ⟨rfl,rfl,rfl,rfl,rfl,rfl,rfl⟩
noncomputable section
def stO (x:Option (AV×St)):St:=match x with|some (_,s)=>s|none=>[]
def avO (x:Option (AV×St)):AV:=match x with|some (a,_)=>a|none=>.undef
/-- change.Do of document d at n entities, in a small store -/
def rDo (d n:Nat):=callG tbl 3000 17 [.ptr 2 0,.agg [vS n 31],.str (a1d d),a1C] (T_b0++sS n)
def vD (d n:Nat):AV:=match avO (rDo d n) with|.tuple [.agg [v],_]=>v|_=>.undef
def oD (d n:Nat):Nat:=match vD d n with|.sl o _ _ _=>o|_=>0
def pD (d n:Nat):AV:=match avO (rDo d n) with|.tuple [_,.agg [_,_,_,_,_,_,p]]=>p|_=>.undef
def ppD (d n:Nat):Nat:=match pD d n with|.sl o _ _ _=>o|_=>0
def KD (d n:Nat):List (List AV):=match avO (rDo d n) with|.tuple [_,.agg [_,_,_,_,.list _ k,_,_]]=>k|_=>[]
def LD (d n:Nat):List (List AV):=match avO (rDo d n) with|.tuple [_,.agg [_,_,_,_,_,.list _ k,_]]=>k|_=>[]
def FD (d n n2:Nat) (bad:Bool):Prop:=rDo d n=some (.tuple [.agg [vD d n],.agg [.int .i64 0,.int .u8 6,.int .i64 0,.str [],.list false (KD d n),.list false (LD d n),pD d n]],stO (rDo d n))∧(stO (rDo d n)).take (T_b0++sS n).length=T_b0++sS n
 ∧ vD d n=vS n2 (oD d n)∧(stO (rDo d n))[oD d n]?=some (.cells (cE n2))∧Nat.blt 30 (oD d n)=true∧pD d n=(bif bad then .sl (ppD d n) 0 1 2 else .list false [])∧Nat.blt 0 n2=true
end
end Go.Cb.CodeA
