/- What functions of the abstract machine answer. No conditions but those that each theorem names. -/
import Derived.Test.YthnliekianmljaaGreatDoorC6
import Derived.Test.YthnliekianmljaaGreatDoorMaw
import Derived.Test.YthnliekianmljaaGreatDoorMax
import Derived.Test.YthnliekianmljaaGreatDoorMbc
import Derived.Test.YthnliekianmljaaGreatDoorXAms4
import Derived.KernelRfl
set_option maxRecDepth 100000
set_option linter.unusedSimpArgs false
set_option linter.unusedVariables false
namespace Go.Cb.CodeA
open Go Go.Cb
open Nat (reduceAdd reduceSub reduceLeDiff reduceEqDiff)
attribute [local congr] i8 k4 k6 k7 j4 j3 l8 l7 V.runR_congr

theorem c2J:Ev tbl 9 [] [] (.bool true) a4N:=Go.Cb.G.ev_ofG d8Z
theorem c2x:Ev tbl 9 [] a4N (.bool true) c7t:=Go.Cb.G.ev_ofG d50
theorem c9P (ob:Cb.Obj):Ev tbl 11 [] (a4N++[ob]) (.tuple [.ptr 52 0,.ptr 80 0]) (a9a ob):=Go.Cb.G.ev_ofG (d6h ob)
def d6S (r:List AV):TD:=match r with
 | [.int _ k,.str n,.list _ fr,.list _ ns]=>⟨k,n,fr,ns.map fun x=>match x with|[.str s]=>s|_=>[]⟩
 | _=>⟨0,[],[],[]⟩
def l0:List TD:=(match V13 with|.list _ xs=>xs|_=>[]).map d6S
theorem b3u:(l0.all fun t=>decide (t.ns.length≤3001))=true:=by kernel_rfl
theorem b0u:(decide (l0.length≤3001))=true:=by kernel_rfl
theorem c76 (ob:Cb.Obj):Sch l0 52 (a9a ob):=⟨of_decide_eq_true b0u,fun t ht=>show t.ns.length≤3001 from of_decide_eq_true (List.all_eq_true.1 b3u t ht),false,51,by kernel_rfl,by kernel_rfl⟩
theorem b0n (n:List Nat):(O9 l0 n).length≤10000:=by
 have hl:=of_decide_eq_true b0u
 unfold O9
 cases h:lk l0 n with
 | none=>simp
 | some t =>
  have:=of_decide_eq_true (List.all_eq_true.1 b3u t (List.mem_of_find?_eq_some h))
  dsimp only
  split
  · simp
  · split
    · omega
    · split
      · simp
      · rw [List.length_map]
        have:=List.length_filter_le (B1 n) l0
        omega
theorem GrpS.same {c:Nat} {st st':St} {out:AV} {gs:List Grp} (h:GrpS c st out gs) (hg:Gr st st'):GrpS c st' out gs:=h.ext fun i x _ hx=>hg i x hx
theorem c2D {s:List Nat} {D:Docm} {e:Int} (hS:∃ L:List Tok,L.length≤2001∧a0u L=some D):K3 D.ops+D4 D.frags≤2001:=by
 obtain ⟨L,h1,h2⟩:=hS
 have:=b7m h2
 omega
theorem d1w {f:Nat} {as:List AV} (h:EvQ tbl f as [] (fun a _=>a=.bool true)):∃ n st',e8 tbl n f as []=some (.bool true,st'):=by
 obtain ⟨a,st',⟨n,hn⟩,rfl⟩:=h
 exact ⟨n,st',hn⟩
end Go.Cb.CodeA
