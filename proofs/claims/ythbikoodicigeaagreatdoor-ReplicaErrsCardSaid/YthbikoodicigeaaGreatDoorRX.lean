/-
 Three functions told by themselves: awake, queue.New, Want.
-/
import Derived.Test.YthbikoodicigeaaGreatDoorStrD
import Derived.Test.YthbikoodicigeaaGreatDoorMV
set_option linter.unusedVariables false
namespace Go.Cb
open Go.Cb.CodeA
def awakeX:List AV→St→Option (AV×St)
 | [],[]=>some (.bool true,[])
 | _,_=>none
def queueX:List AV→St→Option (AV×St)
 | [.int .i64 n,.int .u64 _],st=>if 1≤n∧n≤64 then some (.tuple [.ro [],.int .i64 0],st) else some (.tuple [.nilp,.int .i64 1],st)
 | _,_=>none
/-- the types that may be wanted -/
def wantGood:List (List AV):=[[.str [80,101,114,115,111,110]],[.str [67,97,116]],[.str [68,111,103]]]
open Classical in
/-- Want, at the store behind New alone -/
noncomputable def wantX:List AV→St→Option (AV×St)
 | [.nilp,_],st=>some (.int .i64 6,st)
 | [.ptr o 0,.list _ rows],st=>if st=T_nw∧o=31∧∀ r∈rows,∃ s,r=[.str s] then
  some (.int .i64 (if 20 < rows.length then 2 else if ∀ r∈rows,r∈wantGood then 0 else 6),st.set 31 .dead) else none
 | _,_=>none
end Go.Cb
