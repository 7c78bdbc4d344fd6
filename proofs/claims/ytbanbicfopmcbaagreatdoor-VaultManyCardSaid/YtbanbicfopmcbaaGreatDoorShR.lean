/-
 Library functions as answers of their own: the same answer where there is more in the store.
-/
import Derived.Test.YtbanbicfopmcbaaGreatDoorStrD
import Derived.Test.YtbanbicfopmcbaaGreatDoorXAms4
set_option maxRecDepth 4000
set_option linter.unusedVariables false
set_option linter.unusedSimpArgs false
namespace Go.Cb.RN
open Go Go.Cb Classical
theorem a4j {R:Rn} {sz i:Nat} (cs row:List AV):(E2 sz i cs row).map (AV.rn R.ρ)=E2 sz i (cs.map (AV.rn R.ρ)) (row.map (AV.rn R.ρ)):=by
 unfold E2
 rw [O9]
 simp only [List.map_append,List.map_take,List.map_drop]
theorem b1o {R:Rn} {sz i:Nat} (cs:List AV):(Q6 sz i cs).map (AV.rn R.ρ)=Q6 sz i (cs.map (AV.rn R.ρ)):=by
 unfold Q6
 rw [O9]
 simp only [List.map_append,List.map_take,List.map_drop]
theorem cloneM_sh (sz by_:Nat):ExtRn (R1 sz by_):=fun R as st r st' hL h=>by
 unfold R1 at h
 split at h
 · cases h; exact ⟨rfl,hL⟩
 · rename_i o f n s
   split at h
   · rename_i cs ho
     split at h
     · rename_i hc
       cases h
       refine ⟨?_,(by first|exact R.app hL|exact R.app (R.set hL)|exact R.set hL)⟩
       simp only [List.map_cons,List.map_nil,AV.rn,R1,M7 hL ho,List.length_map]
       rw [if_pos hc,R.len hL,R.apps hL]
       simp only [Obj.rn,O9,List.map_take,List.map_drop]
     · cases h
   · cases h
 · cases h
theorem insert_sh (sz by_:Nat):ExtRn (P6 sz by_):=fun R as st r st' hL h=>by
 unfold P6 at h
 split at h
 · rename_i i w row
   split at h
   · rename_i hc
     cases h
     refine ⟨?_,(by first|exact R.app hL|exact R.app (R.set hL)|exact R.set hL)⟩
     simp only [List.map_cons,List.map_nil,AV.rn,N4,k6,P6,List.length_map]
     rw [if_pos hc,R.len hL,R.apps hL]
     simp only [Obj.rn,a4j,List.map_nil]
   · cases h
 · rename_i o n s i w row
   split at h
   · rename_i cs ho
     split at h
     · rename_i hc
       cases h
       refine ⟨?_,(by first|exact R.app hL|exact R.app (R.set hL)|exact R.set hL)⟩
       simp only [List.map_cons,List.map_nil,AV.rn,N4,k6,P6,M7 hL ho,List.length_map]
       rw [if_pos hc,R.len hL,R.apps ((by first|exact hL|exact R.set hL)),R.sets hL]
       simp only [Obj.rn,a4j]
     · cases h
   · cases h
 · cases h
theorem delete_sh (sz by_:Nat):ExtRn (S0 sz by_):=fun R as st r st' hL h=>by
 unfold S0 at h
 split at h
 · rename_i o n s i j
   split at h
   · rename_i cs ho
     split at h
     · rename_i hc
       cases h
       refine ⟨?_,(by first|exact R.app hL|exact R.app (R.set hL)|exact R.set hL)⟩
       simp only [List.map_cons,List.map_nil,AV.rn,S0,M7 hL ho,List.length_map]
       rw [if_pos hc,R.len hL,R.apps ((by first|exact hL|exact R.set hL)),R.sets hL]
       simp only [Obj.rn,b1o]
     · cases h
   · cases h
 · cases h
theorem idxb_sh:ExtRn a1q:=fun R as st r st' hL h=>by
 unfold a1q at h
 split at h
 · split at h
   · split at h
     · rename_i hc
       cases h
       refine ⟨?_,hL⟩
       simp only [List.map_cons,List.map_nil,AV.rn,a1q,hc,if_true]
     · cases h
   · cases h
 · cases h
theorem puint_sh:ExtRn U6:=fun R as st r st' hL h=>by
 have hs:st'=st∧∃ v,r=.tuple [.int .u64 v,.nili]:=by
  unfold U6 at h
  repeat' split at h
  all_goals first|(cases h; done)|(cases h; exact ⟨rfl,_,rfl⟩)
 obtain ⟨rfl,v,rfl⟩:=hs
 refine ⟨?_,hL⟩
 unfold U6 at h
 split at h
 · rename_i s
   simp only [List.map_cons,List.map_nil,AV.rn,U6,I3]
   split at h
   · cases h
   · split at h
     · rename_i x t hc
       split at h
       · rename_i u hu
         cases h
         rw [List.map_cons] at hu
         simp only [hc,if_true,hu]
       · cases h
     · cases h
 · cases h
theorem text_sh:ExtRn a06:=fun R as st r st' hL h=>by
 unfold a06 at h
 split at h
 · rename_i t
   split at h
   · rename_i b hb
     split at h
     · rename_i hc
       cases h
       refine ⟨?_,hL⟩
       simp only [List.map_cons,List.map_nil,AV.rn,a06,hb,hc,if_true,I3]
     · cases h
   · cases h
 · cases h
/-- a row just made -/
theorem cloneX_sh (sz by_:Nat):ExtRn (Q4 sz by_):=fun R as st r st' hL h=>by
 unfold Q4 at h
 split at h
 · rename_i o xs
   split at h
   · rename_i hc
     cases h
     refine ⟨?_,hL⟩
     simp only [List.map_cons,List.map_nil,AV.rn,Q4,n7,F9,List.length_map,hc,if_true]
   · cases h
 · cases h
end Go.Cb.RN
