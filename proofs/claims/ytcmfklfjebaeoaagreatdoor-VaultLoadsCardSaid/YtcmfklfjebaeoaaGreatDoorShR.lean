/-
 Library functions as answers of their own: the same answer where there is more in the store.
-/
import Derived.Test.YtcmfklfjebaeoaaGreatDoorStrD
import Derived.Test.YtcmfklfjebaeoaaGreatDoorXAms4
set_option maxRecDepth 4000
set_option linter.unusedVariables false
set_option linter.unusedSimpArgs false
namespace Go.Cb.RN
open Go Go.Cb Classical
theorem a5T {R:Rn} {sz i:Nat} (cs row:List AV):(G4 sz i cs row).map (AV.rn R.ρ)=G4 sz i (cs.map (AV.rn R.ρ)) (row.map (AV.rn R.ρ)):=by
 unfold G4
 rw [U5]
 simp only [List.map_append,List.map_take,List.map_drop]
theorem b3C {R:Rn} {sz i:Nat} (cs:List AV):(W5 sz i cs).map (AV.rn R.ρ)=W5 sz i (cs.map (AV.rn R.ρ)):=by
 unfold W5
 rw [U5]
 simp only [List.map_append,List.map_take,List.map_drop]
theorem cloneM_sh (sz by_:Nat):ExtRn (R4 sz by_):=fun R as st r st' hL h=>by
 unfold R4 at h
 split at h
 · cases h; exact ⟨rfl,hL⟩
 · rename_i o f n s
   split at h
   · rename_i cs ho
     split at h
     · rename_i hc
       cases h
       refine ⟨?_,(by first|exact R.app hL|exact R.app (R.set hL)|exact R.set hL)⟩
       simp only [List.map_cons,List.map_nil,AV.rn,R4,L5 hL ho,List.length_map]
       rw [if_pos hc,R.len hL,R.apps hL]
       simp only [Obj.rn,U5,List.map_take,List.map_drop]
     · cases h
   · cases h
 · cases h
theorem insert_sh (sz by_:Nat):ExtRn (J1 sz by_):=fun R as st r st' hL h=>by
 unfold J1 at h
 split at h
 · rename_i i w row
   split at h
   · rename_i hc
     cases h
     refine ⟨?_,(by first|exact R.app hL|exact R.app (R.set hL)|exact R.set hL)⟩
     simp only [List.map_cons,List.map_nil,AV.rn,a0O,l9,J1,List.length_map]
     rw [if_pos hc,R.len hL,R.apps hL]
     simp only [Obj.rn,a5T,List.map_nil]
   · cases h
 · rename_i o n s i w row
   split at h
   · rename_i cs ho
     split at h
     · rename_i hc
       cases h
       refine ⟨?_,(by first|exact R.app hL|exact R.app (R.set hL)|exact R.set hL)⟩
       simp only [List.map_cons,List.map_nil,AV.rn,a0O,l9,J1,L5 hL ho,List.length_map]
       rw [if_pos hc,R.len hL,R.apps ((by first|exact hL|exact R.set hL)),R.sets hL]
       simp only [Obj.rn,a5T]
     · cases h
   · cases h
 · cases h
theorem delete_sh (sz by_:Nat):ExtRn (Y1 sz by_):=fun R as st r st' hL h=>by
 unfold Y1 at h
 split at h
 · rename_i o n s i j
   split at h
   · rename_i cs ho
     split at h
     · rename_i hc
       cases h
       refine ⟨?_,(by first|exact R.app hL|exact R.app (R.set hL)|exact R.set hL)⟩
       simp only [List.map_cons,List.map_nil,AV.rn,Y1,L5 hL ho,List.length_map]
       rw [if_pos hc,R.len hL,R.apps ((by first|exact hL|exact R.set hL)),R.sets hL]
       simp only [Obj.rn,b3C]
     · cases h
   · cases h
 · cases h
theorem idxb_sh:ExtRn a1U:=fun R as st r st' hL h=>by
 unfold a1U at h
 split at h
 · split at h
   · split at h
     · rename_i hc
       cases h
       refine ⟨?_,hL⟩
       simp only [List.map_cons,List.map_nil,AV.rn,a1U,hc,if_true]
     · cases h
   · cases h
 · cases h
theorem puint_sh:ExtRn Z5:=fun R as st r st' hL h=>by
 have hs:st'=st∧∃ v,r=.tuple [.int .u64 v,.nili]:=by
  unfold Z5 at h
  repeat' split at h
  all_goals first|(cases h; done)|(cases h; exact ⟨rfl,_,rfl⟩)
 obtain ⟨rfl,v,rfl⟩:=hs
 refine ⟨?_,hL⟩
 unfold Z5 at h
 split at h
 · rename_i s
   simp only [List.map_cons,List.map_nil,AV.rn,Z5,K5]
   split at h
   · cases h
   · split at h
     · rename_i x t hc
       split at h
       · rename_i u hu
         cases h
         rw [List.map_cons] at hu
         simp only [hc,if_true,hu]
       · cases h
     · cases h
 · cases h
theorem text_sh:ExtRn a2l:=fun R as st r st' hL h=>by
 unfold a2l at h
 split at h
 · rename_i t
   split at h
   · rename_i b hb
     split at h
     · rename_i hc
       cases h
       refine ⟨?_,hL⟩
       simp only [List.map_cons,List.map_nil,AV.rn,a2l,hb,hc,if_true,K5]
     · cases h
   · cases h
 · cases h
/-- a row just made -/
theorem cloneX_sh (sz by_:Nat):ExtRn (N1 sz by_):=fun R as st r st' hL h=>by
 unfold N1 at h
 split at h
 · rename_i o xs
   split at h
   · rename_i hc
     cases h
     refine ⟨?_,hL⟩
     simp only [List.map_cons,List.map_nil,AV.rn,N1,q5,H0,List.length_map,hc,if_true]
   · cases h
 · cases h
end Go.Cb.RN
