/-
 Library functions as answers of their own: the same answer where there is more in the store.
-/
import Derived.Test.YtdlgfdncpemcnaaGreatDoorStrD
import Derived.Test.YtdlgfdncpemcnaaGreatDoorXAms4
set_option maxRecDepth 4000
set_option linter.unusedVariables false
set_option linter.unusedSimpArgs false
namespace Go.Cb
open Classical
theorem a5o {L d sz i:Nat} (cs row:List AV):(z6 sz i cs row).map (AV.sh L d)=z6 sz i (cs.map (AV.sh L d)) (row.map (AV.sh L d)):=by
 unfold z6
 rw [M5]
 simp only [List.map_append,List.map_take,List.map_drop]
theorem b1L {L d sz i:Nat} (cs:List AV):(P5 sz i cs).map (AV.sh L d)=P5 sz i (cs.map (AV.sh L d)):=by
 unfold P5
 rw [M5]
 simp only [List.map_append,List.map_take,List.map_drop]
theorem b1l (sz by_:Nat):U7 (Q2 sz by_):=fun L ext as st r st' hL h=>by
 unfold Q2 at h
 split at h
 · cases h; exact ⟨rfl,hL⟩
 · rename_i o f n s
   split at h
   · rename_i cs ho
     split at h
     · rename_i hc
       cases h
       refine ⟨?_,by simp; omega⟩
       simp only [List.map_cons,List.map_nil,AV.sh,Q2,J7 hL ho,List.length_map]
       rw [if_pos hc,B9 hL,E9 hL]
       simp only [Obj.sh,M5,List.map_take,List.map_drop]
     · cases h
   · cases h
 · cases h
theorem b1Z (sz by_:Nat):U7 (M3 sz by_):=fun L ext as st r st' hL h=>by
 unfold M3 at h
 split at h
 · rename_i i w row
   split at h
   · rename_i hc
     cases h
     refine ⟨?_,by simp; omega⟩
     simp only [List.map_cons,List.map_nil,AV.sh,a1f,i8,M3,List.length_map]
     rw [if_pos hc,B9 hL,E9 hL]
     simp only [Obj.sh,a5o,List.map_nil]
   · cases h
 · rename_i o n s i w row
   split at h
   · rename_i cs ho
     split at h
     · rename_i hc
       cases h
       refine ⟨?_,by simp; omega⟩
       simp only [List.map_cons,List.map_nil,AV.sh,a1f,i8,M3,J7 hL ho,List.length_map]
       rw [if_pos hc,B9 hL,E9 (by simpa using hL),Q7 hL]
       simp only [Obj.sh,a5o]
     · cases h
   · cases h
 · cases h
theorem b1q (sz by_:Nat):U7 (Q8 sz by_):=fun L ext as st r st' hL h=>by
 unfold Q8 at h
 split at h
 · rename_i o n s i j
   split at h
   · rename_i cs ho
     split at h
     · rename_i hc
       cases h
       refine ⟨?_,by simp; omega⟩
       simp only [List.map_cons,List.map_nil,AV.sh,Q8,J7 hL ho,List.length_map]
       rw [if_pos hc,B9 hL,E9 (by simpa using hL),Q7 hL]
       simp only [Obj.sh,b1L]
     · cases h
   · cases h
 · cases h
theorem e1A:U7 a1e:=fun L ext as st r st' hL h=>by
 unfold a1e at h
 split at h
 · split at h
   · split at h
     · rename_i hc
       cases h
       refine ⟨?_,hL⟩
       simp only [List.map_cons,List.map_nil,AV.sh,a1e,hc,if_true]
     · cases h
   · cases h
 · cases h
theorem b3U:U7 R9:=fun L ext as st r st' hL h=>by
 have hs:st'=st∧∃ v,r=.tuple [.int .u64 v,.nili]:=by
  unfold R9 at h
  repeat' split at h
  all_goals first|(cases h; done)|(cases h; exact ⟨rfl,_,rfl⟩)
 obtain ⟨rfl,v,rfl⟩:=hs
 refine ⟨?_,hL⟩
 unfold R9 at h
 split at h
 · rename_i s
   simp only [List.map_cons,List.map_nil,AV.sh,R9,D7]
   split at h
   · cases h
   · split at h
     · rename_i x t hc
       split at h
       · rename_i u hu
         cases h
         rw [List.map_cons] at hu
         simp only [hc,if_true,hu]
       · cases h
     · cases h
 · cases h
theorem e02:U7 a0o:=fun L ext as st r st' hL h=>by
 unfold a0o at h
 split at h
 · rename_i t
   split at h
   · rename_i b hb
     split at h
     · rename_i hc
       cases h
       refine ⟨?_,hL⟩
       simp only [List.map_cons,List.map_nil,AV.sh,a0o,hb,hc,if_true,D7]
     · cases h
   · cases h
 · cases h
/-- a row just made -/
theorem a5p (sz by_:Nat):U7 (O8 sz by_):=fun L ext as st r st' hL h=>by
 unfold O8 at h
 split at h
 · rename_i o xs
   split at h
   · rename_i hc
     cases h
     refine ⟨?_,hL⟩
     simp only [List.map_cons,List.map_nil,AV.sh,O8,m7,F2,List.length_map,hc,if_true]
   · cases h
 · cases h
end Go.Cb
