import Derived.Test.YtlegecilkicppaaGreatDoorStrD
import Derived.Test.YtlegecilkicppaaGreatDoorXAms4
set_option maxRecDepth 4000
set_option linter.all false
namespace Go.Cb
open Classical
theorem a7R {L d j i:Nat} (cs row:List AV):(G9 j i cs row).map (AV.sh L d)=G9 j i (cs.map (AV.sh L d)) (row.map (AV.sh L d)):=by unfold G9;rw[X4];simp only[List.map_append,List.map_take,List.map_drop]
theorem b6J {L d j i:Nat} (cs:List AV):(U7 j i cs).map (AV.sh L d)=U7 j i (cs.map (AV.sh L d)):=by unfold U7;rw[X4];simp only[List.map_append,List.map_take,List.map_drop]
theorem b55 (u j:Nat):a00 (T9 u j):=fun L ext as st r st' i h=>by
 unfold T9 at h;split at h
 · cases h; exact⟨rfl,i⟩
 · rename_i o f n s;split at h
   · rename_i cs t;split at h
     · rename_i l;cases h;refine⟨?_,by simp; omega⟩;simp only[List.map_cons,List.map_nil,AV.sh,T9,T6 i t,List.length_map];rw[if_pos l,J7 i,M6 i];simp only[Obj.sh,X4,List.map_take,List.map_drop]
     · cases h
   · cases h
 · cases h
theorem b6b (x l:Nat):a00 (J6 x l):=fun L ext as st r st' j h=>by
 unfold J6 at h;split at h
 · rename_i i w row;split at h
   · rename_i t;cases h;refine⟨?_,by simp; omega⟩;simp only[List.map_cons,List.map_nil,AV.sh,Y8,m0,J6,List.length_map];rw[if_pos t,J7 j,M6 j];simp only[Obj.sh,a7R,List.map_nil]
   · cases h
 · rename_i o n s i w row;split at h
   · rename_i cs u;split at h
     · rename_i t;cases h;refine⟨?_,by simp; omega⟩;simp only[List.map_cons,List.map_nil,AV.sh,Y8,m0,J6,T6 j u,List.length_map];rw[if_pos t,J7 j,M6 (by simpa using j),a0i j];simp only[Obj.sh,a7R]
     · cases h
   · cases h
 · cases h
theorem b5F (y t:Nat):a00 (U1 y t):=fun L ext as st r st' l h=>by
 unfold U1 at h;split at h
 · rename_i o n s i j;split at h
   · rename_i cs x;split at h
     · rename_i u;cases h;refine⟨?_,by simp; omega⟩;simp only[List.map_cons,List.map_nil,AV.sh,U1,T6 l x,List.length_map];rw[if_pos u,J7 l,M6 (by simpa using l),a0i l];simp only[Obj.sh,b6J]
     · cases h
   · cases h
 · cases h
theorem c1n:a00 a2O:=fun L ext as st r st' i h=>by
 unfold a2O at h;split at h
 · split at h
   · split at h
     · rename_i j;cases h;refine⟨?_,i⟩;simp only[List.map_cons,List.map_nil,AV.sh,a2O,j,if_true]
     · cases h
   · cases h
 · cases h
theorem b7q:a00 a0G:=fun L ext as st r st' i h=>by
 have hs:st'=st∧∃ v,r=.tuple [.int .u64 v,.nili]:=by
  unfold a0G at h
  repeat' split at h
  all_goals first|(cases h; done)|(cases h; exact⟨rfl,_,rfl⟩)
 obtain⟨rfl,v,rfl⟩:=hs;refine⟨?_,i⟩;unfold a0G at h;split at h
 · rename_i s;simp only[List.map_cons,List.map_nil,AV.sh,a0G,I2];split at h
   · cases h
   · split at h
     · rename_i x t j;split at h
       · rename_i u hu;cases h;rw[List.map_cons]at hu;simp only[j,if_true,hu]
       · cases h
     · cases h
 · cases h
theorem c2l:a00 a3d:=fun L ext as st r st' i h=>by
 unfold a3d at h;split at h
 · rename_i t;split at h
   · rename_i b j;split at h
     · rename_i l;cases h;refine⟨?_,i⟩;simp only[List.map_cons,List.map_nil,AV.sh,a3d,j,l,if_true,I2]
     · cases h
   · cases h
 · cases h
theorem a7T (t i:Nat):a00 (Y3 t i):=fun L ext as st r st' j h=>by
 unfold Y3 at h;split at h
 · rename_i o xs;split at h
   · rename_i l;cases h;refine⟨?_,j⟩;simp only[List.map_cons,List.map_nil,AV.sh,Y3,s8,N6,List.length_map,l,if_true]
   · cases h
 · cases h
end Go.Cb
