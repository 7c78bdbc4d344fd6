import Derived.Test.YtdlgfdncpemcnaaGreatDoorStrD
import Derived.Test.YtdlgfdncpemcnaaGreatDoorXAms4
set_option maxRecDepth 4000
set_option linter.all false
namespace Go.Cb
open Classical
theorem a8k {L d j i:Nat} (cs row:List AV):(G9 j i cs row).map (AV.sh L d)=G9 j i (cs.map (AV.sh L d)) (row.map (AV.sh L d)):=by unfold G9;rw[X6];simp only[List.map_append,List.map_take,List.map_drop]
theorem b5L {L d j i:Nat} (cs:List AV):(Y7 j i cs).map (AV.sh L d)=Y7 j i (cs.map (AV.sh L d)):=by unfold Y7;rw[X6];simp only[List.map_append,List.map_take,List.map_drop]
theorem b6x (u j:Nat):a0L (T4 u j):=fun L ext as st r st' i h=>by
 unfold T4 at h;split at h
 · cases h; exact⟨rfl,i⟩
 · rename_i o f n s;split at h
   · rename_i cs t;split at h
     · rename_i l;cases h;refine⟨?_,by simp; omega⟩;simp only[List.map_cons,List.map_nil,AV.sh,T4,U0 i t,List.length_map];rw[if_pos l,J8 i,N5 i];simp only[Obj.sh,X6,List.map_take,List.map_drop]
     · cases h
   · cases h
 · cases h
theorem b5c (v l:Nat):a0L (J6 v l):=fun L ext as st r st' j h=>by
 unfold J6 at h;split at h
 · rename_i i w row;split at h
   · rename_i t;cases h;refine⟨?_,by simp; omega⟩;simp only[List.map_cons,List.map_nil,AV.sh,N9,m2,J6,List.length_map];rw[if_pos t,J8 j,N5 j];simp only[Obj.sh,a8k,List.map_nil]
   · cases h
 · rename_i o n s i w row;split at h
   · rename_i cs u;split at h
     · rename_i t;cases h;refine⟨?_,by simp; omega⟩;simp only[List.map_cons,List.map_nil,AV.sh,N9,m2,J6,U0 j u,List.length_map];rw[if_pos t,J8 j,N5 (by simpa using j),Z6 j];simp only[Obj.sh,a8k]
     · cases h
   · cases h
 · cases h
theorem b61 (x t:Nat):a0L (Z3 x t):=fun L ext as st r st' l h=>by
 unfold Z3 at h;split at h
 · rename_i o n s i j;split at h
   · rename_i cs v;split at h
     · rename_i u;cases h;refine⟨?_,by simp; omega⟩;simp only[List.map_cons,List.map_nil,AV.sh,Z3,U0 l v,List.length_map];rw[if_pos u,J8 l,N5 (by simpa using l),Z6 l];simp only[Obj.sh,b5L]
     · cases h
   · cases h
 · cases h
theorem c4J:a0L a2V:=fun L ext as st r st' i h=>by
 unfold a2V at h;split at h
 · split at h
   · split at h
     · rename_i j;cases h;refine⟨?_,i⟩;simp only[List.map_cons,List.map_nil,AV.sh,a2V,j,if_true]
     · cases h
   · cases h
 · cases h
theorem b9p:a0L a0r:=fun L ext as st r st' i h=>by
 have hs:st'=st∧∃ v,r=.tuple [.int .u64 v,.nili]:=by
  unfold a0r at h
  repeat' split at h
  all_goals first|(cases h; done)|(cases h; exact⟨rfl,_,rfl⟩)
 obtain⟨rfl,v,rfl⟩:=hs;refine⟨?_,i⟩;unfold a0r at h;split at h
 · rename_i s;simp only[List.map_cons,List.map_nil,AV.sh,a0r,I8];split at h
   · cases h
   · split at h
     · rename_i x t j;split at h
       · rename_i u hu;cases h;rw[List.map_cons]at hu;simp only[j,if_true,hu]
       · cases h
     · cases h
 · cases h
theorem d2e:a0L a3j:=fun L ext as st r st' i h=>by
 unfold a3j at h;split at h
 · rename_i t;split at h
   · rename_i b j;split at h
     · rename_i l;cases h;refine⟨?_,i⟩;simp only[List.map_cons,List.map_nil,AV.sh,a3j,j,l,if_true,I8]
     · cases h
   · cases h
 · cases h
theorem a7X (t i:Nat):a0L (Y2 t i):=fun L ext as st r st' j h=>by
 unfold Y2 at h;split at h
 · rename_i o xs;split at h
   · rename_i l;cases h;refine⟨?_,j⟩;simp only[List.map_cons,List.map_nil,AV.sh,Y2,x8,O4,List.length_map,l,if_true]
   · cases h
 · cases h
end Go.Cb
