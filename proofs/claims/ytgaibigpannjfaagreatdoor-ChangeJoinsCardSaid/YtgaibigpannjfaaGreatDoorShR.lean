import Derived.Test.YtgaibigpannjfaaGreatDoorStrD
import Derived.Test.YtgaibigpannjfaaGreatDoorXAms4
set_option maxRecDepth 4000
set_option linter.all false
namespace Go.Cb.RN
open Go Go.Cb Classical
theorem a9z {R:Rn} {j i:Nat} (cs row:List AV):(M7 j i cs row).map (AV.rn R.ρ)=M7 j i (cs.map (AV.rn R.ρ)) (row.map (AV.rn R.ρ)):=by unfold M7;rw[a0G];simp only[List.map_append,List.map_take,List.map_drop]
theorem b8P {R:Rn} {j i:Nat} (cs:List AV):(a0p j i cs).map (AV.rn R.ρ)=a0p j i (cs.map (AV.rn R.ρ)):=by unfold a0p;rw[a0G];simp only[List.map_append,List.map_take,List.map_drop]
theorem cloneM_sh (u j:Nat):ExtRn (Z9 u j):=fun R as st r st' i h=>by
 unfold Z9 at h;split at h
 · cases h; exact⟨rfl,i⟩
 · rename_i o f n s;split at h
   · rename_i cs t;split at h
     · rename_i l;cases h;refine⟨?_,(by first|exact R.app i|exact R.app (R.set i)|exact R.set i)⟩;simp only[List.map_cons,List.map_nil,AV.rn,Z9,a0i i t,List.length_map];rw[if_pos l,R.len i,R.apps i];simp only[Obj.rn,a0G,List.map_take,List.map_drop]
     · cases h
   · cases h
 · cases h
theorem insert_sh (x l:Nat):ExtRn (O8 x l):=fun R as st r st' j h=>by
 unfold O8 at h;split at h
 · rename_i i w row;split at h
   · rename_i t;cases h;refine⟨?_,(by first|exact R.app j|exact R.app (R.set j)|exact R.set j)⟩;simp only[List.map_cons,List.map_nil,AV.rn,S5,x9,O8,List.length_map];rw[if_pos t,R.len j,R.apps j];simp only[Obj.rn,a9z,List.map_nil]
   · cases h
 · rename_i o n s i w row;split at h
   · rename_i cs u;split at h
     · rename_i t;cases h;refine⟨?_,(by first|exact R.app j|exact R.app (R.set j)|exact R.set j)⟩;simp only[List.map_cons,List.map_nil,AV.rn,S5,x9,O8,a0i j u,List.length_map];rw[if_pos t,R.len j,R.apps ((by first|exact j|exact R.set j)),R.sets j];simp only[Obj.rn,a9z]
     · cases h
   · cases h
 · cases h
theorem delete_sh (y t:Nat):ExtRn (a0f y t):=fun R as st r st' l h=>by
 unfold a0f at h;split at h
 · rename_i o n s i j;split at h
   · rename_i cs x;split at h
     · rename_i u;cases h;refine⟨?_,(by first|exact R.app l|exact R.app (R.set l)|exact R.set l)⟩;simp only[List.map_cons,List.map_nil,AV.rn,a0f,a0i l x,List.length_map];rw[if_pos u,R.len l,R.apps ((by first|exact l|exact R.set l)),R.sets l];simp only[Obj.rn,b8P]
     · cases h
   · cases h
 · cases h
theorem idxb_sh:ExtRn a4e:=fun R as st r st' i h=>by
 unfold a4e at h;split at h
 · split at h
   · split at h
     · rename_i j;cases h;refine⟨?_,i⟩;simp only[List.map_cons,List.map_nil,AV.rn,a4e,j,if_true]
     · cases h
   · cases h
 · cases h
theorem puint_sh:ExtRn a1o:=fun R as st r st' i h=>by
 have hs:st'=st∧∃ v,r=.tuple [.int .u64 v,.nili]:=by
  unfold a1o at h
  repeat' split at h
  all_goals first|(cases h; done)|(cases h; exact⟨rfl,_,rfl⟩)
 obtain⟨rfl,v,rfl⟩:=hs;refine⟨?_,i⟩;unfold a1o at h;split at h
 · rename_i s;simp only[List.map_cons,List.map_nil,AV.rn,a1o,F8];split at h
   · cases h
   · split at h
     · rename_i x t j;split at h
       · rename_i u hu;cases h;rw[List.map_cons]at hu;simp only[j,if_true,hu]
       · cases h
     · cases h
 · cases h
theorem text_sh:ExtRn a4p:=fun R as st r st' i h=>by
 unfold a4p at h;split at h
 · rename_i t;split at h
   · rename_i b j;split at h
     · rename_i l;cases h;refine⟨?_,i⟩;simp only[List.map_cons,List.map_nil,AV.rn,a4p,j,l,if_true,F8]
     · cases h
   · cases h
 · cases h
theorem cloneX_sh (t i:Nat):ExtRn (a0O t i):=fun R as st r st' j h=>by
 unfold a0O at h;split at h
 · rename_i o xs;split at h
   · rename_i l;cases h;refine⟨?_,j⟩;simp only[List.map_cons,List.map_nil,AV.rn,a0O,E3,S8,List.length_map,l,if_true]
   · cases h
 · cases h
end Go.Cb.RN
