import Derived.Test.YtdlgfdncpemcnaaGreatDoorW5
set_option maxRecDepth 100000
set_option linter.all false
namespace Go.Cb.CodeA
open Go Go.Cb Go.Cb.G
def a4n (m:Int) (X:List Nat):AV:=.agg [.int .u8 6,.int .i64 0,.str [],.list false [[.str [105,100]],[.str [110]]],.list false [[.int .u8 2,.int .i64 0,.str X,.list false [],.list false []],[.int .u8 1,.int .i64 m,.str [],.list false [],.list false []]]]
def a5l (s:AV) (ks vs:List (List AV)) (a b c:Nat):AV:=.tuple [.agg [s],.agg [.int .i64 0,.int .u8 6,.int .i64 0,.str [],.list false ks,.list false vs,.sl a 0 (b+1) c]]
theorem f2O {es:List Ent} {m:Int} {X:List Nat} (hs:C9 es) (hl:es.length≤12) (hg:∀ e∈es,e.Good) (hX:X∈idsL) (i:MOK m):∃ (ks vs:List (List AV)) (a b c:Nat) (st':St),Ev e8 8 [.ptr 2 0,.agg [.sl 31 0 es.length 4],W.txtW,a4n m X] (T_b0++[.cells (e9 es)]) (a5l (.sl 31 0 es.length 4) ks vs a b c) st'∧st'[31]?=some (.cells (e9 es)):=by
 have hi:∀ e∈es,e.id∈idsL:=fun e x=>(hg e x).idl
 cases u:F8 es X with
 | none =>refine⟨_,_,_,_,_,_,doN (vE es m X [] [] [] [] [] [] []) i hl (b2n _ i) (b30 _ _ _ _ _ _ _ hs hl hi) (b2N _ _ _ _ _ _ _ hs hl hi) (b4u _ _ _ _ _ _ _ hs hl hi) (g71 _ i hl (e6f _ _ _ _ _ _ _ hs hl hi hX u)) (b2G _ _ _ _ _ _ _ hs hl hi),?_⟩;kernel_rfl
 | some e =>
  have j:=a7Y u;have l:=(hg e j.1).fam;have v:=(hg e j.1).kl;have hid:=(a2n _ _).1 j.2;obtain⟨t,id,ks,ls⟩:=e;dsimp only at l v hid;subst hid;rcases l with⟨rfl,hk⟩|rfl|rfl
  · obtain⟨R,hR⟩:=e8I ls;rw[← v]at hR;refine⟨_,_,_,_,_,_,doP (mkV es.length m id (e9 es) (e9 (i8 es (x1E m))) (e9 (i8 (i8 es (x1E m)) (x2E m id ⟨l7,id,ks,ls⟩))) R ks) i hl (b2n _ i) (b30 _ _ _ _ _ _ _ hs hl hi) (b2N _ _ _ _ _ _ _ hs hl hi) (b4u _ _ _ _ _ _ _ hs hl hi) (g8e hs hl hi hX hR u) (g5h hk) (g7Q hk) (g4b hs hl hi hX hR u) (f6F hs hl hi hX hR u) (g7Y hk) (g3E hs hl hi hX u),?_⟩;kernel_rfl
  · refine⟨_,_,_,_,_,_,doN (vE es m id [] (ks.map m3) (ls.map Val.row) [] [] [] []) i hl (b2n _ i) (b30 _ _ _ _ _ _ _ hs hl hi) (b2N _ _ _ _ _ _ _ hs hl hi) (b4u _ _ _ _ _ _ _ hs hl hi) (g6T _ i hl (q_C hs hl hi hX u)) (b2G _ _ _ _ _ _ _ hs hl hi),?_⟩;kernel_rfl
  · refine⟨_,_,_,_,_,_,doN (vE es m id [] (ks.map m3) (ls.map Val.row) [] [] [] []) i hl (b2n _ i) (b30 _ _ _ _ _ _ _ hs hl hi) (b2N _ _ _ _ _ _ _ hs hl hi) (b4u _ _ _ _ _ _ _ hs hl hi) (g3U _ i hl (q_D hs hl hi hX u)) (b2G _ _ _ _ _ _ _ hs hl hi),?_⟩;kernel_rfl
theorem g43 (v:Lt):((Z2 v))[154]?=some (.cells (e9 [x1E v.m])):=by kernel_rfl
theorem e6N {m:Int} {X:List Nat} (hX:X∈idsL) (j:MOK m):∃ (ks vs:List (List AV)) (a b c:Nat) (st':St),Ev e8 8 [.ptr 2 0,.agg [.nils],W.txtW,a4n m X] T_b0 (a5l .nils ks vs a b c) st':=by have i:C9 [x1E m]:=r6 (es:=[]) (List.Pairwise.nil) (x1E m);have l:=U9 (es:=[x1E m]) rfl (g43 (vE [] m X [] [] [] [] [] [] [])) i (show 1≤100000 by decide) (U6 (x1E m) (a2q _ hX).2.2 []);exact⟨_,_,_,_,_,_,doZ (vE [] m X [] [] [] [] [] [] []) j (Nat.zero_le _) (f6H _ j) (cvt l (by kernel_rfl))⟩
end Go.Cb.CodeA
