import Derived.Test.YtdlgfdncpemcnaaGreatDoorW1
set_option maxRecDepth 100000
set_option linter.all false
namespace Go.Cb.CodeA
open Go Go.Cb Go.Cb.G
def P6 {α:Type} (k:List Nat) (v:α):List (List Nat)→List α→List (List Nat)×List α
 | x::xs,y::ys=>bif l5 x k then(x::(P6 k v xs ys).1,y::(P6 k v xs ys).2)else bif eqN x k then(k::xs,v::ys)else(k::x::xs,v::y::ys)
 | _,_=>([k],[v])
theorem a5y {α β:Type} (f:α→β) (k:List Nat) (v:α):∀ (ks:List (List Nat)) (ls:List α),P6 k (f v) ks (ls.map f)=((P6 k v ks ls).1,(P6 k v ks ls).2.map f)
 | [],_=>by simp[P6]
 | _::_,[]=>by simp[P6]
 | x::xs,y::ys=>by rw[List.map_cons,P6,P6,a5y f k v xs ys];cases l5 x k<;>cases eqN x k<;>rfl
def a2e:List (List Nat)→List (List (List Nat))
 | []=>[[]]
 | a::l=>a2e l++(a2e l).map (a::·)
theorem a1a:∀ {l ks:List (List Nat)},ks.Sublist l→ks∈a2e l
 | _,_,.slnil=>by simp[a2e]
 | _,_,.cons a h=>List.mem_append_left _ (a1a h)
 | _,_,.cons_cons a h=>List.mem_append_right _ (List.mem_map.2 ⟨_,a1a h,rfl⟩)
structure Rw where
 k:Int
 n:Int
 s:List Nat
 xs:List (List AV)
 ys:List (List AV)
def Rw.row (r:Rw):List AV:=[.int .u8 r.k,.int .i64 r.n,.str r.s,.list false r.xs,.list false r.ys]
def a6B (R:Nat→Rw) (n:Nat):List (List AV):=(List.range n).map fun i=>(R i).row
def X0:List Nat:=[110,97,109,101]
def a6a:List Nat:=[97,103,101]
def l7:List Nat:=[80,101,114,115,111,110]
def e0J:List AV:=[.int .u8 2,.int .i64 0,.str [109],.list false [],.list false []]
def e3V (m:Int):List AV:=[.int .u8 1,.int .i64 m,.str [],.list false [],.list false []]
def pu1 (R:Nat→Rw) (ks:List (List Nat)):=P6 X0 e0J ks (a6B R ks.length)
def pu2 (m:Int) (R:Nat→Rw) (ks:List (List Nat)):=P6 a6a (e3V m) (pu1 R ks).1 (pu1 R ks).2
end Go.Cb.CodeA
