/-
 RulesFrags: all documents, all checks.
-/
import Derived.Test.YtendfdoplhhjbaaGreatDoorFD1
import Derived.Test.YtendfdoplhhjbaaGreatDoorFD2
import Derived.Test.YtendfdoplhhjbaaGreatDoorFD3
import Derived.Test.YtendfdoplhhjbaaGreatDoorFE1
import Derived.Test.YtendfdoplhhjbaaGreatDoorFE2
import Derived.Test.YtendfdoplhhjbaaGreatDoorFE3
import Derived.Test.YtendfdoplhhjbaaGreatDoorFE4
set_option maxRecDepth 100000
set_option linter.unusedVariables false
namespace Go.Cb.CodeA
open Go Go.Cb Go.Cb.G
theorem e3r:∀ k,0 < k→k < 16→∀ r l,i7 k r l=i8 k r l
 | 0,h,_=>absurd h (by omega)
 | 1,_,_=>H6 (d1)
 | 2,_,_=>H6 (d2)
 | 3,_,_=>H6 (d3)
 | 4,_,_=>H6 (d4)
 | 5,_,_=>H6 (d5)
 | 6,_,_=>H6 (d6)
 | 7,_,_=>D4 (fun r=>Bool.rec (d7f) (d7t) r)
 | 8,_,_=>D4 (fun r=>Bool.rec (d8f) (d8t) r)
 | 9,_,_=>D4 (fun r=>Bool.rec (d9f) (d9t) r)
 | 10,_,_=>D4 (fun r=>Bool.rec (f6w) (f4x) r)
 | 11,_,_=>D4 (fun r=>Bool.rec (f7y) (f1l) r)
 | 12,_,_=>D4 (fun r=>Bool.rec (f1j) (f2C) r)
 | 13,_,_=>D4 (fun r=>Bool.rec (f5o) (f1O) r)
 | 14,_,_=>fun r l=>Bool.rec (Bool.rec e1T e9q l) (Bool.rec e6a e7b l) r
 | 15,_,_=>fun r l=>Bool.rec (Bool.rec e0J d9G l) (Bool.rec f0n e3n l) r
 | k+16,_,h=>absurd h (by omega)
theorem e1l (x0 x1 x2 x4 x5 x7 x8 x9:AV) (ob:Cb.Obj):∀ k,0 < k→k < 16→∀ r l,g8 k x0 x1 x2 x4 x5 x7 x8 x9 ob r l=some (.bool true)
 | 0,h,_=>absurd h (by omega)
 | 1,_,_=>H6 (e1 x0 x1 x2 x4 x5 x7 x8 x9 ob)
 | 2,_,_=>H6 (e2 x0 x1 x2 x4 x5 x7 x8 x9 ob)
 | 3,_,_=>H6 (e3 x0 x1 x2 x4 x5 x7 x8 x9 ob)
 | 4,_,_=>H6 (e4 x0 x1 x2 x4 x5 x7 x8 x9 ob)
 | 5,_,_=>H6 (e5 x0 x1 x2 x4 x5 x7 x8 x9 ob)
 | 6,_,_=>H6 (e6 x0 x1 x2 x4 x5 x7 x8 x9 ob)
 | 7,_,_=>D4 (fun r=>Bool.rec (e7f x0 x1 x2 x4 x5 x7 x8 x9 ob) (e7t x0 x1 x2 x4 x5 x7 x8 x9 ob) r)
 | 8,_,_=>D4 (fun r=>Bool.rec (e8f x0 x1 x2 x4 x5 x7 x8 x9 ob) (e8t x0 x1 x2 x4 x5 x7 x8 x9 ob) r)
 | 9,_,_=>D4 (fun r=>Bool.rec (e9f x0 x1 x2 x4 x5 x7 x8 x9 ob) (e9t x0 x1 x2 x4 x5 x7 x8 x9 ob) r)
 | 10,_,_=>D4 (fun r=>Bool.rec (f1p x0 x1 x2 x4 x5 x7 x8 x9 ob) (f2f x0 x1 x2 x4 x5 x7 x8 x9 ob) r)
 | 11,_,_=>D4 (fun r=>Bool.rec (f6P x0 x1 x2 x4 x5 x7 x8 x9 ob) (f4n x0 x1 x2 x4 x5 x7 x8 x9 ob) r)
 | 12,_,_=>fun r l=>Bool.rec (Bool.rec (f05 x0 x1 x2 x4 x5 x7 x8 x9 ob) (e1Y x0 x1 x2 x4 x5 x7 x8 x9 ob) l) (Bool.rec (e9x x0 x1 x2 x4 x5 x7 x8 x9 ob) (e1g x0 x1 x2 x4 x5 x7 x8 x9 ob) l) r
 | 13,_,_=>fun r l=>Bool.rec (Bool.rec (d9v x0 x1 x2 x4 x5 x7 x8 x9 ob) (d9D x0 x1 x2 x4 x5 x7 x8 x9 ob) l) (Bool.rec (d9F x0 x1 x2 x4 x5 x7 x8 x9 ob) (e4a x0 x1 x2 x4 x5 x7 x8 x9 ob) l) r
 | 14,_,_=>fun r l=>Bool.rec (Bool.rec (e58 x0 x1 x2 x4 x5 x7 x8 x9 ob) (e5K x0 x1 x2 x4 x5 x7 x8 x9 ob) l) (Bool.rec (e6I x0 x1 x2 x4 x5 x7 x8 x9 ob) (e9L x0 x1 x2 x4 x5 x7 x8 x9 ob) l) r
 | 15,_,_=>fun r l=>Bool.rec (Bool.rec (e7K x0 x1 x2 x4 x5 x7 x8 x9 ob) (e2C x0 x1 x2 x4 x5 x7 x8 x9 ob) l) (Bool.rec (e33 x0 x1 x2 x4 x5 x7 x8 x9 ob) (d9X x0 x1 x2 x4 x5 x7 x8 x9 ob) l) r
 | k+16,_,h=>absurd h (by omega)
end Go.Cb.CodeA
