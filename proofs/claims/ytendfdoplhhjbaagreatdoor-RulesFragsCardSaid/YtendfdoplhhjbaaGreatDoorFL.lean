/-
 RulesFrags: the law, at every input.
-/
import Derived.Test.YtendfdoplhhjbaaGreatDoorFA
import Derived.Test.YtendfdoplhhjbaaGreatDoorMaw
import Derived.Test.YtendfdoplhhjbaaGreatDoorMbb
import Derived.KernelRfl
set_option maxRecDepth 100000
set_option linter.unusedVariables false
namespace Go.Cb.CodeA
open Go Go.Cb Go.Cb.G
theorem b4T:Ev tbl 5 [] [] c5E t7:=a6x f7o
theorem b96 (ob:Cb.Obj):Ev tbl 6 [] (a0r ob) b3X (a7s ob):=a6x (f8b ob)
def ixF (k:Nat) (r:Bool):Int:=match r with|true=>.ofNat k|false=>0
theorem b3m (k:Nat) (r l:Bool):∃ X,a7R k r l=.list false X:=⟨_,rfl⟩
theorem b40 {α:Type} {l:List α} (h:l.length=1):∃ x,l=[x]:=by
 match l with
 | [x]=>exact ⟨x,rfl⟩
theorem d4j {k:Nat} (h0:0 < k) (h1:k < 16) (r l:Bool):∃ ob,Ev tbl 7 [.str (a0U k r l)] t7 (b4P k r l) (a0r ob):=by
 have h:=e3r k h0 h1 r l
 unfold i7 i8 at h
 cases hc:callG tbl 3000 7 [.str (a0U k r l)] t7 with
 | none=>rw [hc] at h; cases h
 | some p =>
  obtain ⟨v,s⟩:=p
  rw [hc] at h
  unfold d0J at h
  simp only [Option.some.injEq,Prod.mk.injEq] at h
  obtain ⟨rfl,h2,h3⟩:=h
  obtain ⟨ob,h4⟩:=b40 h3
  refine ⟨ob,a6x (k:=3000) ?_⟩
  rw [hc]
  have:s=t7++[ob]:=by rw [← h2,← h4,List.take_append_drop]
  rw [this]
  rfl
theorem f1G (x1 x2:AV):∀ m,m < 256→d8 N 0 a4s8 [.int .u8 (.ofNat m),x1,x2,.bool false,.undef,.undef,.undef,.undef,.undef,.undef,.undef,.undef,.undef] t7=some (.normal,[.int .u8 (.ofNat m),x1,x2,.bool false,.int .i64 (.ofNat (m % 15+1)),.undef,.undef,.undef,.undef,.undef,.undef,.undef,.undef],t7)
 | 0,_=>by kernel_rfl
 | 1,_=>by kernel_rfl
 | 2,_=>by kernel_rfl
 | 3,_=>by kernel_rfl
 | 4,_=>by kernel_rfl
 | 5,_=>by kernel_rfl
 | 6,_=>by kernel_rfl
 | 7,_=>by kernel_rfl
 | 8,_=>by kernel_rfl
 | 9,_=>by kernel_rfl
 | 10,_=>by kernel_rfl
 | 11,_=>by kernel_rfl
 | 12,_=>by kernel_rfl
 | 13,_=>by kernel_rfl
 | 14,_=>by kernel_rfl
 | 15,_=>by kernel_rfl
 | 16,_=>by kernel_rfl
 | 17,_=>by kernel_rfl
 | 18,_=>by kernel_rfl
 | 19,_=>by kernel_rfl
 | 20,_=>by kernel_rfl
 | 21,_=>by kernel_rfl
 | 22,_=>by kernel_rfl
 | 23,_=>by kernel_rfl
 | 24,_=>by kernel_rfl
 | 25,_=>by kernel_rfl
 | 26,_=>by kernel_rfl
 | 27,_=>by kernel_rfl
 | 28,_=>by kernel_rfl
 | 29,_=>by kernel_rfl
 | 30,_=>by kernel_rfl
 | 31,_=>by kernel_rfl
 | 32,_=>by kernel_rfl
 | 33,_=>by kernel_rfl
 | 34,_=>by kernel_rfl
 | 35,_=>by kernel_rfl
 | 36,_=>by kernel_rfl
 | 37,_=>by kernel_rfl
 | 38,_=>by kernel_rfl
 | 39,_=>by kernel_rfl
 | 40,_=>by kernel_rfl
 | 41,_=>by kernel_rfl
 | 42,_=>by kernel_rfl
 | 43,_=>by kernel_rfl
 | 44,_=>by kernel_rfl
 | 45,_=>by kernel_rfl
 | 46,_=>by kernel_rfl
 | 47,_=>by kernel_rfl
 | 48,_=>by kernel_rfl
 | 49,_=>by kernel_rfl
 | 50,_=>by kernel_rfl
 | 51,_=>by kernel_rfl
 | 52,_=>by kernel_rfl
 | 53,_=>by kernel_rfl
 | 54,_=>by kernel_rfl
 | 55,_=>by kernel_rfl
 | 56,_=>by kernel_rfl
 | 57,_=>by kernel_rfl
 | 58,_=>by kernel_rfl
 | 59,_=>by kernel_rfl
 | 60,_=>by kernel_rfl
 | 61,_=>by kernel_rfl
 | 62,_=>by kernel_rfl
 | 63,_=>by kernel_rfl
 | 64,_=>by kernel_rfl
 | 65,_=>by kernel_rfl
 | 66,_=>by kernel_rfl
 | 67,_=>by kernel_rfl
 | 68,_=>by kernel_rfl
 | 69,_=>by kernel_rfl
 | 70,_=>by kernel_rfl
 | 71,_=>by kernel_rfl
 | 72,_=>by kernel_rfl
 | 73,_=>by kernel_rfl
 | 74,_=>by kernel_rfl
 | 75,_=>by kernel_rfl
 | 76,_=>by kernel_rfl
 | 77,_=>by kernel_rfl
 | 78,_=>by kernel_rfl
 | 79,_=>by kernel_rfl
 | 80,_=>by kernel_rfl
 | 81,_=>by kernel_rfl
 | 82,_=>by kernel_rfl
 | 83,_=>by kernel_rfl
 | 84,_=>by kernel_rfl
 | 85,_=>by kernel_rfl
 | 86,_=>by kernel_rfl
 | 87,_=>by kernel_rfl
 | 88,_=>by kernel_rfl
 | 89,_=>by kernel_rfl
 | 90,_=>by kernel_rfl
 | 91,_=>by kernel_rfl
 | 92,_=>by kernel_rfl
 | 93,_=>by kernel_rfl
 | 94,_=>by kernel_rfl
 | 95,_=>by kernel_rfl
 | 96,_=>by kernel_rfl
 | 97,_=>by kernel_rfl
 | 98,_=>by kernel_rfl
 | 99,_=>by kernel_rfl
 | 100,_=>by kernel_rfl
 | 101,_=>by kernel_rfl
 | 102,_=>by kernel_rfl
 | 103,_=>by kernel_rfl
 | 104,_=>by kernel_rfl
 | 105,_=>by kernel_rfl
 | 106,_=>by kernel_rfl
 | 107,_=>by kernel_rfl
 | 108,_=>by kernel_rfl
 | 109,_=>by kernel_rfl
 | 110,_=>by kernel_rfl
 | 111,_=>by kernel_rfl
 | 112,_=>by kernel_rfl
 | 113,_=>by kernel_rfl
 | 114,_=>by kernel_rfl
 | 115,_=>by kernel_rfl
 | 116,_=>by kernel_rfl
 | 117,_=>by kernel_rfl
 | 118,_=>by kernel_rfl
 | 119,_=>by kernel_rfl
 | 120,_=>by kernel_rfl
 | 121,_=>by kernel_rfl
 | 122,_=>by kernel_rfl
 | 123,_=>by kernel_rfl
 | 124,_=>by kernel_rfl
 | 125,_=>by kernel_rfl
 | 126,_=>by kernel_rfl
 | 127,_=>by kernel_rfl
 | 128,_=>by kernel_rfl
 | 129,_=>by kernel_rfl
 | 130,_=>by kernel_rfl
 | 131,_=>by kernel_rfl
 | 132,_=>by kernel_rfl
 | 133,_=>by kernel_rfl
 | 134,_=>by kernel_rfl
 | 135,_=>by kernel_rfl
 | 136,_=>by kernel_rfl
 | 137,_=>by kernel_rfl
 | 138,_=>by kernel_rfl
 | 139,_=>by kernel_rfl
 | 140,_=>by kernel_rfl
 | 141,_=>by kernel_rfl
 | 142,_=>by kernel_rfl
 | 143,_=>by kernel_rfl
 | 144,_=>by kernel_rfl
 | 145,_=>by kernel_rfl
 | 146,_=>by kernel_rfl
 | 147,_=>by kernel_rfl
 | 148,_=>by kernel_rfl
 | 149,_=>by kernel_rfl
 | 150,_=>by kernel_rfl
 | 151,_=>by kernel_rfl
 | 152,_=>by kernel_rfl
 | 153,_=>by kernel_rfl
 | 154,_=>by kernel_rfl
 | 155,_=>by kernel_rfl
 | 156,_=>by kernel_rfl
 | 157,_=>by kernel_rfl
 | 158,_=>by kernel_rfl
 | 159,_=>by kernel_rfl
 | 160,_=>by kernel_rfl
 | 161,_=>by kernel_rfl
 | 162,_=>by kernel_rfl
 | 163,_=>by kernel_rfl
 | 164,_=>by kernel_rfl
 | 165,_=>by kernel_rfl
 | 166,_=>by kernel_rfl
 | 167,_=>by kernel_rfl
 | 168,_=>by kernel_rfl
 | 169,_=>by kernel_rfl
 | 170,_=>by kernel_rfl
 | 171,_=>by kernel_rfl
 | 172,_=>by kernel_rfl
 | 173,_=>by kernel_rfl
 | 174,_=>by kernel_rfl
 | 175,_=>by kernel_rfl
 | 176,_=>by kernel_rfl
 | 177,_=>by kernel_rfl
 | 178,_=>by kernel_rfl
 | 179,_=>by kernel_rfl
 | 180,_=>by kernel_rfl
 | 181,_=>by kernel_rfl
 | 182,_=>by kernel_rfl
 | 183,_=>by kernel_rfl
 | 184,_=>by kernel_rfl
 | 185,_=>by kernel_rfl
 | 186,_=>by kernel_rfl
 | 187,_=>by kernel_rfl
 | 188,_=>by kernel_rfl
 | 189,_=>by kernel_rfl
 | 190,_=>by kernel_rfl
 | 191,_=>by kernel_rfl
 | 192,_=>by kernel_rfl
 | 193,_=>by kernel_rfl
 | 194,_=>by kernel_rfl
 | 195,_=>by kernel_rfl
 | 196,_=>by kernel_rfl
 | 197,_=>by kernel_rfl
 | 198,_=>by kernel_rfl
 | 199,_=>by kernel_rfl
 | 200,_=>by kernel_rfl
 | 201,_=>by kernel_rfl
 | 202,_=>by kernel_rfl
 | 203,_=>by kernel_rfl
 | 204,_=>by kernel_rfl
 | 205,_=>by kernel_rfl
 | 206,_=>by kernel_rfl
 | 207,_=>by kernel_rfl
 | 208,_=>by kernel_rfl
 | 209,_=>by kernel_rfl
 | 210,_=>by kernel_rfl
 | 211,_=>by kernel_rfl
 | 212,_=>by kernel_rfl
 | 213,_=>by kernel_rfl
 | 214,_=>by kernel_rfl
 | 215,_=>by kernel_rfl
 | 216,_=>by kernel_rfl
 | 217,_=>by kernel_rfl
 | 218,_=>by kernel_rfl
 | 219,_=>by kernel_rfl
 | 220,_=>by kernel_rfl
 | 221,_=>by kernel_rfl
 | 222,_=>by kernel_rfl
 | 223,_=>by kernel_rfl
 | 224,_=>by kernel_rfl
 | 225,_=>by kernel_rfl
 | 226,_=>by kernel_rfl
 | 227,_=>by kernel_rfl
 | 228,_=>by kernel_rfl
 | 229,_=>by kernel_rfl
 | 230,_=>by kernel_rfl
 | 231,_=>by kernel_rfl
 | 232,_=>by kernel_rfl
 | 233,_=>by kernel_rfl
 | 234,_=>by kernel_rfl
 | 235,_=>by kernel_rfl
 | 236,_=>by kernel_rfl
 | 237,_=>by kernel_rfl
 | 238,_=>by kernel_rfl
 | 239,_=>by kernel_rfl
 | 240,_=>by kernel_rfl
 | 241,_=>by kernel_rfl
 | 242,_=>by kernel_rfl
 | 243,_=>by kernel_rfl
 | 244,_=>by kernel_rfl
 | 245,_=>by kernel_rfl
 | 246,_=>by kernel_rfl
 | 247,_=>by kernel_rfl
 | 248,_=>by kernel_rfl
 | 249,_=>by kernel_rfl
 | 250,_=>by kernel_rfl
 | 251,_=>by kernel_rfl
 | 252,_=>by kernel_rfl
 | 253,_=>by kernel_rfl
 | 254,_=>by kernel_rfl
 | 255,_=>by kernel_rfl
 | n+256,h=>absurd h (by omega)
theorem f0h (x0 x1 x2 x4:AV):d8 N 0 a4s10 [x0,x1,x2,.bool false,x4,.undef,.undef,.undef,.undef,.undef,.undef,.undef,.undef] t7=some (.normal,[x0,x1,x2,.bool false,x4,.str a5W,.undef,.undef,.undef,.undef,.undef,.undef,.undef],t7):=by kernel_rfl
theorem d97 (x0 x1 x2 x4 x5:AV):d8 N 0 a4s12 [x0,x1,x2,.bool false,x4,x5,.undef,.undef,.undef,.undef,.undef,.undef,.undef] t7=some (.normal,[x0,x1,x2,.bool false,x4,x5,.list true [],.undef,.undef,.undef,.undef,.undef,.undef],t7):=by kernel_rfl
theorem e1h (x0 x2:AV):∀ j,j < 15→∀ r:Bool,d8 N 40 a4s41 [x0,.bool r,x2,.bool false,.int .i64 (.ofNat (j+1)),.str a5W,.list true [],.undef,.undef,.undef,.undef,.undef,.undef] t7=some (.normal,[x0,.bool r,x2,.bool false,.int .i64 (.ofNat (j+1)),.str (a5Z (j+1) r),.list true [],.int .i64 (.ofNat (j+1)),.str [65+j],.undef,.undef,.undef,.undef],t7)
 | 0,_,false=>by kernel_rfl
 | 0,_,true=>by kernel_rfl
 | 1,_,false=>by kernel_rfl
 | 1,_,true=>by kernel_rfl
 | 2,_,false=>by kernel_rfl
 | 2,_,true=>by kernel_rfl
 | 3,_,false=>by kernel_rfl
 | 3,_,true=>by kernel_rfl
 | 4,_,false=>by kernel_rfl
 | 4,_,true=>by kernel_rfl
 | 5,_,false=>by kernel_rfl
 | 5,_,true=>by kernel_rfl
 | 6,_,false=>by kernel_rfl
 | 6,_,true=>by kernel_rfl
 | 7,_,false=>by kernel_rfl
 | 7,_,true=>by kernel_rfl
 | 8,_,false=>by kernel_rfl
 | 8,_,true=>by kernel_rfl
 | 9,_,false=>by kernel_rfl
 | 9,_,true=>by kernel_rfl
 | 10,_,false=>by kernel_rfl
 | 10,_,true=>by kernel_rfl
 | 11,_,false=>by kernel_rfl
 | 11,_,true=>by kernel_rfl
 | 12,_,false=>by kernel_rfl
 | 12,_,true=>by kernel_rfl
 | 13,_,false=>by kernel_rfl
 | 13,_,true=>by kernel_rfl
 | 14,_,false=>by kernel_rfl
 | 14,_,true=>by kernel_rfl
 | n+15,h,_=>absurd h (by omega)
theorem e9Y (x0 x1 x4 x7 x8:AV):∀ j,j < 15→∀ r:Bool,∀ l:Bool,d8 N 0 a4s48 [x0,x1,.bool l,.bool false,x4,.str (a5Z (j+1) r),.list true [],x7,x8,.undef,.undef,.undef,.undef] t7=some (.normal,[x0,x1,.bool l,.bool false,x4,.str (a0U (j+1) r l),.list true (b1f l),x7,x8,.undef,.undef,.undef,.undef],t7)
 | 0,_,false,false=>by kernel_rfl
 | 0,_,false,true=>by kernel_rfl
 | 0,_,true,false=>by kernel_rfl
 | 0,_,true,true=>by kernel_rfl
 | 1,_,false,false=>by kernel_rfl
 | 1,_,false,true=>by kernel_rfl
 | 1,_,true,false=>by kernel_rfl
 | 1,_,true,true=>by kernel_rfl
 | 2,_,false,false=>by kernel_rfl
 | 2,_,false,true=>by kernel_rfl
 | 2,_,true,false=>by kernel_rfl
 | 2,_,true,true=>by kernel_rfl
 | 3,_,false,false=>by kernel_rfl
 | 3,_,false,true=>by kernel_rfl
 | 3,_,true,false=>by kernel_rfl
 | 3,_,true,true=>by kernel_rfl
 | 4,_,false,false=>by kernel_rfl
 | 4,_,false,true=>by kernel_rfl
 | 4,_,true,false=>by kernel_rfl
 | 4,_,true,true=>by kernel_rfl
 | 5,_,false,false=>by kernel_rfl
 | 5,_,false,true=>by kernel_rfl
 | 5,_,true,false=>by kernel_rfl
 | 5,_,true,true=>by kernel_rfl
 | 6,_,false,false=>by kernel_rfl
 | 6,_,false,true=>by kernel_rfl
 | 6,_,true,false=>by kernel_rfl
 | 6,_,true,true=>by kernel_rfl
 | 7,_,false,false=>by kernel_rfl
 | 7,_,false,true=>by kernel_rfl
 | 7,_,true,false=>by kernel_rfl
 | 7,_,true,true=>by kernel_rfl
 | 8,_,false,false=>by kernel_rfl
 | 8,_,false,true=>by kernel_rfl
 | 8,_,true,false=>by kernel_rfl
 | 8,_,true,true=>by kernel_rfl
 | 9,_,false,false=>by kernel_rfl
 | 9,_,false,true=>by kernel_rfl
 | 9,_,true,false=>by kernel_rfl
 | 9,_,true,true=>by kernel_rfl
 | 10,_,false,false=>by kernel_rfl
 | 10,_,false,true=>by kernel_rfl
 | 10,_,true,false=>by kernel_rfl
 | 10,_,true,true=>by kernel_rfl
 | 11,_,false,false=>by kernel_rfl
 | 11,_,false,true=>by kernel_rfl
 | 11,_,true,false=>by kernel_rfl
 | 11,_,true,true=>by kernel_rfl
 | 12,_,false,false=>by kernel_rfl
 | 12,_,false,true=>by kernel_rfl
 | 12,_,true,false=>by kernel_rfl
 | 12,_,true,true=>by kernel_rfl
 | 13,_,false,false=>by kernel_rfl
 | 13,_,false,true=>by kernel_rfl
 | 13,_,true,false=>by kernel_rfl
 | 13,_,true,true=>by kernel_rfl
 | 14,_,false,false=>by kernel_rfl
 | 14,_,false,true=>by kernel_rfl
 | 14,_,true,false=>by kernel_rfl
 | 14,_,true,true=>by kernel_rfl
 | n+15,h,_,_=>absurd h (by omega)
theorem f0j (x0 x2 x5 x7 x8:AV):∀ j,j < 15→∀ r:Bool,∀ l:Bool,d8 N 40 a4s62 [x0,.bool r,x2,.bool false,.int .i64 (.ofNat (j+1)),x5,.list true (b1f l),x7,x8,.undef,.undef,.undef,.undef] t7=some (.normal,[x0,.bool r,x2,.bool false,.int .i64 (.ofNat (j+1)),x5,.list true (a0X (j+1) r l),x7,x8,.int .i64 (ixF (j+1) r),.undef,.undef,.undef],t7)
 | 0,_,false,false=>by kernel_rfl
 | 0,_,false,true=>by kernel_rfl
 | 0,_,true,false=>by kernel_rfl
 | 0,_,true,true=>by kernel_rfl
 | 1,_,false,false=>by kernel_rfl
 | 1,_,false,true=>by kernel_rfl
 | 1,_,true,false=>by kernel_rfl
 | 1,_,true,true=>by kernel_rfl
 | 2,_,false,false=>by kernel_rfl
 | 2,_,false,true=>by kernel_rfl
 | 2,_,true,false=>by kernel_rfl
 | 2,_,true,true=>by kernel_rfl
 | 3,_,false,false=>by kernel_rfl
 | 3,_,false,true=>by kernel_rfl
 | 3,_,true,false=>by kernel_rfl
 | 3,_,true,true=>by kernel_rfl
 | 4,_,false,false=>by kernel_rfl
 | 4,_,false,true=>by kernel_rfl
 | 4,_,true,false=>by kernel_rfl
 | 4,_,true,true=>by kernel_rfl
 | 5,_,false,false=>by kernel_rfl
 | 5,_,false,true=>by kernel_rfl
 | 5,_,true,false=>by kernel_rfl
 | 5,_,true,true=>by kernel_rfl
 | 6,_,false,false=>by kernel_rfl
 | 6,_,false,true=>by kernel_rfl
 | 6,_,true,false=>by kernel_rfl
 | 6,_,true,true=>by kernel_rfl
 | 7,_,false,false=>by kernel_rfl
 | 7,_,false,true=>by kernel_rfl
 | 7,_,true,false=>by kernel_rfl
 | 7,_,true,true=>by kernel_rfl
 | 8,_,false,false=>by kernel_rfl
 | 8,_,false,true=>by kernel_rfl
 | 8,_,true,false=>by kernel_rfl
 | 8,_,true,true=>by kernel_rfl
 | 9,_,false,false=>by kernel_rfl
 | 9,_,false,true=>by kernel_rfl
 | 9,_,true,false=>by kernel_rfl
 | 9,_,true,true=>by kernel_rfl
 | 10,_,false,false=>by kernel_rfl
 | 10,_,false,true=>by kernel_rfl
 | 10,_,true,false=>by kernel_rfl
 | 10,_,true,true=>by kernel_rfl
 | 11,_,false,false=>by kernel_rfl
 | 11,_,false,true=>by kernel_rfl
 | 11,_,true,false=>by kernel_rfl
 | 11,_,true,true=>by kernel_rfl
 | 12,_,false,false=>by kernel_rfl
 | 12,_,false,true=>by kernel_rfl
 | 12,_,true,false=>by kernel_rfl
 | 12,_,true,true=>by kernel_rfl
 | 13,_,false,false=>by kernel_rfl
 | 13,_,false,true=>by kernel_rfl
 | 13,_,true,false=>by kernel_rfl
 | 13,_,true,true=>by kernel_rfl
 | 14,_,false,false=>by kernel_rfl
 | 14,_,false,true=>by kernel_rfl
 | 14,_,true,false=>by kernel_rfl
 | 14,_,true,true=>by kernel_rfl
 | n+15,h,_,_=>absurd h (by omega)
theorem d9i (x0 x1 x2 x4 x6 x7 x8 x9:AV) (t:List Nat):U2 [10] a4r63 1 [x0,x1,x2,.bool false,x4,.str t,x6,x7,x8,x9,.undef,.undef,.undef] t7=some (7,[.str t],t7):=by kernel_rfl
theorem e2Q (x0 x1 x2 x4 x6 x7 x8 x9:AV) (t:List Nat) (X:List (List AV)) (ob:Cb.Obj):after [10] a4r63 1 (.c .undef) [x0,x1,x2,.bool false,x4,.str t,x6,x7,x8,x9,.undef,.undef,.undef] t7 (.tuple [.agg [a10,.list false X],.int .i64 0,.int .i64 0]) (a0r ob)=some (.undef,[x0,x1,x2,.bool false,x4,.str t,x6,x7,x8,x9,.box [a10,.list false X],.int .i64 0,.undef],a0r ob):=by kernel_rfl
theorem e70 (x0 x1 x2 x4 x6 x7 x8 x9:AV) (t:List Nat) (X:List (List AV)) (ob:Cb.Obj):U2 [] a4r65 0 [x0,x1,x2,.bool false,x4,.str t,x6,x7,x8,x9,.box [a10,.list false X],.int .i64 0,.undef] (a0r ob)=some (6,[],a0r ob):=by kernel_rfl
theorem e6m (x0 x1 x2 x4 x6 x7 x8 x9:AV) (t:List Nat) (X:List (List AV)) (ob:Cb.Obj):after [] a4r65 0 (.c .undef) [x0,x1,x2,.bool false,x4,.str t,x6,x7,x8,x9,.box [a10,.list false X],.int .i64 0,.undef] (a0r ob) b3X (a7s ob)=some (.undef,[x0,x1,x2,.bool false,x4,.str t,x6,x7,x8,x9,.box [a10,.list false X],.int .i64 0,.ptr 41 0],a7s ob):=by kernel_rfl
theorem b1Q (m:Nat) (r l:Bool) (hm:m < 256):∃ n st',e8 tbl n 4 [.int .u8 (.ofNat m),.bool r,.bool l] []=some (.bool true,st'):=by
 have hj:m % 15 < 15:=Nat.mod_lt _ (by omega)
 refine FX.run (fn:=a4) (rs:=[.v 3]) (code:=a4s79) (fr:=[.int .u8 (.ofNat m),.bool r,.bool l,.undef,.undef,.undef,.undef,.undef,.undef,.undef,.undef,.undef,.undef]) (by kernel_rfl) (by kernel_rfl) (by kernel_rfl) rfl rfl rfl ?_
 refine FX.seq (a:=a4s1) (b:=a4s78) (a2d (k:=0) (out:=(.normal,[.int .u8 (.ofNat m),.bool r,.bool l,.bool false,.undef,.undef,.undef,.undef,.undef,.undef,.undef,.undef,.undef],[])) (by kernel_rfl)) ?_
 refine FX.seq (a:=a4s6) (b:=a4s77) (c0H (i:=0) (y:=false) (fr':=[.int .u8 (.ofNat m),.bool r,.bool l,.bool false,.undef,.undef,.undef,.undef,.undef,.undef,.undef,.undef,.undef]) (st':=t7) (by kernel_rfl) b4T (by kernel_rfl) (show XC tbl .skip _ _ _ from XC.skip)) ?_
 refine FX.seq (a:=a4s8) (b:=a4s76) (a2d (f1G (.bool r) (.bool l) m hm)) ?_
 refine FX.seq (a:=a4s10) (b:=a4s75) (a2d (f0h (.int .u8 (.ofNat m)) (.bool r) (.bool l) (.int .i64 (.ofNat (m % 15+1))))) ?_
 refine FX.seq (a:=a4s12) (b:=a4s74) (a2d (d97 (.int .u8 (.ofNat m)) (.bool r) (.bool l) (.int .i64 (.ofNat (m % 15+1))) (.str a5W))) ?_
 refine FX.seq (a:=a4s41) (b:=a4s73) (a2d (e1h (.int .u8 (.ofNat m)) (.bool l) (m % 15) hj r)) ?_
 refine FX.seq (a:=a4s48) (b:=a4s72) (a2d (e9Y (.int .u8 (.ofNat m)) (.bool r) (.int .i64 (.ofNat (m % 15+1))) (.int .i64 (.ofNat (m % 15+1))) (.str [65+m % 15]) (m % 15) hj r l)) ?_
 refine FX.seq (a:=a4s62) (b:=a4s71) (a2d (f0j (.int .u8 (.ofNat m)) (.bool l) (.str (a0U (m % 15+1) r l)) (.int .i64 (.ofNat (m % 15+1))) (.str [65+m % 15]) (m % 15) hj r l)) ?_
 obtain ⟨ob,hd⟩:=d4j (k:=m % 15+1) (by omega) (by omega) r l
 obtain ⟨X,hX⟩:=b3m (m % 15+1) r l
 unfold b4P at hd
 rw [hX] at hd
 refine FX.seq (a:=a4s64) (b:=a4s70) (b1L (d9i (.int .u8 (.ofNat m)) (.bool r) (.bool l) (.int .i64 (.ofNat (m % 15+1))) (.list true (a0X (m % 15+1) r l)) (.int .i64 (.ofNat (m % 15+1))) (.str [65+m % 15]) (.int .i64 (ixF (m % 15+1) r)) _) hd (e2Q (.int .u8 (.ofNat m)) (.bool r) (.bool l) (.int .i64 (.ofNat (m % 15+1))) (.list true (a0X (m % 15+1) r l)) (.int .i64 (.ofNat (m % 15+1))) (.str [65+m % 15]) (.int .i64 (ixF (m % 15+1) r)) _ _ ob)) ?_
 refine FX.seq (a:=a4s66) (b:=a4s69) (b1L (e70 (.int .u8 (.ofNat m)) (.bool r) (.bool l) (.int .i64 (.ofNat (m % 15+1))) (.list true (a0X (m % 15+1) r l)) (.int .i64 (.ofNat (m % 15+1))) (.str [65+m % 15]) (.int .i64 (ixF (m % 15+1) r)) _ _ ob) (b96 ob) (e6m (.int .u8 (.ofNat m)) (.bool r) (.bool l) (.int .i64 (.ofNat (m % 15+1))) (.list true (a0X (m % 15+1) r l)) (.int .i64 (.ofNat (m % 15+1))) (.str [65+m % 15]) (.int .i64 (ixF (m % 15+1) r)) _ _ ob)) ?_
 rw [← hX]
 exact FX.O (k:=3000) d2j (e1l (.int .u8 (.ofNat m)) (.bool r) (.bool l) (.int .i64 (.ofNat (m % 15+1))) (.str (a0U (m % 15+1) r l)) (.int .i64 (.ofNat (m % 15+1))) (.str [65+m % 15]) (.int .i64 (ixF (m % 15+1) r)) ob (m % 15+1) (by omega) (by omega) r l)
end Go.Cb.CodeA
