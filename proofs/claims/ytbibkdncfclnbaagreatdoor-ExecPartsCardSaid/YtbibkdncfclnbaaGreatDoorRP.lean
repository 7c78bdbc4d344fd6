import Derived.Test.YtbibkdncfclnbaaGreatDoorRD2
set_option maxRecDepth 100000
set_option linter.unusedVariables false
namespace Go.Cb.CodeA
open Go Go.Cb
def tO (u:List Nat):List Nat:=[123]++u++[125]
def tW (u v:List Nat):List Nat:=[123]++u++[32]++v++[125]
abbrev E2 (t:List Nat) (d:List Sel):Prop:=b5x t=some (a8M d)∧(a8M d).shut=true
def uP0:List Nat:=[97,58,32,112,101,111,112,108,101,32,123,32,97,103,101,32,125]
def xP0:Sel:=(.mk 1 [97] [112,101,111,112,108,101] [] [] [] [(.mk 1 [] [97,103,101] [] [] [] [])])
def uP1:List Nat:=[98,58,32,112,101,116,115,32,123,32,95,95,116,121,112,101,110,97,109,101,32,125]
def xP1:Sel:=(.mk 1 [98] [112,101,116,115] [] [] [] [(.mk 1 [] [95,95,116,121,112,101,110,97,109,101] [] [] [] [])])
def uP2:List Nat:=[99,58,32,112,101,114,115,111,110,40,105,100,58,32,34,97,34,41,32,123,32,110,97,109,101,32,102,114,105,101,110,100,115,32,123,32,110,97,109,101,32,125,32,125]
def xP2:Sel:=(.mk 1 [99] [112,101,114,115,111,110] [] [⟨[105,100],(.mk 2 0 [97] [] [])⟩] [] [(.mk 1 [] [110,97,109,101] [] [] [] []),(.mk 1 [] [102,114,105,101,110,100,115] [] [] [] [(.mk 1 [] [110,97,109,101] [] [] [] [])])])
def uP3:List Nat:=[100,58,32,110,97,109,101,100,40,105,100,58,32,34,98,34,41,32,123,32,110,97,109,101,32,125]
def xP3:Sel:=(.mk 1 [100] [110,97,109,101,100] [] [⟨[105,100],(.mk 2 0 [98] [] [])⟩] [] [(.mk 1 [] [110,97,109,101] [] [] [] [])])
def uP4:List Nat:=[101,58,32,112,101,114,115,111,110,40,105,100,58,32,34,99,34,41,32,123,32,112,101,116,32,123,32,46,46,46,32,111,110,32,67,97,116,32,123,32,110,97,109,101,32,125,32,125,32,125]
def xP4:Sel:=(.mk 1 [101] [112,101,114,115,111,110] [] [⟨[105,100],(.mk 2 0 [99] [] [])⟩] [] [(.mk 1 [] [112,101,116] [] [] [] [(.mk 3 [] [] [67,97,116] [] [] [(.mk 1 [] [110,97,109,101] [] [] [] [])])])])
theorem rP0:E2 (tO uP0) [xP0]:=⟨by kernel_rfl,by kernel_rfl⟩
theorem rP1:E2 (tO uP1) [xP1]:=⟨by kernel_rfl,by kernel_rfl⟩
theorem rP2:E2 (tO uP2) [xP2]:=⟨by kernel_rfl,by kernel_rfl⟩
theorem rP3:E2 (tO uP3) [xP3]:=⟨by kernel_rfl,by kernel_rfl⟩
theorem rP4:E2 (tO uP4) [xP4]:=⟨by kernel_rfl,by kernel_rfl⟩
theorem d4M:E2 (tW uP0 uP1) [xP0,xP1]:=⟨by kernel_rfl,by kernel_rfl⟩
theorem d6p:E2 (tW uP0 uP2) [xP0,xP2]:=⟨by kernel_rfl,by kernel_rfl⟩
theorem d40:E2 (tW uP0 uP3) [xP0,xP3]:=⟨by kernel_rfl,by kernel_rfl⟩
theorem d6A:E2 (tW uP0 uP4) [xP0,xP4]:=⟨by kernel_rfl,by kernel_rfl⟩
theorem d63:E2 (tW uP1 uP0) [xP1,xP0]:=⟨by kernel_rfl,by kernel_rfl⟩
theorem d53:E2 (tW uP1 uP2) [xP1,xP2]:=⟨by kernel_rfl,by kernel_rfl⟩
theorem d6M:E2 (tW uP1 uP3) [xP1,xP3]:=⟨by kernel_rfl,by kernel_rfl⟩
theorem d62:E2 (tW uP1 uP4) [xP1,xP4]:=⟨by kernel_rfl,by kernel_rfl⟩
theorem d4I:E2 (tW uP2 uP0) [xP2,xP0]:=⟨by kernel_rfl,by kernel_rfl⟩
theorem d50:E2 (tW uP2 uP1) [xP2,xP1]:=⟨by kernel_rfl,by kernel_rfl⟩
theorem d5n:E2 (tW uP2 uP3) [xP2,xP3]:=⟨by kernel_rfl,by kernel_rfl⟩
theorem d67:E2 (tW uP2 uP4) [xP2,xP4]:=⟨by kernel_rfl,by kernel_rfl⟩
theorem d5m:E2 (tW uP3 uP0) [xP3,xP0]:=⟨by kernel_rfl,by kernel_rfl⟩
theorem d7G:E2 (tW uP3 uP1) [xP3,xP1]:=⟨by kernel_rfl,by kernel_rfl⟩
theorem d45:E2 (tW uP3 uP2) [xP3,xP2]:=⟨by kernel_rfl,by kernel_rfl⟩
theorem d6z:E2 (tW uP3 uP4) [xP3,xP4]:=⟨by kernel_rfl,by kernel_rfl⟩
theorem d4R:E2 (tW uP4 uP0) [xP4,xP0]:=⟨by kernel_rfl,by kernel_rfl⟩
theorem d49:E2 (tW uP4 uP1) [xP4,xP1]:=⟨by kernel_rfl,by kernel_rfl⟩
theorem d8x:E2 (tW uP4 uP2) [xP4,xP2]:=⟨by kernel_rfl,by kernel_rfl⟩
theorem d6J:E2 (tW uP4 uP3) [xP4,xP3]:=⟨by kernel_rfl,by kernel_rfl⟩
end Go.Cb.CodeA
