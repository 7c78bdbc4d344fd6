import Derived.Test.YtdlgfdncpemcnaaGreatDoorCFL
import Derived.Test.YtdlgfdncpemcnaaGreatDoorCP1
import Derived.Test.YtdlgfdncpemcnaaGreatDoorCP2
import Derived.Test.YtdlgfdncpemcnaaGreatDoorCP3
import Derived.Test.YtdlgfdncpemcnaaGreatDoorCP4
import Derived.Test.YtdlgfdncpemcnaaGreatDoorCW
import Derived.Test.YtdlgfdncpemcnaaGreatDoorMaw
import Derived.Test.YtdlgfdncpemcnaaGreatDoorMb0
set_option maxRecDepth 100000
set_option linter.unusedVariables false
namespace Go.Cb.CodeA
open Go Go.Cb Go.Cb.G
theorem j8e (x y z:Nat) (h:Ev e7 177 [.agg [.sl 0 0 200 4],.str [107,.succ x,.succ y,.succ z]] [.cells cfZ] (.tuple [.agg [zc,.str [107,.succ x,.succ y,.succ z],zn,zv],.bool true]) [.cells cfZ]):a5n x y z:=by
 unfold a5n
 exact a6I (ext:=List.drop 32 (m8 x y z)) h (by kernel_rfl) (by kernel_rfl) (by kernel_rfl) (by kernel_rfl)
theorem j0y (x y z:Nat) (h:Ev e7 177 [.agg [.sl 0 0 200 4],.str [107,.succ x,.succ y,.succ z]] [.cells cfZ] (.tuple [.agg [zc,.str [107,.succ x,.succ y,.succ z],zn,zv],.bool true]) [.cells cfZ]):a12 x y z:=by
 unfold a12
 exact a6I (ext:=List.drop 32 (I2 x y z)) h (by kernel_rfl) (by kernel_rfl) (by kernel_rfl) (by kernel_rfl)
theorem k2Y (x y z:Nat) (g:Nat→Nat×Nat×Nat) (h:Ev e7 116 [.agg [.sl 0 0 200 4],.str [107,.succ x,.succ y,.succ z]] [.cells cfZ] (.agg [.sl 2 0 199 4]) [.cells cfZ,.dead,.cells (n7 g)]):CfW x y z (n7 g):=by
 unfold CfW
 exact a6I (ext:=List.drop 32 ((j9 x y z).set 77 ((X3 x y z (n7 g))))) h (by kernel_rfl) (by kernel_rfl) (by kernel_rfl) (by kernel_rfl)
theorem k0k (x y z:Nat) (g:Nat→Nat×Nat×Nat):CfP x y z (n7 g):=by
 have e:(Ev e7 46 [(.ptr 77 0),(a7X x y z g),(S8 x y z g)] (a2g x y z g) (a0N x y z g) ((m5 x y z g).set 77 ((a3S x y z g))))=CfP x y z (n7 g):=by kernel_rfl
 exact Eq.mp e (t18 x y z g)
theorem i8Q {f:Nat} {as as':List AV} {ext st1 st' st'':St} {r r':AV} (h:Ev e7 f as T_s r st') (h1:as.map (AV.sh 32 ext.length)=as') (h2:r.sh 32 ext.length=r') (h3:shS 32 ext st'=st'') (h0:shS 32 ext T_s=st1):Ev e7 f as' st1 r' st'':=by
 have b:=Ev.sh a3X (L:=32) ext (show 32≤T_s.length from Nat.le_of_eq (show 32=T_s.length by kernel_rfl)) h
 rw [h1,h2,h3,h0] at b
 exact b
theorem k25 (n:Int) (x y z:Nat) (g:Nat→Nat×Nat×Nat) (hx:Dg x) (hy:Dg y) (hz:Dg z) (hg:Ev e7 177 [.agg [.sl 0 0 200 4],.str [107,.succ x,.succ y,.succ z]] [.cells cfZ] (.tuple [.agg [zc,.str [107,.succ x,.succ y,.succ z],zn,zv],.bool true]) [.cells cfZ])
 (hw:Ev e7 116 [.agg [.sl 0 0 200 4],.str [107,.succ x,.succ y,.succ z]] [.cells cfZ] (.agg [.sl 2 0 199 4]) [.cells cfZ,.dead,.cells (n7 g)]):CfD n x y z (n7 g):=by
 unfold CfD
 exact i8Q (ext:=List.drop 32 (L4 n x y z (n7 g))) (j1Q x y z (n7 g) hx hy hz (j8e x y z hg) (j0y x y z hg) (k2Y x y z g hw) (k0k x y z g)) (by kernel_rfl) (by kernel_rfl) (by kernel_rfl) (by kernel_rfl)
/-! row by row -/
theorem b8 {α:Type} {f g:Nat→α} {i m:Nat} (h:(List.range' i m).map f=(List.range' i m).map g) {r:Nat} (h1:i≤r) (h2:r < i+m):f r=g r:=List.map_inj_left.1 h r (by rw [List.mem_range'_1]; exact ⟨h1,h2⟩)
theorem j7v (r:Nat) (hr:r < 200):cpG r=cpH r:=by
 by_cases h0:r < 10
 · exact b8 k0P (by omega) h0
 by_cases h10:r < 20
 · exact b8 j7e (by omega) h10
 by_cases h20:r < 30
 · exact b8 j3A (by omega) h20
 by_cases h30:r < 40
 · exact b8 j5P (by omega) h30
 by_cases h40:r < 50
 · exact b8 j4r (by omega) h40
 by_cases h50:r < 60
 · exact b8 i9s (by omega) h50
 by_cases h60:r < 70
 · exact b8 j7i (by omega) h60
 by_cases h70:r < 80
 · exact b8 j1r (by omega) h70
 by_cases h80:r < 90
 · exact b8 j5v (by omega) h80
 by_cases h90:r < 100
 · exact b8 i8r (by omega) h90
 by_cases h100:r < 110
 · exact b8 h4v (by omega) h100
 by_cases h110:r < 120
 · exact b8 g2f (by omega) h110
 by_cases h120:r < 130
 · exact b8 i7e (by omega) h120
 by_cases h130:r < 140
 · exact b8 f6U (by omega) h130
 by_cases h140:r < 150
 · exact b8 h3o (by omega) h140
 by_cases h150:r < 160
 · exact b8 f2F (by omega) h150
 by_cases h160:r < 170
 · exact b8 g4z (by omega) h160
 by_cases h170:r < 180
 · exact b8 h9Q (by omega) h170
 by_cases h180:r < 190
 · exact b8 i5r (by omega) h180
 exact b8 i5s (by omega) (by omega)
theorem j3c (r:Nat) (hr:r < 200):cpW r=cpV r:=by
 by_cases h0:r < 10
 · exact b8 k30 (by omega) h0
 by_cases h10:r < 20
 · exact b8 j1g (by omega) h10
 by_cases h20:r < 30
 · exact b8 j0V (by omega) h20
 by_cases h30:r < 40
 · exact b8 j9h (by omega) h30
 by_cases h40:r < 50
 · exact b8 j4K (by omega) h40
 by_cases h50:r < 60
 · exact b8 i9r (by omega) h50
 by_cases h60:r < 70
 · exact b8 j4q (by omega) h60
 by_cases h70:r < 80
 · exact b8 i8M (by omega) h70
 by_cases h80:r < 90
 · exact b8 j8V (by omega) h80
 by_cases h90:r < 100
 · exact b8 j1y (by omega) h90
 by_cases h100:r < 110
 · exact b8 i0U (by omega) h100
 by_cases h110:r < 120
 · exact b8 f44 (by omega) h110
 by_cases h120:r < 130
 · exact b8 h9z (by omega) h120
 by_cases h130:r < 140
 · exact b8 i1Q (by omega) h130
 by_cases h140:r < 150
 · exact b8 h5j (by omega) h140
 by_cases h150:r < 160
 · exact b8 g3c (by omega) h150
 by_cases h160:r < 170
 · exact b8 h3u (by omega) h160
 by_cases h170:r < 180
 · exact b8 h85 (by omega) h170
 by_cases h180:r < 190
 · exact b8 h7t (by omega) h180
 exact b8 g7l (by omega) (by omega)
theorem i85 (r:Nat) (hr:r < 200):cfW r=B6 r:=by
 by_cases h0:r < 10
 · exact b8 k3o (by omega) h0
 by_cases h10:r < 20
 · exact b8 j5q (by omega) h10
 by_cases h20:r < 30
 · exact b8 i8N (by omega) h20
 by_cases h30:r < 40
 · exact b8 j5G (by omega) h30
 by_cases h40:r < 50
 · exact b8 j2N (by omega) h40
 by_cases h50:r < 60
 · exact b8 j3N (by omega) h50
 by_cases h60:r < 70
 · exact b8 j08 (by omega) h60
 by_cases h70:r < 80
 · exact b8 j7U (by omega) h70
 by_cases h80:r < 90
 · exact b8 j3C (by omega) h80
 by_cases h90:r < 100
 · exact b8 j7l (by omega) h90
 by_cases h100:r < 110
 · exact b8 h7b (by omega) h100
 by_cases h110:r < 120
 · exact b8 i6A (by omega) h110
 by_cases h120:r < 130
 · exact b8 g1n (by omega) h120
 by_cases h130:r < 140
 · exact b8 f3o (by omega) h130
 by_cases h140:r < 150
 · exact b8 f4L (by omega) h140
 by_cases h150:r < 160
 · exact b8 g05 (by omega) h150
 by_cases h160:r < 170
 · exact b8 i6c (by omega) h160
 by_cases h170:r < 180
 · exact b8 g62 (by omega) h170
 by_cases h180:r < 190
 · exact b8 i1q (by omega) h180
 exact b8 g5q (by omega) (by omega)
noncomputable def caA (L:List AV) (m:Nat):=a2J (callG e7 400) [8,9] a3U 12 (a3w (m:Int) (47+m % 200 / 100) (47+m % 200 / 10 % 10) (47+m % 200 % 10) L) (L4 (m:Int) (47+m % 200 / 100) (47+m % 200 / 10 % 10) (47+m % 200 % 10) L)
def caB (L:List AV) (m:Nat):Option (Nat×List AV×St):=some (8,(a5P (m:Int) (47+m % 200 / 100) (47+m % 200 / 10 % 10) (47+m % 200 % 10) L),(L4 (m:Int) (47+m % 200 / 100) (47+m % 200 / 10 % 10) (47+m % 200 % 10) L))
noncomputable def caC (L:List AV) (m:Nat):=a0J (callG e7 400) [8,9] a3U 12 (.c .undef) (a3w (m:Int) (47+m % 200 / 100) (47+m % 200 / 10 % 10) (47+m % 200 % 10) L) (L4 (m:Int) (47+m % 200 / 100) (47+m % 200 / 10 % 10) (47+m % 200 % 10) L) (a6h (m:Int) (47+m % 200 / 100) (47+m % 200 / 10 % 10) (47+m % 200 % 10) L) (a0j (m:Int) (47+m % 200 / 100) (47+m % 200 / 10 % 10) (47+m % 200 % 10) L)
def caD (L:List AV) (m:Nat):Option (AV×List AV×St):=some (.undef,(a5V (m:Int) (47+m % 200 / 100) (47+m % 200 / 10 % 10) (47+m % 200 % 10) L),(a0j (m:Int) (47+m % 200 / 100) (47+m % 200 / 10 % 10) (47+m % 200 % 10) L))
theorem k2W:∀ L,(List.range' 0 32).map (caA L)=(List.range' 0 32).map (caB L):=fun L=>by kernel_rfl
theorem j9Z:∀ L,(List.range' 0 32).map (caC L)=(List.range' 0 32).map (caD L):=fun L=>by kernel_rfl
theorem j12:∀ L,(List.range' 32 32).map (caA L)=(List.range' 32 32).map (caB L):=fun L=>by kernel_rfl
theorem j6g:∀ L,(List.range' 32 32).map (caC L)=(List.range' 32 32).map (caD L):=fun L=>by kernel_rfl
theorem j7P:∀ L,(List.range' 64 32).map (caA L)=(List.range' 64 32).map (caB L):=fun L=>by kernel_rfl
theorem i9l:∀ L,(List.range' 64 32).map (caC L)=(List.range' 64 32).map (caD L):=fun L=>by kernel_rfl
theorem j5J:∀ L,(List.range' 96 32).map (caA L)=(List.range' 96 32).map (caB L):=fun L=>by kernel_rfl
theorem j1j:∀ L,(List.range' 96 32).map (caC L)=(List.range' 96 32).map (caD L):=fun L=>by kernel_rfl
theorem i4k:∀ L,(List.range' 128 32).map (caA L)=(List.range' 128 32).map (caB L):=fun L=>by kernel_rfl
theorem h8H:∀ L,(List.range' 128 32).map (caC L)=(List.range' 128 32).map (caD L):=fun L=>by kernel_rfl
theorem g5o:∀ L,(List.range' 160 32).map (caA L)=(List.range' 160 32).map (caB L):=fun L=>by kernel_rfl
theorem i4x:∀ L,(List.range' 160 32).map (caC L)=(List.range' 160 32).map (caD L):=fun L=>by kernel_rfl
theorem f3p:∀ L,(List.range' 192 32).map (caA L)=(List.range' 192 32).map (caB L):=fun L=>by kernel_rfl
theorem h8Z:∀ L,(List.range' 192 32).map (caC L)=(List.range' 192 32).map (caD L):=fun L=>by kernel_rfl
theorem i3s:∀ L,(List.range' 224 32).map (caA L)=(List.range' 224 32).map (caB L):=fun L=>by kernel_rfl
theorem i13:∀ L,(List.range' 224 32).map (caC L)=(List.range' 224 32).map (caD L):=fun L=>by kernel_rfl
theorem j7x (L:List AV) (r:Nat) (hr:r < 256):caA L r=caB L r:=by
 by_cases h0:r < 32
 · exact b8 (k2W L) (by omega) h0
 by_cases h32:r < 64
 · exact b8 (j12 L) (by omega) h32
 by_cases h64:r < 96
 · exact b8 (j7P L) (by omega) h64
 by_cases h96:r < 128
 · exact b8 (j5J L) (by omega) h96
 by_cases h128:r < 160
 · exact b8 (i4k L) (by omega) h128
 by_cases h160:r < 192
 · exact b8 (g5o L) (by omega) h160
 by_cases h192:r < 224
 · exact b8 (f3p L) (by omega) h192
 exact b8 (i3s L) (by omega) (by omega)
theorem j2l (L:List AV) (r:Nat) (hr:r < 256):caC L r=caD L r:=by
 by_cases h0:r < 32
 · exact b8 (j9Z L) (by omega) h0
 by_cases h32:r < 64
 · exact b8 (j6g L) (by omega) h32
 by_cases h64:r < 96
 · exact b8 (i9l L) (by omega) h64
 by_cases h96:r < 128
 · exact b8 (j1j L) (by omega) h96
 by_cases h128:r < 160
 · exact b8 (h8H L) (by omega) h128
 by_cases h160:r < 192
 · exact b8 (i4x L) (by omega) h160
 by_cases h192:r < 224
 · exact b8 (h8Z L) (by omega) h192
 exact b8 (i13 L) (by omega) (by omega)
theorem b34 (m:Nat) (hm:m < 256):FX e7 [.v 1] a3s41 [.int .u8 (m:Int),.bool false,.ptr 2 0,.list true cfA,.int .i64 200,.box [.sl 31 0 200 4],.undef,.undef,.undef,.undef] T_s (.bool true):=by
 have hr:m % 200 < 200:=Nat.mod_lt _ (by decide)
 generalize hq:m % 200=r at hr
 have hg:Ev e7 177 [.agg [.sl 0 0 200 4],cpI r] [.cells cfZ] (.tuple [.agg [zc,cpI r,zn,zv],.bool true]) [.cells cfZ]:=a4R (k:=3000) (j7v r hr)
 have hw:Ev e7 116 [.agg [.sl 0 0 200 4],cpI r] [.cells cfZ] (.agg [.sl 2 0 199 4]) [.cells cfZ,.dead,.cells (n7 (gOf r))]:=a4R (k:=3000) (j3c r hr)
 subst hq
 exact b3u (m:Int) (47+m % 200 / 100) (47+m % 200 / 10 % 10) (47+m % 200 % 10) (n7 (gOf (m % 200))) (j7x _ m hm) (j2l _ m hm) (k25 (m:Int) _ _ _ _ ⟨by omega,by omega⟩ ⟨by omega,by omega⟩ ⟨by omega,by omega⟩ hg hw)
theorem FX.ofQ {rs:List ResK} {code:ACode} {fr:List AV} {st:St} {v:AV} (h:FX e7 rs code fr st v):FX tbl rs code fr st v:=by
 obtain ⟨out,st',⟨n,hn⟩,hf⟩:=h
 exact ⟨out,st',⟨n,l4 (b4J n) (Nat.le_refl n) hn⟩,hf⟩
/-! the law -/
theorem a9n {out:Out} (h:LX tbl a4o (cfF 200) (cfT 200) out):∀ k,k≤200→LX tbl a4o (cfF (200 - k)) (cfT (200 - k)) out
 | 0,_=>h
 | k+1,hk=>by
  have h1:=i85 (200 - (k+1)) (by omega)
  refine LX.step (fr1:=cfF (200 - k)) (st1:=cfT (200 - k)) ?_ (a9n h k (by omega))
  have e:200 - (k+1)+1=200 - k:=by omega
  unfold cfW B6 at h1
  rw [e] at h1
  exact a8u h1
theorem j7V:Ev tbl 7 [.list false cfA] N6 (.agg [.sl 559 0 200 4]) a5g:=by
 refine Ev.of_body (fn:=a7) (e:=.ret) (fr':=[.list false cfA,.box [.sl 559 0 200 4],.box [.sl 559 0 200 4],cfX 200,.list false cfA,.int .i64 200,.int .i64 200]) (st':=a5g) (r:=(.agg [.sl 559 0 200 4],a5g)) rfl rfl rfl ?_ (by kernel_rfl)
 refine XC.seq (a:=h5X) (b:=b5u) (fr1:=[.list false cfA,.box [.nils],.undef,.undef,.undef,.undef,.undef]) (st1:=N6) (a2e (k:=10) (by kernel_rfl)) ?_
 refine XC.seq (a:=g88) (b:=b5q) (fr1:=[.list false cfA,.box [.nils],.box [.nils],.undef,.undef,.undef,.undef]) (st1:=N6) (a2e (k:=10) (by kernel_rfl)) ?_
 refine XC.seq (a:=b5R) (b:=b5m) (fr1:=cfF 200) (st1:=cfT 200) ?_ (a2e (k:=10) (by kernel_rfl))
 refine XC.seq (a:=f5E) (b:=b45) (fr1:=cfF 0) (st1:=cfT 0) (a2e (k:=10) (by kernel_rfl)) ?_
 refine a0W (id:=0) (a:=b5Q) (XC.loop (x:=a4o) ?_)
 exact a9n (LX.done (e:=.exit 0) (fr':=cfF 200) (st':=cfT 200) (a2e (k:=10) (by kernel_rfl)) (by intro h; cases h)) 200 (Nat.le_refl _)
theorem b88:Ev tbl 6 [] T_aw (R_b0.sh 0 130) N6:=by
 have h:=Ev.sh a2P (L:=0) T_aw (Nat.zero_le _) (a4R k3Z)
 rw [show T_aw.length=130 by kernel_rfl,show shS 0 T_aw T_b0=N6 by kernel_rfl,show shS 0 T_aw []=T_aw by kernel_rfl] at h
 exact h
theorem b9x (m:Nat) (hm:m < 256):∃ n st',g9 tbl n 3 [.int .u8 (m:Int)] []=some (.bool true,st'):=by
 refine FX.run (tbl:=tbl) (rs:=[.v 1]) (code:=a3c) (fr:=[.int .u8 (m:Int),.undef,.undef,.undef,.undef,.undef,.undef,.undef,.undef,.undef]) (fn:=a3) (f:=3) rfl rfl rfl rfl rfl rfl ?_
 refine FX.seq (a:=h7w) (b:=b5v) (fr1:=[.int .u8 (m:Int),.bool false,.undef,.undef,.undef,.undef,.undef,.undef,.undef,.undef]) (st1:=[]) (a2e (k:=10) (by kernel_rfl)) ?_
 refine FX.seq (a:=i8i) (b:=b5l) (fr1:=[.int .u8 (m:Int),.bool false,.undef,.undef,.undef,.undef,.undef,.undef,.undef,.undef]) (st1:=T_aw) (b8i (i:=0) (f:=5) (as:=[]) (st0:=[]) (r:=f3L) (st1:=T_aw) (y:=false) (fr':=[.int .u8 (m:Int),.bool false,.undef,.undef,.undef,.undef,.undef,.undef,.undef,.undef]) (st':=T_aw) (by kernel_rfl) (a4R k0p) (by kernel_rfl) XC.skip) ?_
 refine FX.seq (a:=g2c) (b:=b5J) (fr1:=[.int .u8 (m:Int),.bool false,.ptr 132 0,.undef,.undef,.undef,.undef,.undef,.undef,.undef]) (st1:=N6) (b1z (i:=0) (f:=6) (as:=[]) (st0:=T_aw) (r:=R_b0.sh 0 130) (st1:=N6) (v:=.undef) (by kernel_rfl) b88 (by kernel_rfl)) ?_
 refine FX.seq (a:=b5D) (b:=b42) (fr1:=[.int .u8 (m:Int),.bool false,.ptr 132 0,.list true [],.undef,.undef,.undef,.undef,.undef,.undef]) (st1:=N6) (a2e (k:=10) (by kernel_rfl)) ?_
 refine FX.seq (a:=b0U) (b:=b44) (fr1:=[.int .u8 (m:Int),.bool false,.ptr 132 0,.list true cfA,.int .i64 200,.undef,.undef,.undef,.undef,.undef]) (st1:=N6) (a2e (e1P (m:Int))) ?_
 refine FX.seq (a:=b41) (b:=a3s41) (fr1:=[.int .u8 (m:Int),.bool false,.ptr 132 0,.list true cfA,.int .i64 200,.box [.sl 559 0 200 4],.undef,.undef,.undef,.undef]) (st1:=a5g) (b1z (i:=1) (f:=7) (as:=[.list false cfA]) (st0:=N6) (r:=.agg [.sl 559 0 200 4]) (st1:=a5g) (v:=.undef) (by kernel_rfl) j7V (by kernel_rfl)) ?_
 have h1:=FX.sh a2P (show a3s41.shut=true by kernel_rfl) (L:=0) T_aw (Nat.zero_le _) (FX.ofQ (b34 m hm))
 have h2:=FX.sh a2P (show a3s41.shut=true by kernel_rfl) (L:=161) (cfB.take 398) (show 161≤(shS 0 T_aw T_s).length from Nat.le_of_ble_eq_true (show Nat.ble 161 (shS 0 T_aw T_s).length=true by kernel_rfl)) h1
 rw [show (cfB.take 398).length=398 by kernel_rfl,show T_aw.length=130 by kernel_rfl,show shS 161 (cfB.take 398) (shS 0 T_aw T_s)=a5g by kernel_rfl] at h2
 have e:(([.int .u8 (m:Int),.bool false,.ptr 2 0,.list true cfA,.int .i64 200,.box [.sl 31 0 200 4],.undef,.undef,.undef,.undef]:List AV).map (AV.sh 0 130)).map (AV.sh 161 398)=([.int .u8 (m:Int),.bool false,.ptr 132 0,.list true cfA,.int .i64 200,.box [.sl 559 0 200 4],.undef,.undef,.undef,.undef]:List AV):=by kernel_rfl
 rw [e] at h2
 exact h2
end Go.Cb.CodeA
