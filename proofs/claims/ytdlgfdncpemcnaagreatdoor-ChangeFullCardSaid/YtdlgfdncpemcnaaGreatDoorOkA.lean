/- That code tells the functions of the seat: the test of each function, and all of them together. No conditions. -/
import Derived.Test.YtdlgfdncpemcnaaGreatDoorChecked
import Derived.KernelRfl
import Derived.Test.YtdlgfdncpemcnaaGreatDoorCodeA
import Derived.Test.YtdlgfdncpemcnaaGreatDoorXAms4
import Derived.Test.YtdlgfdncpemcnaaGreatDoorInsX
import Derived.Test.YtdlgfdncpemcnaaGreatDoorDel
import Derived.Test.YtdlgfdncpemcnaaGreatDoorTxX
import Derived.Test.YtdlgfdncpemcnaaGreatDoorCaX
import Derived.Test.YtdlgfdncpemcnaaGreatDoorFmL
set_option maxRecDepth 100000
namespace Go.Cb.CodeA
open Go Go.Cb
open Go.Proofs
def oR:List (Nat×Nat)→List Nat
  | []=>[]
  | (a,n)::l=>(List.range n).map (·+a)++oR l
noncomputable def oB (A:Nat→Prop):List (Nat×List (Nat×Nat)×List Nat)→Bool
  | []=>true
  | (f,v,b)::l=>(match Tryz.prog.funcs[f]?,tbl f with|some fn,some af=>K2 Tryz.prog f && Y9 Tryz.prog gts (oR v) b fn af A|_,_=>false) && oB A l
abbrev oK (f:Nat) (af:AFn):Prop:=K2 Tryz.prog f=true∧((∃ slots bxs fn,Tryz.prog.funcs[f]?=some fn∧∀ A,Y9 Tryz.prog gts slots bxs fn af A=true)∨(∃ slots bxs fn,Tryz.prog.funcs[f]?=some fn∧∀ A,V0 Tryz.prog gts [146,82] [83] slots bxs fn af A=true)∨(∃ e,af.ext=some e∧x9 Tryz.prog gts f e))
def oA (f:Nat) (l:List (Nat×List (Nat×Nat)×List Nat)):Bool:=l.any fun x=>Nat.beq x.1 f
theorem oS:∀ {l:List (Nat×List (Nat×Nat)×List Nat)},(∀ A,oB A l=true)→∀ {f:Nat} {af:AFn},oA f l=true→tbl f=some af→K2 Tryz.prog f=true∧∃ slots bxs fn,Tryz.prog.funcs[f]?=some fn∧∀ A,Y9 Tryz.prog gts slots bxs fn af A=true
  | [],_,_,_,h,_=>by cases h
  | (k,v,b)::l,h,f,af,hm,ht=>by
    simp only [oB,Bool.and_eq_true] at h
    simp only [oA,List.any_cons,Bool.or_eq_true] at hm
    rcases hm with e|hm
    · have e:k=f:=Nat.eq_of_beq_eq_true e
      subst e
      have h1:=fun A=>(h A).1
      cases hf:Tryz.prog.funcs[k]? with
      | none=>simp only [hf] at h1; cases h1 fun _=>True
      | some fn =>
        simp only [hf,ht,Bool.and_eq_true] at h1
        exact ⟨(h1 fun _=>True).1,_,_,fn,rfl,fun A=>(h1 A).2⟩
    · exact oS (fun A=>(h A).2) hm ht
def oL0:List (Nat×List (Nat×Nat)×List Nat):=[(3,[(0,1),(2,2),(5,7)],[5,6,7,8,9]),(5,[(0,2),(3,3)],[2,3,4]),(6,[(0,3),(4,2),(8,1)],[]),(7,[(0,1),(2,2),(5,4)],[1,2,3]),(8,[(0,4),(5,1),(7,5)],[4,5,6,7,8]),(9,[(0,1)],[0]),(10,[(0,3)],[1]),(15,[(0,1),(2,10)],[10]),(16,[(0,1),(2,6),(9,1),(11,4),(16,2),(23,3),(62,3),(91,3)],[6,8,9,10,12,13]),(17,[(0,1),(2,12)],[]),(18,[(0,8)],[2,3,4]),(19,[(0,2),(4,3),(8,1)],[2,4]),(20,[(0,5),(6,2),(9,6),(16,2),(19,4),(65,3)],[5,6,7,8,9,10,12,15,16,18]),(23,[(0,1),(2,10)],[7]),(24,[(0,2),(4,1)],[]),(25,[(0,1),(2,5),(41,1)],[1,2,5]),(27,[(0,2),(4,1)],[]),(28,[(0,2),(4,1)],[]),(29,[(0,2),(3,5),(9,3),(13,3),(48,3),(71,3)],[2,3,4,5,6,7,8,11]),(30,[(0,2),(4,4)],[2]),(31,[(0,2),(3,2),(6,2),(18,3),(29,1)],[2,3,4]),(32,[(0,1),(2,1)],[]),(33,[(0,2),(4,2)],[]),(34,[(0,2),(4,1)],[]),(35,[(0,2),(3,16)],[2,15]),(36,[(0,2),(4,2)],[2]),(37,[(0,3),(4,4),(9,1)],[3,4]),(38,[(0,3),(4,2)],[2]),(41,[(0,2),(3,4),(8,2),(11,1),(13,1),(19,3),(54,3),(71,3)],[2,6,8,9]),(42,[(0,7)],[2,4]),(43,[(0,3),(5,5),(11,4),(16,3)],[3,4,8,9]),(44,[(0,5),(6,1),(9,3)],[5,6]),(45,[(0,3),(6,5)],[3,5]),(46,[(0,3),(4,4),(9,3),(13,4)],[3,4,5,6,9,10]),(48,[(0,2),(4,6)],[2]),(49,[(0,2),(4,1)],[]),(50,[(0,2)],[]),(51,[(0,1),(2,1)],[]),(52,[(0,2)],[]),(53,[(0,2),(4,2)],[]),(54,[(0,2),(4,1)],[]),(55,[(0,2),(4,4)],[5]),(56,[(0,1),(2,3)],[1,2,3]),(57,[(0,2),(4,2),(7,2)],[]),(58,[(0,2),(4,1)],[]),(59,[(0,1),(2,6)],[1]),(60,[(0,1),(2,2),(5,4)],[3]),(61,[(0,3),(4,1),(6,5),(12,3),(35,1),(84,3)],[3,4,6,8,9,11]),(62,[(0,1),(2,1)],[]),(63,[(0,3),(4,3)],[4]),(64,[(0,2),(3,2)],[2]),(65,[(0,2),(3,2)],[2]),(66,[(0,10)],[3,9]),(67,[(0,1),(2,3)],[]),(68,[(0,1),(2,3)],[]),(69,[(0,3),(4,1),(6,8)],[3,11]),(70,[(0,1),(2,1)],[]),(71,[(0,2),(4,2)],[]),(72,[(0,5)],[2,3]),(73,[(0,3)],[1]),(74,[(0,2),(4,2)],[]),(75,[(0,3)],[1]),(76,[(0,2),(3,8)],[2,6,7]),(77,[(0,3),(6,6)],[]),(78,[(0,3),(4,1)],[2]),(81,[(0,1),(2,9)],[6])]
theorem oT0:∀ A,oB A oL0=true:=fun A=>by kernel_rfl
def oL1:List (Nat×List (Nat×Nat)×List Nat):=[(82,[(0,4)],[]),(84,[(0,2),(4,1)],[]),(85,[(0,2),(4,1)],[]),(87,[(0,2),(4,1)],[]),(88,[(0,1),(2,2)],[1,2]),(89,[(0,1),(2,2)],[1,2]),(90,[(0,3)],[]),(91,[(0,3),(6,5)],[]),(92,[(0,2),(4,2),(7,4)],[4]),(93,[(0,3)],[1]),(94,[(0,3),(6,1),(8,6)],[4,5]),(95,[(0,2),(3,3),(7,3),(11,2),(15,1),(38,3),(105,3),(125,3)],[2,3,5,9,10]),(96,[(0,2),(4,3)],[3]),(97,[(0,3),(7,4),(14,3),(25,1)],[3,4]),(98,[(0,2),(4,1)],[]),(99,[(0,5)],[2,3]),(100,[(0,1),(2,2),(5,4)],[]),(101,[(0,2),(4,3)],[]),(102,[(0,2),(4,3)],[]),(103,[(0,1),(2,4)],[]),(104,[(0,2),(4,2),(7,2)],[]),(105,[(0,4)],[2]),(106,[(0,3),(4,3)],[2,3]),(107,[(0,3),(4,6),(11,1)],[3,4,5,7,8]),(108,[(0,4),(5,7)],[4,5,6,7,10]),(109,[(0,3),(5,1)],[3]),(110,[(0,2),(5,5),(18,1)],[]),(111,[(0,2),(4,1)],[]),(112,[(0,4),(5,1),(7,5),(13,1),(15,3)],[4,5,6,10]),(113,[(0,4),(5,1),(7,7),(15,1),(17,3),(84,3)],[4,5,9,11,12]),(114,[(0,8),(9,5),(16,5)],[8,9,10,11,12,13,17]),(115,[(0,1),(2,2),(5,6)],[]),(116,[(0,3),(4,3)],[2,3]),(117,[(0,1),(2,1)],[]),(118,[(0,1),(2,1)],[]),(119,[(0,2),(4,8)],[2]),(120,[(0,2),(4,6),(18,1),(53,1),(64,1)],[2]),(121,[(0,2),(4,1)],[]),(122,[(0,2),(4,2)],[2,3]),(123,[(0,1),(2,1)],[]),(124,[(0,3)],[1]),(125,[(0,2),(4,1)],[]),(126,[(0,2),(4,1)],[]),(127,[(0,2),(4,1)],[]),(128,[(0,8),(35,1),(78,1)],[5,7]),(129,[(0,2),(4,1)],[]),(130,[(0,5)],[2]),(131,[(0,5)],[2,3]),(132,[(0,3)],[1]),(133,[(0,6)],[3]),(134,[(0,3),(4,3)],[3,4]),(135,[(0,2),(4,1)],[]),(136,[(0,4),(5,2),(8,6),(62,1)],[4,5,8]),(137,[(0,1),(2,4)],[]),(138,[(0,3),(4,3)],[3,4]),(140,[(0,2),(4,2),(7,2)],[]),(141,[(0,1),(2,1)],[]),(142,[(0,2),(4,1)],[]),(143,[(0,1),(2,1)],[]),(144,[(0,1),(2,6),(23,1)],[1]),(145,[(0,1)],[]),(146,[(0,1)],[]),(147,[(0,4),(8,3)],[]),(148,[(0,1),(2,3)],[1,2,3]),(149,[(0,2),(4,1)],[]),(150,[(0,2)],[])]
theorem oT1:∀ A,oB A oL1=true:=fun A=>by kernel_rfl
def oL2:List (Nat×List (Nat×Nat)×List Nat):=[(151,[(0,1),(2,1)],[]),(152,[(0,2)],[]),(153,[(0,4),(8,3)],[]),(154,[(0,1),(2,2)],[1,2]),(155,[(0,2),(4,2),(7,1),(12,3)],[2,4]),(156,[(0,3)],[1]),(157,[(0,2),(4,2),(7,4)],[4]),(158,[(0,3)],[1]),(159,[(0,2),(4,1)],[]),(160,[(0,3),(7,1),(9,3),(13,3),(20,3)],[3,4,6]),(161,[(0,2),(4,5),(12,3)],[]),(162,[(0,2),(5,1),(10,3)],[2]),(163,[(0,3),(5,4)],[3,4]),(164,[(0,3),(6,2)],[]),(165,[(0,5),(10,11)],[]),(166,[(0,1),(2,1)],[]),(167,[(0,1),(2,1)],[]),(168,[(0,1),(2,1)],[]),(169,[(0,11)],[3,4,5,6,9]),(170,[(0,5)],[3]),(171,[(0,2),(3,3),(48,2),(51,1)],[2]),(172,[(0,2),(4,2),(7,2)],[]),(173,[(0,4)],[2]),(174,[(0,2),(4,1)],[]),(175,[(0,3),(6,3)],[4]),(176,[(0,4),(5,7),(13,4),(18,3),(43,3)],[3,4,5,11,12]),(177,[(0,3),(4,4)],[2,3]),(178,[(0,2),(4,2),(7,2)],[]),(179,[(0,4)],[2]),(180,[(0,4),(5,5)],[3,4,5]),(181,[(0,3),(4,4),(9,1),(22,3)],[3,4,5,6,7]),(182,[(0,5),(6,3),(10,4)],[5,6,7,8,11]),(183,[(0,2),(4,2)],[]),(185,[(0,2),(4,6)],[2,3,4,5,6,7]),(186,[(0,2),(4,1)],[]),(187,[(0,5)],[3]),(188,[(0,3),(4,6),(11,3)],[3]),(189,[(0,3),(6,4),(15,3)],[5,6]),(192,[(0,1),(2,1)],[]),(193,[(0,1),(2,1)],[]),(194,[(0,1),(2,1)],[]),(195,[(0,1),(2,7)],[1]),(197,[(0,1),(2,2)],[]),(198,[(0,3)],[]),(201,[(0,3),(7,5)],[]),(202,[(0,3),(6,2),(9,6),(19,1)],[5,6]),(203,[(0,2),(4,2),(7,2)],[]),(204,[(0,4)],[2]),(205,[(0,3)],[1]),(206,[(0,5)],[2,3]),(207,[(0,2),(4,2),(7,4)],[4]),(208,[(0,3)],[1]),(209,[(0,3),(6,1),(8,2),(11,1),(17,3),(47,3)],[6]),(210,[(0,2),(4,3)],[3]),(211,[(0,2),(4,1)],[]),(212,[(0,2),(3,1)],[]),(213,[(0,4),(8,2)],[]),(214,[(0,4),(8,5)],[]),(215,[(0,4),(8,5)],[]),(216,[(0,4),(8,7),(55,1)],[]),(217,[(0,4),(8,2)],[]),(218,[(0,4),(8,5)],[]),(219,[(0,5),(10,3)],[]),(220,[(0,5),(10,4)],[]),(221,[(0,1),(2,1)],[]),(222,[(0,1),(2,1)],[])]
theorem oT2:∀ A,oB A oL2=true:=fun A=>by kernel_rfl
def oL3:List (Nat×List (Nat×Nat)×List Nat):=[(223,[(0,11),(12,4),(24,3)],[3,4,5,6,10,11,12]),(224,[(0,4),(5,5),(11,1),(13,1),(21,1)],[3,4,5,8,9]),(225,[(0,2),(4,1)],[]),(226,[(0,4)],[2]),(227,[(0,2),(3,2),(6,2),(9,3)],[2,4,5]),(228,[(0,2),(4,2),(7,2)],[]),(229,[(0,4)],[2]),(230,[(0,2),(4,4),(9,1),(39,3)],[3,6]),(231,[(0,4)],[2]),(232,[(0,2),(4,6)],[]),(233,[(0,5),(6,3),(10,9),(39,3)],[5,6,7,8,9,11,12,14,16]),(234,[(0,3)],[]),(235,[(0,2),(4,2)],[]),(236,[(0,2),(4,2),(7,2)],[]),(237,[(0,4)],[2]),(239,[(0,3),(6,3)],[]),(243,[(0,4),(8,3)],[]),(244,[(0,3)],[1,2]),(245,[(0,4)],[2]),(246,[(0,4),(7,6),(14,1),(25,3)],[6,9]),(247,[(0,2),(3,2)],[]),(248,[(0,3),(6,4),(15,3)],[5,6]),(249,[(0,5)],[2,3]),(250,[(0,2),(4,2),(7,4)],[4]),(251,[(0,3)],[1]),(252,[(0,4)],[2]),(253,[(0,8),(9,3),(80,3)],[7]),(254,[(0,2),(4,2),(7,2)],[]),(255,[(0,5),(10,2)],[]),(256,[(0,1),(2,1)],[]),(257,[(0,1),(2,1)],[]),(258,[(0,4),(8,1)],[]),(259,[(0,6),(12,1)],[]),(260,[(0,2),(4,1)],[]),(261,[(0,2),(4,2),(7,2)],[]),(263,[(0,2),(4,1)],[]),(264,[(0,1),(2,1)],[]),(265,[(0,1),(2,1)],[]),(266,[(0,1),(2,1)],[]),(267,[(0,3),(5,2)],[3]),(268,[(0,4),(6,1)],[]),(269,[(0,5),(7,1),(10,3),(14,6),(35,3)],[5,6,9,10,13]),(270,[(0,4),(5,1),(7,3)],[1,4]),(271,[(0,3),(6,6),(16,1)],[]),(274,[(0,4),(7,4)],[6,7]),(275,[(0,5)],[3]),(276,[(0,2),(4,1)],[]),(277,[(0,4)],[]),(278,[(0,4)],[2]),(279,[(0,5)],[2,3]),(280,[(0,3),(6,4),(15,3)],[5,6]),(281,[(0,5)],[2,3]),(282,[(0,5)],[3]),(283,[(0,4)],[2]),(284,[(0,4)],[2]),(285,[(0,5),(10,2)],[]),(287,[(0,1),(2,1)],[]),(288,[(0,2),(3,1)],[]),(289,[(0,6),(8,3),(12,3),(16,2),(19,2),(22,2),(79,3)],[6,7,8,9,11,13,14,15,17]),(296,[(0,2),(4,2),(7,2)],[]),(297,[(0,4)],[2]),(298,[(0,5)],[2,3]),(299,[(0,2),(4,2),(7,2)],[]),(300,[(0,2),(4,2),(12,2)],[]),(301,[(0,3),(6,4),(15,3)],[5,6])]
theorem oT3:∀ A,oB A oL3=true:=fun A=>by kernel_rfl
theorem k1u:∀ A,V0 Tryz.prog gts [146,82] [83] (oR [(0,1),(2,6)]) [] Tryz.f40 a40 A=true:=fun A=>by kernel_rfl
theorem k1O:∀ A,V0 Tryz.prog gts [146,82] [83] (oR [(0,1),(2,1),(5,1)]) [] Tryz.f86 a86 A=true:=fun A=>by kernel_rfl
theorem j2c:∀ A,V0 Tryz.prog gts [146,82] [83] (oR [(0,1),(2,2),(6,1)]) [1,2] Tryz.f199 g6t A=true:=fun A=>by kernel_rfl
theorem i8B:∀ A,V0 Tryz.prog gts [146,82] [83] (oR [(0,2),(4,4),(10,1)]) [2,3,4,5] Tryz.f200 f9C A=true:=fun A=>by kernel_rfl
theorem k0a:x9 Tryz.prog gts 22 (Q2 4 80):=b1e gts
theorem k0s:x9 Tryz.prog gts 26 (O8 4 72):=a8n Tryz.func26 (t:=Tryz.f26.params.getD 0 0) ⟨_,_,_,_,_,_,_,_,_,_,_,_,_,rfl,rfl,rfl,⟨rfl,rfl,rfl⟩,⟨rfl,rfl,rfl⟩,⟨rfl,rfl,rfl⟩,⟨rfl,rfl,rfl⟩,⟨rfl,rfl,rfl⟩,⟨rfl,rfl,rfl⟩,⟨rfl,rfl,rfl⟩,⟨rfl,rfl,rfl⟩,by kernel_rfl⟩
theorem k3y:x9 Tryz.prog gts 39 (M3 4 80):=b0Y gts
theorem j58:x9 Tryz.prog gts 184 (Q8 4 80):=b17 gts
theorem j0b:x9 Tryz.prog gts 191 (a1e):=c0o gts
theorem j2R:x9 Tryz.prog gts 196 (a0o):=b53 gts
theorem j2b:x9 Tryz.prog gts 262 (O8 1 16):=a8n Tryz.func262 (t:=Tryz.f262.params.getD 0 0) ⟨_,_,_,_,_,_,_,_,_,_,_,_,_,rfl,rfl,rfl,⟨rfl,rfl,rfl⟩,⟨rfl,rfl,rfl⟩,⟨rfl,rfl,rfl⟩,⟨rfl,rfl,rfl⟩,⟨rfl,rfl,rfl⟩,⟨rfl,rfl,rfl⟩,⟨rfl,rfl,rfl⟩,⟨rfl,rfl,rfl⟩,by kernel_rfl⟩
theorem i9C:x9 Tryz.prog gts 286 a3N:=g1R (gi:=5) b1T (List.mem_cons_of_mem _ (List.mem_singleton.2 rfl)) fun n h0 h1 w ht=>b2Y n h0 h1 w ht
theorem i8J:x9 Tryz.prog gts 290 (R9):=b3e gts
theorem oC:(List.range 350).all (fun f=>(tbl f).isNone || oA f oL0 || oA f oL1 || oA f oL2 || oA f oL3 || Nat.beq f 40 || Nat.beq f 86 || Nat.beq f 199 || Nat.beq f 200 || Nat.beq f 22 || Nat.beq f 26 || Nat.beq f 39 || Nat.beq f 184 || Nat.beq f 191 || Nat.beq f 196 || Nat.beq f 262 || Nat.beq f 286 || Nat.beq f 290)=true:=by kernel_rfl
theorem oM:Tryz.prog.follows .mixedOrders=true:=by kernel_rfl
theorem oF:∀ f af,tbl f=some af→oK f af:=fun f af h=>by
  have hf:f < 350:=by
    rcases Nat.lt_or_ge f 350 with h1|h1
    · exact h1
    · exfalso
      have h:(tblL.getD (f / 10) []).getD (f % 10) none=some af:=h
      rw [show tblL.getD (f / 10) []=[] by rw [List.getD_eq_getElem?_getD,List.getElem?_eq_none (show tblL.length≤_ by show 35≤f / 10; omega)]; rfl] at h
      cases h
  have hc:=List.all_eq_true.1 oC f (List.mem_range.2 hf)
  simp only [h,Option.isNone_some,Bool.false_or,Bool.or_eq_true,or_assoc] at hc
  rcases hc with c|c|c|c|c|c|c|c|c|c|c|c|c|c|c|c|c
  · exact ⟨(oS oT0 c h).1,.inl (oS oT0 c h).2⟩
  · exact ⟨(oS oT1 c h).1,.inl (oS oT1 c h).2⟩
  · exact ⟨(oS oT2 c h).1,.inl (oS oT2 c h).2⟩
  · exact ⟨(oS oT3 c h).1,.inl (oS oT3 c h).2⟩
  · cases Nat.eq_of_beq_eq_true c; cases h; exact ⟨by kernel_rfl,.inr (.inl ⟨_,_,_,Tryz.func40,k1u⟩)⟩
  · cases Nat.eq_of_beq_eq_true c; cases h; exact ⟨by kernel_rfl,.inr (.inl ⟨_,_,_,Tryz.func86,k1O⟩)⟩
  · cases Nat.eq_of_beq_eq_true c; cases h; exact ⟨by kernel_rfl,.inr (.inl ⟨_,_,_,Tryz.func199,j2c⟩)⟩
  · cases Nat.eq_of_beq_eq_true c; cases h; exact ⟨by kernel_rfl,.inr (.inl ⟨_,_,_,Tryz.func200,i8B⟩)⟩
  · cases Nat.eq_of_beq_eq_true c; cases h; exact ⟨by kernel_rfl,.inr (.inr ⟨_,rfl,k0a⟩)⟩
  · cases Nat.eq_of_beq_eq_true c; cases h; exact ⟨by kernel_rfl,.inr (.inr ⟨_,rfl,k0s⟩)⟩
  · cases Nat.eq_of_beq_eq_true c; cases h; exact ⟨by kernel_rfl,.inr (.inr ⟨_,rfl,k3y⟩)⟩
  · cases Nat.eq_of_beq_eq_true c; cases h; exact ⟨by kernel_rfl,.inr (.inr ⟨_,rfl,j58⟩)⟩
  · cases Nat.eq_of_beq_eq_true c; cases h; exact ⟨by kernel_rfl,.inr (.inr ⟨_,rfl,j0b⟩)⟩
  · cases Nat.eq_of_beq_eq_true c; cases h; exact ⟨by kernel_rfl,.inr (.inr ⟨_,rfl,j2R⟩)⟩
  · cases Nat.eq_of_beq_eq_true c; cases h; exact ⟨by kernel_rfl,.inr (.inr ⟨_,rfl,j2b⟩)⟩
  · cases Nat.eq_of_beq_eq_true c; cases h; exact ⟨by kernel_rfl,.inr (.inr ⟨_,rfl,i9C⟩)⟩
  · cases Nat.eq_of_beq_eq_true c; cases h; exact ⟨by kernel_rfl,.inr (.inr ⟨_,rfl,i8J⟩)⟩
theorem c4r:ProgD Tryz.prog gts [146,82] [83] tbl:=⟨oM,oF,fun f hf af h=>by
  simp only [List.mem_cons,List.not_mem_nil,or_false] at hf
  rcases hf with rfl|rfl
  · exact (oS oT1 (by kernel_rfl) h).2
  · exact (oS oT1 (by kernel_rfl) h).2,k09⟩
end Go.Cb.CodeA
