/- That code tells the functions of the seat: the test of each function, and all of them together. No conditions. -/
import Derived.Test.YthbikoodicigeaaGreatDoorChecked
import Derived.KernelRfl
import Derived.Test.YthbikoodicigeaaGreatDoorT1
import Derived.Test.YthbikoodicigeaaGreatDoorXAms4
import Derived.Test.YthbikoodicigeaaGreatDoorQuX
import Derived.Test.YthbikoodicigeaaGreatDoorDel
import Derived.Test.YthbikoodicigeaaGreatDoorTxX
import Derived.Test.YthbikoodicigeaaGreatDoorCaX
import Derived.Test.YthbikoodicigeaaGreatDoorFmL
set_option maxRecDepth 100000
namespace Go.Cb.CodeA
open Go Go.Cb
open Go.Proofs
def oR:List (Nat×Nat)→List Nat
  | []=>[]
  | (a,n)::l=>(List.range n).map (·+a)++oR l
noncomputable def oB (A:Nat→Prop):List (Nat×List (Nat×Nat)×List Nat)→Bool
  | []=>true
  | (f,v,b)::l=>(match Tryz.prog.funcs[vf f]?,tbl1 f with|some fn,some af=>enterB Tryz.prog (vf f) && fnOK Tryz.prog gts (oR v) b fn af A|_,_=>false) && oB A l
abbrev oK (f:Nat) (af:AFn):Prop:=enterB Tryz.prog (vf f)=true∧((∃ slots bxs fn,Tryz.prog.funcs[vf f]?=some fn∧∀ A,fnOK Tryz.prog gts slots bxs fn af A=true)∨(∃ slots bxs fn,Tryz.prog.funcs[vf f]?=some fn∧∀ A,fnOKd Tryz.prog gts [202,148] [149] slots bxs fn af A=true)∨(∃ e,af.ext=some e∧ExtOK Tryz.prog gts (vf f) e))
def oA (f:Nat) (l:List (Nat×List (Nat×Nat)×List Nat)):Bool:=l.any fun x=>Nat.beq x.1 f
theorem oS:∀ {l:List (Nat×List (Nat×Nat)×List Nat)},(∀ A,oB A l=true)→∀ {f:Nat} {af:AFn},oA f l=true→tbl1 f=some af→enterB Tryz.prog (vf f)=true∧∃ slots bxs fn,Tryz.prog.funcs[vf f]?=some fn∧∀ A,fnOK Tryz.prog gts slots bxs fn af A=true
  | [],_,_,_,h,_=>by cases h
  | (k,v,b)::l,h,f,af,hm,ht=>by
    simp only [oB,Bool.and_eq_true] at h
    simp only [oA,List.any_cons,Bool.or_eq_true] at hm
    rcases hm with e|hm
    · have e:k=f:=Nat.eq_of_beq_eq_true e
      subst e
      have h1:=fun A=>(h A).1
      cases hf:Tryz.prog.funcs[vf k]? with
      | none=>simp only [hf] at h1; cases h1 fun _=>True
      | some fn =>
        simp only [hf,ht,Bool.and_eq_true] at h1
        exact ⟨(h1 fun _=>True).1,_,_,fn,rfl,fun A=>(h1 A).2⟩
    · exact oS (fun A=>(h A).2) hm ht
def oL0:List (Nat×List (Nat×Nat)×List Nat):=[(5,[(0,3),(4,2),(8,1)],[]),(6,[(0,3),(6,4)],[]),(7,[(0,3),(5,5)],[3]),(8,[(0,1)],[0]),(9,[(0,2),(4,2)],[]),(11,[(0,2),(3,2)],[2]),(12,[(0,2),(3,2)],[2]),(13,[(0,3),(5,2)],[3,4]),(14,[(0,1),(2,1)],[]),(15,[(0,1),(2,1)],[]),(16,[(0,1),(2,1)],[]),(17,[(0,1),(2,3),(13,2)],[]),(18,[(0,1),(2,1)],[]),(19,[(0,1),(2,1)],[]),(20,[(0,1),(2,1)],[1]),(21,[(0,3)],[1]),(22,[(0,1),(2,2),(5,1),(17,3)],[1,2,3]),(23,[(0,2),(4,2)],[2]),(24,[(0,1),(2,1)],[]),(25,[(0,1),(2,10)],[10]),(26,[(0,1),(2,6),(9,1),(11,4),(16,2),(23,3),(62,3),(91,3)],[6,8,9,10,12,13]),(27,[(0,1),(2,12)],[]),(29,[(0,2),(3,3),(11,2),(15,1)],[2]),(30,[(0,2),(4,3)],[]),(34,[(0,2),(4,4)],[2]),(35,[(0,2),(4,1)],[]),(36,[(0,5),(6,1),(8,1),(14,3),(25,3)],[2,3,4,6]),(38,[(0,2),(4,2),(12,2)],[]),(39,[(0,4),(5,1),(7,4)],[4,5,6,7]),(40,[(0,1),(2,1)],[]),(41,[(0,1),(2,3),(6,2)],[3]),(42,[(0,4),(5,1),(7,5)],[4,5,6,7,8]),(43,[(0,1),(2,10)],[7]),(44,[(0,2),(4,1)],[]),(45,[(0,1),(2,5),(41,1)],[1,2,5]),(47,[(0,2),(4,1)],[]),(48,[(0,2),(4,1)],[]),(49,[(0,2),(3,5),(9,3),(13,3),(48,3),(71,3)],[2,3,4,5,6,7,8,11]),(50,[(0,2),(3,2),(6,2),(18,3),(29,1)],[2,3,4]),(51,[(0,1),(2,1)],[]),(52,[(0,2),(4,2)],[]),(53,[(0,2),(4,1)],[]),(54,[(0,2),(3,16)],[2,15]),(55,[(0,3),(4,4),(9,1)],[3,4]),(59,[(0,1),(2,1)],[]),(60,[(0,3),(6,3)],[4]),(61,[(0,3),(4,3)],[2,3]),(62,[(0,8)],[2,3,4]),(63,[(0,2),(4,3),(8,1)],[2,4]),(64,[(0,5),(6,2),(9,5),(15,2)],[5,6,7,8,9,11,13]),(65,[(0,1),(2,1)],[]),(66,[(0,5),(6,2),(9,6),(16,2),(19,4),(65,3)],[5,6,7,8,9,10,12,15,16,18]),(67,[(0,2),(4,6)],[2]),(68,[(0,2),(4,1)],[]),(69,[(0,2)],[]),(70,[(0,1),(2,1)],[]),(71,[(0,2)],[]),(72,[(0,2),(4,2)],[]),(73,[(0,2),(4,1)],[]),(74,[(0,2),(4,4)],[5]),(75,[(0,1),(2,3)],[1,2,3]),(76,[(0,2),(4,2),(7,2)],[]),(77,[(0,2),(4,1)],[]),(78,[(0,1),(2,6)],[1]),(79,[(0,1),(2,2),(5,4)],[3]),(80,[(0,3),(4,1),(6,5),(12,3),(35,1),(84,3)],[3,4,6,8,9,11]),(81,[(0,3),(4,3)],[4]),(82,[(0,2),(3,2)],[2]),(83,[(0,2),(3,2)],[2]),(84,[(0,10)],[3,9]),(85,[(0,1),(2,3)],[])]
theorem oT0:∀ A,oB A oL0=true:=fun A=>by kernel_rfl
def oL1:List (Nat×List (Nat×Nat)×List Nat):=[(86,[(0,1),(2,3)],[]),(87,[(0,3),(4,1),(6,8)],[3,11]),(88,[(0,2),(4,2)],[]),(89,[(0,5)],[2,3]),(90,[(0,3)],[1]),(91,[(0,2),(4,2)],[]),(92,[(0,3)],[1]),(93,[(0,2),(3,8)],[2,6,7]),(96,[(0,1),(2,1)],[]),(97,[(0,3),(4,2)],[2]),(102,[(0,2),(3,4),(8,2),(11,1),(13,1),(19,3),(54,3),(71,3)],[2,6,8,9]),(103,[(0,7)],[2,4]),(104,[(0,3),(5,5),(11,4),(16,3)],[3,4,8,9]),(105,[(0,5),(7,1),(10,3),(14,6),(35,3)],[5,6,9,10,13]),(106,[(0,5),(6,1),(9,3)],[5,6]),(107,[(0,3),(6,5)],[3,5]),(108,[(0,3),(4,4),(9,3),(13,4)],[3,4,5,6,9,10]),(109,[(0,1),(2,1)],[]),(110,[(0,1),(2,1)],[]),(111,[(0,2),(4,8)],[2]),(112,[(0,2),(4,6),(18,1),(53,1),(64,1)],[2]),(113,[(0,2),(4,1)],[]),(114,[(0,2),(4,2)],[2,3]),(115,[(0,1),(2,1)],[]),(116,[(0,3)],[1]),(117,[(0,2),(4,1)],[]),(118,[(0,2),(4,1)],[]),(119,[(0,2),(4,1)],[]),(120,[(0,8),(35,1),(78,1)],[5,7]),(121,[(0,2),(4,1)],[]),(122,[(0,5)],[2]),(123,[(0,5)],[2,3]),(124,[(0,3)],[1]),(125,[(0,1),(2,2),(5,6)],[]),(126,[(0,6)],[3]),(127,[(0,3),(4,3)],[3,4]),(128,[(0,2),(4,1)],[]),(129,[(0,4),(5,2),(8,6),(62,1)],[4,5,8]),(130,[(0,1),(2,4)],[]),(131,[(0,3),(4,3)],[3,4]),(138,[(0,2),(4,1)],[]),(141,[(0,1),(2,1)],[]),(142,[(0,1),(2,1)],[]),(143,[(0,3),(6,6)],[]),(144,[(0,3),(4,1)],[2]),(147,[(0,1),(2,9)],[6]),(148,[(0,4)],[]),(150,[(0,2),(4,1)],[]),(151,[(0,2),(4,1)],[]),(153,[(0,2),(4,1)],[]),(154,[(0,1),(2,2)],[1,2]),(155,[(0,1),(2,2)],[1,2]),(156,[(0,3)],[]),(157,[(0,3),(6,5)],[]),(158,[(0,2),(4,2),(7,4)],[4]),(159,[(0,3)],[1]),(160,[(0,3),(6,1),(8,6)],[4,5]),(161,[(0,2),(3,3),(7,3),(11,2),(15,1),(38,3),(105,3),(125,3)],[2,3,5,9,10]),(162,[(0,2),(4,3)],[3]),(163,[(0,3),(7,4),(14,3),(25,1)],[3,4]),(164,[(0,2),(4,1)],[]),(165,[(0,5)],[2,3]),(166,[(0,1),(2,2),(5,4)],[]),(167,[(0,2),(4,3)],[]),(168,[(0,2),(4,3)],[]),(169,[(0,1),(2,4)],[]),(170,[(0,2),(4,2),(7,2)],[]),(171,[(0,4)],[2]),(172,[(0,3),(4,3)],[2,3]),(173,[(0,3),(4,6),(11,1)],[3,4,5,7,8]),(174,[(0,4),(5,7)],[4,5,6,7,10])]
theorem oT1:∀ A,oB A oL1=true:=fun A=>by kernel_rfl
def oL2:List (Nat×List (Nat×Nat)×List Nat):=[(175,[(0,3),(5,1)],[3]),(176,[(0,1),(2,1)],[]),(177,[(0,6),(8,3),(12,3),(16,2),(19,2),(22,2),(79,3)],[6,7,8,9,11,13,14,15,17]),(178,[(0,2),(5,5),(18,1)],[]),(179,[(0,4),(5,1),(7,5),(13,1),(15,3)],[4,5,6,10]),(180,[(0,4),(5,1),(7,7),(15,1),(17,3),(84,3)],[4,5,9,11,12]),(181,[(0,8),(9,5),(16,5)],[8,9,10,11,12,13,17]),(182,[(0,2),(4,6)],[2,3,4,5,6,7]),(183,[(0,2),(4,1)],[]),(184,[(0,5)],[3]),(185,[(0,3),(4,6),(11,3)],[3]),(186,[(0,2),(4,2),(7,2)],[]),(187,[(0,3),(6,4),(15,3)],[5,6]),(188,[(0,2),(4,2)],[]),(190,[(0,1),(2,1)],[]),(191,[(0,1),(2,1)],[]),(194,[(0,1),(2,1)],[]),(196,[(0,2),(4,2),(7,2)],[]),(197,[(0,1),(2,1)],[]),(198,[(0,2),(4,1)],[]),(199,[(0,1),(2,1)],[]),(200,[(0,1),(2,6),(23,1)],[1]),(201,[(0,1)],[]),(202,[(0,1)],[]),(203,[(0,4),(8,3)],[]),(204,[(0,1),(2,3)],[1,2,3]),(205,[(0,2),(4,1)],[]),(206,[(0,2)],[]),(207,[(0,1),(2,1)],[]),(208,[(0,2)],[]),(209,[(0,4),(8,3)],[]),(210,[(0,1),(2,2)],[1,2]),(211,[(0,2),(4,2),(7,1),(12,3)],[2,4]),(212,[(0,3)],[1]),(213,[(0,2),(4,2),(7,4)],[4]),(214,[(0,3)],[1]),(215,[(0,2),(4,1)],[]),(216,[(0,3),(7,1),(9,3),(13,3),(20,3)],[3,4,6]),(217,[(0,2),(4,5),(12,3)],[]),(218,[(0,2),(5,1),(10,3)],[2]),(219,[(0,3),(5,4)],[3,4]),(220,[(0,3),(6,2)],[]),(221,[(0,5),(10,11)],[]),(222,[(0,1),(2,1)],[]),(223,[(0,11)],[3,4,5,6,9]),(224,[(0,5),(6,3),(10,4)],[5,6,7,8,11]),(225,[(0,4),(6,1)],[]),(226,[(0,2),(4,4),(9,1),(39,3)],[3,6]),(227,[(0,3)],[]),(228,[(0,5)],[3]),(229,[(0,2),(3,3),(48,2),(51,1)],[2]),(230,[(0,2),(4,2),(7,2)],[]),(231,[(0,4)],[2]),(232,[(0,2),(4,1)],[]),(233,[(0,4),(5,7),(13,4),(18,3),(43,3)],[3,4,5,11,12]),(234,[(0,3),(4,4)],[2,3]),(235,[(0,4)],[2]),(236,[(0,4),(5,5)],[3,4,5]),(237,[(0,3),(4,4),(9,1),(22,3)],[3,4,5,6,7]),(238,[(0,2),(4,2),(7,2)],[]),(239,[(0,4)],[2]),(240,[(0,2),(4,2)],[]),(244,[(0,1),(2,1)],[]),(245,[(0,1),(2,1)],[]),(246,[(0,1),(2,1)],[]),(247,[(0,1),(2,7)],[1]),(249,[(0,1),(2,2)],[]),(250,[(0,3)],[]),(253,[(0,3),(7,5)],[]),(254,[(0,3),(6,2),(9,6),(19,1)],[5,6]),(255,[(0,2),(4,2),(7,2)],[])]
theorem oT2:∀ A,oB A oL2=true:=fun A=>by kernel_rfl
def oL3:List (Nat×List (Nat×Nat)×List Nat):=[(256,[(0,4)],[2]),(257,[(0,3)],[1]),(258,[(0,5)],[2,3]),(259,[(0,2),(4,2),(7,4)],[4]),(260,[(0,3)],[1]),(261,[(0,3),(6,1),(8,2),(11,1),(17,3),(47,3)],[6]),(262,[(0,2),(4,3)],[3]),(263,[(0,2),(4,1)],[]),(264,[(0,2),(3,1)],[]),(265,[(0,4),(8,2)],[]),(266,[(0,4),(8,5)],[]),(267,[(0,4),(8,5)],[]),(268,[(0,4),(8,7),(55,1)],[]),(269,[(0,4),(8,2)],[]),(270,[(0,4),(8,5)],[]),(271,[(0,5),(10,3)],[]),(272,[(0,5),(10,4)],[]),(273,[(0,11),(12,4),(24,3)],[3,4,5,6,10,11,12]),(274,[(0,4),(5,5),(11,1),(13,1),(21,1)],[3,4,5,8,9]),(275,[(0,5),(6,3),(10,9),(39,3)],[5,6,7,8,9,11,12,14,16]),(276,[(0,2),(3,1)],[]),(277,[(0,2),(4,1)],[]),(278,[(0,4)],[2]),(279,[(0,2),(3,2),(6,2),(9,3)],[2,4,5]),(280,[(0,2),(4,2),(7,2)],[]),(281,[(0,4)],[2]),(282,[(0,4)],[2]),(283,[(0,2),(4,6)],[]),(285,[(0,3),(6,3)],[]),(289,[(0,4),(8,3)],[]),(290,[(0,3)],[1,2]),(291,[(0,4)],[2]),(292,[(0,4),(7,6),(14,1),(25,3)],[6,9]),(293,[(0,2),(3,2)],[]),(294,[(0,3),(6,4),(15,3)],[5,6]),(295,[(0,5)],[2,3]),(296,[(0,2),(4,2),(7,4)],[4]),(297,[(0,3)],[1]),(298,[(0,4)],[2]),(299,[(0,8),(9,3),(80,3)],[7]),(300,[(0,2),(4,2),(7,2)],[]),(301,[(0,5),(10,2)],[]),(302,[(0,4),(8,1)],[]),(303,[(0,6),(12,1)],[]),(304,[(0,2),(4,1)],[]),(305,[(0,1),(2,1)],[]),(306,[(0,3),(5,2)],[3]),(307,[(0,4),(5,1),(7,3)],[1,4]),(308,[(0,2),(4,2),(7,2)],[]),(309,[(0,1),(2,1)],[]),(310,[(0,3),(6,6),(16,1)],[]),(313,[(0,4),(7,4)],[6,7]),(314,[(0,5)],[3]),(315,[(0,2),(4,1)],[]),(316,[(0,4)],[]),(317,[(0,4)],[2]),(318,[(0,5)],[2,3]),(319,[(0,3),(6,4),(15,3)],[5,6]),(320,[(0,5)],[2,3]),(321,[(0,5)],[3]),(322,[(0,4)],[2]),(323,[(0,4)],[2]),(324,[(0,5),(10,2)],[]),(326,[(0,1),(2,1)],[]),(333,[(0,2),(4,2),(7,2)],[]),(334,[(0,4)],[2]),(335,[(0,5)],[2,3]),(336,[(0,2),(4,2),(7,2)],[]),(337,[(0,3),(6,4),(15,3)],[5,6])]
theorem oT3:∀ A,oB A oL3=true:=fun A=>by kernel_rfl
theorem oD101:∀ A,fnOKd Tryz.prog gts [202,148] [149] (oR [(0,1),(2,6)]) [] Tryz.f101 a101 A=true:=fun A=>by kernel_rfl
theorem oD152:∀ A,fnOKd Tryz.prog gts [202,148] [149] (oR [(0,1),(2,1),(5,1)]) [] Tryz.f152 a152 A=true:=fun A=>by kernel_rfl
theorem oD251:∀ A,fnOKd Tryz.prog gts [202,148] [149] (oR [(0,1),(2,2),(6,1)]) [1,2] Tryz.f251 a251 A=true:=fun A=>by kernel_rfl
theorem oD252:∀ A,fnOKd Tryz.prog gts [202,148] [149] (oR [(0,2),(4,4),(10,1)]) [2,3,4,5] Tryz.f252 a252 A=true:=fun A=>by kernel_rfl
theorem oX28:ExtOK Tryz.prog gts 28 (queueX):=queue_ok gts
theorem oX37:ExtOK Tryz.prog gts 37 (cloneX 1 16):=clone_ok Tryz.func37 (t:=Tryz.f37.params.getD 0 0) ⟨_,_,_,_,_,_,_,_,_,_,_,_,_,rfl,rfl,rfl,⟨rfl,rfl,rfl⟩,⟨rfl,rfl,rfl⟩,⟨rfl,rfl,rfl⟩,⟨rfl,rfl,rfl⟩,⟨rfl,rfl,rfl⟩,⟨rfl,rfl,rfl⟩,⟨rfl,rfl,rfl⟩,⟨rfl,rfl,rfl⟩,by kernel_rfl⟩
theorem oX46:ExtOK Tryz.prog gts 46 (cloneX 4 72):=clone_ok Tryz.func46 (t:=Tryz.f46.params.getD 0 0) ⟨_,_,_,_,_,_,_,_,_,_,_,_,_,rfl,rfl,rfl,⟨rfl,rfl,rfl⟩,⟨rfl,rfl,rfl⟩,⟨rfl,rfl,rfl⟩,⟨rfl,rfl,rfl⟩,⟨rfl,rfl,rfl⟩,⟨rfl,rfl,rfl⟩,⟨rfl,rfl,rfl⟩,⟨rfl,rfl,rfl⟩,by kernel_rfl⟩
theorem oX98:ExtOK Tryz.prog gts 98 (deleteX 4 80):=delete_ok gts
theorem oX99:ExtOK Tryz.prog gts 99 (cloneMX 4 80):=cloneM_ok gts
theorem oX100:ExtOK Tryz.prog gts 100 (insertX 4 80):=insert_ok gts
theorem oX243:ExtOK Tryz.prog gts 243 (idxbX):=idxb_ok gts
theorem oX248:ExtOK Tryz.prog gts 248 (textX):=text_ok gts
theorem oX325:ExtOK Tryz.prog gts 325 fmtX:=fmt_ok (gi:=5) pow_named (List.mem_cons_of_mem _ (List.mem_singleton.2 rfl)) fun n h0 h1 w ht=>fmt_laid n h0 h1 w ht
theorem oX327:ExtOK Tryz.prog gts 327 (puintX):=puint_ok gts
theorem oC:(List.range 390).all (fun f=>(tbl1 f).isNone || oA f oL0 || oA f oL1 || oA f oL2 || oA f oL3 || Nat.beq f 101 || Nat.beq f 152 || Nat.beq f 251 || Nat.beq f 252 || Nat.beq f 28 || Nat.beq f 37 || Nat.beq f 46 || Nat.beq f 98 || Nat.beq f 99 || Nat.beq f 100 || Nat.beq f 243 || Nat.beq f 248 || Nat.beq f 325 || Nat.beq f 327)=true:=by kernel_rfl
theorem oM:Tryz.prog.follows .mixedOrders=true:=by kernel_rfl
theorem oF:∀ f af,tbl1 f=some af→oK f af:=fun f af h=>by
  have hf:f < 390:=by
    rcases Nat.lt_or_ge f 390 with h1|h1
    · exact h1
    · exfalso
      have h:tbl f=some af:=by
        unfold tbl1 at h
        cases hq:(Nat.beq f 3 || Nat.beq f 4 || Nat.beq f 10) with
        | true=>rw [hq] at h; cases h
        | false=>rw [hq] at h; exact h
      have h:(tblL.getD (f / 10) []).getD (f % 10) none=some af:=h
      rw [show tblL.getD (f / 10) []=[] by rw [List.getD_eq_getElem?_getD,List.getElem?_eq_none (show tblL.length≤_ by show 39≤f / 10; omega)]; rfl] at h
      cases h
  have hc:=List.all_eq_true.1 oC f (List.mem_range.2 hf)
  simp only [h,Option.isNone_some,Bool.false_or,Bool.or_eq_true,or_assoc] at hc
  rcases hc with c|c|c|c|c|c|c|c|c|c|c|c|c|c|c|c|c|c
  · exact ⟨(oS oT0 c h).1,.inl (oS oT0 c h).2⟩
  · exact ⟨(oS oT1 c h).1,.inl (oS oT1 c h).2⟩
  · exact ⟨(oS oT2 c h).1,.inl (oS oT2 c h).2⟩
  · exact ⟨(oS oT3 c h).1,.inl (oS oT3 c h).2⟩
  · cases Nat.eq_of_beq_eq_true c; cases h; exact ⟨by kernel_rfl,.inr (.inl ⟨_,_,_,Tryz.func101,oD101⟩)⟩
  · cases Nat.eq_of_beq_eq_true c; cases h; exact ⟨by kernel_rfl,.inr (.inl ⟨_,_,_,Tryz.func152,oD152⟩)⟩
  · cases Nat.eq_of_beq_eq_true c; cases h; exact ⟨by kernel_rfl,.inr (.inl ⟨_,_,_,Tryz.func251,oD251⟩)⟩
  · cases Nat.eq_of_beq_eq_true c; cases h; exact ⟨by kernel_rfl,.inr (.inl ⟨_,_,_,Tryz.func252,oD252⟩)⟩
  · cases Nat.eq_of_beq_eq_true c; cases h; exact ⟨by kernel_rfl,.inr (.inr ⟨_,rfl,oX28⟩)⟩
  · cases Nat.eq_of_beq_eq_true c; cases h; exact ⟨by kernel_rfl,.inr (.inr ⟨_,rfl,oX37⟩)⟩
  · cases Nat.eq_of_beq_eq_true c; cases h; exact ⟨by kernel_rfl,.inr (.inr ⟨_,rfl,oX46⟩)⟩
  · cases Nat.eq_of_beq_eq_true c; cases h; exact ⟨by kernel_rfl,.inr (.inr ⟨_,rfl,oX98⟩)⟩
  · cases Nat.eq_of_beq_eq_true c; cases h; exact ⟨by kernel_rfl,.inr (.inr ⟨_,rfl,oX99⟩)⟩
  · cases Nat.eq_of_beq_eq_true c; cases h; exact ⟨by kernel_rfl,.inr (.inr ⟨_,rfl,oX100⟩)⟩
  · cases Nat.eq_of_beq_eq_true c; cases h; exact ⟨by kernel_rfl,.inr (.inr ⟨_,rfl,oX243⟩)⟩
  · cases Nat.eq_of_beq_eq_true c; cases h; exact ⟨by kernel_rfl,.inr (.inr ⟨_,rfl,oX248⟩)⟩
  · cases Nat.eq_of_beq_eq_true c; cases h; exact ⟨by kernel_rfl,.inr (.inr ⟨_,rfl,oX325⟩)⟩
  · cases Nat.eq_of_beq_eq_true c; cases h; exact ⟨by kernel_rfl,.inr (.inr ⟨_,rfl,oX327⟩)⟩
theorem prog_ok:ProgD Tryz.prog gts [202,148] [149] tbl1:=⟨oM,oF,fun f hf af h=>by
  simp only [List.mem_cons,List.not_mem_nil,or_false] at hf
  rcases hf with rfl|rfl
  · exact ⟨rfl,(oS oT2 (by kernel_rfl) h).2⟩
  · exact ⟨rfl,(oS oT1 (by kernel_rfl) h).2⟩,dok0⟩
end Go.Cb.CodeA
