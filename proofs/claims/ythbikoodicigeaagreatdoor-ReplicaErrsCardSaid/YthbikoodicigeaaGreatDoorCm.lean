/-
 A region that sends or receives, as a step of the walk; the orders that a region may draw.
-/
import Derived.Conc.LoneSelect
import Derived.Conc.CompanyDraw
set_option maxRecDepth 4000
set_option linter.unusedVariables false
namespace Go.Cb
open Go Go.Conc
/-- a piece of a lone walk by the kit's walk -/
theorem LoneTo.wp {P:Program} {Q:Goroutine→World→Prop} {c:Code} {a:Act} {w:World} {b:Frame} {k:List Item} {cs:List Frame}
 (h:c.wp P (fun e a' w'=>match e with
  | .normal=>LoneTo P Q (G (b.at a' k) cs) w'
  | .ret=>∀ todo,LoneTo P Q (G { b.at a' todo with mode:=.returning } cs) w'
  | _=>False) a w):LoneTo P Q (G (b.at a (.code c::k)) cs) w:=by
 obtain ⟨e,a',w',hq,har⟩:=h b k cs
 cases e with
 | normal =>
  obtain ⟨g2,w2,h2,q⟩:=hq
  exact ⟨g2,w2,Steps.trans har h2,q⟩
 | ret =>
  obtain ⟨todo,h1⟩:=har
  obtain ⟨g2,w2,h2,q⟩:=hq todo
  exact ⟨g2,w2,Steps.trans h1 h2,q⟩
 | _=>exact hq.elim
theorem LoneTo.seq {P:Program} {Q:Goroutine→World→Prop} {x y:Code} {a:Act} {w:World} {b:Frame} {k:List Item} {cs:List Frame} (h:LoneTo P Q (G (b.at a (.code x::.code y::k)) cs) w):LoneTo P Q (G (b.at a (.code (.seq x y)::k)) cs) w:=by
 obtain ⟨g,w',hs,hq⟩:=h
 exact ⟨g,w',Steps.head step_seq hs,hq⟩
theorem LoneTo.block {P:Program} {Q:Goroutine→World→Prop} {id:Nat} {x:Code} {a:Act} {w:World} {b:Frame} {k:List Item} {cs:List Frame} (h:LoneTo P Q (G (b.at a (.code x::.inBlock id::k)) cs) w):LoneTo P Q (G (b.at a (.code (.block id x)::k)) cs) w:=by
 obtain ⟨g,w',hs,hq⟩:=h
 exact ⟨g,w',Steps.head step_block hs,hq⟩
theorem LoneTo.loop {P:Program} {Q:Goroutine→World→Prop} {x:Code} {a:Act} {w:World} {b:Frame} {k:List Item} {cs:List Frame} (h:LoneTo P Q (G (b.at a (.code x::.inLoop x::k)) cs) w):LoneTo P Q (G (b.at a (.code (.loop x)::k)) cs) w:=by
 obtain ⟨g,w',hs,hq⟩:=h
 exact ⟨g,w',Steps.head step_loop hs,hq⟩
theorem LoneTo.again {P:Program} {Q:Goroutine→World→Prop} {x:Code} {a:Act} {w:World} {b:Frame} {k:List Item} {cs:List Frame} (h:LoneTo P Q (G (b.at a (.code x::.inLoop x::k)) cs) w):LoneTo P Q (G (b.at a (.inLoop x::k)) cs) w:=by
 obtain ⟨g,w',hs,hq⟩:=h
 exact ⟨g,w',Steps.head step_inLoop hs,hq⟩
theorem LoneTo.exit {P:Program} {Q:Goroutine→World→Prop} {id:Nat} {a:Act} {w:World} {b:Frame} {k k':List Item} {cs:List Frame} (hk:exitTo id k=some k') (h:LoneTo P Q (G (b.at a k') cs) w):LoneTo P Q (G (b.at a (.code (.exit id)::k)) cs) w:=by
 obtain ⟨g,w',hs,hq⟩:=h
 exact ⟨g,w',Steps.head (step_exit hk) hs,hq⟩
theorem LoneTo.cond {P:Program} {Q:Goroutine→World→Prop} {c:Operand} {x y:Code} {t:Bool} {a:Act} {w:World} {b:Frame} {k:List Item} {cs:List Frame} (hc:a.eval c=.bool t) (h:LoneTo P Q (G (b.at a (.code (if t then x else y)::k)) cs) w):LoneTo P Q (G (b.at a (.code (.cond c x y)::k)) cs) w:=by
 obtain ⟨g,w',hs,hq⟩:=h
 exact ⟨g,w',Steps.head (step_cond hc) hs,hq⟩
theorem LoneTo.inBlock {P:Program} {Q:Goroutine→World→Prop} {id:Nat} {a:Act} {w:World} {b:Frame} {k:List Item} {cs:List Frame} (h:LoneTo P Q (G (b.at a k) cs) w):LoneTo P Q (G (b.at a (.inBlock id::k)) cs) w:=by
 obtain ⟨g,w',hs,hq⟩:=h
 exact ⟨g,w',Steps.head step_inBlock hs,hq⟩
theorem LoneTo.skip {P:Program} {Q:Goroutine→World→Prop} {a:Act} {w:World} {b:Frame} {k:List Item} {cs:List Frame} (h:LoneTo P Q (G (b.at a k) cs) w):LoneTo P Q (G (b.at a (.code .skip::k)) cs) w:=by
 obtain ⟨g,w',hs,hq⟩:=h
 exact ⟨g,w',Steps.head step_skip hs,hq⟩
def allOrd (m:Region.Mode) (ops:Array Oper):Nat→Array Bool→List (List Nat)
 | 0,_=>[[]]
 | n+1,listed=>match Region.ready m ops listed with
  | []=>[[]]
  | r::rs=>(r::rs).flatMap fun i=>(allOrd m ops n (listed.setIfInBounds i true)).map (i::·)
theorem go_mem (m:Region.Mode) (ops:Array Oper):∀ (n t:Nat) (listed:Array Bool),Region.linearise.go m ops n t listed []∈allOrd m ops n listed
 | 0,t,listed=>by simp [Region.linearise.go,allOrd]
 | n+1,t,listed=>by
  simp only [Region.linearise.go]
  change (match (Region.ready m ops listed)[t % (Region.ready m ops listed).length]? with
   | some i=>Region.linearise.go m ops n (t / (Region.ready m ops listed).length) (listed.setIfInBounds i true) [i]
   | none=>[].reverse)∈_
  cases hr:Region.ready m ops listed with
  | nil=>simp [allOrd,hr]
  | cons x xs =>
   cases hi:(x::xs)[t % (x::xs).length]? with
   | none =>
    have hlt:t % (x::xs).length < (x::xs).length:=Nat.mod_lt _ (by simp)
    rw [List.getElem?_eq_none_iff] at hi
    omega
   | some i =>
    simp only [allOrd,hr]
    rw [linearise_go_acc,List.reverse_singleton,List.singleton_append]
    exact List.mem_flatMap.2 ⟨i,List.mem_of_getElem? hi,List.mem_map.2 ⟨_,go_mem m ops n _ _,rfl⟩⟩
theorem schedule_mem {P:Program} (hm:P.follows .mixedOrders=true) (ops:Array Oper) (t:Nat):Region.schedule (P.follows .mixedOrders) ops t∈allOrd .any ops ops.size (Array.replicate ops.size false):=by
 simp only [Region.schedule,hm,Bool.true_or,if_true]
 exact go_mem _ _ _ _ _
end Go.Cb
