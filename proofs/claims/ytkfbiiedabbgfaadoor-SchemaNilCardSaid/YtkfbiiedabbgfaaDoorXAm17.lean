/-
  THE ABSTRACT MACHINE, part 17: a test that an abstract operation is one of the model's; what passes it is matched.
-/
import Derived.Test.YtkfbiiedabbgfaaDoorXAm16
set_option maxRecDepth 4000
namespace Go.Cb
open Classical

def boxOf (p : AOper) (σ : Sig) : AV := match p.box with | some i => σ.fr.getD i .undef | none => .undef

section
variable (c : Cx) (o : Oper) (p : AOper)

/-- operands that are not spent, no box, a result with a place -/
def plainK (xs : List Operand) : Bool := p.box.isNone && opdsN c xs p.args && dstOK c o.dst p.dst

def ckMv : Bool := match o.op, p.args with
  | .move x, [q] | .assign x, [q] => p.box.isNone && opdOK c x q && dstOK c o.dst p.dst
  | _, _ => false
def ckPick : Bool := match o.op with | .pick x y z => plainK c o p [x, y, z] | _ => false
def ckNilchk : Bool := match o.op with | .nilCheck x => plainK c o p [x] | _ => false
def ckAlloc (zero : List AV) : Bool := match o.op, o.dst, p.box, p.dst, p.args with
  | .alloc t, some s, some i, .bx, [] => c.slots[i]? == some s && c.bxs.contains i && zeroOK c.P t zero
  | _, _, _, _, _ => false
def ckBoxV : Bool := match o.op, o.dst, p.box, p.dst, p.args with
  | .box _ x, some s, some i, .bx, [q] => c.slots[i]? == some s && c.bxs.contains i && opdOK c x q
  | _, _, _, _, _ => false
def ckAllocO (zero : List AV) : Bool := match o.op, p.args with
  | .alloc t, [] => p.box.isNone && zeroOK c.P t zero && dstOK c o.dst p.dst
  | _, _ => false
def ckBoxO : Bool := match o.op, p.args with
  | .box _ x, [q] => p.box.isNone && opdOK c x q && dstOK c o.dst p.dst
  | _, _ => false
def offsOK (places : List (Nat × Nat)) : List Nat → List (Nat × Nat) → Bool
  | [], [] => true
  | i :: is, q :: qs => places[i]? == some q && offsOK places is qs
  | _, _ => false
def ckBuild (zero : List AV) (offs : List (Nat × Nat)) : Bool := match o.op with
  | .build t parts => (match placesOf c.P t with | some places => offsOK places (parts.toList.map (·.1)) offs | none => false) && zeroOK c.P t zero && plainK c o p (parts.toList.map (·.2))
  | _ => false
def ckBslice (sz : Nat) (zero : List (List AV)) (at_ : List Nat) : Bool := match o.op with
  | .buildSlice t len parts => match c.P.underlying t with
    | some (.slice e) => match c.P.info? e, zero with
      | some ie, z1 :: _ => match ie.zero with
        | some z => ie.size == sz && z.cells.size == sz && decide (len * sz ≤ 2 ^ 24) && !(len * sz == 0) && constsOK z.cells.toList z1 && zero.length == len && zero.all (fun z => constsOK (match ie.zero with | some z => z.cells.toList | none => []) z) &&
            parts.toList.map (·.1) == at_ && plainK c o p (parts.toList.map (·.2)) && o.dst.isSome
        | none => false
      | _, _ => false
    | _ => false
  | _ => false
def ckLdLc (i : Nat) (agg : Bool) (n : Nat) : Bool := match o.op, p.box with
  | .load t x, some j => i == j && decide (i < c.slots.length) && isAggB c t == some agg && sizeB c t == some n && opdsN c [x] p.args && dstOK c o.dst p.dst
  | _, _ => false
def ckLdSt (agg : Bool) (n : Nat) : Bool := match o.op with
  | .load t x => isAggB c t == some agg && sizeB c t == some n && plainK c o p [x]
  | _ => false
def ckLdLcS (i : Nat) : Bool := match o.op, p.box with
  | .load t x, some j => i == j && decide (i < c.slots.length) && isAggB c t == some false && opdsN c [x] p.args && dstOK c o.dst p.dst
  | _, _ => false
def ckLdStS : Bool := match o.op with
  | .load t x => isAggB c t == some false && plainK c o p [x]
  | _ => false
def ckStLc (i n : Nat) : Bool := match o.op, o.dst, p.dst, p.box, p.args with
  | .store t x y, none, .none, some j, [q0, q1] => i == j && decide (i < c.slots.length) && sizeB c t == some n && opdN c x q0 && opdOK c y q1
  | _, _, _, _, _ => false
def ckStSt (n : Nat) : Bool := match o.op, o.dst, p.dst, p.box, p.args with
  | .store t x y, none, .none, none, [q0, q1] => sizeB c t == some n && opdN c x q0 && opdOK c y q1
  | _, _, _, _, _ => false
def ckFad (off : Nat) : Bool := match o.op with
  | .fieldAddr s x f => (match fieldOf c s f with | some fl => (match sizeB c fl.type with | some n => !(n == 0) | none => false) && fl.offset == off | none => false) && plainK c o p [x]
  | _ => false
def ckFld (off n : Nat) (agg : Bool) : Bool := match o.op with
  | .field s x f => (match fieldOf c s f with | some fl => isAggB c fl.type == some agg && sizeB c fl.type == some n && fl.offset == off | none => false) && plainK c o p [x]
  | _ => false
def ckIad (sz : Nat) : Bool := match o.op with
  | .indexAddr t x i => (match c.P.underlying t with | some (.slice e) => sizeB c e == some sz | _ => false) && plainK c o p [x, i]
  | _ => false
def ckIadA (len sz : Nat) : Bool := match o.op with
  | .indexAddr t x i => (match c.P.underlying t with | some (.array n e) => n == len && sizeB c e == some sz | _ => false) && plainK c o p [x, i]
  | _ => false
def ckIdxS : Bool := match o.op with
  | .index t x i => (match c.P.underlying t with | some .string => true | _ => false) && plainK c o p [x, i]
  | _ => false
def ckSlS (lo hi : Bool) : Bool := match o.op with
  | .slice t x l h none => (match c.P.underlying t with | some .string => true | _ => false) && l.isSome == lo && h.isSome == hi && plainK c o p (x :: (l.toList ++ h.toList))
  | _ => false
def ckSlL (sz : Nat) (lo hi : Bool) : Bool := match o.op with
  | .slice t x l h none => (match c.P.underlying t with | some (.slice e) => sizeB c e == some sz | _ => false) && l.isSome == lo && h.isSome == hi && plainK c o p (x :: (l.toList ++ h.toList))
  | _ => false
def ckSlZ : Bool := match o.op with
  | .slice t x none (some (.const (.int _ m))) (some (.const (.int _ n))) => decide (m = 0) && decide (n = 0) && (match c.P.underlying t with | some (.slice e) => (sizeB c e).isSome | _ => false) && plainK c o p [x]
  | _ => false
def ckSlA (len sz : Nat) (lo hi : Bool) : Bool := match o.op with
  | .slice t x l h none => (match c.P.underlying t with | some (.array n e) => n == len && sizeB c e == some sz | _ => false) && l.isSome == lo && h.isSome == hi && plainK c o p (x :: (l.toList ++ h.toList))
  | _ => false
def ckBin (op : BinOp) : Bool := match o.op with
  | .binOp op' _ x y _ => decide (op' = op) && plainK c o p [x, y]
  | _ => false
def ckBinB (op : BinOp) : Bool := match o.op with
  | .binOp op' t x y _ => decide (op' = op) && (match c.P.underlying t with | some .bool => true | _ => false) && plainK c o p [x, y]
  | _ => false
def ckBinP (op : BinOp) : Bool := match o.op with
  | .binOp op' t x y _ => decide (op' = op) && (match c.P.underlying t with | some (.pointer _) => true | _ => false) && plainK c o p [x, y]
  | _ => false
def ckUn (op : UnOp) : Bool := match o.op with
  | .unOp op' _ x => decide (op' = op) && plainK c o p [x]
  | _ => false
def ckConv (k : IntKind) : Bool := match o.op with
  | .convert t u x => (match c.P.underlying t, c.P.underlying u with | some (.int _), some (.int k') => decide (k' = k) | _, _ => false) && plainK c o p [x]
  | _ => false
def ckMkF (f n : Nat) : Bool := match o.op with
  | .makeFunc (.func f') first caps => f' == f && first.size == n && plainK c o p (first ++ caps).toList
  | _ => false
def ckMkM : Bool := match o.op, p.args with
  | .makeMap _ none, [] => p.box.isNone && dstOK c o.dst p.dst
  | _, _ => false
def ckMget (kc : Nat) (zero : List AV) (agg ok : Bool) : Bool := match o.op with
  | .lookup t m k ok' => ok' == ok && (match c.P.underlying t with | some (.map kt et) => keyClass c.P kc kt && isAggB c et == some agg && zeroOK c.P et zero && aggZero c.P et agg | _ => false) && plainK c o p [m, k]
  | _ => false
def ckMset (kc : Nat) : Bool := match o.op with
  | .mapUpdate t m k x | .insert t m k x => (match c.P.underlying t with | some (.map kt _) => keyClass c.P kc kt | _ => false) && o.dst.isNone && plainK c o p [m, k, x]
  | _ => false
def ckExt (i : Nat) : Bool := match o.op with
  | .extract x j => i == j && plainK c o p [x]
  | _ => false
def ckCall (f : Nat) : Bool := match o.op with
  | .call { callee := .value (.func f'), args := xs, argTypes := _ } => f' == f && plainK c o p xs.toList
  | _ => false
def ckCallV : Bool := match o.op with
  | .call { callee := .value (.tmp s), args := xs, argTypes := _ } => plainK c o p (.tmp s :: xs.toList)
  | _ => false
def ckLenS : Bool := match o.op with
  | .call { callee := .builtin .len, args := ⟨[x]⟩, argTypes := ⟨t :: _⟩ } => (match c.P.underlying t with | some .string => true | _ => false) && plainK c o p [x]
  | _ => false
def ckLenL : Bool := match o.op with
  | .call { callee := .builtin .len, args := ⟨[x]⟩, argTypes := ⟨t :: _⟩ } => (match c.P.underlying t with | some (.slice _) => true | _ => false) && plainK c o p [x]
  | _ => false
def ckApp (sz bytes : Nat) : Bool := match o.op, p.args with
  | .call { callee := .builtin .append, args := ⟨[x, y]⟩, argTypes := ⟨[t, t']⟩ }, [q0, q1] => t == t' && (match c.P.underlying t with
      | some (.slice e) => (match c.P.info? e with
        | some i => i.size == sz && i.bytes == bytes && decide (0 < bytes) && (match i.zero with | some z => z.cells.size == sz | none => false)
        | none => false)
      | _ => false) && p.box.isNone && opdOK c x q0 && opdN c y q1 && dstOK c o.dst p.dst && o.dst.isSome
  | _, _ => false

/-- the test -/
def opOK : Bool := match p.kind with
  | .mv => ckMv c o p
  | .pick => ckPick c o p
  | .nilchk => ckNilchk c o p
  | .alloc zero => ckAlloc c o p zero
  | .boxV => ckBoxV c o p
  | .allocO zero => ckAllocO c o p zero
  | .boxO => ckBoxO c o p
  | .build zero offs => ckBuild c o p zero offs
  | .bslice sz zero at_ => ckBslice c o p sz zero at_
  | .ldLc i agg n => ckLdLc c o p i agg n
  | .ldSt agg n => ckLdSt c o p agg n
  | .ldRo agg n => ckLdSt c o p agg n
  | .ldLcS i => ckLdLcS c o p i
  | .ldStS => ckLdStS c o p
  | .stLc i n => ckStLc c o p i n
  | .stSt n => ckStSt c o p n
  | .fad off => ckFad c o p off
  | .fld off n agg => ckFld c o p off n agg
  | .iad sz => ckIad c o p sz
  | .iadA len sz => ckIadA c o p len sz
  | .idxS => ckIdxS c o p
  | .slS lo hi => ckSlS c o p lo hi
  | .slL sz lo hi => ckSlL c o p sz lo hi
  | .slZ => ckSlZ c o p
  | .slA len sz lo hi => ckSlA c o p len sz lo hi
  | .bin op => ckBin c o p op
  | .binB op => ckBinB c o p op
  | .binP op => ckBinP c o p op
  | .un op => ckUn c o p op
  | .conv k => ckConv c o p k
  | .mkF f n => ckMkF c o p f n
  | .mkM => ckMkM c o p
  | .mget kc zero agg ok => ckMget c o p kc zero agg ok
  | .mset kc => ckMset c o p kc
  | .ext i => ckExt c o p i
  | .call f => ckCall c o p f
  | .callV => ckCallV c o p
  | .lenS => ckLenS c o p
  | .lenL => ckLenL c o p
  | .app sz bytes => ckApp c o p sz bytes
  | .b2s => false

/-- an operation that only reckons, matched -/
def PureK : Prop := ∀ {g : Gh} {w : World} {pr : Nat → Option Pl} {bx : Nat → Nat} {σ : Sig} {a : Act} {call : CallT} {r b' : AV} {st' : St},
  S c g w pr bx σ a → sem p.kind call (p.args.map (·.read σ)) (boxOf p σ) σ.st = some (r, b', st') → PureRes c g w bx σ.fr a o r ∧ b' = boxOf p σ ∧ st' = σ.st

/-- an operation, matched -/
def OpK : Prop := ∀ {g : Gh} {w : World} {pr : Nat → Option Pl} {bx : Nat → Nat} {σ σ' : Sig} {a : Act} {call : CallT} {next : Act → World → Prop} {Q : Exit → Act → World → Prop},
  Fx c → CallOK c.P c.gt call → S c g w pr bx σ a → goOp call p σ = some σ' → Post c g w a σ' next → o.wp c.P a w next Q
end

section
variable {c : Cx} {o : Oper} {p : AOper}

theorem set_getD (fr : List AV) (i : Nat) : fr.set i (fr.getD i .undef) = fr := by
  apply List.ext_getElem?
  intro j
  rw [List.getElem?_set]
  by_cases e : i = j
  · subst e
    rw [if_pos rfl]
    split
    · rename_i h; simp [h]
    · rename_i h; rw [List.getElem?_eq_none (by omega)]
  · rw [if_neg e]

theorem goOp_some {call : CallT} {σ σ' : Sig} (h : goOp call p σ = some σ') : ∃ r b' st', sem p.kind call (p.args.map (·.read σ)) (boxOf p σ) σ.st = some (r, b', st') ∧
    σ' = p.dst.put r { spendAll p.args σ with fr := (match p.box with | some i => (spendAll p.args σ).fr.set i b' | none => (spendAll p.args σ).fr), st := st' } := by
  rw [goOp_eq] at h
  cases hb : p.box with
  | none =>
    have e : boxOf p σ = .undef := by simp only [boxOf, hb]
    rw [e]
    simp only [hb] at h
    cases hs : sem p.kind call (p.args.map (·.read σ)) .undef σ.st with
    | none => simp only [hs] at h; cases h
    | some x =>
      obtain ⟨r, b', st'⟩ := x
      simp only [hs] at h
      exact ⟨r, b', st', rfl, (Option.some.inj h).symm⟩
  | some i =>
    have e : boxOf p σ = σ.fr.getD i .undef := by simp only [boxOf, hb]
    rw [e]
    simp only [hb] at h
    cases hs : sem p.kind call (p.args.map (·.read σ)) (σ.fr.getD i .undef) σ.st with
    | none => simp only [hs] at h; cases h
    | some x =>
      obtain ⟨r, b', st'⟩ := x
      simp only [hs] at h
      exact ⟨r, b', st', rfl, (Option.some.inj h).symm⟩

theorem PureK.op (h : PureK c o p) (hsp : ∀ σ, spendAll p.args σ = σ) (hd : dstOK c o.dst p.dst = true) : OpK c o p := by
  intro g w pr bx σ σ' a call next Q fx _ hS hgo hnext
  obtain ⟨r, b', st', hs, hσ⟩ := goOp_some hgo
  obtain ⟨⟨v, hrun, hr⟩, rfl, rfl⟩ := h hS hs
  rw [hsp] at hσ
  have hσ : σ' = p.dst.put r σ := by
    rw [hσ]
    cases hb : p.box with
    | none => rfl
    | some i => simp only [boxOf, hb, set_getD]
  subst hσ
  exact pure_op fx hS hd hrun hr hnext

theorem plainK_spec {xs : List Operand} (h : plainK c o p xs = true) : p.box = none ∧ opdsN c xs p.args = true ∧ dstOK c o.dst p.dst = true := by
  simp only [plainK, Bool.and_eq_true, Option.isNone_iff_eq_none] at h
  exact ⟨h.1.1, h.1.2, h.2⟩

/-- from the kinds' own laws -/
theorem pureK_of {xs : List Operand} (h : plainK c o p xs = true)
    (hs : ∀ {g : Gh} {w : World} {pr : Nat → Option Pl} {bx : Nat → Nat} {σ : Sig} {a : Act} {call : CallT} {r b' b : AV} {st' : St}, S c g w pr bx σ a → ArgsOK g w bx σ.fr (p.args.map (·.read σ)) (xs.map a.eval) →
      sem p.kind call (p.args.map (·.read σ)) b σ.st = some (r, b', st') → PureRes c g w bx σ.fr a o r ∧ b' = b ∧ st' = σ.st) : OpK c o p := by
  obtain ⟨h1, h2, h3⟩ := plainK_spec h
  exact PureK.op (fun hS hsem => hs hS (reads_ok hS h2) hsem) (fun σ => spendAll_none h2) h3
end
end Go.Cb
