/-
  THE ABSTRACT MACHINE, part 37: what operations come to, form by form; all of it under one name.
-/
import Derived.Test.YtkfbiiedabbgfaaDoorXAm36
set_option maxRecDepth 4000
set_option linter.unusedVariables false
set_option linter.unusedSimpArgs false
namespace Go.Cb.R
open Go.Cb
theorem mv_e (call : CallT) (bx : AV) (st : St) (a : AV) : semMv call [a] bx st = some (a, bx, st) := spine rfl
theorem nilchk_ptr (call : CallT) (bx : AV) (st : St) (o f : Nat) : semNilchk call [.ptr o f] bx st = some (.ptr o f, bx, st) := spine rfl
theorem nilchk_loc (call : CallT) (bx : AV) (st : St) (o f : Nat) : semNilchk call [.loc o f] bx st = some (.loc o f, bx, st) := spine rfl
theorem nilchk_ro (call : CallT) (bx : AV) (st : St) (cs : List AV) : semNilchk call [.ro cs] bx st = some (.ro cs, bx, st) := spine rfl
theorem nilchk_func (call : CallT) (bx : AV) (st : St) (f : Nat) (a b : List AV) : semNilchk call [.func f a b] bx st = some (.func f a b, bx, st) := spine rfl
theorem alloc_e (call : CallT) (st : St) (zero : List AV) : semAlloc zero call [] .undef st = some (.undef, .box zero, st) := spine rfl
theorem boxV_e (call : CallT) (st : St) (a : AV) : semBoxV call [a] .undef st = if a.plain then some (.undef, .box a.cellsW, st) else none := spine rfl
theorem allocO_e (call : CallT) (bx : AV) (st : St) (zero : List AV) : semAllocO zero call [] bx st = some (.ptr st.length 0, bx, st ++ [.cells zero]) := spine rfl
theorem boxO_e (call : CallT) (bx : AV) (st : St) (a : AV) : semBoxO call [a] bx st = if a.plain then some (.ptr st.length 0, bx, st ++ [.cells a.cellsW]) else none := spine rfl
theorem build_e (call : CallT) (bx : AV) (st : St) (zero : List AV) (offs : List (Nat × Nat)) (as : List AV) : semBuild zero offs call as bx st = (fillSegs offs as zero).map fun cs => (.agg cs, bx, st) := spine rfl
theorem bslice_e (call : CallT) (bx : AV) (st : St) (sz : Nat) (zero : List (List AV)) (at_ : List Nat) (as : List AV) : semBslice sz zero at_ call as bx st = (fillRows sz at_ as zero).map fun rs => (.list true rs, bx, st) := spine rfl
theorem ldLc_e (call : CallT) (st : St) (i off n : Nat) (agg : Bool) (cs : List AV) : semLdLc i agg n call [.loc i off] (.box cs) st = (takeVal agg n (cs.drop off)).map (fun v => (v, .box cs, st)) := by unfold semLdLc; simp only [if_true]
theorem ldSt_e (call : CallT) (bx : AV) (st : St) (o off n : Nat) (agg : Bool) : semLdSt agg n call [.ptr o off] bx st = match st[o]? with | some (.cells cs) => (takeVal agg n (cs.drop off)).map (fun v => (v, bx, st)) | _ => none := spine rfl
theorem ldRo_e (call : CallT) (bx : AV) (st : St) (n : Nat) (agg : Bool) (cs : List AV) : semLdRo agg n call [.ro cs] bx st = (takeVal agg n cs).map (fun v => (v, bx, st)) := spine rfl
theorem ldLcS_e (call : CallT) (st : St) (i off : Nat) (cs : List AV) : semLdLcS i call [.loc i off] (.box cs) st = match cs[off]? with | some c => some (c, .box (cs.set off c.weak1), st) | none => none := by unfold semLdLcS; simp only [if_true]; rfl
theorem ldStS_e (call : CallT) (bx : AV) (st : St) (o off : Nat) : semLdStS call [.ptr o off] bx st = match st[o]? with | some (.cells cs) => (match cs[off]? with | some c => some (c, bx, st.set o (.cells (cs.set off c.weak1))) | none => none) | _ => none := spine rfl
theorem stLc_e (call : CallT) (st : St) (i n off : Nat) (x : AV) (cs : List AV) : semStLc i n call [.loc i off, x] (.box cs) st = if x.plain = true ∧ x.cells.length = n ∧ off + n ≤ cs.length then some (.tuple [], .box (setSeg cs off x.cells), st) else none := by unfold semStLc; simp only [true_and]
theorem stSt_e (call : CallT) (bx : AV) (st : St) (o off n : Nat) (x : AV) : semStSt n call [.ptr o off, x] bx st = match st[o]? with | some (.cells cs) => (if x.plain = true ∧ x.cells.length = n ∧ off + n ≤ cs.length then some (.tuple [], bx, st.set o (.cells (setSeg cs off x.cells))) else none) | _ => none := by unfold semStSt; simp only [fL_eq]; rfl
theorem fad_ptr (call : CallT) (bx : AV) (st : St) (off o f : Nat) : semFad off call [.ptr o f] bx st = some (.ptr o (f + off), bx, st) := spine rfl
theorem fad_loc (call : CallT) (bx : AV) (st : St) (off o f : Nat) : semFad off call [.loc o f] bx st = some (.loc o (f + off), bx, st) := spine rfl
theorem fad_ro (call : CallT) (bx : AV) (st : St) (off : Nat) (cs : List AV) : semFad off call [.ro cs] bx st = some (.ro (cs.drop off), bx, st) := spine rfl
theorem fld_e (call : CallT) (bx : AV) (st : St) (off n : Nat) (agg : Bool) (cs : List AV) : semFld off n agg call [.agg cs] bx st = if off + n ≤ cs.length then (takeVal agg n (cs.drop off)).map (fun v => (v, bx, st)) else none := spine rfl
theorem iad_e (call : CallT) (bx : AV) (st : St) (sz : Nat) (w : Bool) (xs : List (List AV)) (k : IntKind) (i : Int) : semIad sz call [.list w xs, .int k i] bx st = if 0 ≤ i then (match xs[i.toNat]? with | some r => if r.length = sz then some (.ro r, bx, st) else none | none => none) else none := spine rfl
theorem iadA_ro (call : CallT) (bx : AV) (st : St) (len sz : Nat) (cs : List AV) (k : IntKind) (i : Int) : semIadA len sz call [.ro cs, .int k i] bx st = if 0 ≤ i ∧ i < (len : Int) then some (.ro (cs.drop (i.toNat * sz)), bx, st) else none := spine rfl
theorem iadA_ptr (call : CallT) (bx : AV) (st : St) (len sz o f : Nat) (k : IntKind) (i : Int) : semIadA len sz call [.ptr o f, .int k i] bx st = if 0 ≤ i ∧ i < (len : Int) then some (.ptr o (f + i.toNat * sz), bx, st) else none := spine rfl
theorem iadA_loc (call : CallT) (bx : AV) (st : St) (len sz o f : Nat) (k : IntKind) (i : Int) : semIadA len sz call [.loc o f, .int k i] bx st = if 0 ≤ i ∧ i < (len : Int) then some (.loc o (f + i.toNat * sz), bx, st) else none := spine rfl
theorem idxS_e (call : CallT) (bx : AV) (st : St) (s : List Nat) (k : IntKind) (i : Int) : semIdxS call [.str s, .int k i] bx st = if 0 ≤ i then (match s[i.toNat]? with | some b => some (.int .u8 b, bx, st) | none => none) else none := spine rfl
theorem slS_e (call : CallT) (bx : AV) (st : St) (lo hi : Bool) (s : List Nat) (r : List AV) : semSlS lo hi call (.str s :: r) bx st = (bounds lo hi r s.length).map fun p => (.str ((s.take p.2).drop p.1), bx, st) := spine rfl
theorem slL_e (call : CallT) (bx : AV) (st : St) (sz : Nat) (lo hi : Bool) (w : Bool) (xs : List (List AV)) (r : List AV) : semSlL sz lo hi call (.list w xs :: r) bx st = if rowsOk sz xs then (bounds lo hi r xs.length).map fun p => (.list false ((xs.take p.2).drop p.1), bx, st) else none := spine rfl
theorem slZ_e (call : CallT) (bx : AV) (st : St) (w : Bool) (xs : List (List AV)) : semSlZ call [.list w xs] bx st = some (.list true [], bx, st) := spine rfl
theorem slA_e (call : CallT) (bx : AV) (st : St) (len sz : Nat) (lo hi : Bool) (cs r : List AV) : semSlA len sz lo hi call (.ro cs :: r) bx st = if cs.length = len * sz then (bounds lo hi r len).map fun p => (.list false (((chunks sz len cs).take p.2).drop p.1), bx, st) else none := spine rfl
theorem bin_e (call : CallT) (bx : AV) (st : St) (op : BinOp) (a b : AV) : semBin op call [a, b] bx st = (binA op a b).map (fun v => (v, bx, st)) := spine rfl
theorem binB_e (call : CallT) (bx : AV) (st : St) (op : BinOp) (a b : AV) : semBinB op call [a, b] bx st = (binBA op a b).map (fun v => (v, bx, st)) := spine rfl
theorem binP_e (call : CallT) (bx : AV) (st : St) (op : BinOp) (a b : AV) : semBinP op call [a, b] bx st = (binPA op a b).map (fun v => (v, bx, st)) := spine rfl
theorem bi_add (k : IntKind) (a b : Int) : binA .add (.int k a) (.int k b) = some (.int k (wrapA k (addI a b))) := by simp only [binA, if_true]
theorem bi_sub (k : IntKind) (a b : Int) : binA .sub (.int k a) (.int k b) = some (.int k (wrapA k (subI a b))) := by simp only [binA, if_true]
theorem bi_mul (k : IntKind) (a b : Int) : binA .mul (.int k a) (.int k b) = some (.int k (wrapA k (a * b))) := by simp only [binA, if_true]
theorem bi_quo (k : IntKind) (a b : Int) : binA .quo (.int k a) (.int k b) = if b = 0 then none else some (.int k (k.wrap (a.tdiv b))) := by simp only [binA, if_true]
theorem bi_rem (k : IntKind) (a b : Int) : binA .rem (.int k a) (.int k b) = if b = 0 then none else some (.int k (a.tmod b)) := by simp only [binA, if_true]
theorem bi_eql (k : IntKind) (a b : Int) : binA .eql (.int k a) (.int k b) = some (.bool (eqI a b)) := by simp only [binA, if_true]
theorem bi_neq (k : IntKind) (a b : Int) : binA .neq (.int k a) (.int k b) = some (.bool !(eqI a b)) := by simp only [binA, if_true]
theorem bi_lss (k : IntKind) (a b : Int) : binA .lss (.int k a) (.int k b) = some (.bool (ltI a b)) := by simp only [binA, if_true]
theorem bi_leq (k : IntKind) (a b : Int) : binA .leq (.int k a) (.int k b) = some (.bool !(ltI b a)) := by simp only [binA, if_true]
theorem bi_gtr (k : IntKind) (a b : Int) : binA .gtr (.int k a) (.int k b) = some (.bool (ltI b a)) := by simp only [binA, if_true]
theorem bi_geq (k : IntKind) (a b : Int) : binA .geq (.int k a) (.int k b) = some (.bool !(ltI a b)) := by simp only [binA, if_true]
theorem bs_add (a b : List Nat) : binA .add (.str a) (.str b) = if a.length + b.length ≤ 2 ^ 62 then some (.str (a ++ b)) else none := spine rfl
theorem bs_eql (a b : List Nat) : binA .eql (.str a) (.str b) = some (.bool (eqN a b)) := spine rfl
theorem bs_neq (a b : List Nat) : binA .neq (.str a) (.str b) = some (.bool !(eqN a b)) := spine rfl
theorem bs_lss (a b : List Nat) : binA .lss (.str a) (.str b) = some (.bool (lessN a b)) := spine rfl
theorem bb_eql (a b : Bool) : binBA .eql (.bool a) (.bool b) = some (.bool (a == b)) := spine rfl
theorem bb_neq (a b : Bool) : binBA .neq (.bool a) (.bool b) = some (.bool !(a == b)) := spine rfl
theorem bp_eql1 (o f : Nat) : binPA .eql (.ptr o f) .nilp = some (.bool false) := spine rfl
theorem bp_eql2 (o f : Nat) : binPA .eql .nilp (.ptr o f) = some (.bool false) := spine rfl
theorem bp_eql3 : binPA .eql .nilp .nilp = some (.bool true) := spine rfl
theorem bp_neq1 (o f : Nat) : binPA .neq (.ptr o f) .nilp = some (.bool true) := spine rfl
theorem bp_neq2 (o f : Nat) : binPA .neq .nilp (.ptr o f) = some (.bool true) := spine rfl
theorem bp_neq3 : binPA .neq .nilp .nilp = some (.bool false) := spine rfl
theorem un_not (call : CallT) (bx : AV) (st : St) (b : Bool) : semUn .not call [.bool b] bx st = some (.bool !b, bx, st) := spine rfl
theorem un_neg (call : CallT) (bx : AV) (st : St) (k : IntKind) (n : Int) : semUn .neg call [.int k n] bx st = some (.int k (wrapA k (0 - n)), bx, st) := spine rfl
theorem conv_e (call : CallT) (bx : AV) (st : St) (k k' : IntKind) (n : Int) : semConv k call [.int k' n] bx st = some (.int k (wrapA k n), bx, st) := spine rfl
theorem mkF_e (call : CallT) (bx : AV) (st : St) (f n : Nat) (as : List AV) : semMkF f n call as bx st = if allPlain as then some (.func f ((as.map AV.weak).take n) ((as.map AV.weak).drop n), bx, st) else none := spine rfl
theorem mkM_e (call : CallT) (bx : AV) (st : St) : semMkM call [] bx st = some (.map st.length, bx, st ++ [.map []]) := spine rfl
theorem ext_e (call : CallT) (bx : AV) (st : St) (i : Nat) (vs : List AV) : semExt i call [.tuple vs] bx st = match vs[i]? with | some v => some (v.weak, bx, st) | none => none := spine rfl
theorem lenS_e (call : CallT) (bx : AV) (st : St) (s : List Nat) : semLenS call [.str s] bx st = some (.int .i64 s.length, bx, st) := spine rfl
theorem lenL_e (call : CallT) (bx : AV) (st : St) (w : Bool) (xs : List (List AV)) : semLenL call [.list w xs] bx st = some (.int .i64 xs.length, bx, st) := spine rfl
theorem app_e (call : CallT) (bx : AV) (st : St) (sz bytes : Nat) (w : Bool) (xs ys : List (List AV)) : semApp sz bytes call [.list true xs, .list w ys] bx st = if rowsOk sz xs && rowsOk sz ys && decide ((xs.length + ys.length) * bytes ≤ 2 ^ 47) then some (.list true (xs ++ ys), bx, st) else none := spine rfl
theorem takeVal_t (n : Nat) (cs : List AV) : takeVal true n cs = if n ≤ cs.length then some (.agg ((cs.take n).map AV.weak1)) else none := spine rfl
theorem takeVal_f (n : Nat) (c : AV) (cs : List AV) : takeVal false n (c :: cs) = some c.weak1 := spine rfl
theorem fillSegs_n (cs : List AV) : fillSegs [] [] cs = some cs := spine rfl
theorem fillSegs_c (off n : Nat) (offs : List (Nat × Nat)) (p : AV) (ps cs : List AV) : fillSegs ((off, n) :: offs) (p :: ps) cs = if p.plain = true ∧ p.cells.length = n ∧ off + n ≤ cs.length then fillSegs offs ps (setSeg cs off p.cells) else none := spine rfl
theorem fillRows_n (sz : Nat) (rs : List (List AV)) : fillRows sz [] [] rs = some rs := spine rfl
theorem fillRows_c (sz i : Nat) (is : List Nat) (p : AV) (ps : List AV) (rs : List (List AV)) : fillRows sz (i :: is) (p :: ps) rs = if p.plain = true ∧ p.cells.length = sz ∧ i < rs.length then fillRows sz is ps (rs.set i (p.cells.map AV.weak1)) else none := spine rfl
theorem setSeg_e (cs : List AV) (off : Nat) (new : List AV) : setSeg cs off new = cs.take off ++ new ++ cs.drop (off + new.length) := spine rfl
theorem bounds_ff (n : Nat) : bounds false false [] n = some (0, n) := spine rfl
theorem bounds_tf (l : AV) (n : Nat) : bounds true false [l] n = (bound l n).map fun l => (l, n) := spine rfl
theorem bounds_ft (h : AV) (n : Nat) : bounds false true [h] n = (bound h n).map fun h => (0, h) := spine rfl
theorem bounds_tt (l h : AV) (n : Nat) : bounds true true [l, h] n = match bound h n with | some h => (bound l h).map (fun l => (l, h)) | none => none := spine rfl
theorem bound_e (k : IntKind) (i : Int) (top : Nat) : bound (.int k i) top = if 0 ≤ i ∧ i ≤ (top : Int) then some i.toNat else none := spine rfl
theorem rowsOk_n (sz : Nat) : rowsOk sz [] = true := spine rfl
theorem rowsOk_c (sz : Nat) (r : List AV) (rs : List (List AV)) : rowsOk sz (r :: rs) = (r.length == sz) := spine rfl
theorem locOf_e (i : Nat) (cs : List AV) : locOf i (.box cs) = .loc i 0 := spine rfl
theorem plain_bool (b : Bool) : AV.plain (.bool b) = true := spine rfl
theorem cells_bool (b : Bool) : AV.cells (.bool b) = [.bool b] := spine rfl
theorem cellsW_bool (b : Bool) : AV.cellsW (.bool b) = [.bool b] := spine rfl
theorem plain_int (k : IntKind) (n : Int) : AV.plain (.int k n) = true := spine rfl
theorem cells_int (k : IntKind) (n : Int) : AV.cells (.int k n) = [.int k n] := spine rfl
theorem cellsW_int (k : IntKind) (n : Int) : AV.cellsW (.int k n) = [.int k n] := spine rfl
theorem plain_str (s : List Nat) : AV.plain (.str s) = true := spine rfl
theorem cells_str (s : List Nat) : AV.cells (.str s) = [.str s] := spine rfl
theorem cellsW_str (s : List Nat) : AV.cellsW (.str s) = [.str s] := spine rfl
theorem plain_list (w : Bool) (xs : List (List AV)) : AV.plain (.list w xs) = true := spine rfl
theorem cells_list (w : Bool) (xs : List (List AV)) : AV.cells (.list w xs) = [.list w xs] := spine rfl
theorem plain_ptr (o f : Nat) : AV.plain (.ptr o f) = true := spine rfl
theorem cells_ptr (o f : Nat) : AV.cells (.ptr o f) = [.ptr o f] := spine rfl
theorem cellsW_ptr (o f : Nat) : AV.cellsW (.ptr o f) = [.ptr o f] := spine rfl
theorem plain_nilp  : AV.plain (.nilp) = true := spine rfl
theorem cells_nilp  : AV.cells (.nilp) = [.nilp] := spine rfl
theorem cellsW_nilp  : AV.cellsW (.nilp) = [.nilp] := spine rfl
theorem plain_ro (cs : List AV) : AV.plain (.ro cs) = true := spine rfl
theorem cells_ro (cs : List AV) : AV.cells (.ro cs) = [.ro cs] := spine rfl
theorem cellsW_ro (cs : List AV) : AV.cellsW (.ro cs) = [.ro cs] := spine rfl
theorem plain_map (o : Nat) : AV.plain (.map o) = true := spine rfl
theorem cells_map (o : Nat) : AV.cells (.map o) = [.map o] := spine rfl
theorem cellsW_map (o : Nat) : AV.cellsW (.map o) = [.map o] := spine rfl
theorem plain_nilm  : AV.plain (.nilm) = true := spine rfl
theorem cells_nilm  : AV.cells (.nilm) = [.nilm] := spine rfl
theorem cellsW_nilm  : AV.cellsW (.nilm) = [.nilm] := spine rfl
theorem plain_func (f : Nat) (a b : List AV) : AV.plain (.func f a b) = true := spine rfl
theorem cells_func (f : Nat) (a b : List AV) : AV.cells (.func f a b) = [.func f a b] := spine rfl
theorem cellsW_func (f : Nat) (a b : List AV) : AV.cellsW (.func f a b) = [.func f a b] := spine rfl
theorem plain_nilf  : AV.plain (.nilf) = true := spine rfl
theorem cells_nilf  : AV.cells (.nilf) = [.nilf] := spine rfl
theorem cellsW_nilf  : AV.cellsW (.nilf) = [.nilf] := spine rfl
theorem plain_agg (cs : List AV) : AV.plain (.agg cs) = true := spine rfl
theorem cells_agg (cs : List AV) : AV.cells (.agg cs) = cs := spine rfl
theorem cellsW_agg (cs : List AV) : AV.cellsW (.agg cs) = cs := spine rfl
theorem cellsW_list (w : Bool) (xs : List (List AV)) : AV.cellsW (.list w xs) = [.list (w && xs.isEmpty) xs] := spine rfl
theorem allPlain_n : allPlain [] = true := spine rfl
theorem allPlain_c (a : AV) (as : List AV) : allPlain (a :: as) = (a.plain && allPlain as) := spine rfl
theorem map_n {α β : Type} (f : α → β) : List.map f [] = [] := spine rfl
theorem map_c {α β : Type} (f : α → β) (a : α) (l : List α) : List.map f (a :: l) = f a :: l.map f := spine rfl
theorem drop_0 {α : Type} (l : List α) : List.drop 0 l = l := spine rfl
theorem drop_s {α : Type} (n : Nat) (a : α) (l : List α) : List.drop (n + 1) (a :: l) = l.drop n := spine rfl
theorem drop_n {α : Type} (n : Nat) : List.drop n ([] : List α) = [] := by cases n <;> rfl
theorem take_0 {α : Type} (l : List α) : List.take 0 l = [] := spine rfl
theorem take_s {α : Type} (n : Nat) (a : α) (l : List α) : List.take (n + 1) (a :: l) = a :: l.take n := spine rfl
theorem take_n {α : Type} (n : Nat) : List.take n ([] : List α) = [] := by cases n <;> rfl
theorem len_n {α : Type} : ([] : List α).length = 0 := spine rfl
theorem len_c {α : Type} (a : α) (l : List α) : (a :: l).length = l.length + 1 := spine rfl
theorem app_c {α : Type} (a : α) (l m : List α) : (a :: l) ++ m = a :: (l ++ m) := spine rfl
theorem app_n {α : Type} (l : List α) : [] ++ l = l := spine rfl
theorem app_nil {α : Type} (l : List α) : l ++ [] = l := List.append_nil l
theorem get_0 {α : Type} (a : α) (l : List α) : (a :: l)[0]? = some a := spine rfl
theorem get_s {α : Type} (n : Nat) (a : α) (l : List α) : (a :: l)[n + 1]? = l[n]? := spine rfl
theorem set_0 {α : Type} (a b : α) (l : List α) : (a :: l).set 0 b = b :: l := spine rfl
theorem set_s {α : Type} (n : Nat) (a b : α) (l : List α) : (a :: l).set (n + 1) b = a :: l.set n b := spine rfl
theorem rep_0 {α : Type} (a : α) : List.replicate 0 a = [] := spine rfl
theorem rep_s {α : Type} (n : Nat) (a : α) : List.replicate (n + 1) a = a :: List.replicate n a := spine rfl
theorem omap_s {α β : Type} (f : α → β) (a : α) : Option.map f (some a) = some (f a) := spine rfl
theorem omap_n {α β : Type} (f : α → β) : Option.map f none = none := spine rfl
theorem isE_n {α : Type} : ([] : List α).isEmpty = true := spine rfl
theorem isE_c {α : Type} (a : α) (l : List α) : (a :: l).isEmpty = false := spine rfl
theorem ite_t {α : Type} (a b : α) : (if True then a else b) = a := if_pos trivial
theorem ite_f {α : Type} (a b : α) : (if False then a else b) = b := if_neg (fun h => h)
theorem itb_t {α : Type} (a b : α) : (if true = true then a else b) = a := if_pos rfl
theorem itb_f {α : Type} (a b : α) : (if false = true then a else b) = b := if_neg (fun h => by cases h)
theorem t_eq_f : (true = false) = False := by simp
theorem f_eq_t : (false = true) = False := by simp
theorem not_t : (!true) = false := spine rfl
theorem not_f : (!false) = true := spine rfl
theorem t_and (b : Bool) : (true && b) = b := spine rfl
theorem and_t (b : Bool) : (b && true) = b := by cases b <;> rfl
theorem f_and (b : Bool) : (false && b) = false := spine rfl
theorem and_f (b : Bool) : (b && false) = false := by cases b <;> rfl
theorem t_or (b : Bool) : (true || b) = true := spine rfl
theorem or_t (b : Bool) : (b || true) = true := by cases b <;> rfl
theorem f_or (b : Bool) : (false || b) = b := spine rfl
theorem or_f (b : Bool) : (b || false) = b := by cases b <;> rfl
theorem and_T (p : Prop) : (p ∧ True) = p := by simp
theorem T_and (p : Prop) : (True ∧ p) = p := by simp
theorem dec_T : decide True = true := spine rfl
theorem dec_F : decide False = false := spine rfl
theorem z_add (n : Nat) : 0 + n = n := Nat.zero_add n
theorem add_z (n : Nat) : n + 0 = n := spine rfl
theorem beqN (n : Nat) : (n == n) = true := by simp
end Go.Cb.R
namespace Go.Cb
open Go.Cb.R
theorem SS : type_of% (And.intro (And.intro (And.intro (And.intro (And.intro (And.intro (And.intro (And.intro (@exec_seqK) (@exec_blkK)) (And.intro (@exec_ret) (@exec_exit))) (And.intro (And.intro (@exec_skip) (@seqK_normal)) (And.intro (@seqK_exit) (@seqK_ret)))) (And.intro (And.intro (And.intro (@blkK_some) (@blkOut_normal)) (And.intro (@blkOut_ret) (@blkOut_exit))) (And.intro (And.intro (@seqC_x) (@blkC_x)) (And.intro (@seqK_obindC) (@blkK_obindC))))) (And.intro (And.intro (And.intro (And.intro (@exeT_x) (@seqT_x)) (And.intro (@blkT_x) (@brT_true))) (And.intro (And.intro (@brT_false) (@seqK_brT)) (And.intro (@blkK_brT) (@exec_loopO)))) (And.intro (And.intro (And.intro (@p1_some) (@p2_some)) (And.intro (@obind_some) (@gv_tt))) (And.intro (And.intro (@gv_tf) (@gv_ff)) (And.intro (@gv_ft) (And.intro (@gv_none) (@gv2_tt))))))) (And.intro (And.intro (And.intro (And.intro (And.intro (@gv2_tf) (@gv2_ff)) (And.intro (@gv2_ft) (@gv2_none))) (And.intro (And.intro (@gV_tt) (@gV_ff)) (And.intro (@gV_tf) (@gV_ft)))) (And.intro (And.intro (And.intro (@gV_none) (@gv_some)) (And.intro (@gv_some2) (@weak_gV))) (And.intro (And.intro (@strip_gV) (@stripB_gV)) (And.intro (@pick_t) (And.intro (@pick_f) (@pick_or)))))) (And.intro (And.intro (And.intro (And.intro (@pick_and) (@weak_bool)) (And.intro (@weak_int) (@weak_str))) (And.intro (And.intro (@weak_list) (@weak_ptr)) (And.intro (@weak_nilp) (@weak_ro)))) (And.intro (And.intro (And.intro (@weak_loc) (@weak_map)) (And.intro (@weak_nilm) (@weak_func))) (And.intro (And.intro (@weak_nilf) (@weak_agg)) (And.intro (@weak_tuple) (And.intro (@weak_undef) (@weak_box)))))))) (And.intro (And.intro (And.intro (And.intro (And.intro (And.intro (@weak1_bool) (@weak1_int)) (And.intro (@weak1_str) (@weak1_list))) (And.intro (And.intro (@weak1_ptr) (@weak1_nilp)) (And.intro (@weak1_map) (@weak1_nilm)))) (And.intro (And.intro (And.intro (@strip_bool) (@strip_int)) (And.intro (@strip_str) (@strip_list))) (And.intro (And.intro (@strip_ptr) (@strip_nilp)) (And.intro (@strip_ro) (And.intro (@strip_loc) (@strip_map)))))) (And.intro (And.intro (And.intro (And.intro (@strip_nilm) (@strip_func)) (And.intro (@strip_nilf) (@strip_agg))) (And.intro (And.intro (@strip_tuple) (@strip_undef)) (And.intro (@stripB_bool) (@stripB_int)))) (And.intro (And.intro (And.intro (@stripB_str) (@stripB_list)) (And.intro (@stripB_ptr) (@stripB_nilp))) (And.intro (And.intro (@stripB_ro) (@stripB_loc)) (And.intro (@stripB_map) (And.intro (@stripB_nilm) (@stripB_func))))))) (And.intro (And.intro (And.intro (And.intro (And.intro (@stripB_nilf) (@stripB_agg)) (And.intro (@stripB_tuple) (@stripB_undef))) (And.intro (And.intro (@mv_e) (@nilchk_ptr)) (And.intro (@nilchk_loc) (@nilchk_ro)))) (And.intro (And.intro (And.intro (@nilchk_func) (@alloc_e)) (And.intro (@boxV_e) (@allocO_e))) (And.intro (And.intro (@boxO_e) (@build_e)) (And.intro (@bslice_e) (And.intro (@ldLc_e) (@ldSt_e)))))) (And.intro (And.intro (And.intro (And.intro (@ldRo_e) (@ldLcS_e)) (And.intro (@ldStS_e) (@stLc_e))) (And.intro (And.intro (@stSt_e) (@fad_ptr)) (And.intro (@fad_loc) (@fad_ro)))) (And.intro (And.intro (And.intro (@fld_e) (@iad_e)) (And.intro (@iadA_ro) (@iadA_ptr))) (And.intro (And.intro (@iadA_loc) (@idxS_e)) (And.intro (@slS_e) (And.intro (@slL_e) (@slZ_e))))))))) (And.intro (And.intro (And.intro (And.intro (And.intro (And.intro (And.intro (@slA_e) (@bin_e)) (And.intro (@binB_e) (@binP_e))) (And.intro (And.intro (@bi_add) (@bi_sub)) (And.intro (@bi_mul) (@bi_quo)))) (And.intro (And.intro (And.intro (@bi_rem) (@bi_eql)) (And.intro (@bi_neq) (@bi_lss))) (And.intro (And.intro (@bi_leq) (@bi_gtr)) (And.intro (@bi_geq) (@bs_add))))) (And.intro (And.intro (And.intro (And.intro (@bs_eql) (@bs_neq)) (And.intro (@bs_lss) (@bb_eql))) (And.intro (And.intro (@bb_neq) (@bp_eql1)) (And.intro (@bp_eql2) (@bp_eql3)))) (And.intro (And.intro (And.intro (@bp_neq1) (@bp_neq2)) (And.intro (@bp_neq3) (@un_not))) (And.intro (And.intro (@un_neg) (@conv_e)) (And.intro (@mkF_e) (And.intro (@mkM_e) (@ext_e))))))) (And.intro (And.intro (And.intro (And.intro (And.intro (@lenS_e) (@lenL_e)) (And.intro (@app_e) (@takeVal_t))) (And.intro (And.intro (@takeVal_f) (@fillSegs_n)) (And.intro (@fillSegs_c) (@fillRows_n)))) (And.intro (And.intro (And.intro (@fillRows_c) (@setSeg_e)) (And.intro (@bounds_ff) (@bounds_tf))) (And.intro (And.intro (@bounds_ft) (@bounds_tt)) (And.intro (@bound_e) (And.intro (@rowsOk_n) (@rowsOk_c)))))) (And.intro (And.intro (And.intro (And.intro (@locOf_e) (@plain_bool)) (And.intro (@cells_bool) (@cellsW_bool))) (And.intro (And.intro (@plain_int) (@cells_int)) (And.intro (@cellsW_int) (@plain_str)))) (And.intro (And.intro (And.intro (@cells_str) (@cellsW_str)) (And.intro (@plain_list) (@cells_list))) (And.intro (And.intro (@plain_ptr) (@cells_ptr)) (And.intro (@cellsW_ptr) (And.intro (@plain_nilp) (@cells_nilp)))))))) (And.intro (And.intro (And.intro (And.intro (And.intro (And.intro (@cellsW_nilp) (@plain_ro)) (And.intro (@cells_ro) (@cellsW_ro))) (And.intro (And.intro (@plain_map) (@cells_map)) (And.intro (@cellsW_map) (@plain_nilm)))) (And.intro (And.intro (And.intro (@cells_nilm) (@cellsW_nilm)) (And.intro (@plain_func) (@cells_func))) (And.intro (And.intro (@cellsW_func) (@plain_nilf)) (And.intro (@cells_nilf) (And.intro (@cellsW_nilf) (@plain_agg)))))) (And.intro (And.intro (And.intro (And.intro (@cells_agg) (@cellsW_agg)) (And.intro (@cellsW_list) (@allPlain_n))) (And.intro (And.intro (@allPlain_c) (@map_n)) (And.intro (@map_c) (@drop_0)))) (And.intro (And.intro (And.intro (@drop_s) (@drop_n)) (And.intro (@take_0) (@take_s))) (And.intro (And.intro (@take_n) (@len_n)) (And.intro (@len_c) (And.intro (@app_c) (@app_n))))))) (And.intro (And.intro (And.intro (And.intro (And.intro (@app_nil) (@get_0)) (And.intro (@get_s) (@set_0))) (And.intro (And.intro (@set_s) (@rep_0)) (And.intro (@rep_s) (@omap_s)))) (And.intro (And.intro (And.intro (@omap_n) (@isE_n)) (And.intro (@isE_c) (@ite_t))) (And.intro (And.intro (@ite_f) (@itb_t)) (And.intro (@itb_f) (And.intro (@t_eq_f) (@f_eq_t)))))) (And.intro (And.intro (And.intro (And.intro (@not_t) (@not_f)) (And.intro (@t_and) (@and_t))) (And.intro (And.intro (@f_and) (@and_f)) (And.intro (@t_or) (@or_t)))) (And.intro (And.intro (And.intro (@f_or) (@or_f)) (And.intro (@and_T) (@T_and))) (And.intro (And.intro (@dec_T) (@dec_F)) (And.intro (@z_add) (And.intro (@add_z) (@beqN)))))))))) := And.intro (And.intro (And.intro (And.intro (And.intro (And.intro (And.intro (And.intro (@exec_seqK) (@exec_blkK)) (And.intro (@exec_ret) (@exec_exit))) (And.intro (And.intro (@exec_skip) (@seqK_normal)) (And.intro (@seqK_exit) (@seqK_ret)))) (And.intro (And.intro (And.intro (@blkK_some) (@blkOut_normal)) (And.intro (@blkOut_ret) (@blkOut_exit))) (And.intro (And.intro (@seqC_x) (@blkC_x)) (And.intro (@seqK_obindC) (@blkK_obindC))))) (And.intro (And.intro (And.intro (And.intro (@exeT_x) (@seqT_x)) (And.intro (@blkT_x) (@brT_true))) (And.intro (And.intro (@brT_false) (@seqK_brT)) (And.intro (@blkK_brT) (@exec_loopO)))) (And.intro (And.intro (And.intro (@p1_some) (@p2_some)) (And.intro (@obind_some) (@gv_tt))) (And.intro (And.intro (@gv_tf) (@gv_ff)) (And.intro (@gv_ft) (And.intro (@gv_none) (@gv2_tt))))))) (And.intro (And.intro (And.intro (And.intro (And.intro (@gv2_tf) (@gv2_ff)) (And.intro (@gv2_ft) (@gv2_none))) (And.intro (And.intro (@gV_tt) (@gV_ff)) (And.intro (@gV_tf) (@gV_ft)))) (And.intro (And.intro (And.intro (@gV_none) (@gv_some)) (And.intro (@gv_some2) (@weak_gV))) (And.intro (And.intro (@strip_gV) (@stripB_gV)) (And.intro (@pick_t) (And.intro (@pick_f) (@pick_or)))))) (And.intro (And.intro (And.intro (And.intro (@pick_and) (@weak_bool)) (And.intro (@weak_int) (@weak_str))) (And.intro (And.intro (@weak_list) (@weak_ptr)) (And.intro (@weak_nilp) (@weak_ro)))) (And.intro (And.intro (And.intro (@weak_loc) (@weak_map)) (And.intro (@weak_nilm) (@weak_func))) (And.intro (And.intro (@weak_nilf) (@weak_agg)) (And.intro (@weak_tuple) (And.intro (@weak_undef) (@weak_box)))))))) (And.intro (And.intro (And.intro (And.intro (And.intro (And.intro (@weak1_bool) (@weak1_int)) (And.intro (@weak1_str) (@weak1_list))) (And.intro (And.intro (@weak1_ptr) (@weak1_nilp)) (And.intro (@weak1_map) (@weak1_nilm)))) (And.intro (And.intro (And.intro (@strip_bool) (@strip_int)) (And.intro (@strip_str) (@strip_list))) (And.intro (And.intro (@strip_ptr) (@strip_nilp)) (And.intro (@strip_ro) (And.intro (@strip_loc) (@strip_map)))))) (And.intro (And.intro (And.intro (And.intro (@strip_nilm) (@strip_func)) (And.intro (@strip_nilf) (@strip_agg))) (And.intro (And.intro (@strip_tuple) (@strip_undef)) (And.intro (@stripB_bool) (@stripB_int)))) (And.intro (And.intro (And.intro (@stripB_str) (@stripB_list)) (And.intro (@stripB_ptr) (@stripB_nilp))) (And.intro (And.intro (@stripB_ro) (@stripB_loc)) (And.intro (@stripB_map) (And.intro (@stripB_nilm) (@stripB_func))))))) (And.intro (And.intro (And.intro (And.intro (And.intro (@stripB_nilf) (@stripB_agg)) (And.intro (@stripB_tuple) (@stripB_undef))) (And.intro (And.intro (@mv_e) (@nilchk_ptr)) (And.intro (@nilchk_loc) (@nilchk_ro)))) (And.intro (And.intro (And.intro (@nilchk_func) (@alloc_e)) (And.intro (@boxV_e) (@allocO_e))) (And.intro (And.intro (@boxO_e) (@build_e)) (And.intro (@bslice_e) (And.intro (@ldLc_e) (@ldSt_e)))))) (And.intro (And.intro (And.intro (And.intro (@ldRo_e) (@ldLcS_e)) (And.intro (@ldStS_e) (@stLc_e))) (And.intro (And.intro (@stSt_e) (@fad_ptr)) (And.intro (@fad_loc) (@fad_ro)))) (And.intro (And.intro (And.intro (@fld_e) (@iad_e)) (And.intro (@iadA_ro) (@iadA_ptr))) (And.intro (And.intro (@iadA_loc) (@idxS_e)) (And.intro (@slS_e) (And.intro (@slL_e) (@slZ_e))))))))) (And.intro (And.intro (And.intro (And.intro (And.intro (And.intro (And.intro (@slA_e) (@bin_e)) (And.intro (@binB_e) (@binP_e))) (And.intro (And.intro (@bi_add) (@bi_sub)) (And.intro (@bi_mul) (@bi_quo)))) (And.intro (And.intro (And.intro (@bi_rem) (@bi_eql)) (And.intro (@bi_neq) (@bi_lss))) (And.intro (And.intro (@bi_leq) (@bi_gtr)) (And.intro (@bi_geq) (@bs_add))))) (And.intro (And.intro (And.intro (And.intro (@bs_eql) (@bs_neq)) (And.intro (@bs_lss) (@bb_eql))) (And.intro (And.intro (@bb_neq) (@bp_eql1)) (And.intro (@bp_eql2) (@bp_eql3)))) (And.intro (And.intro (And.intro (@bp_neq1) (@bp_neq2)) (And.intro (@bp_neq3) (@un_not))) (And.intro (And.intro (@un_neg) (@conv_e)) (And.intro (@mkF_e) (And.intro (@mkM_e) (@ext_e))))))) (And.intro (And.intro (And.intro (And.intro (And.intro (@lenS_e) (@lenL_e)) (And.intro (@app_e) (@takeVal_t))) (And.intro (And.intro (@takeVal_f) (@fillSegs_n)) (And.intro (@fillSegs_c) (@fillRows_n)))) (And.intro (And.intro (And.intro (@fillRows_c) (@setSeg_e)) (And.intro (@bounds_ff) (@bounds_tf))) (And.intro (And.intro (@bounds_ft) (@bounds_tt)) (And.intro (@bound_e) (And.intro (@rowsOk_n) (@rowsOk_c)))))) (And.intro (And.intro (And.intro (And.intro (@locOf_e) (@plain_bool)) (And.intro (@cells_bool) (@cellsW_bool))) (And.intro (And.intro (@plain_int) (@cells_int)) (And.intro (@cellsW_int) (@plain_str)))) (And.intro (And.intro (And.intro (@cells_str) (@cellsW_str)) (And.intro (@plain_list) (@cells_list))) (And.intro (And.intro (@plain_ptr) (@cells_ptr)) (And.intro (@cellsW_ptr) (And.intro (@plain_nilp) (@cells_nilp)))))))) (And.intro (And.intro (And.intro (And.intro (And.intro (And.intro (@cellsW_nilp) (@plain_ro)) (And.intro (@cells_ro) (@cellsW_ro))) (And.intro (And.intro (@plain_map) (@cells_map)) (And.intro (@cellsW_map) (@plain_nilm)))) (And.intro (And.intro (And.intro (@cells_nilm) (@cellsW_nilm)) (And.intro (@plain_func) (@cells_func))) (And.intro (And.intro (@cellsW_func) (@plain_nilf)) (And.intro (@cells_nilf) (And.intro (@cellsW_nilf) (@plain_agg)))))) (And.intro (And.intro (And.intro (And.intro (@cells_agg) (@cellsW_agg)) (And.intro (@cellsW_list) (@allPlain_n))) (And.intro (And.intro (@allPlain_c) (@map_n)) (And.intro (@map_c) (@drop_0)))) (And.intro (And.intro (And.intro (@drop_s) (@drop_n)) (And.intro (@take_0) (@take_s))) (And.intro (And.intro (@take_n) (@len_n)) (And.intro (@len_c) (And.intro (@app_c) (@app_n))))))) (And.intro (And.intro (And.intro (And.intro (And.intro (@app_nil) (@get_0)) (And.intro (@get_s) (@set_0))) (And.intro (And.intro (@set_s) (@rep_0)) (And.intro (@rep_s) (@omap_s)))) (And.intro (And.intro (And.intro (@omap_n) (@isE_n)) (And.intro (@isE_c) (@ite_t))) (And.intro (And.intro (@ite_f) (@itb_t)) (And.intro (@itb_f) (And.intro (@t_eq_f) (@f_eq_t)))))) (And.intro (And.intro (And.intro (And.intro (@not_t) (@not_f)) (And.intro (@t_and) (@and_t))) (And.intro (And.intro (@f_and) (@and_f)) (And.intro (@t_or) (@or_t)))) (And.intro (And.intro (And.intro (@f_or) (@or_f)) (And.intro (@and_T) (@T_and))) (And.intro (And.intro (@dec_T) (@dec_F)) (And.intro (@z_add) (And.intro (@add_z) (@beqN)))))))))
end Go.Cb
