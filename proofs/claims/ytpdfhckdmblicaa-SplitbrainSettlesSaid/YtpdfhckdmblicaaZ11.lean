/-
  Part 11 of the texts that the statement stands on.
-/
import Derived.Test.YtpdfhckdmblicaaZ10
set_option linter.all false
namespace Go.Proofs.Ytpdfhckdmblicaa.V
set_option linter.all false
theorem calAwake : cal env 9 [] = some [(.bool true, false)] := cal_of_vmCall (n := 400) (by kernel_rfl)
end Go.Proofs.Ytpdfhckdmblicaa.V

namespace Go.Proofs.Ytpdfhckdmblicaa.V
set_option linter.all false
def outGo (w : Int) (best : Sit) : Nat → List Sit → List Sit
  | _, [] => []
  | i, x :: r => resS w best i x :: outGo w best (i + 1) r
def losGo (w : Int) (best : Sit) : Nat → List Sit → List Int
  | _, [] => []
  | i, x :: r => if losP w best i x = true then (i : Int) :: losGo w best (i + 1) r else losGo w best (i + 1) r
theorem resGo_eq {w : Int} {best : Sit} : ∀ (r : List Sit) (i : Nat) (z : Bool) (out los : List PV), (resGo w best i r (z, out, los)).2.1 = out ++ (outGo w best i r).map eSit ∧ (resGo w best i r (z, out, los)).2.2 = los ++ (losGo w best i r).map eI
  | [], i, z, out, los => by simp [resGo, outGo, losGo]
  | x :: r, i, z, out, los => by
    unfold resGo outGo losGo resS
    cases h : losP w best i x with
    | true =>
      simp only [if_true]
      rw [(resGo_eq r (i + 1) _ _ _).1, (resGo_eq r (i + 1) _ _ _).2]
      simp [eI]
    | false =>
      simp only [Bool.false_eq_true, if_false]
      rw [(resGo_eq r (i + 1) _ _ _).1, (resGo_eq r (i + 1) _ _ _).2]
      simp
def resSites (l : List Sit) (w : Int) : List Sit := if (winE l w != 0) = true then [] else outGo w (l.getD w.toNat zSit) 0 l
def resLos (l : List Sit) (w : Int) : List Int := if (winE l w != 0) = true then [] else losGo w (l.getD w.toNat zSit) 0 l
theorem resX_eq (l : List Sit) (w : Int) : (resX l w).2.1 = (resSites l w).map eSit ∧ (resX l w).2.2 = (resLos l w).map eI := by
  unfold resX resSites resLos
  cases h : (winE l w != 0) with
  | true => exact ⟨rfl, rfl⟩
  | false =>
    simp only [Bool.false_eq_true, if_false]
    have := resGo_eq (w := w) (best := l.getD w.toNat zSit) l 0 false [] []
    exact ⟨this.1, this.2⟩
theorem outGo_len {w : Int} {best : Sit} : ∀ (r : List Sit) (i : Nat), (outGo w best i r).length = r.length
  | [], i => rfl
  | x :: r, i => by simp [outGo, outGo_len r (i + 1)]
theorem losGo_len {w : Int} {best : Sit} : ∀ (r : List Sit) (i : Nat), (losGo w best i r).length ≤ r.length
  | [], i => Nat.le_refl _
  | x :: r, i => by
    unfold losGo
    have := losGo_len (w := w) (best := best) r (i + 1)
    split <;> simp <;> omega
theorem outGo_lin {w : Int} {best : Sit} : ∀ (r : List Sit) (i : Nat), ∀ x ∈ outGo w best i r, ∃ y ∈ r, x.lin = y.lin
  | [], i, x, h => by cases h
  | y :: r, i, x, h => by
    unfold outGo at h
    rcases List.mem_cons.1 h with rfl | h
    · refine ⟨y, by simp, ?_⟩
      unfold resS
      split <;> rfl
    · obtain ⟨z, h1, h2⟩ := outGo_lin r (i + 1) x h
      exact ⟨z, by simp [h1], h2⟩
theorem zip_self {α : Type} : ∀ (l : List α), ∀ q ∈ l.zip l, q.1 = q.2 ∧ q.1 ∈ l
  | [], q, h => by cases h
  | x :: l, q, h => by
    rw [List.zip_cons_cons] at h
    rcases List.mem_cons.1 h with rfl | h
    · exact ⟨rfl, by simp⟩
    · have := zip_self l q h
      exact ⟨this.1, by simp [this.2]⟩
theorem eqF_self {α : Type} {l : List α} : eqF (fun _ _ => true) l l = true := by
  simp [eqF]
theorem resSites_len (l : List Sit) (w : Int) : (resSites l w).length ≤ l.length := by
  unfold resSites
  split
  · simp
  · rw [outGo_len]; exact Nat.le_refl _
theorem resSites_lin (l : List Sit) (w : Int) : ∀ x ∈ resSites l w, ∃ y ∈ l, x.lin = y.lin := by
  unfold resSites
  split
  · intro x hx; cases hx
  · exact outGo_lin l 0
theorem resLos_len (l : List Sit) (w : Int) : (resLos l w).length ≤ l.length := by
  unfold resLos
  split
  · simp
  · exact losGo_len l 0
theorem sites_same {l : List Sit} (hl : l.length ≤ lim) (hok : ∀ x ∈ l, x.lin.length ≤ lim) : cal env 18 [.list 8 (l.map eSit), .list 8 (l.map eSit), .func 19 []] = some [(.bool true, false)] := by
  have := cal18 (eq := fun _ _ => true) (l := l) (m := l) (gf := 19) (caps := []) (by
    intro q hq
    obtain ⟨h1, h2⟩ := zip_self l q hq
    rw [← h1]
    exact cal19 (hok _ h2)) hl
  rw [eqF_self] at this
  exact this
theorem cal4 {l : List Sit} {w : Int} : cal env 4 [.list 8 (l.map eSit), .int .i64 w] = some [(.bool true, false)] := by
  have e0 := calAwake
  have e1 := cal12 (l := l)
  cases hf : fewX l with
  | false =>
    rw [hf] at e1
    rw [cal_code env4 rfl]; simp only [fn4]; simp only [start, z_map_cons, z_map_nil, z_len_cons, z_len_nil, z_repl_zero, z_repl_succ, z_cons_app, z_nil_app, Nat.reduceAdd, Nat.reduceSub]
    simp only [e0, e1, List.isEmpty_nil, val_pvs, frozen_pvs, msnoc_len, msnoc_get, msnoc_set, msnoc_take, Int.le_refl, take_map_all, Nat.le_refl, St.freezeRows, BV.frozen, List.take_length, List.take_append_drop, z_repl_zero, Int.toNat_zero, true_and, and_true, and_self, eq_self, z_take_zero, List.drop_nil, List.take_nil, vAll, List.foldl_nil, List.foldl_cons, resultsOf, resultList, resultOf, zBV, splice, PV.remade, St.freezeAt, St.freezeBox, St.freezeCap, PV.single, plain, act, dstOf, if_true, if_false, reduceCtorEq, St.get, St.put, St.pvOf, St.putRow, St.consume, St.freeze, St.row, St.elems, St.grab, St.takeRow, St.setRow, St.place, St.optPv, St.setCell, St.setCellRow, binPV, intBin, unPV, BV.val, Nat.reduceEqDiff, bound, consumeAll, buildParts, capsOf, capOf, List.append_nil, Nat.reduceAdd, Nat.reduceLT, Nat.reduceLeDiff, beq_self_eq_true, List.length_map, Nat.beq, dcall, dcallP, List.mapM_cons, St.snapFn, St.snap, St.layAll, St.lay, St.freezeArg, St.freezeArg1]
  | true =>
    rw [hf] at e1
    obtain ⟨hl, hok⟩ := few_ok hf
    have hlim : lim = 1073741824 := rfl
    have hok' : ∀ x ∈ l, x.lin.length ≤ lim := fun x hx => by have := hok x hx; omega
    have e2 := cal13 hok' hl
    have e3 := cal14 hok' hl
    have e4 := cal15 (w := w) hok' hl
    have e5 := cal16 (w := w) hok' hl
    have e6 := samePairs_divX hl
    rw [(resX_eq l w).1, (resX_eq l w).2] at e4 e5
    have e7 := sites_same (l := resSites l w) (by have := resSites_len l w; omega) (fun x hx => by obtain ⟨y, h1, h2⟩ := resSites_lin l w x hx; rw [h2]; exact hok' y h1)
    have e8 := cal20 (l := resLos l w) (m := resLos l w) (by have := resLos_len l w; omega)
    simp only [decide_true] at e8
    generalize divX l = d at *
    generalize (resSites l w).map eSit = rs at *
    generalize (resLos l w).map eI = rl at *
    rw [cal_code env4 rfl]; simp only [fn4]; simp only [start, z_map_cons, z_map_nil, z_len_cons, z_len_nil, z_repl_zero, z_repl_succ, z_cons_app, z_nil_app, Nat.reduceAdd, Nat.reduceSub]
    simp only [e0, e1, e2, e3, e4, e5, e6, e7, e8, List.isEmpty_nil, val_pvs, frozen_pvs, msnoc_len, msnoc_get, msnoc_set, msnoc_take, Int.le_refl, take_map_all, Nat.le_refl, St.freezeRows, BV.frozen, List.take_length, List.take_append_drop, z_repl_zero, Int.toNat_zero, true_and, and_true, and_self, eq_self, z_take_zero, List.drop_nil, List.take_nil, vAll, List.foldl_nil, List.foldl_cons, resultsOf, resultList, resultOf, zBV, splice, PV.remade, St.freezeAt, St.freezeBox, St.freezeCap, PV.single, plain, act, dstOf, if_true, if_false, reduceCtorEq, St.get, St.put, St.pvOf, St.putRow, St.consume, St.freeze, St.row, St.elems, St.grab, St.takeRow, St.setRow, St.place, St.optPv, St.setCell, St.setCellRow, binPV, intBin, unPV, BV.val, Nat.reduceEqDiff, bound, consumeAll, buildParts, capsOf, capOf, List.append_nil, Nat.reduceAdd, Nat.reduceLT, Nat.reduceLeDiff, beq_self_eq_true, List.length_map, Nat.beq, dcall, dcallP, List.mapM_cons, St.snapFn, St.snap, St.layAll, St.lay, St.freezeArg, St.freezeArg1]
end Go.Proofs.Ytpdfhckdmblicaa.V

namespace Go.Proofs.Ytpdfhckdmblicaa.V
set_option linter.all false
def idxOf (l : List Int) (v : Int) : Int := if v ∈ l then (l.findIdx (fun x => v == x) : Int) else -1
theorem loop67 {l : List Int} {v : Int} (hl : l.length ≤ lim) {st : St} (h : st.head [0, 1, 7, 8] st.boxes.length = some ⟨[.pv (.list 1 (l.map eI)), .pv (.int .i64 v), .any, .any, .any, .any, .any, .pv (.int .i64 l.length), .pv (.int .i64 (0 : Nat)), .any, .any, .any, .any, .any, .any, .any, .any, .any, .any], [], [], none⟩) :
   den env fn67_l1 st = if v ∈ l then some (.ret, ⟨[.any, .any, .any, .any, .pv (.int .i64 (l.findIdx (fun x => v == x) : Int)), .any, .any, .any, .any, .any, .any, .any, .any, .any, .any, .any, .any, .any, .any], [], [], none⟩) else some (.normal, ⟨[.any, .any, .any, .any, .any, .any, .any, .any, .any, .any, .any, .any, .any, .any, .any, .any, .any, .any, .any], [], [], none⟩) := by
  unfold fn67_l1
  rw [ clean_up (env := env) (l.length) (fun i => ⟨[.pv (.list 1 (l.map eI)), .pv (.int .i64 v), .any, .any, .any, .any, .any, .pv (.int .i64 l.length), .pv (.int .i64 i), .any, .any, .any, .any, .any, .any, .any, .any, .any, .any], [], [], none⟩) (fun i => if v ∈ l.drop (i) then some (.ret, ⟨[.any, .any, .any, .any, .pv (.int .i64 (((i) + (l.drop (i)).findIdx (fun x => v == x) : Nat) : Int)), .any, .any, .any, .any, .any, .any, .any, .any, .any, .any, .any, .any, .any, .any], [], [], none⟩) else some (.normal, ⟨[.any, .any, .any, .any, .any, .any, .any, .any, .any, .any, .any, .any, .any, .any, .any, .any, .any, .any, .any], [], [], none⟩)) h (fun _ => rfl) (fun _ => rfl) ?_ ?_]
  · first | rfl | simp only [List.drop_zero, List.take_zero, List.map_nil, Nat.zero_add, List.nil_append, List.foldl_nil]
  · intro i rb hi ih

    have hi1 := i64_next hi hl
    have F1 : ((i : Int) < (l.length : Int)) = True := eq_true (by omega)
    have hx : l[i]? = some l[i] := List.getElem?_eq_getElem hi
    rw [List.drop_eq_getElem_cons hi]
    generalize l[i] = x at *
    cases hc : (v == x) with
    | true =>
      have e : v = x := by simpa using hc
      simp only [fn67_b0, F1, hc, hx, eI, index_nat hi, List.getElem?_map, Option.map_some, List.length_map, List.isEmpty_nil, val_pvs, frozen_pvs, msnoc_len, msnoc_get, msnoc_set, msnoc_take, Int.le_refl, take_map_all, Nat.le_refl, St.freezeRows, BV.frozen, List.take_length, List.take_append_drop, z_repl_zero, Int.toNat_zero, true_and, and_true, and_self, eq_self, z_take_zero, List.drop_nil, List.take_nil, vAll, List.foldl_nil, List.foldl_cons, resultsOf, resultList, resultOf, zBV, splice, PV.remade, St.freezeAt, St.freezeBox, St.freezeCap, PV.single, plain, act, dstOf, if_true, if_false, reduceCtorEq, St.get, St.put, St.pvOf, St.putRow, St.consume, St.freeze, St.row, St.elems, St.grab, St.takeRow, St.setRow, St.place, St.optPv, St.setCell, St.setCellRow, binPV, intBin, unPV, BV.val, Nat.reduceEqDiff, bound, consumeAll, buildParts, capsOf, capOf, List.append_nil, Nat.reduceAdd, Nat.reduceLT, Nat.reduceLeDiff, beq_self_eq_true, List.length_map, Nat.beq, dcall, dcallP, List.mapM_cons, St.snapFn, St.snap, St.layAll, St.lay, St.freezeArg, St.freezeArg1]
      rw [if_pos (by simp [e]), List.findIdx_cons, hc]
      rfl
    | false =>
      have e : v ≠ x := by simpa using hc
      simp only [fn67_b0, F1, hc, hx, eI, index_nat hi, List.getElem?_map, Option.map_some, List.length_map, List.isEmpty_nil, val_pvs, frozen_pvs, msnoc_len, msnoc_get, msnoc_set, msnoc_take, Int.le_refl, take_map_all, Nat.le_refl, St.freezeRows, BV.frozen, List.take_length, List.take_append_drop, z_repl_zero, Int.toNat_zero, true_and, and_true, and_self, eq_self, z_take_zero, List.drop_nil, List.take_nil, vAll, List.foldl_nil, List.foldl_cons, resultsOf, resultList, resultOf, zBV, splice, PV.remade, St.freezeAt, St.freezeBox, St.freezeCap, PV.single, plain, act, dstOf, if_true, if_false, reduceCtorEq, St.get, St.put, St.pvOf, St.putRow, St.consume, St.freeze, St.row, St.elems, St.grab, St.takeRow, St.setRow, St.place, St.optPv, St.setCell, St.setCellRow, binPV, intBin, unPV, BV.val, Nat.reduceEqDiff, bound, consumeAll, buildParts, capsOf, capOf, List.append_nil, Nat.reduceAdd, Nat.reduceLT, Nat.reduceLeDiff, beq_self_eq_true, List.length_map, Nat.beq, dcall, dcallP, List.mapM_cons, St.snapFn, St.snap, St.layAll, St.lay, St.freezeArg, St.freezeArg1]
      rw [ih _ (by simp only [hi1]; rfl), List.findIdx_cons, hc]
      simp only [List.mem_cons, e, false_or, cond_false, Nat.add_assoc, Nat.add_comm 1]
  · intro rb

    simp only [fn67_b0, Int.lt_irrefl,  List.isEmpty_nil, val_pvs, frozen_pvs, msnoc_len, msnoc_get, msnoc_set, msnoc_take, Int.le_refl, take_map_all, Nat.le_refl, St.freezeRows, BV.frozen, List.take_length, List.take_append_drop, z_repl_zero, Int.toNat_zero, true_and, and_true, and_self, eq_self, z_take_zero, List.drop_nil, List.take_nil, vAll, List.foldl_nil, List.foldl_cons, resultsOf, resultList, resultOf, zBV, splice, PV.remade, St.freezeAt, St.freezeBox, St.freezeCap, PV.single, plain, act, dstOf, if_true, if_false, reduceCtorEq, St.get, St.put, St.pvOf, St.putRow, St.consume, St.freeze, St.row, St.elems, St.grab, St.takeRow, St.setRow, St.place, St.optPv, St.setCell, St.setCellRow, binPV, intBin, unPV, BV.val, Nat.reduceEqDiff, bound, consumeAll, buildParts, capsOf, capOf, List.append_nil, Nat.reduceAdd, Nat.reduceLT, Nat.reduceLeDiff, beq_self_eq_true, List.length_map, Nat.beq, dcall, dcallP, List.mapM_cons, St.snapFn, St.snap, St.layAll, St.lay, St.freezeArg, St.freezeArg1]
    rw [List.drop_length, if_neg (by simp)]
    rfl

theorem cal67 {l : List Int} {v : Int} (hl : l.length ≤ lim) : cal env 67 [.list 1 (l.map eI), .int .i64 v] = some [(.int .i64 (idxOf l v), false)] := by
  rw [cal_code env67 rfl]; simp only [fn67]; simp only [start, z_map_cons, z_map_nil, z_len_cons, z_len_nil, z_repl_zero, z_repl_succ, z_cons_app, z_nil_app, Nat.reduceAdd, Nat.reduceSub]
  simp only [List.length_map, List.isEmpty_nil, val_pvs, frozen_pvs, msnoc_len, msnoc_get, msnoc_set, msnoc_take, Int.le_refl, take_map_all, Nat.le_refl, St.freezeRows, BV.frozen, List.take_length, List.take_append_drop, z_repl_zero, Int.toNat_zero, true_and, and_true, and_self, eq_self, z_take_zero, List.drop_nil, List.take_nil, vAll, List.foldl_nil, List.foldl_cons, resultsOf, resultList, resultOf, zBV, splice, PV.remade, St.freezeAt, St.freezeBox, St.freezeCap, PV.single, plain, act, dstOf, if_true, if_false, reduceCtorEq, St.get, St.put, St.pvOf, St.putRow, St.consume, St.freeze, St.row, St.elems, St.grab, St.takeRow, St.setRow, St.place, St.optPv, St.setCell, St.setCellRow, binPV, intBin, unPV, BV.val, Nat.reduceEqDiff, bound, consumeAll, buildParts, capsOf, capOf, List.append_nil, Nat.reduceAdd, Nat.reduceLT, Nat.reduceLeDiff, beq_self_eq_true, List.length_map, Nat.beq, dcall, dcallP, List.mapM_cons, St.snapFn, St.snap, St.layAll, St.lay, St.freezeArg, St.freezeArg1]
  rw [loop67 hl]
  rotate_left
  · rfl
  · unfold idxOf
    split <;> simp only [List.isEmpty_nil, val_pvs, frozen_pvs, msnoc_len, msnoc_get, msnoc_set, msnoc_take, Int.le_refl, take_map_all, Nat.le_refl, St.freezeRows, BV.frozen, List.take_length, List.take_append_drop, z_repl_zero, Int.toNat_zero, true_and, and_true, and_self, eq_self, z_take_zero, List.drop_nil, List.take_nil, vAll, List.foldl_nil, List.foldl_cons, resultsOf, resultList, resultOf, zBV, splice, PV.remade, St.freezeAt, St.freezeBox, St.freezeCap, PV.single, plain, act, dstOf, if_true, if_false, reduceCtorEq, St.get, St.put, St.pvOf, St.putRow, St.consume, St.freeze, St.row, St.elems, St.grab, St.takeRow, St.setRow, St.place, St.optPv, St.setCell, St.setCellRow, binPV, intBin, unPV, BV.val, Nat.reduceEqDiff, bound, consumeAll, buildParts, capsOf, capOf, List.append_nil, Nat.reduceAdd, Nat.reduceLT, Nat.reduceLeDiff, beq_self_eq_true, List.length_map, Nat.beq, dcall, dcallP, List.mapM_cons, St.snapFn, St.snap, St.layAll, St.lay, St.freezeArg, St.freezeArg1]
theorem cal28 {l : List Int} {v : Int} (hl : l.length ≤ lim) : cal env 28 [.list 1 (l.map eI), .int .i64 v] = some [(.bool (decide (v ∈ l)), false)] := by
  have e1 := cal67 (v := v) hl
  have e2 : decide (idxOf l v ≥ 0) = decide (v ∈ l) := by
    unfold idxOf
    by_cases h : v ∈ l
    · simp only [h, if_true, decide_true]; exact decide_eq_true (by omega)
    · simp only [h, if_false, decide_false]; rfl
  rw [cal_code env28 rfl]; simp only [fn28]; simp only [start, z_map_cons, z_map_nil, z_len_cons, z_len_nil, z_repl_zero, z_repl_succ, z_cons_app, z_nil_app, Nat.reduceAdd, Nat.reduceSub]
  simp only [e1, e2, List.isEmpty_nil, val_pvs, frozen_pvs, msnoc_len, msnoc_get, msnoc_set, msnoc_take, Int.le_refl, take_map_all, Nat.le_refl, St.freezeRows, BV.frozen, List.take_length, List.take_append_drop, z_repl_zero, Int.toNat_zero, true_and, and_true, and_self, eq_self, z_take_zero, List.drop_nil, List.take_nil, vAll, List.foldl_nil, List.foldl_cons, resultsOf, resultList, resultOf, zBV, splice, PV.remade, St.freezeAt, St.freezeBox, St.freezeCap, PV.single, plain, act, dstOf, if_true, if_false, reduceCtorEq, St.get, St.put, St.pvOf, St.putRow, St.consume, St.freeze, St.row, St.elems, St.grab, St.takeRow, St.setRow, St.place, St.optPv, St.setCell, St.setCellRow, binPV, intBin, unPV, BV.val, Nat.reduceEqDiff, bound, consumeAll, buildParts, capsOf, capOf, List.append_nil, Nat.reduceAdd, Nat.reduceLT, Nat.reduceLeDiff, beq_self_eq_true, List.length_map, Nat.beq, dcall, dcallP, List.mapM_cons, St.snapFn, St.snap, St.layAll, St.lay, St.freezeArg, St.freezeArg1]

theorem mem_losGo {w : Int} {best : Sit} : ∀ (r : List Sit) (i : Nat) (j : Int), j ∈ losGo w best i r ↔ ∃ k x, r[k]? = some x ∧ j = ((i + k : Nat) : Int) ∧ losP w best (i + k) x = true
  | [], i, j => by simp [losGo]
  | y :: r, i, j => by
    unfold losGo
    have ih := mem_losGo (w := w) (best := best) r (i + 1) j
    constructor
    · intro h
      have h2 : (losP w best i y = true ∧ j = (i : Int)) ∨ j ∈ losGo w best (i + 1) r := by
        split at h
        · rename_i hp
          rcases List.mem_cons.1 h with h | h
          · exact .inl ⟨hp, h⟩
          · exact .inr h
        · exact .inr h
      rcases h2 with ⟨h3, h4⟩ | h3
      · exact ⟨0, y, rfl, by simpa using h4, by simpa using h3⟩
      · obtain ⟨k, x, h5, h6, h7⟩ := ih.1 h3
        exact ⟨k + 1, x, by simpa using h5, by omega, by rw [show i + (k + 1) = i + 1 + k by omega]; exact h7⟩
    · rintro ⟨k, x, h1, h2, h3⟩
      cases k with
      | zero =>
        obtain rfl : y = x := by simpa using h1
        rw [Nat.add_zero] at h3 h2
        rw [h3, if_pos rfl, h2]
        exact List.mem_cons_self
      | succ k =>
        have : j ∈ losGo w best (i + 1) r := ih.2 ⟨k, x, by simpa using h1, by omega, by rw [show i + 1 + k = i + (k + 1) by omega]; exact h3⟩
        split
        · exact List.mem_cons_of_mem _ this
        · exact this
theorem get_outGo {w : Int} {best : Sit} : ∀ (r : List Sit) (i k : Nat), (outGo w best i r)[k]? = (r[k]?).map (resS w best (i + k))
  | [], i, k => by simp [outGo]
  | y :: r, i, 0 => by simp [outGo]
  | y :: r, i, k + 1 => by
    simp only [outGo, List.getElem?_cons_succ, get_outGo r (i + 1) k]
    rw [show i + 1 + k = i + (k + 1) by omega]
theorem siteErr0 (s : Sit) : siteErr s = 0 ↔ (0 ≤ s.num ∧ s.num ≤ 3) ∧ (0 ≤ s.role ∧ s.role ≤ 5) ∧ (0 ≤ s.epoch ∧ s.epoch ≤ 1073741824) ∧ (0 ≤ s.applied ∧ s.applied ≤ 1073741824) ∧ (s.epoch = 0 → s.role = 0) ∧ linOk s.lin = true ∧ (headOf s.lin).epoch ≤ s.epoch ∧ (headOf s.lin).to = s.applied ∧ (recv s.role = true → (0 ≤ s.src ∧ s.src ≤ 3) ∧ s.src ≠ s.num) ∧ (recv s.role = false → s.src = -1) := by
  have hb : ∀ n lo hi : Int, inB n lo hi = false ↔ ¬ (lo ≤ n ∧ n ≤ hi) := by
    intro n lo hi
    rw [← Bool.not_eq_true]
    simp [inB]
  have hs : badSrc s = false ↔ (recv s.role = true → (0 ≤ s.src ∧ s.src ≤ 3) ∧ s.src ≠ s.num) ∧ (recv s.role = false → s.src = -1) := by
    unfold badSrc inB
    cases recv s.role <;> simp
  have ht : badTime s = false ↔ (0 ≤ s.epoch ∧ s.epoch ≤ 1073741824) ∧ (0 ≤ s.applied ∧ s.applied ≤ 1073741824) ∧ (s.epoch = 0 → s.role = 0) := by
    unfold badTime inB
    simp
  unfold siteErr
  by_cases c1 : (0 ≤ s.num ∧ s.num ≤ 3)
  rotate_left
  · rw [if_pos ((hb _ _ _).2 c1)]; constructor
    · intro h; cases h
    · intro h; exact absurd h.1 c1
  rw [if_neg (fun h => (hb _ _ _).1 h c1)]
  by_cases c2 : (0 ≤ s.role ∧ s.role ≤ 5)
  rotate_left
  · rw [if_pos ((hb _ _ _).2 c2)]; constructor
    · intro h; cases h
    · intro h; exact absurd h.2.1 c2
  rw [if_neg (fun h => (hb _ _ _).1 h c2)]
  by_cases c3 : badTime s = true
  · rw [if_pos c3]; constructor
    · intro h; cases h
    · intro h; rw [ht.2 ⟨h.2.2.1, h.2.2.2.1, h.2.2.2.2.1⟩] at c3; cases c3
  rw [if_neg c3]
  have c3' := ht.1 (by simpa using c3)
  by_cases c4 : linOk s.lin = false
  · rw [if_pos c4]; constructor
    · intro h; cases h
    · intro h; rw [h.2.2.2.2.2.1] at c4; cases c4
  rw [if_neg c4]
  by_cases c5 : (headOf s.lin).epoch > s.epoch
  · rw [if_pos c5]; constructor
    · intro h; cases h
    · intro h; omega
  rw [if_neg c5]
  by_cases c6 : ((headOf s.lin).to != s.applied) = true
  · rw [if_pos c6]; constructor
    · intro h; cases h
    · intro h; simp [h.2.2.2.2.2.2.2.1] at c6
  rw [if_neg c6]
  by_cases c7 : badSrc s = true
  · rw [if_pos c7]; constructor
    · intro h; cases h
    · intro h; rw [hs.2 h.2.2.2.2.2.2.2.2] at c7; cases c7
  rw [if_neg c7]
  have c7' := hs.1 (by simpa using c7)
  exact ⟨fun _ => ⟨c1, c2, c3'.1, c3'.2.1, c3'.2.2, by simpa using c4, by omega, by simpa using c6, c7'⟩, fun _ => rfl⟩
theorem fenced_ok {best x : Sit} (hx : siteErr x = 0) (hb : siteErr best = 0) (hr : best.role ≠ 0) : siteErr (fenced best x) = 0 := by
  rw [siteErr0] at *
  obtain ⟨x1, x2, x3, x4, x5, x6, x7, x8, x9, x10⟩ := hx
  obtain ⟨b1, b2, b3, b4, b5, b6, b7, b8, b9, b10⟩ := hb
  have he : ¬ best.epoch = 0 := fun h => hr (b5 h)
  unfold fenced
  simp only
  refine ⟨x1, by omega, ?_, x4, ?_, x6, ?_, x8, fun h => Bool.noConfusion h, by first | trivial | exact fun _ => rfl⟩
  · split <;> omega
  · intro h; split at h <;> omega
  · split <;> omega
theorem winE_ok {l : List Sit} {w : Int} (h : (winE l w != 0) = false) : sitesErr54 l = 0 ∧ ∃ j : Nat, w = (j : Int) ∧ ∃ b, l[j]? = some b ∧ l.getD w.toNat zSit = b ∧ (b.role = 1 ∨ b.role = 2 ∨ b.role = 3) := by
  have h0 : winE l w = 0 := by simpa using h
  unfold winE at h0
  split at h0
  · rename_i hc
    rw [h0] at hc; cases hc
  rename_i hc
  split at h0
  · cases h0
  rename_i hd
  split at h0
  · cases h0
  rename_i he
  have h1 : sitesErr54 l = 0 := by simpa using hc
  simp only [Bool.not_eq_true, Bool.or_eq_false_iff, decide_eq_false_iff_not] at hd
  refine ⟨h1, w.toNat, by omega, ?_⟩
  have hj : w.toNat < l.length := by omega
  refine ⟨l[w.toNat], List.getElem?_eq_getElem hj, by rw [List.getD_eq_getElem?_getD, List.getElem?_eq_getElem hj]; rfl, ?_⟩
  rw [List.getD_eq_getElem?_getD, List.getElem?_eq_getElem hj] at he
  simp only [Option.getD_some] at he
  grind
theorem resSites_get {l : List Sit} {w : Int} (h : (winE l w != 0) = false) (k : Nat) : (resSites l w)[k]? = (l[k]?).map (resS w (l.getD w.toNat zSit) k) := by
  unfold resSites
  rw [h, if_neg (by simp), get_outGo, Nat.zero_add]
theorem resLos_mem {l : List Sit} {w : Int} (h : (winE l w != 0) = false) {k : Nat} {x : Sit} (hx : l[k]? = some x) : ((k : Int) ∈ resLos l w) ↔ losP w (l.getD w.toNat zSit) k x = true := by
  unfold resLos
  rw [h, if_neg (by simp), mem_losGo]
  constructor
  · rintro ⟨m, y, h1, h2, h3⟩
    obtain rfl : m = k := by omega
    rw [hx] at h1; cases h1
    simpa using h3
  · intro h3
    exact ⟨k, x, hx, by omega, by simpa using h3⟩
theorem errAll_of {l : List Sit} (h : ∀ x ∈ l, siteErr x = 0) : errAll l = 0 := by
  induction l with
  | nil => rfl
  | cons x l ih =>
    unfold errAll
    rw [h x (by simp), if_neg (by simp)]
    exact ih fun y hy => h y (by simp [hy])
theorem settled {l : List Sit} {w : Int} (h : (winE l w != 0) = false) {k : Nat} {x s : Sit} (hx : l[k]? = some x) (hs : (resSites l w)[k]? = some s) :
    siteErr s = 0 ∧ s.lin = x.lin ∧ (((k : Int) ∈ resLos l w) → s.role = 5 ∧ (k : Int) ≠ w) ∧ (¬ ((k : Int) ∈ resLos l w) → s = x ∧ ((k : Int) ≠ w → s.role ≠ 1 ∧ (s.role ≠ 4 → (forkX s.lin (l.getD w.toNat zSit).lin).2 = false))) := by
  obtain ⟨h1, j, hj, b, h2, h3, h4⟩ := winE_ok h
  have h5 := (sitesErr_ok (l := l) (by rw [h1]; rfl)).2
  rw [resLos_mem h hx]
  rw [resSites_get h, hx, h3, Option.map_some] at hs
  rw [h3]
  cases hs
  have g1 := h5 x (List.mem_of_getElem? hx)
  have g2 := h5 b (List.mem_of_getElem? h2)
  unfold resS
  cases hp : losP w b k x with
  | true =>
    simp only [if_true]
    refine ⟨fenced_ok g1 g2 (by omega), by first | rfl | trivial, fun _ => ⟨by first | rfl | trivial, ?_⟩, fun hn => by simp at hn⟩
    unfold losP at hp
    simp only [Bool.and_eq_true, bne_iff_ne, ne_eq] at hp
    exact hp.1
  | false =>
    simp only [Bool.false_eq_true, if_false]
    refine ⟨g1, by first | rfl | trivial, fun hh => absurd hh (by simp), fun _ => ⟨by first | rfl | trivial, fun hk => ?_⟩⟩
    unfold losP at hp
    have hk' : ((k : Int) != w) = true := by simpa using hk
    rw [hk', Bool.true_and, Bool.or_eq_false_iff] at hp
    refine ⟨by simpa using hp.1, fun h4' => ?_⟩
    have hq := hp.2
    unfold apartX at hq
    rw [if_neg (by simp; omega)] at hq
    exact (Bool.or_eq_false_iff.1 hq).1
theorem winE_again {l : List Sit} {w : Int} (h : (winE l w != 0) = false) : winE (resSites l w) w = 0 ∧ (resSites l w).getD w.toNat zSit = l.getD w.toNat zSit := by
  obtain ⟨h1, j, hj, b, h2, h3, h4⟩ := winE_ok h
  have h5 := sitesErr_ok (l := l) (by rw [h1]; rfl)
  have hlen : (resSites l w).length = l.length := by unfold resSites; rw [h, if_neg (by simp), outGo_len]
  have hall : ∀ s ∈ resSites l w, siteErr s = 0 := by
    intro s hs
    obtain ⟨k, hk, rfl⟩ := List.mem_iff_getElem.1 hs
    have hk2 : k < l.length := by omega
    exact (settled h (List.getElem?_eq_getElem hk2) (List.getElem?_eq_getElem hk)).1
  have hjw : w.toNat = j := by omega
  have hb : (resSites l w)[j]? = some b := by
    rw [resSites_get h, h2, Option.map_some]
    unfold resS
    have : losP w (l.getD w.toNat zSit) j b = false := by
      unfold losP
      rw [hj, bne_self_eq_false, Bool.false_and]
    rw [this, if_neg (by simp)]
  have hg : (resSites l w).getD w.toNat zSit = b := by rw [hjw, List.getD_eq_getElem?_getD, hb]; rfl
  refine ⟨?_, by rw [hg, h3]⟩
  unfold winE
  have e1 : sitesErr54 (resSites l w) = 0 := by
    unfold sitesErr54
    rw [if_neg (by omega), errAll_of hall]
  have hj2 := (List.getElem?_eq_some_iff.1 h2).1
  rw [e1, if_neg (by simp), if_neg (by simp; omega), hg, if_neg]
  grind
theorem fenced_twice (best x : Sit) : fenced best (fenced best x) = fenced best x := by
  unfold fenced
  by_cases h : x.epoch < best.epoch
  · simp [h]
  · simp [h]
theorem again_eq {l : List Sit} {w : Int} (h : (winE l w != 0) = false) : resSites (resSites l w) w = resSites l w ∧ ∀ q ∈ resLos (resSites l w) w, q ∈ resLos l w := by
  obtain ⟨h0, hg⟩ := winE_again h
  have h0' : (winE (resSites l w) w != 0) = false := by rw [h0]; rfl
  have key : ∀ k x, l[k]? = some x → (losP w (l.getD w.toNat zSit) k (resS w (l.getD w.toNat zSit) k x) = true → losP w (l.getD w.toNat zSit) k x = true) := by
    intro k x hx hp
    by_cases hq : losP w (l.getD w.toNat zSit) k x = true
    · exact hq
    · unfold resS at hp
      rw [if_neg hq] at hp
      exact hp
  constructor
  · apply List.ext_getElem?
    intro k
    rw [resSites_get h0', hg, resSites_get h, Option.map_map]
    cases hx : l[k]? with
    | none => rfl
    | some x =>
      simp only [Option.map_some, Function.comp]
      congr 1
      by_cases hp : losP w (l.getD w.toNat zSit) k (resS w (l.getD w.toNat zSit) k x) = true
      · have hq := key k x hx hp
        rw [resS, if_pos hp]
        unfold resS
        rw [if_pos hq, fenced_twice]
      · rw [resS, if_neg hp]
  · intro q hq
    unfold resLos at hq
    rw [h0', if_neg (by simp), hg, mem_losGo] at hq
    obtain ⟨k, y, h1, rfl, h3⟩ := hq
    rw [resSites_get h] at h1
    obtain ⟨x, hx, rfl⟩ := Option.map_eq_some_iff.1 h1
    rw [Nat.zero_add] at h3 ⊢
    exact (resLos_mem h hx).2 (key k x hx h3)
end Go.Proofs.Ytpdfhckdmblicaa.V
