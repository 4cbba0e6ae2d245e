/-
  Part 12 of the texts that the statement stands on.
-/
import Derived.Test.YtpdfhckdmblicaaZ11
set_option linter.all false
namespace Go.Proofs.Ytpdfhckdmblicaa.V
set_option linter.all false
def losP (w : Int) (best : Sit) (i : Nat) (x : Sit) : Bool := ((i : Int) != w) && ((x.role == 1) || apartX x best)
def fenced (best x : Sit) : Sit := { x with role := 5, src := -1, epoch := if x.epoch < best.epoch then best.epoch else x.epoch }
def resS (w : Int) (best : Sit) (i : Nat) (x : Sit) : Sit := if losP w best i x = true then fenced best x else x
def resGo (w : Int) (best : Sit) : Nat → List Sit → Bool × List PV × List PV → Bool × List PV × List PV
  | _, [], c => c
  | i, x :: r, (z, out, los) => resGo w best (i + 1) r (if losP w best i x = true then (true, out ++ [eSit (fenced best x)], los ++ [.int .i64 i]) else (z, out ++ [eSit x], los))
set_option maxHeartbeats 2000000 in
theorem loop15 {l : List Sit} {w : Int} {best : Sit} (hok : ∀ x ∈ l, x.lin.length ≤ lim) (hb : best.lin.length ≤ lim) (hl : l.length ≤ 8) (S : Nat → Bool × List PV × List PV → St)
   (hS : ∀ IX c, S IX c = ⟨[.pv (.list 8 (l.map eSit)), .pv (.int .i64 w), .any, .any, .any, .any, .any, .any, .pbox 0 0, .row 8 c.2.1, .row 1 c.2.2, .any, .any, .any, .any, .any, .any, .any, .any, .any, .any, .any, .any, .any, .any, .any, .any, .any, .any, .any, .any, .any, .any, .any, .any, .any, .any, .any, .any, .any, .any, .any, .any, .pv (.list 8 (l.map eSit)), .pv (.int .i64 l.length), .pv (.int .i64 IX), .any, .any, .any, .any, .any, .any, .any, .any, .any, .any, .any, .any, .any, .any, .any, .any, .any, .any, .any, .any, .any, .any, .any, .any, .any, .any, .any, .any, .any, .any, .any, .any, .any, .any, .any, .any, .any, .any, .any, .any], [⟨c.1, bSit best⟩], [], none⟩)
   {st : St} (h : st.head [0, 1, 8, 9, 10, 43, 44, 45, 78, 82] st.boxes.length = some (S 0 (false, [], []))) :
   den env fn15_l1 st = some (.normal, ⟨[.any, .any, .any, .any, .any, .any, .any, .any, .any, .row 8 (resGo w best 0 l (false, [], [])).2.1, .row 1 (resGo w best 0 l (false, [], [])).2.2, .any, .any, .any, .any, .any, .any, .any, .any, .any, .any, .any, .any, .any, .any, .any, .any, .any, .any, .any, .any, .any, .any, .any, .any, .any, .any, .any, .any, .any, .any, .any, .any, .any, .any, .any, .any, .any, .any, .any, .any, .any, .any, .any, .any, .any, .any, .any, .any, .any, .any, .any, .any, .any, .any, .any, .any, .any, .any, .any, .any, .any, .any, .any, .any, .any, .any, .any, .any, .any, .any, .any, .any, .any, .any, .any], [⟨(resGo w best 0 l (false, [], [])).1, bSit best⟩], [], none⟩) := by
  unfold fn15_l1
  refine clean_list (l := l) S (fun i r c => some (.normal, ⟨[.any, .any, .any, .any, .any, .any, .any, .any, .any, .row 8 (resGo w best i r c).2.1, .row 1 (resGo w best i r c).2.2, .any, .any, .any, .any, .any, .any, .any, .any, .any, .any, .any, .any, .any, .any, .any, .any, .any, .any, .any, .any, .any, .any, .any, .any, .any, .any, .any, .any, .any, .any, .any, .any, .any, .any, .any, .any, .any, .any, .any, .any, .any, .any, .any, .any, .any, .any, .any, .any, .any, .any, .any, .any, .any, .any, .any, .any, .any, .any, .any, .any, .any, .any, .any, .any, .any, .any, .any, .any, .any, .any, .any, .any, .any, .any, .any], [⟨(resGo w best i r c).1, bSit best⟩], [], none⟩)) (fun i c => c.2.1.length ≤ i ∧ c.2.2.length ≤ i) (false, [], []) h (by unfold lim; omega) (by simp) (fun _ _ => by rw [hS]; rfl) (fun _ _ => by rw [hS]; rfl) ?_ ?_
  · rintro i x r ⟨z, out, los⟩ rb hi hx hr F1 F2 ⟨p1, p2⟩ ih
    have hlim : lim = 1073741824 := rfl
    have hx0 := hok x (List.mem_of_getElem? hx)
    simp only at p1 p2
    have F3 : (out.length + 1 ≤ lim) = True := eq_true (by omega)
    have F4 : (los.length + 1 ≤ lim) = True := eq_true (by omega)
    have e1 := (fun x : Sit => cal53 (es := x.lin.map eSpn)) x (by simpa using hx0)
    have e2 := cal50 hx0 hb
    simp only [hS] at ih ⊢
    unfold resGo
    cases c1 : ((i : Int) != w) with
    | false =>
      have c2 : losP w best i x = false := by simp only [losP, c1, Bool.false_and]
      simp only [c2, Bool.false_eq_true, if_false]
      obtain ⟨a1, a2, a3, a4, a5, a6, a7, a8⟩ := x
      simp only [eSit] at e1 e2 ⊢
      simp only [fn15_b0, F1, F2, F3, F4, c1, hx, e1, eSit, bSit, index_nat hi, List.getElem?_map, Option.map_some, List.isEmpty_nil, val_pvs, frozen_pvs, msnoc_len, msnoc_get, msnoc_set, msnoc_take, Int.le_refl, take_map_all, Nat.le_refl, St.freezeRows, BV.frozen, List.take_length, List.take_append_drop, z_repl_zero, Int.toNat_zero, true_and, and_true, and_self, eq_self, z_take_zero, List.drop_nil, List.take_nil, vAll, List.foldl_nil, List.foldl_cons, resultsOf, resultList, resultOf, zBV, splice, PV.remade, St.freezeAt, St.freezeBox, PV.single, plain, act, dstOf, if_true, if_false, reduceCtorEq, St.get, St.put, St.pvOf, St.putRow, St.consume, St.freeze, St.row, St.elems, St.grab, St.takeRow, St.setRow, St.place, St.optPv, St.setCell, St.setCellRow, binPV, intBin, unPV, BV.val, Nat.reduceEqDiff, bound, consumeAll, buildParts, capsOf, capOf, List.append_nil, Nat.reduceAdd, Nat.reduceLT, Nat.reduceLeDiff, beq_self_eq_true, List.length_map, Nat.beq, dcall, dcallP, List.mapM_cons, St.snapFn, St.snap, St.layAll, St.lay, St.freezeArg, St.freezeArg1]
      exact ih (z, out ++ [eSit ⟨a1, a2, a3, a4, a5, a6, a7, a8⟩], los) _ ⟨by simp; omega, by simp only; omega⟩ rfl
    | true =>
    cases c2 : ((x.role == 1) || apartX x best) with
    | false =>
      have c3 : losP w best i x = false := by simp only [losP, c1, c2, Bool.true_and]
      simp only [c3, Bool.false_eq_true, if_false]
      obtain ⟨c4, c5⟩ := Bool.or_eq_false_iff.1 c2
      rw [c5] at e2
      obtain ⟨a1, a2, a3, a4, a5, a6, a7, a8⟩ := x
      simp only [eSit] at e1 e2 c4 ⊢
      simp only [fn15_b0, F1, F2, F3, F4, c1, c4, hx, e1, e2, eSit, bSit, index_nat hi, List.getElem?_map, Option.map_some, List.isEmpty_nil, val_pvs, frozen_pvs, msnoc_len, msnoc_get, msnoc_set, msnoc_take, Int.le_refl, take_map_all, Nat.le_refl, St.freezeRows, BV.frozen, List.take_length, List.take_append_drop, z_repl_zero, Int.toNat_zero, true_and, and_true, and_self, eq_self, z_take_zero, List.drop_nil, List.take_nil, vAll, List.foldl_nil, List.foldl_cons, resultsOf, resultList, resultOf, zBV, splice, PV.remade, St.freezeAt, St.freezeBox, PV.single, plain, act, dstOf, if_true, if_false, reduceCtorEq, St.get, St.put, St.pvOf, St.putRow, St.consume, St.freeze, St.row, St.elems, St.grab, St.takeRow, St.setRow, St.place, St.optPv, St.setCell, St.setCellRow, binPV, intBin, unPV, BV.val, Nat.reduceEqDiff, bound, consumeAll, buildParts, capsOf, capOf, List.append_nil, Nat.reduceAdd, Nat.reduceLT, Nat.reduceLeDiff, beq_self_eq_true, List.length_map, Nat.beq, dcall, dcallP, List.mapM_cons, St.snapFn, St.snap, St.layAll, St.lay, St.freezeArg, St.freezeArg1]
      exact ih (z, out ++ [eSit ⟨a1, a2, a3, a4, a5, a6, a7, a8⟩], los) _ ⟨by simp; omega, by simp only; omega⟩ rfl
    | true =>
      have c3 : losP w best i x = true := by simp only [losP, c1, c2, Bool.true_and]
      simp only [c3, if_true]
      obtain ⟨a1, a2, a3, a4, a5, a6, a7, a8⟩ := x
      cases c4 : (a2 == 1) with
      | true =>
        simp only [eSit] at e1 e2 ⊢
        simp only [fn15_b0, F1, F2, F3, F4, c1, c4, hx, e1, eSit, bSit, index_nat hi, List.getElem?_map, Option.map_some, List.isEmpty_nil, val_pvs, frozen_pvs, msnoc_len, msnoc_get, msnoc_set, msnoc_take, Int.le_refl, take_map_all, Nat.le_refl, St.freezeRows, BV.frozen, List.take_length, List.take_append_drop, z_repl_zero, Int.toNat_zero, true_and, and_true, and_self, eq_self, z_take_zero, List.drop_nil, List.take_nil, vAll, List.foldl_nil, List.foldl_cons, resultsOf, resultList, resultOf, zBV, splice, PV.remade, St.freezeAt, St.freezeBox, PV.single, plain, act, dstOf, if_true, if_false, reduceCtorEq, St.get, St.put, St.pvOf, St.putRow, St.consume, St.freeze, St.row, St.elems, St.grab, St.takeRow, St.setRow, St.place, St.optPv, St.setCell, St.setCellRow, binPV, intBin, unPV, BV.val, Nat.reduceEqDiff, bound, consumeAll, buildParts, capsOf, capOf, List.append_nil, Nat.reduceAdd, Nat.reduceLT, Nat.reduceLeDiff, beq_self_eq_true, List.length_map, Nat.beq, dcall, dcallP, List.mapM_cons, St.snapFn, St.snap, St.layAll, St.lay, St.freezeArg, St.freezeArg1]
        rw [ih (true, out ++ [eSit (fenced best ⟨a1, a2, a3, a4, a5, a6, a7, a8⟩)], los ++ [.int .i64 i]) _ ⟨by simp; omega, by simp; omega⟩ (by rfl)]
        rfl
      | false =>
        simp only [c4, Bool.false_or] at c2
        rw [c2] at e2
        simp only [eSit] at e1 e2 ⊢
        simp only [fn15_b0, F1, F2, F3, F4, c1, c4, hx, e1, e2, eSit, bSit, index_nat hi, List.getElem?_map, Option.map_some, List.isEmpty_nil, val_pvs, frozen_pvs, msnoc_len, msnoc_get, msnoc_set, msnoc_take, Int.le_refl, take_map_all, Nat.le_refl, St.freezeRows, BV.frozen, List.take_length, List.take_append_drop, z_repl_zero, Int.toNat_zero, true_and, and_true, and_self, eq_self, z_take_zero, List.drop_nil, List.take_nil, vAll, List.foldl_nil, List.foldl_cons, resultsOf, resultList, resultOf, zBV, splice, PV.remade, St.freezeAt, St.freezeBox, PV.single, plain, act, dstOf, if_true, if_false, reduceCtorEq, St.get, St.put, St.pvOf, St.putRow, St.consume, St.freeze, St.row, St.elems, St.grab, St.takeRow, St.setRow, St.place, St.optPv, St.setCell, St.setCellRow, binPV, intBin, unPV, BV.val, Nat.reduceEqDiff, bound, consumeAll, buildParts, capsOf, capOf, List.append_nil, Nat.reduceAdd, Nat.reduceLT, Nat.reduceLeDiff, beq_self_eq_true, List.length_map, Nat.beq, dcall, dcallP, List.mapM_cons, St.snapFn, St.snap, St.layAll, St.lay, St.freezeArg, St.freezeArg1]
        rw [ih (true, out ++ [eSit (fenced best ⟨a1, a2, a3, a4, a5, a6, a7, a8⟩)], los ++ [.int .i64 i]) _ ⟨by simp; omega, by simp; omega⟩ (by rfl)]
        rfl
  · rintro ⟨z, out, los⟩ rb hp
    simp only [hS]
    simp only [fn15_b0, Int.lt_irrefl, List.isEmpty_nil, val_pvs, frozen_pvs, msnoc_len, msnoc_get, msnoc_set, msnoc_take, Int.le_refl, take_map_all, Nat.le_refl, St.freezeRows, BV.frozen, List.take_length, List.take_append_drop, z_repl_zero, Int.toNat_zero, true_and, and_true, and_self, eq_self, z_take_zero, List.drop_nil, List.take_nil, vAll, List.foldl_nil, List.foldl_cons, resultsOf, resultList, resultOf, zBV, splice, PV.remade, St.freezeAt, St.freezeBox, PV.single, plain, act, dstOf, if_true, if_false, reduceCtorEq, St.get, St.put, St.pvOf, St.putRow, St.consume, St.freeze, St.row, St.elems, St.grab, St.takeRow, St.setRow, St.place, St.optPv, St.setCell, St.setCellRow, binPV, intBin, unPV, BV.val, Nat.reduceEqDiff, bound, consumeAll, buildParts, capsOf, capOf, List.append_nil, Nat.reduceAdd, Nat.reduceLT, Nat.reduceLeDiff, beq_self_eq_true, List.length_map, Nat.beq, dcall, dcallP, List.mapM_cons, St.snapFn, St.snap, St.layAll, St.lay, St.freezeArg, St.freezeArg1]
    rfl
set_option maxHeartbeats 2000000 in
theorem loop16 {l : List Sit} {w : Int} {best : Sit} (hok : ∀ x ∈ l, x.lin.length ≤ lim) (hb : best.lin.length ≤ lim) (hl : l.length ≤ 8) (S : Nat → Bool × List PV × List PV → St)
   (hS : ∀ IX c, S IX c = ⟨[.pv (.list 8 (l.map eSit)), .pv (.int .i64 w), .any, .any, .any, .any, .any, .any, .pbox 0 0, .row 8 c.2.1, .row 1 c.2.2, .pv (.int .i64 IX), .any, .any, .any, .any, .any, .any, .any, .any, .any, .any, .any, .any, .any, .any, .any, .any, .any, .any, .any, .any, .any, .any, .any, .any, .any, .any, .any, .any, .any, .any, .any, .any, .any, .any, .any, .any, .any, .any, .any, .any, .any, .any, .any, .any, .any, .any, .any, .any, .any, .any, .any, .any, .any, .any, .any, .any, .any, .any, .any, .any, .any, .any, .any, .any, .any, .any, .any, .any, .any, .any, .any, .any, .any], [⟨c.1, bSit best⟩], [], none⟩)
   {st : St} (h : st.head [0, 1, 8, 9, 10, 11, 78, 82] st.boxes.length = some (S 0 (false, [], []))) :
   den env fn16_l1 st = some (.normal, ⟨[.any, .any, .any, .any, .any, .any, .any, .any, .any, .row 8 (resGo w best 0 l (false, [], [])).2.1, .row 1 (resGo w best 0 l (false, [], [])).2.2, .any, .any, .any, .any, .any, .any, .any, .any, .any, .any, .any, .any, .any, .any, .any, .any, .any, .any, .any, .any, .any, .any, .any, .any, .any, .any, .any, .any, .any, .any, .any, .any, .any, .any, .any, .any, .any, .any, .any, .any, .any, .any, .any, .any, .any, .any, .any, .any, .any, .any, .any, .any, .any, .any, .any, .any, .any, .any, .any, .any, .any, .any, .any, .any, .any, .any, .any, .any, .any, .any, .any, .any, .any, .any], [⟨(resGo w best 0 l (false, [], [])).1, bSit best⟩], [], none⟩) := by
  unfold fn16_l1
  refine clean_list (l := l) S (fun i r c => some (.normal, ⟨[.any, .any, .any, .any, .any, .any, .any, .any, .any, .row 8 (resGo w best i r c).2.1, .row 1 (resGo w best i r c).2.2, .any, .any, .any, .any, .any, .any, .any, .any, .any, .any, .any, .any, .any, .any, .any, .any, .any, .any, .any, .any, .any, .any, .any, .any, .any, .any, .any, .any, .any, .any, .any, .any, .any, .any, .any, .any, .any, .any, .any, .any, .any, .any, .any, .any, .any, .any, .any, .any, .any, .any, .any, .any, .any, .any, .any, .any, .any, .any, .any, .any, .any, .any, .any, .any, .any, .any, .any, .any, .any, .any, .any, .any, .any, .any], [⟨(resGo w best i r c).1, bSit best⟩], [], none⟩)) (fun i c => c.2.1.length ≤ i ∧ c.2.2.length ≤ i) (false, [], []) h (by unfold lim; omega) (by simp) (fun _ _ => by rw [hS]; rfl) (fun _ _ => by rw [hS]; rfl) ?_ ?_
  · rintro i x r ⟨z, out, los⟩ rb hi hx hr F1 F2 ⟨p1, p2⟩ ih
    have hlim : lim = 1073741824 := rfl
    have hx0 := hok x (List.mem_of_getElem? hx)
    simp only at p1 p2
    have F3 : (out.length + 1 ≤ lim) = True := eq_true (by omega)
    have F4 : (los.length + 1 ≤ lim) = True := eq_true (by omega)
    have e1 := (fun x : Sit => fun h : (x.lin.map eSpn).length ≤ lim => cal54 (s := x) (by simpa using h)) x (by simpa using hx0)
    have e2 := cal52 hx0 hb
    simp only [hS] at ih ⊢
    unfold resGo
    cases c1 : ((i : Int) != w) with
    | false =>
      have c2 : losP w best i x = false := by simp only [losP, c1, Bool.false_and]
      simp only [c2, Bool.false_eq_true, if_false]
      obtain ⟨a1, a2, a3, a4, a5, a6, a7, a8⟩ := x
      simp only [eSit] at e1 e2 ⊢
      simp only [fn16_b0, F1, F2, F3, F4, c1, hx, e1, eSit, bSit, index_nat hi, List.getElem?_map, Option.map_some, List.isEmpty_nil, val_pvs, frozen_pvs, msnoc_len, msnoc_get, msnoc_set, msnoc_take, Int.le_refl, take_map_all, Nat.le_refl, St.freezeRows, BV.frozen, List.take_length, List.take_append_drop, z_repl_zero, Int.toNat_zero, true_and, and_true, and_self, eq_self, z_take_zero, List.drop_nil, List.take_nil, vAll, List.foldl_nil, List.foldl_cons, resultsOf, resultList, resultOf, zBV, splice, PV.remade, St.freezeAt, St.freezeBox, PV.single, plain, act, dstOf, if_true, if_false, reduceCtorEq, St.get, St.put, St.pvOf, St.putRow, St.consume, St.freeze, St.row, St.elems, St.grab, St.takeRow, St.setRow, St.place, St.optPv, St.setCell, St.setCellRow, binPV, intBin, unPV, BV.val, Nat.reduceEqDiff, bound, consumeAll, buildParts, capsOf, capOf, List.append_nil, Nat.reduceAdd, Nat.reduceLT, Nat.reduceLeDiff, beq_self_eq_true, List.length_map, Nat.beq, dcall, dcallP, List.mapM_cons, St.snapFn, St.snap, St.layAll, St.lay, St.freezeArg, St.freezeArg1]
      exact ih (z, out ++ [eSit ⟨a1, a2, a3, a4, a5, a6, a7, a8⟩], los) _ ⟨by simp; omega, by simp only; omega⟩ rfl
    | true =>
    cases c2 : ((x.role == 1) || apartX x best) with
    | false =>
      have c3 : losP w best i x = false := by simp only [losP, c1, c2, Bool.true_and]
      simp only [c3, Bool.false_eq_true, if_false]
      obtain ⟨c4, c5⟩ := Bool.or_eq_false_iff.1 c2
      rw [c5] at e2
      obtain ⟨a1, a2, a3, a4, a5, a6, a7, a8⟩ := x
      simp only [eSit] at e1 e2 c4 ⊢
      simp only [fn16_b0, F1, F2, F3, F4, c1, c4, hx, e1, e2, eSit, bSit, index_nat hi, List.getElem?_map, Option.map_some, List.isEmpty_nil, val_pvs, frozen_pvs, msnoc_len, msnoc_get, msnoc_set, msnoc_take, Int.le_refl, take_map_all, Nat.le_refl, St.freezeRows, BV.frozen, List.take_length, List.take_append_drop, z_repl_zero, Int.toNat_zero, true_and, and_true, and_self, eq_self, z_take_zero, List.drop_nil, List.take_nil, vAll, List.foldl_nil, List.foldl_cons, resultsOf, resultList, resultOf, zBV, splice, PV.remade, St.freezeAt, St.freezeBox, PV.single, plain, act, dstOf, if_true, if_false, reduceCtorEq, St.get, St.put, St.pvOf, St.putRow, St.consume, St.freeze, St.row, St.elems, St.grab, St.takeRow, St.setRow, St.place, St.optPv, St.setCell, St.setCellRow, binPV, intBin, unPV, BV.val, Nat.reduceEqDiff, bound, consumeAll, buildParts, capsOf, capOf, List.append_nil, Nat.reduceAdd, Nat.reduceLT, Nat.reduceLeDiff, beq_self_eq_true, List.length_map, Nat.beq, dcall, dcallP, List.mapM_cons, St.snapFn, St.snap, St.layAll, St.lay, St.freezeArg, St.freezeArg1]
      exact ih (z, out ++ [eSit ⟨a1, a2, a3, a4, a5, a6, a7, a8⟩], los) _ ⟨by simp; omega, by simp only; omega⟩ rfl
    | true =>
      have c3 : losP w best i x = true := by simp only [losP, c1, c2, Bool.true_and]
      simp only [c3, if_true]
      obtain ⟨a1, a2, a3, a4, a5, a6, a7, a8⟩ := x
      cases c4 : (a2 == 1) with
      | true =>
        simp only [eSit] at e1 e2 ⊢
        simp only [fn16_b0, F1, F2, F3, F4, c1, c4, hx, e1, eSit, bSit, index_nat hi, List.getElem?_map, Option.map_some, List.isEmpty_nil, val_pvs, frozen_pvs, msnoc_len, msnoc_get, msnoc_set, msnoc_take, Int.le_refl, take_map_all, Nat.le_refl, St.freezeRows, BV.frozen, List.take_length, List.take_append_drop, z_repl_zero, Int.toNat_zero, true_and, and_true, and_self, eq_self, z_take_zero, List.drop_nil, List.take_nil, vAll, List.foldl_nil, List.foldl_cons, resultsOf, resultList, resultOf, zBV, splice, PV.remade, St.freezeAt, St.freezeBox, PV.single, plain, act, dstOf, if_true, if_false, reduceCtorEq, St.get, St.put, St.pvOf, St.putRow, St.consume, St.freeze, St.row, St.elems, St.grab, St.takeRow, St.setRow, St.place, St.optPv, St.setCell, St.setCellRow, binPV, intBin, unPV, BV.val, Nat.reduceEqDiff, bound, consumeAll, buildParts, capsOf, capOf, List.append_nil, Nat.reduceAdd, Nat.reduceLT, Nat.reduceLeDiff, beq_self_eq_true, List.length_map, Nat.beq, dcall, dcallP, List.mapM_cons, St.snapFn, St.snap, St.layAll, St.lay, St.freezeArg, St.freezeArg1]
        rw [ih (true, out ++ [eSit (fenced best ⟨a1, a2, a3, a4, a5, a6, a7, a8⟩)], los ++ [.int .i64 i]) _ ⟨by simp; omega, by simp; omega⟩ (by rfl)]
        rfl
      | false =>
        simp only [c4, Bool.false_or] at c2
        rw [c2] at e2
        simp only [eSit] at e1 e2 ⊢
        simp only [fn16_b0, F1, F2, F3, F4, c1, c4, hx, e1, e2, eSit, bSit, index_nat hi, List.getElem?_map, Option.map_some, List.isEmpty_nil, val_pvs, frozen_pvs, msnoc_len, msnoc_get, msnoc_set, msnoc_take, Int.le_refl, take_map_all, Nat.le_refl, St.freezeRows, BV.frozen, List.take_length, List.take_append_drop, z_repl_zero, Int.toNat_zero, true_and, and_true, and_self, eq_self, z_take_zero, List.drop_nil, List.take_nil, vAll, List.foldl_nil, List.foldl_cons, resultsOf, resultList, resultOf, zBV, splice, PV.remade, St.freezeAt, St.freezeBox, PV.single, plain, act, dstOf, if_true, if_false, reduceCtorEq, St.get, St.put, St.pvOf, St.putRow, St.consume, St.freeze, St.row, St.elems, St.grab, St.takeRow, St.setRow, St.place, St.optPv, St.setCell, St.setCellRow, binPV, intBin, unPV, BV.val, Nat.reduceEqDiff, bound, consumeAll, buildParts, capsOf, capOf, List.append_nil, Nat.reduceAdd, Nat.reduceLT, Nat.reduceLeDiff, beq_self_eq_true, List.length_map, Nat.beq, dcall, dcallP, List.mapM_cons, St.snapFn, St.snap, St.layAll, St.lay, St.freezeArg, St.freezeArg1]
        rw [ih (true, out ++ [eSit (fenced best ⟨a1, a2, a3, a4, a5, a6, a7, a8⟩)], los ++ [.int .i64 i]) _ ⟨by simp; omega, by simp; omega⟩ (by rfl)]
        rfl
  · rintro ⟨z, out, los⟩ rb hp
    simp only [hS]
    simp only [fn16_b0, Int.lt_irrefl, List.isEmpty_nil, val_pvs, frozen_pvs, msnoc_len, msnoc_get, msnoc_set, msnoc_take, Int.le_refl, take_map_all, Nat.le_refl, St.freezeRows, BV.frozen, List.take_length, List.take_append_drop, z_repl_zero, Int.toNat_zero, true_and, and_true, and_self, eq_self, z_take_zero, List.drop_nil, List.take_nil, vAll, List.foldl_nil, List.foldl_cons, resultsOf, resultList, resultOf, zBV, splice, PV.remade, St.freezeAt, St.freezeBox, PV.single, plain, act, dstOf, if_true, if_false, reduceCtorEq, St.get, St.put, St.pvOf, St.putRow, St.consume, St.freeze, St.row, St.elems, St.grab, St.takeRow, St.setRow, St.place, St.optPv, St.setCell, St.setCellRow, binPV, intBin, unPV, BV.val, Nat.reduceEqDiff, bound, consumeAll, buildParts, capsOf, capOf, List.append_nil, Nat.reduceAdd, Nat.reduceLT, Nat.reduceLeDiff, beq_self_eq_true, List.length_map, Nat.beq, dcall, dcallP, List.mapM_cons, St.snapFn, St.snap, St.layAll, St.lay, St.freezeArg, St.freezeArg1]
    rfl
def winE (l : List Sit) (w : Int) : Int := if (sitesErr54 l != 0) = true then sitesErr54 l else if (decide (w < 0) || decide (w ≥ (l.length : Int))) = true then 7 else if ((((l.getD w.toNat zSit).role != 1) && ((l.getD w.toNat zSit).role != 2)) && ((l.getD w.toNat zSit).role != 3)) = true then 18 else 0
def resX (l : List Sit) (w : Int) : Bool × List PV × List PV := if (winE l w != 0) = true then (false, [], []) else resGo w (l.getD w.toNat zSit) 0 l (false, [], [])
set_option maxHeartbeats 2000000 in
theorem cal15 {l : List Sit} {w : Int} (hok : ∀ x ∈ l, x.lin.length ≤ lim) (hl : l.length ≤ 8) : cal env 15 [.list 8 (l.map eSit), .int .i64 w] = some [(.list 8 (resX l w).2.1, true), (.list 1 (resX l w).2.2, true), (.int .i64 (winE l w), false)] := by
  have e1 := cal48 hok (by unfold lim; omega)
  cases hc : (sitesErr54 l != 0) with
  | true =>
    have hw : winE l w = sitesErr54 l := by unfold winE; rw [hc, if_pos rfl]
    have hr : resX l w = (false, [], []) := by unfold resX; rw [hw, hc, if_pos rfl]
    rw [hw, hr]
    rw [cal_code env15 rfl]; simp only [fn15]; simp only [start, z_map_cons, z_map_nil, z_len_cons, z_len_nil, z_repl_zero, z_repl_succ, z_cons_app, z_nil_app, Nat.reduceAdd, Nat.reduceSub]
    simp only [e1, hc, List.isEmpty_nil, val_pvs, frozen_pvs, msnoc_len, msnoc_get, msnoc_set, msnoc_take, Int.le_refl, take_map_all, Nat.le_refl, St.freezeRows, BV.frozen, List.take_length, List.take_append_drop, z_repl_zero, Int.toNat_zero, true_and, and_true, and_self, eq_self, z_take_zero, List.drop_nil, List.take_nil, vAll, List.foldl_nil, List.foldl_cons, resultsOf, resultList, resultOf, zBV, splice, PV.remade, St.freezeAt, St.freezeBox, PV.single, plain, act, dstOf, if_true, if_false, reduceCtorEq, St.get, St.put, St.pvOf, St.putRow, St.consume, St.freeze, St.row, St.elems, St.grab, St.takeRow, St.setRow, St.place, St.optPv, St.setCell, St.setCellRow, binPV, intBin, unPV, BV.val, Nat.reduceEqDiff, bound, consumeAll, buildParts, capsOf, capOf, List.append_nil, Nat.reduceAdd, Nat.reduceLT, Nat.reduceLeDiff, beq_self_eq_true, List.length_map, Nat.beq, dcall, dcallP, List.mapM_cons, St.snapFn, St.snap, St.layAll, St.lay, St.freezeArg, St.freezeArg1]
  | false =>
  have h0 : sitesErr54 l = 0 := by simpa using hc
  cases hd : (decide (w < 0) || decide (w ≥ (l.length : Int))) with
  | true =>
    have hw : winE l w = 7 := by unfold winE; rw [hc, if_neg (by simp), hd, if_pos rfl]
    have hr : resX l w = (false, [], []) := by unfold resX; rw [hw]; rfl
    rw [hw, hr]
    by_cases c1 : w < 0
    · have G1 : (w < 0) = True := eq_true c1
      rw [cal_code env15 rfl]; simp only [fn15]; simp only [start, z_map_cons, z_map_nil, z_len_cons, z_len_nil, z_repl_zero, z_repl_succ, z_cons_app, z_nil_app, Nat.reduceAdd, Nat.reduceSub]
      simp only [e1, hc, G1, List.isEmpty_nil, val_pvs, frozen_pvs, msnoc_len, msnoc_get, msnoc_set, msnoc_take, Int.le_refl, take_map_all, Nat.le_refl, St.freezeRows, BV.frozen, List.take_length, List.take_append_drop, z_repl_zero, Int.toNat_zero, true_and, and_true, and_self, eq_self, z_take_zero, List.drop_nil, List.take_nil, vAll, List.foldl_nil, List.foldl_cons, resultsOf, resultList, resultOf, zBV, splice, PV.remade, St.freezeAt, St.freezeBox, PV.single, plain, act, dstOf, if_true, if_false, reduceCtorEq, St.get, St.put, St.pvOf, St.putRow, St.consume, St.freeze, St.row, St.elems, St.grab, St.takeRow, St.setRow, St.place, St.optPv, St.setCell, St.setCellRow, binPV, intBin, unPV, BV.val, Nat.reduceEqDiff, bound, consumeAll, buildParts, capsOf, capOf, List.append_nil, Nat.reduceAdd, Nat.reduceLT, Nat.reduceLeDiff, beq_self_eq_true, List.length_map, Nat.beq, dcall, dcallP, List.mapM_cons, St.snapFn, St.snap, St.layAll, St.lay, St.freezeArg, St.freezeArg1]
    · have G1 : (w < 0) = False := eq_false c1
      have G2 : (w ≥ (l.length : Int)) = True := by simp [c1] at hd; exact eq_true hd
      rw [cal_code env15 rfl]; simp only [fn15]; simp only [start, z_map_cons, z_map_nil, z_len_cons, z_len_nil, z_repl_zero, z_repl_succ, z_cons_app, z_nil_app, Nat.reduceAdd, Nat.reduceSub]
      simp only [e1, hc, G1, G2, List.isEmpty_nil, val_pvs, frozen_pvs, msnoc_len, msnoc_get, msnoc_set, msnoc_take, Int.le_refl, take_map_all, Nat.le_refl, St.freezeRows, BV.frozen, List.take_length, List.take_append_drop, z_repl_zero, Int.toNat_zero, true_and, and_true, and_self, eq_self, z_take_zero, List.drop_nil, List.take_nil, vAll, List.foldl_nil, List.foldl_cons, resultsOf, resultList, resultOf, zBV, splice, PV.remade, St.freezeAt, St.freezeBox, PV.single, plain, act, dstOf, if_true, if_false, reduceCtorEq, St.get, St.put, St.pvOf, St.putRow, St.consume, St.freeze, St.row, St.elems, St.grab, St.takeRow, St.setRow, St.place, St.optPv, St.setCell, St.setCellRow, binPV, intBin, unPV, BV.val, Nat.reduceEqDiff, bound, consumeAll, buildParts, capsOf, capOf, List.append_nil, Nat.reduceAdd, Nat.reduceLT, Nat.reduceLeDiff, beq_self_eq_true, List.length_map, Nat.beq, dcall, dcallP, List.mapM_cons, St.snapFn, St.snap, St.layAll, St.lay, St.freezeArg, St.freezeArg1]
  | false =>
  obtain ⟨c1, c2⟩ := Bool.or_eq_false_iff.1 hd
  have G1 : (w < 0) = False := eq_false (of_decide_eq_false c1)
  have G2 : (w ≥ (l.length : Int)) = False := eq_false (of_decide_eq_false c2)
  obtain ⟨j, rfl⟩ : ∃ j : Nat, w = (j : Int) := ⟨w.toNat, by have := of_decide_eq_false c1; omega⟩
  have hj : j < l.length := by have := of_decide_eq_false c2; omega
  have hx : l[j]? = some l[j] := List.getElem?_eq_getElem hj
  have hg : l.getD (j : Int).toNat zSit = l[j] := by rw [Int.toNat_natCast, List.getD_eq_getElem?_getD, hx]; rfl
  have hj0 := hok _ (List.getElem_mem hj)
  have hw : winE l j = if (((l[j].role != 1) && (l[j].role != 2)) && (l[j].role != 3)) = true then 18 else 0 := by
    unfold winE
    rw [hc, if_neg (by simp), hd, if_neg (by simp), hg]
  have hr : resX l j = if (winE l j != 0) = true then (false, [], []) else resGo j l[j] 0 l (false, [], []) := by
    unfold resX; rw [hg]
  rw [hr, hw]
  clear hr hw hg hd
  generalize l[j] = x at *
  obtain ⟨a1, a2, a3, a4, a5, a6, a7, a8⟩ := x
  simp only
  rw [cal_code env15 rfl]; simp only [fn15]; simp only [start, z_map_cons, z_map_nil, z_len_cons, z_len_nil, z_repl_zero, z_repl_succ, z_cons_app, z_nil_app, Nat.reduceAdd, Nat.reduceSub]
  simp only [e1, hc, G1, G2, hx, eSit, index_nat hj, List.getElem?_map, Option.map_some, List.isEmpty_nil, val_pvs, frozen_pvs, msnoc_len, msnoc_get, msnoc_set, msnoc_take, Int.le_refl, take_map_all, Nat.le_refl, St.freezeRows, BV.frozen, List.take_length, List.take_append_drop, z_repl_zero, Int.toNat_zero, true_and, and_true, and_self, eq_self, z_take_zero, List.drop_nil, List.take_nil, vAll, List.foldl_nil, List.foldl_cons, resultsOf, resultList, resultOf, zBV, splice, PV.remade, St.freezeAt, St.freezeBox, PV.single, plain, act, dstOf, if_true, if_false, reduceCtorEq, St.get, St.put, St.pvOf, St.putRow, St.consume, St.freeze, St.row, St.elems, St.grab, St.takeRow, St.setRow, St.place, St.optPv, St.setCell, St.setCellRow, binPV, intBin, unPV, BV.val, Nat.reduceEqDiff, bound, consumeAll, buildParts, capsOf, capOf, List.append_nil, Nat.reduceAdd, Nat.reduceLT, Nat.reduceLeDiff, beq_self_eq_true, List.length_map, Nat.beq, dcall, dcallP, List.mapM_cons, St.snapFn, St.snap, St.layAll, St.lay, St.freezeArg, St.freezeArg1]
  repeat' ((try simp only [bcase_bind, bcase_map, tail_bcase]); refine bcase_split (fun hb => ?_) (fun hb => ?_) <;> try simp only [hb, e1, hc, G1, G2, hx, eSit, index_nat hj, List.getElem?_map, Option.map_some, List.isEmpty_nil, val_pvs, frozen_pvs, msnoc_len, msnoc_get, msnoc_set, msnoc_take, Int.le_refl, take_map_all, Nat.le_refl, St.freezeRows, BV.frozen, List.take_length, List.take_append_drop, z_repl_zero, Int.toNat_zero, true_and, and_true, and_self, eq_self, z_take_zero, List.drop_nil, List.take_nil, vAll, List.foldl_nil, List.foldl_cons, resultsOf, resultList, resultOf, zBV, splice, PV.remade, St.freezeAt, St.freezeBox, PV.single, plain, act, dstOf, if_true, if_false, reduceCtorEq, St.get, St.put, St.pvOf, St.putRow, St.consume, St.freeze, St.row, St.elems, St.grab, St.takeRow, St.setRow, St.place, St.optPv, St.setCell, St.setCellRow, binPV, intBin, unPV, BV.val, Nat.reduceEqDiff, bound, consumeAll, buildParts, capsOf, capOf, List.append_nil, Nat.reduceAdd, Nat.reduceLT, Nat.reduceLeDiff, beq_self_eq_true, List.length_map, Nat.beq, dcall, dcallP, List.mapM_cons, St.snapFn, St.snap, St.layAll, St.lay, St.freezeArg, St.freezeArg1])
  all_goals first
    | (have hK : ((a2 != 1 && a2 != 2) && a2 != 3) = true := by simp_all
       rw [hK]
       rfl)
    | (have hK : ((a2 != 1 && a2 != 2) && a2 != 3) = false := by simp_all
       rw [hK]
       rw [loop15 (w := j) (best := ⟨a1, a2, a3, a4, a5, a6, a7, a8⟩) hok hj0 hl (fun IX c => ⟨[.pv (.list 8 (l.map eSit)), .pv (.int .i64 j), .any, .any, .any, .any, .any, .any, .pbox 0 0, .row 8 c.2.1, .row 1 c.2.2, .any, .any, .any, .any, .any, .any, .any, .any, .any, .any, .any, .any, .any, .any, .any, .any, .any, .any, .any, .any, .any, .any, .any, .any, .any, .any, .any, .any, .any, .any, .any, .any, .pv (.list 8 (l.map eSit)), .pv (.int .i64 l.length), .pv (.int .i64 IX), .any, .any, .any, .any, .any, .any, .any, .any, .any, .any, .any, .any, .any, .any, .any, .any, .any, .any, .any, .any, .any, .any, .any, .any, .any, .any, .any, .any, .any, .any, .any, .any, .any, .any, .any, .any, .any, .any, .any, .any], [⟨c.1, bSit ⟨a1, a2, a3, a4, a5, a6, a7, a8⟩⟩], [], none⟩) (fun _ _ => rfl)]
       rotate_left
       · rfl
       · generalize resGo _ _ _ _ _ = rg
         simp only [e1, hc, G1, G2, hx, eSit, index_nat hj, List.getElem?_map, Option.map_some, List.isEmpty_nil, val_pvs, frozen_pvs, msnoc_len, msnoc_get, msnoc_set, msnoc_take, Int.le_refl, take_map_all, Nat.le_refl, St.freezeRows, BV.frozen, List.take_length, List.take_append_drop, z_repl_zero, Int.toNat_zero, true_and, and_true, and_self, eq_self, z_take_zero, List.drop_nil, List.take_nil, vAll, List.foldl_nil, List.foldl_cons, resultsOf, resultList, resultOf, zBV, splice, PV.remade, St.freezeAt, St.freezeBox, PV.single, plain, act, dstOf, if_true, if_false, reduceCtorEq, St.get, St.put, St.pvOf, St.putRow, St.consume, St.freeze, St.row, St.elems, St.grab, St.takeRow, St.setRow, St.place, St.optPv, St.setCell, St.setCellRow, binPV, intBin, unPV, BV.val, Nat.reduceEqDiff, bound, consumeAll, buildParts, capsOf, capOf, List.append_nil, Nat.reduceAdd, Nat.reduceLT, Nat.reduceLeDiff, beq_self_eq_true, List.length_map, Nat.beq, dcall, dcallP, List.mapM_cons, St.snapFn, St.snap, St.layAll, St.lay, St.freezeArg, St.freezeArg1]
         rfl)
    | (exfalso; simp_all; done)
set_option maxHeartbeats 2000000 in
theorem cal16 {l : List Sit} {w : Int} (hok : ∀ x ∈ l, x.lin.length ≤ lim) (hl : l.length ≤ 8) : cal env 16 [.list 8 (l.map eSit), .int .i64 w] = some [(.list 8 (resX l w).2.1, true), (.list 1 (resX l w).2.2, true), (.int .i64 (winE l w), false)] := by
  have e1 := cal51 hok (by unfold lim; omega)
  cases hc : (sitesErr54 l != 0) with
  | true =>
    have hw : winE l w = sitesErr54 l := by unfold winE; rw [hc, if_pos rfl]
    have hr : resX l w = (false, [], []) := by unfold resX; rw [hw, hc, if_pos rfl]
    rw [hw, hr]
    rw [cal_code env16 rfl]; simp only [fn16]; simp only [start, z_map_cons, z_map_nil, z_len_cons, z_len_nil, z_repl_zero, z_repl_succ, z_cons_app, z_nil_app, Nat.reduceAdd, Nat.reduceSub]
    simp only [e1, hc, List.isEmpty_nil, val_pvs, frozen_pvs, msnoc_len, msnoc_get, msnoc_set, msnoc_take, Int.le_refl, take_map_all, Nat.le_refl, St.freezeRows, BV.frozen, List.take_length, List.take_append_drop, z_repl_zero, Int.toNat_zero, true_and, and_true, and_self, eq_self, z_take_zero, List.drop_nil, List.take_nil, vAll, List.foldl_nil, List.foldl_cons, resultsOf, resultList, resultOf, zBV, splice, PV.remade, St.freezeAt, St.freezeBox, PV.single, plain, act, dstOf, if_true, if_false, reduceCtorEq, St.get, St.put, St.pvOf, St.putRow, St.consume, St.freeze, St.row, St.elems, St.grab, St.takeRow, St.setRow, St.place, St.optPv, St.setCell, St.setCellRow, binPV, intBin, unPV, BV.val, Nat.reduceEqDiff, bound, consumeAll, buildParts, capsOf, capOf, List.append_nil, Nat.reduceAdd, Nat.reduceLT, Nat.reduceLeDiff, beq_self_eq_true, List.length_map, Nat.beq, dcall, dcallP, List.mapM_cons, St.snapFn, St.snap, St.layAll, St.lay, St.freezeArg, St.freezeArg1]
  | false =>
  have h0 : sitesErr54 l = 0 := by simpa using hc
  cases hd : (decide (w < 0) || decide (w ≥ (l.length : Int))) with
  | true =>
    have hw : winE l w = 7 := by unfold winE; rw [hc, if_neg (by simp), hd, if_pos rfl]
    have hr : resX l w = (false, [], []) := by unfold resX; rw [hw]; rfl
    rw [hw, hr]
    by_cases c1 : w < 0
    · have G1 : (w < 0) = True := eq_true c1
      rw [cal_code env16 rfl]; simp only [fn16]; simp only [start, z_map_cons, z_map_nil, z_len_cons, z_len_nil, z_repl_zero, z_repl_succ, z_cons_app, z_nil_app, Nat.reduceAdd, Nat.reduceSub]
      simp only [e1, hc, G1, List.isEmpty_nil, val_pvs, frozen_pvs, msnoc_len, msnoc_get, msnoc_set, msnoc_take, Int.le_refl, take_map_all, Nat.le_refl, St.freezeRows, BV.frozen, List.take_length, List.take_append_drop, z_repl_zero, Int.toNat_zero, true_and, and_true, and_self, eq_self, z_take_zero, List.drop_nil, List.take_nil, vAll, List.foldl_nil, List.foldl_cons, resultsOf, resultList, resultOf, zBV, splice, PV.remade, St.freezeAt, St.freezeBox, PV.single, plain, act, dstOf, if_true, if_false, reduceCtorEq, St.get, St.put, St.pvOf, St.putRow, St.consume, St.freeze, St.row, St.elems, St.grab, St.takeRow, St.setRow, St.place, St.optPv, St.setCell, St.setCellRow, binPV, intBin, unPV, BV.val, Nat.reduceEqDiff, bound, consumeAll, buildParts, capsOf, capOf, List.append_nil, Nat.reduceAdd, Nat.reduceLT, Nat.reduceLeDiff, beq_self_eq_true, List.length_map, Nat.beq, dcall, dcallP, List.mapM_cons, St.snapFn, St.snap, St.layAll, St.lay, St.freezeArg, St.freezeArg1]
    · have G1 : (w < 0) = False := eq_false c1
      have G2 : (w ≥ (l.length : Int)) = True := by simp [c1] at hd; exact eq_true hd
      rw [cal_code env16 rfl]; simp only [fn16]; simp only [start, z_map_cons, z_map_nil, z_len_cons, z_len_nil, z_repl_zero, z_repl_succ, z_cons_app, z_nil_app, Nat.reduceAdd, Nat.reduceSub]
      simp only [e1, hc, G1, G2, List.isEmpty_nil, val_pvs, frozen_pvs, msnoc_len, msnoc_get, msnoc_set, msnoc_take, Int.le_refl, take_map_all, Nat.le_refl, St.freezeRows, BV.frozen, List.take_length, List.take_append_drop, z_repl_zero, Int.toNat_zero, true_and, and_true, and_self, eq_self, z_take_zero, List.drop_nil, List.take_nil, vAll, List.foldl_nil, List.foldl_cons, resultsOf, resultList, resultOf, zBV, splice, PV.remade, St.freezeAt, St.freezeBox, PV.single, plain, act, dstOf, if_true, if_false, reduceCtorEq, St.get, St.put, St.pvOf, St.putRow, St.consume, St.freeze, St.row, St.elems, St.grab, St.takeRow, St.setRow, St.place, St.optPv, St.setCell, St.setCellRow, binPV, intBin, unPV, BV.val, Nat.reduceEqDiff, bound, consumeAll, buildParts, capsOf, capOf, List.append_nil, Nat.reduceAdd, Nat.reduceLT, Nat.reduceLeDiff, beq_self_eq_true, List.length_map, Nat.beq, dcall, dcallP, List.mapM_cons, St.snapFn, St.snap, St.layAll, St.lay, St.freezeArg, St.freezeArg1]
  | false =>
  obtain ⟨c1, c2⟩ := Bool.or_eq_false_iff.1 hd
  have G1 : (w < 0) = False := eq_false (of_decide_eq_false c1)
  have G2 : (w ≥ (l.length : Int)) = False := eq_false (of_decide_eq_false c2)
  obtain ⟨j, rfl⟩ : ∃ j : Nat, w = (j : Int) := ⟨w.toNat, by have := of_decide_eq_false c1; omega⟩
  have hj : j < l.length := by have := of_decide_eq_false c2; omega
  have hx : l[j]? = some l[j] := List.getElem?_eq_getElem hj
  have hg : l.getD (j : Int).toNat zSit = l[j] := by rw [Int.toNat_natCast, List.getD_eq_getElem?_getD, hx]; rfl
  have hj0 := hok _ (List.getElem_mem hj)
  have hw : winE l j = if (((l[j].role != 1) && (l[j].role != 2)) && (l[j].role != 3)) = true then 18 else 0 := by
    unfold winE
    rw [hc, if_neg (by simp), hd, if_neg (by simp), hg]
  have hr : resX l j = if (winE l j != 0) = true then (false, [], []) else resGo j l[j] 0 l (false, [], []) := by
    unfold resX; rw [hg]
  rw [hr, hw]
  clear hr hw hg hd
  generalize l[j] = x at *
  obtain ⟨a1, a2, a3, a4, a5, a6, a7, a8⟩ := x
  simp only
  rw [cal_code env16 rfl]; simp only [fn16]; simp only [start, z_map_cons, z_map_nil, z_len_cons, z_len_nil, z_repl_zero, z_repl_succ, z_cons_app, z_nil_app, Nat.reduceAdd, Nat.reduceSub]
  simp only [e1, hc, G1, G2, hx, eSit, index_nat hj, List.getElem?_map, Option.map_some, List.isEmpty_nil, val_pvs, frozen_pvs, msnoc_len, msnoc_get, msnoc_set, msnoc_take, Int.le_refl, take_map_all, Nat.le_refl, St.freezeRows, BV.frozen, List.take_length, List.take_append_drop, z_repl_zero, Int.toNat_zero, true_and, and_true, and_self, eq_self, z_take_zero, List.drop_nil, List.take_nil, vAll, List.foldl_nil, List.foldl_cons, resultsOf, resultList, resultOf, zBV, splice, PV.remade, St.freezeAt, St.freezeBox, PV.single, plain, act, dstOf, if_true, if_false, reduceCtorEq, St.get, St.put, St.pvOf, St.putRow, St.consume, St.freeze, St.row, St.elems, St.grab, St.takeRow, St.setRow, St.place, St.optPv, St.setCell, St.setCellRow, binPV, intBin, unPV, BV.val, Nat.reduceEqDiff, bound, consumeAll, buildParts, capsOf, capOf, List.append_nil, Nat.reduceAdd, Nat.reduceLT, Nat.reduceLeDiff, beq_self_eq_true, List.length_map, Nat.beq, dcall, dcallP, List.mapM_cons, St.snapFn, St.snap, St.layAll, St.lay, St.freezeArg, St.freezeArg1]
  repeat' ((try simp only [bcase_bind, bcase_map, tail_bcase]); refine bcase_split (fun hb => ?_) (fun hb => ?_) <;> try simp only [hb, e1, hc, G1, G2, hx, eSit, index_nat hj, List.getElem?_map, Option.map_some, List.isEmpty_nil, val_pvs, frozen_pvs, msnoc_len, msnoc_get, msnoc_set, msnoc_take, Int.le_refl, take_map_all, Nat.le_refl, St.freezeRows, BV.frozen, List.take_length, List.take_append_drop, z_repl_zero, Int.toNat_zero, true_and, and_true, and_self, eq_self, z_take_zero, List.drop_nil, List.take_nil, vAll, List.foldl_nil, List.foldl_cons, resultsOf, resultList, resultOf, zBV, splice, PV.remade, St.freezeAt, St.freezeBox, PV.single, plain, act, dstOf, if_true, if_false, reduceCtorEq, St.get, St.put, St.pvOf, St.putRow, St.consume, St.freeze, St.row, St.elems, St.grab, St.takeRow, St.setRow, St.place, St.optPv, St.setCell, St.setCellRow, binPV, intBin, unPV, BV.val, Nat.reduceEqDiff, bound, consumeAll, buildParts, capsOf, capOf, List.append_nil, Nat.reduceAdd, Nat.reduceLT, Nat.reduceLeDiff, beq_self_eq_true, List.length_map, Nat.beq, dcall, dcallP, List.mapM_cons, St.snapFn, St.snap, St.layAll, St.lay, St.freezeArg, St.freezeArg1])
  all_goals first
    | (have hK : ((a2 != 1 && a2 != 2) && a2 != 3) = true := by simp_all
       rw [hK]
       rfl)
    | (have hK : ((a2 != 1 && a2 != 2) && a2 != 3) = false := by simp_all
       rw [hK]
       rw [loop16 (w := j) (best := ⟨a1, a2, a3, a4, a5, a6, a7, a8⟩) hok hj0 hl (fun IX c => ⟨[.pv (.list 8 (l.map eSit)), .pv (.int .i64 j), .any, .any, .any, .any, .any, .any, .pbox 0 0, .row 8 c.2.1, .row 1 c.2.2, .pv (.int .i64 IX), .any, .any, .any, .any, .any, .any, .any, .any, .any, .any, .any, .any, .any, .any, .any, .any, .any, .any, .any, .any, .any, .any, .any, .any, .any, .any, .any, .any, .any, .any, .any, .any, .any, .any, .any, .any, .any, .any, .any, .any, .any, .any, .any, .any, .any, .any, .any, .any, .any, .any, .any, .any, .any, .any, .any, .any, .any, .any, .any, .any, .any, .any, .any, .any, .any, .any, .any, .any, .any, .any, .any, .any, .any], [⟨c.1, bSit ⟨a1, a2, a3, a4, a5, a6, a7, a8⟩⟩], [], none⟩) (fun _ _ => rfl)]
       rotate_left
       · rfl
       · generalize resGo _ _ _ _ _ = rg
         simp only [e1, hc, G1, G2, hx, eSit, index_nat hj, List.getElem?_map, Option.map_some, List.isEmpty_nil, val_pvs, frozen_pvs, msnoc_len, msnoc_get, msnoc_set, msnoc_take, Int.le_refl, take_map_all, Nat.le_refl, St.freezeRows, BV.frozen, List.take_length, List.take_append_drop, z_repl_zero, Int.toNat_zero, true_and, and_true, and_self, eq_self, z_take_zero, List.drop_nil, List.take_nil, vAll, List.foldl_nil, List.foldl_cons, resultsOf, resultList, resultOf, zBV, splice, PV.remade, St.freezeAt, St.freezeBox, PV.single, plain, act, dstOf, if_true, if_false, reduceCtorEq, St.get, St.put, St.pvOf, St.putRow, St.consume, St.freeze, St.row, St.elems, St.grab, St.takeRow, St.setRow, St.place, St.optPv, St.setCell, St.setCellRow, binPV, intBin, unPV, BV.val, Nat.reduceEqDiff, bound, consumeAll, buildParts, capsOf, capOf, List.append_nil, Nat.reduceAdd, Nat.reduceLT, Nat.reduceLeDiff, beq_self_eq_true, List.length_map, Nat.beq, dcall, dcallP, List.mapM_cons, St.snapFn, St.snap, St.layAll, St.lay, St.freezeArg, St.freezeArg1]
         rfl)
    | (exfalso; simp_all; done)
end Go.Proofs.Ytpdfhckdmblicaa.V
