/-
  Part 8 of the texts that the statement stands on.
-/
import Derived.Test.YtldnpgbacakfeaaZ7
set_option linter.all false
namespace Go.Proofs.Ytldnpgbacakfeaa.V
set_option linter.all false

theorem loop46 {l : List Int} (hl : l.length ≤ lim) {st : St} (h : st.head [0, 3] st.boxes.length = some ⟨[.pv (.list 1 (l.map eI)), .any, .any, .pv (.int .i64 (0 : Nat)), .any, .any, .any, .any, .any, .any, .any, .any, .any, .any, .any, .any, .any, .any, .any, .any, .any, .any, .any, .any, .any, .any, .any, .any, .any, .any], [], [], none⟩) :
   den env fn46_l1 st = if l.any (fun n => decide (n < 1) || decide (n > 4096)) then some (.ret, ⟨[.any, .any, .pv (.int .i64 2), .any, .any, .any, .any, .any, .any, .any, .any, .any, .any, .any, .any, .any, .any, .any, .any, .any, .any, .any, .any, .any, .any, .any, .any, .any, .any, .any], [], [], none⟩) else some (.normal, ⟨[.any, .any, .any, .any, .any, .any, .any, .any, .any, .any, .any, .any, .any, .any, .any, .any, .any, .any, .any, .any, .any, .any, .any, .any, .any, .any, .any, .any, .any, .any], [], [], none⟩) := by
  unfold fn46_l1
  rw [ clean_up (env := env) (l.length) (fun i => ⟨[.pv (.list 1 (l.map eI)), .any, .any, .pv (.int .i64 i), .any, .any, .any, .any, .any, .any, .any, .any, .any, .any, .any, .any, .any, .any, .any, .any, .any, .any, .any, .any, .any, .any, .any, .any, .any, .any], [], [], none⟩) (fun i => if (l.drop i).any (fun n => decide (n < 1) || decide (n > 4096)) then some (.ret, ⟨[.any, .any, .pv (.int .i64 2), .any, .any, .any, .any, .any, .any, .any, .any, .any, .any, .any, .any, .any, .any, .any, .any, .any, .any, .any, .any, .any, .any, .any, .any, .any, .any, .any], [], [], none⟩) else some (.normal, ⟨[.any, .any, .any, .any, .any, .any, .any, .any, .any, .any, .any, .any, .any, .any, .any, .any, .any, .any, .any, .any, .any, .any, .any, .any, .any, .any, .any, .any, .any, .any], [], [], none⟩)) h (fun _ => rfl) (fun _ => rfl) ?_ ?_]
  · first | rfl | simp only [List.drop_zero, List.take_zero, List.map_nil, Nat.zero_add, List.nil_append, List.foldl_nil]
  · intro i rb hi ih

    have hi1 := i64_next hi hl; have F1 : ((i : Int) < (l.length : Int)) = True := eq_true (by omega)
    simp only [fn46_b0, eI, F1, index_nat hi, List.getElem?_map, List.getElem?_eq_getElem hi, val_pvs, frozen_pvs, msnoc_len, msnoc_get, msnoc_set, msnoc_take, Int.le_refl, take_map_all, Nat.le_refl, St.freezeRows, BV.frozen, List.take_length, List.take_append_drop, z_repl_zero, Int.toNat_zero, true_and, and_true, and_self, eq_self, z_take_zero, List.drop_nil, List.take_nil, vAll, List.foldl_nil, List.foldl_cons, resultsOf, resultList, resultOf, zBV, splice, PV.remade, St.freezeAt, St.freezeBox, PV.single, plain, act, dstOf, if_true, if_false, reduceCtorEq, St.get, St.put, St.pvOf, St.putRow, St.consume, St.freeze, St.row, St.elems, St.grab, St.takeRow, St.setRow, St.place, St.optPv, St.setCell, St.setCellRow, binPV, intBin, unPV, BV.val, Nat.reduceEqDiff, bound, consumeAll, buildParts, capsOf, capOf, List.append_nil, Nat.reduceAdd, Nat.reduceLT, Nat.reduceLeDiff, beq_self_eq_true, List.length_map, Nat.beq, dcall, dcallP, List.mapM_cons, St.snapFn, St.snap, St.layAll, St.lay, St.freezeArg, St.freezeArg1]
    rw [List.drop_eq_getElem_cons hi]
    repeat' ((try simp only [bcase_bind, bcase_map, tail_bcase]); refine bcase_split (fun hb => ?_) (fun hb => ?_) <;> try simp only [hb, eI, index_nat hi, List.getElem?_map, List.getElem?_eq_getElem hi, val_pvs, frozen_pvs, msnoc_len, msnoc_get, msnoc_set, msnoc_take, Int.le_refl, take_map_all, Nat.le_refl, St.freezeRows, BV.frozen, List.take_length, List.take_append_drop, z_repl_zero, Int.toNat_zero, true_and, and_true, and_self, eq_self, z_take_zero, List.drop_nil, List.take_nil, vAll, List.foldl_nil, List.foldl_cons, resultsOf, resultList, resultOf, zBV, splice, PV.remade, St.freezeAt, St.freezeBox, PV.single, plain, act, dstOf, if_true, if_false, reduceCtorEq, St.get, St.put, St.pvOf, St.putRow, St.consume, St.freeze, St.row, St.elems, St.grab, St.takeRow, St.setRow, St.place, St.optPv, St.setCell, St.setCellRow, binPV, intBin, unPV, BV.val, Nat.reduceEqDiff, bound, consumeAll, buildParts, capsOf, capOf, List.append_nil, Nat.reduceAdd, Nat.reduceLT, Nat.reduceLeDiff, beq_self_eq_true, List.length_map, Nat.beq, dcall, dcallP, List.mapM_cons, St.snapFn, St.snap, St.layAll, St.lay, St.freezeArg, St.freezeArg1])
    · rfl
    · rfl
    · rw [ih _ (by simp only [hi1]; rfl)]
  · intro rb

    simp only [fn46_b0, Int.lt_irrefl, eI, val_pvs, frozen_pvs, msnoc_len, msnoc_get, msnoc_set, msnoc_take, Int.le_refl, take_map_all, Nat.le_refl, St.freezeRows, BV.frozen, List.take_length, List.take_append_drop, z_repl_zero, Int.toNat_zero, true_and, and_true, and_self, eq_self, z_take_zero, List.drop_nil, List.take_nil, vAll, List.foldl_nil, List.foldl_cons, resultsOf, resultList, resultOf, zBV, splice, PV.remade, St.freezeAt, St.freezeBox, PV.single, plain, act, dstOf, if_true, if_false, reduceCtorEq, St.get, St.put, St.pvOf, St.putRow, St.consume, St.freeze, St.row, St.elems, St.grab, St.takeRow, St.setRow, St.place, St.optPv, St.setCell, St.setCellRow, binPV, intBin, unPV, BV.val, Nat.reduceEqDiff, bound, consumeAll, buildParts, capsOf, capOf, List.append_nil, Nat.reduceAdd, Nat.reduceLT, Nat.reduceLeDiff, beq_self_eq_true, List.length_map, Nat.beq, dcall, dcallP, List.mapM_cons, St.snapFn, St.snap, St.layAll, St.lay, St.freezeArg, St.freezeArg1]
    rw [List.drop_length]
    rfl

theorem cal46 {l : List Int} (hl : l.length ≤ lim) : cal env 46 [.list 1 (l.map eI)] = some [(.int .i64 (sizesErr l), false)] := by
  rw [cal_code env46 rfl]; simp only [fn46]; simp only [start, z_map_cons, z_map_nil, z_len_cons, z_len_nil, z_repl_zero, z_repl_succ, z_cons_app, z_nil_app, Nat.reduceAdd, Nat.reduceSub]
  simp only [eI, val_pvs, frozen_pvs, msnoc_len, msnoc_get, msnoc_set, msnoc_take, Int.le_refl, take_map_all, Nat.le_refl, St.freezeRows, BV.frozen, List.take_length, List.take_append_drop, z_repl_zero, Int.toNat_zero, true_and, and_true, and_self, eq_self, z_take_zero, List.drop_nil, List.take_nil, vAll, List.foldl_nil, List.foldl_cons, resultsOf, resultList, resultOf, zBV, splice, PV.remade, St.freezeAt, St.freezeBox, PV.single, plain, act, dstOf, if_true, if_false, reduceCtorEq, St.get, St.put, St.pvOf, St.putRow, St.consume, St.freeze, St.row, St.elems, St.grab, St.takeRow, St.setRow, St.place, St.optPv, St.setCell, St.setCellRow, binPV, intBin, unPV, BV.val, Nat.reduceEqDiff, bound, consumeAll, buildParts, capsOf, capOf, List.append_nil, Nat.reduceAdd, Nat.reduceLT, Nat.reduceLeDiff, beq_self_eq_true, List.length_map, Nat.beq, dcall, dcallP, List.mapM_cons, St.snapFn, St.snap, St.layAll, St.lay, St.freezeArg, St.freezeArg1]
  repeat' ((try simp only [bcase_bind, bcase_map, tail_bcase]); refine bcase_split (fun hb => ?_) (fun hb => ?_) <;> try simp only [hb, eI, val_pvs, frozen_pvs, msnoc_len, msnoc_get, msnoc_set, msnoc_take, Int.le_refl, take_map_all, Nat.le_refl, St.freezeRows, BV.frozen, List.take_length, List.take_append_drop, z_repl_zero, Int.toNat_zero, true_and, and_true, and_self, eq_self, z_take_zero, List.drop_nil, List.take_nil, vAll, List.foldl_nil, List.foldl_cons, resultsOf, resultList, resultOf, zBV, splice, PV.remade, St.freezeAt, St.freezeBox, PV.single, plain, act, dstOf, if_true, if_false, reduceCtorEq, St.get, St.put, St.pvOf, St.putRow, St.consume, St.freeze, St.row, St.elems, St.grab, St.takeRow, St.setRow, St.place, St.optPv, St.setCell, St.setCellRow, binPV, intBin, unPV, BV.val, Nat.reduceEqDiff, bound, consumeAll, buildParts, capsOf, capOf, List.append_nil, Nat.reduceAdd, Nat.reduceLT, Nat.reduceLeDiff, beq_self_eq_true, List.length_map, Nat.beq, dcall, dcallP, List.mapM_cons, St.snapFn, St.snap, St.layAll, St.lay, St.freezeArg, St.freezeArg1])
  · grind [sizesErr]
  · grind [sizesErr]
  · rw [loop46 hl]
    rotate_left
    · rfl
    · by_cases h : l.any (fun n => decide (n < 1) || decide (n > 4096)) = true
      · simp only [h, vAll, List.foldl_nil, List.foldl_cons, resultsOf, resultList, resultOf, zBV, splice, PV.remade, St.freezeAt, St.freezeBox, PV.single, plain, act, dstOf, if_true, if_false, reduceCtorEq, St.get, St.put, St.pvOf, St.putRow, St.consume, St.freeze, St.row, St.elems, St.grab, St.takeRow, St.setRow, St.place, St.optPv, St.setCell, St.setCellRow, binPV, intBin, unPV, BV.val, Nat.reduceEqDiff, bound, consumeAll, buildParts, capsOf, capOf, List.append_nil, Nat.reduceAdd, Nat.reduceLT, Nat.reduceLeDiff, beq_self_eq_true, List.length_map, Nat.beq, dcall, dcallP, List.mapM_cons, St.snapFn, St.snap, St.layAll, St.lay, St.freezeArg, St.freezeArg1]
        grind [sizesErr]
      · simp only [h, vAll, List.foldl_nil, List.foldl_cons, resultsOf, resultList, resultOf, zBV, splice, PV.remade, St.freezeAt, St.freezeBox, PV.single, plain, act, dstOf, if_true, if_false, reduceCtorEq, St.get, St.put, St.pvOf, St.putRow, St.consume, St.freeze, St.row, St.elems, St.grab, St.takeRow, St.setRow, St.place, St.optPv, St.setCell, St.setCellRow, binPV, intBin, unPV, BV.val, Nat.reduceEqDiff, bound, consumeAll, buildParts, capsOf, capOf, List.append_nil, Nat.reduceAdd, Nat.reduceLT, Nat.reduceLeDiff, beq_self_eq_true, List.length_map, Nat.beq, dcall, dcallP, List.mapM_cons, St.snapFn, St.snap, St.layAll, St.lay, St.freezeArg, St.freezeArg1]
        grind [sizesErr]
theorem loop37 {im : Img} (hl : im.length ≤ lim) {st : St} (h : st.head [0, 3, 4, 18] st.boxes.length = some ⟨[.pv (.list 1 (im.map eSecs)), .any, .any, .row 1 ((im.take (0 : Nat)).map fun v => eI (v.length : Int)), .pv (.int .i64 (0 : Nat)), .any, .any, .any, .any, .any, .any, .any, .any, .any, .any, .any, .any, .any, .any, .any], [], [], none⟩) :
   den env fn37_l1 st = some (.normal, ⟨[.any, .any, .any, .row 1 (im.map fun v => eI (v.length : Int)), .any, .any, .any, .any, .any, .any, .any, .any, .any, .any, .any, .any, .any, .any, .any, .any], [], [], none⟩) := by
  unfold fn37_l1
  refine clean_up (env := env) (im.length) (fun i => ⟨[.pv (.list 1 (im.map eSecs)), .any, .any, .row 1 ((im.take i).map fun v => eI (v.length : Int)), .pv (.int .i64 i), .any, .any, .any, .any, .any, .any, .any, .any, .any, .any, .any, .any, .any, .any, .any], [], [], none⟩) (fun i => some (.normal, ⟨[.any, .any, .any, .row 1 (im.map fun v => eI (v.length : Int)), .any, .any, .any, .any, .any, .any, .any, .any, .any, .any, .any, .any, .any, .any, .any, .any], [], [], none⟩)) h (fun _ => rfl) (fun _ => rfl) ?_ ?_
  · intro i rb hi ih

    have hi1 := i64_next hi hl
    have F1 : ((i : Int) < (im.length : Int)) = True := eq_true (by omega)
    have F2 : ((im.take i).length + 1 ≤ lim) = True := eq_true (by rw [List.length_take]; omega)
    simp only [fn37_b0, F1, F2, eSecs, index_nat hi, List.getElem?_map, List.getElem?_eq_getElem hi, val_pvs, frozen_pvs, msnoc_len, msnoc_get, msnoc_set, msnoc_take, Int.le_refl, take_map_all, Nat.le_refl, St.freezeRows, BV.frozen, List.take_length, List.take_append_drop, z_repl_zero, Int.toNat_zero, true_and, and_true, and_self, eq_self, z_take_zero, List.drop_nil, List.take_nil, vAll, List.foldl_nil, List.foldl_cons, resultsOf, resultList, resultOf, zBV, splice, PV.remade, St.freezeAt, St.freezeBox, PV.single, plain, act, dstOf, if_true, if_false, reduceCtorEq, St.get, St.put, St.pvOf, St.putRow, St.consume, St.freeze, St.row, St.elems, St.grab, St.takeRow, St.setRow, St.place, St.optPv, St.setCell, St.setCellRow, binPV, intBin, unPV, BV.val, Nat.reduceEqDiff, bound, consumeAll, buildParts, capsOf, capOf, List.append_nil, Nat.reduceAdd, Nat.reduceLT, Nat.reduceLeDiff, beq_self_eq_true, List.length_map, Nat.beq, dcall, dcallP, List.mapM_cons, St.snapFn, St.snap, St.layAll, St.lay, St.freezeArg, St.freezeArg1]
    rw [ih _ (by simp only [hi1]; rw [← take_map_succ _ hi]; rfl)]
  · intro rb

    simp only [fn37_b0, Int.lt_irrefl,  val_pvs, frozen_pvs, msnoc_len, msnoc_get, msnoc_set, msnoc_take, Int.le_refl, take_map_all, Nat.le_refl, St.freezeRows, BV.frozen, List.take_length, List.take_append_drop, z_repl_zero, Int.toNat_zero, true_and, and_true, and_self, eq_self, z_take_zero, List.drop_nil, List.take_nil, vAll, List.foldl_nil, List.foldl_cons, resultsOf, resultList, resultOf, zBV, splice, PV.remade, St.freezeAt, St.freezeBox, PV.single, plain, act, dstOf, if_true, if_false, reduceCtorEq, St.get, St.put, St.pvOf, St.putRow, St.consume, St.freeze, St.row, St.elems, St.grab, St.takeRow, St.setRow, St.place, St.optPv, St.setCell, St.setCellRow, binPV, intBin, unPV, BV.val, Nat.reduceEqDiff, bound, consumeAll, buildParts, capsOf, capOf, List.append_nil, Nat.reduceAdd, Nat.reduceLT, Nat.reduceLeDiff, beq_self_eq_true, List.length_map, Nat.beq, dcall, dcallP, List.mapM_cons, St.snapFn, St.snap, St.layAll, St.lay, St.freezeArg, St.freezeArg1]
    try rw [List.take_length]
    rfl

theorem cal37 {im : Img} (hl : im.length ≤ lim) : cal env 37 [.list 1 (im.map eSecs)] = some [(.list 1 ((imSizes im).map eI), true)] := by
  rw [cal_code env37 rfl]; simp only [fn37]; simp only [start, z_map_cons, z_map_nil, z_len_cons, z_len_nil, z_repl_zero, z_repl_succ, z_cons_app, z_nil_app, Nat.reduceAdd, Nat.reduceSub]
  simp only [ val_pvs, frozen_pvs, msnoc_len, msnoc_get, msnoc_set, msnoc_take, Int.le_refl, take_map_all, Nat.le_refl, St.freezeRows, BV.frozen, List.take_length, List.take_append_drop, z_repl_zero, Int.toNat_zero, true_and, and_true, and_self, eq_self, z_take_zero, List.drop_nil, List.take_nil, vAll, List.foldl_nil, List.foldl_cons, resultsOf, resultList, resultOf, zBV, splice, PV.remade, St.freezeAt, St.freezeBox, PV.single, plain, act, dstOf, if_true, if_false, reduceCtorEq, St.get, St.put, St.pvOf, St.putRow, St.consume, St.freeze, St.row, St.elems, St.grab, St.takeRow, St.setRow, St.place, St.optPv, St.setCell, St.setCellRow, binPV, intBin, unPV, BV.val, Nat.reduceEqDiff, bound, consumeAll, buildParts, capsOf, capOf, List.append_nil, Nat.reduceAdd, Nat.reduceLT, Nat.reduceLeDiff, beq_self_eq_true, List.length_map, Nat.beq, dcall, dcallP, List.mapM_cons, St.snapFn, St.snap, St.layAll, St.lay, St.freezeArg, St.freezeArg1]
  rw [loop37 hl]
  rotate_left
  · rfl
  · simp only [ val_pvs, frozen_pvs, msnoc_len, msnoc_get, msnoc_set, msnoc_take, Int.le_refl, take_map_all, Nat.le_refl, St.freezeRows, BV.frozen, List.take_length, List.take_append_drop, z_repl_zero, Int.toNat_zero, true_and, and_true, and_self, eq_self, z_take_zero, List.drop_nil, List.take_nil, vAll, List.foldl_nil, List.foldl_cons, resultsOf, resultList, resultOf, zBV, splice, PV.remade, St.freezeAt, St.freezeBox, PV.single, plain, act, dstOf, if_true, if_false, reduceCtorEq, St.get, St.put, St.pvOf, St.putRow, St.consume, St.freeze, St.row, St.elems, St.grab, St.takeRow, St.setRow, St.place, St.optPv, St.setCell, St.setCellRow, binPV, intBin, unPV, BV.val, Nat.reduceEqDiff, bound, consumeAll, buildParts, capsOf, capOf, List.append_nil, Nat.reduceAdd, Nat.reduceLT, Nat.reduceLeDiff, beq_self_eq_true, List.length_map, Nat.beq, dcall, dcallP, List.mapM_cons, St.snapFn, St.snap, St.layAll, St.lay, St.freezeArg, St.freezeArg1]
    simp [imSizes]
theorem cal19 {im : Img} (hl : im.length ≤ lim) : cal env 19 [.list 1 (im.map eSecs)] = some [(.int .i64 (imCheck im), false)] := by
  have h2 : (imSizes im).length ≤ lim := by simpa [imSizes] using hl
  have e1 := cal37 hl
  have e2 := cal46 h2
  rw [cal_code env19 rfl]; simp only [fn19]; simp only [start, z_map_cons, z_map_nil, z_len_cons, z_len_nil, z_repl_zero, z_repl_succ, z_cons_app, z_nil_app, Nat.reduceAdd, Nat.reduceSub]
  simp only [e1, e2, val_pvs, frozen_pvs, msnoc_len, msnoc_get, msnoc_set, msnoc_take, Int.le_refl, take_map_all, Nat.le_refl, St.freezeRows, BV.frozen, List.take_length, List.take_append_drop, z_repl_zero, Int.toNat_zero, true_and, and_true, and_self, eq_self, z_take_zero, List.drop_nil, List.take_nil, vAll, List.foldl_nil, List.foldl_cons, resultsOf, resultList, resultOf, zBV, splice, PV.remade, St.freezeAt, St.freezeBox, PV.single, plain, act, dstOf, if_true, if_false, reduceCtorEq, St.get, St.put, St.pvOf, St.putRow, St.consume, St.freeze, St.row, St.elems, St.grab, St.takeRow, St.setRow, St.place, St.optPv, St.setCell, St.setCellRow, binPV, intBin, unPV, BV.val, Nat.reduceEqDiff, bound, consumeAll, buildParts, capsOf, capOf, List.append_nil, Nat.reduceAdd, Nat.reduceLT, Nat.reduceLeDiff, beq_self_eq_true, List.length_map, Nat.beq, dcall, dcallP, List.mapM_cons, St.snapFn, St.snap, St.layAll, St.lay, St.freezeArg, St.freezeArg1]
  rfl
def few7 (im : Img) : Bool := decide (im.length ≤ 9) && im.all fun v => decide (v.length ≤ 24)
theorem loop11 {im : Img} (hl : im.length ≤ lim) {st : St} (h : st.head [0, 3] st.boxes.length = some ⟨[.pv (.list 1 (im.map eSecs)), .any, .any, .pv (.int .i64 (0 : Nat)), .any, .any, .any, .any, .any, .any, .any, .any, .any, .any, .any, .any, .any, .any, .any], [], [], none⟩) :
   den env fn11_l1 st = if im.all (fun v => decide (v.length ≤ 24)) then some (.normal, ⟨[.any, .any, .any, .any, .any, .any, .any, .any, .any, .any, .any, .any, .any, .any, .any, .any, .any, .any, .any], [], [], none⟩) else some (.ret, ⟨[.any, .any, .pv (.bool false), .any, .any, .any, .any, .any, .any, .any, .any, .any, .any, .any, .any, .any, .any, .any, .any], [], [], none⟩) := by
  unfold fn11_l1
  rw [ clean_up (env := env) (im.length) (fun i => ⟨[.pv (.list 1 (im.map eSecs)), .any, .any, .pv (.int .i64 i), .any, .any, .any, .any, .any, .any, .any, .any, .any, .any, .any, .any, .any, .any, .any], [], [], none⟩) (fun i => if (im.drop i).all (fun v => decide (v.length ≤ 24)) then some (.normal, ⟨[.any, .any, .any, .any, .any, .any, .any, .any, .any, .any, .any, .any, .any, .any, .any, .any, .any, .any, .any], [], [], none⟩) else some (.ret, ⟨[.any, .any, .pv (.bool false), .any, .any, .any, .any, .any, .any, .any, .any, .any, .any, .any, .any, .any, .any, .any, .any], [], [], none⟩)) h (fun _ => rfl) (fun _ => rfl) ?_ ?_]
  · first | rfl | simp only [List.drop_zero, List.take_zero, List.map_nil, Nat.zero_add, List.nil_append, List.foldl_nil]
  · intro i rb hi ih

    have hi1 := i64_next hi hl
    have F1 : ((i : Int) < (im.length : Int)) = True := eq_true (by omega)
    simp only [fn11_b0, F1, eSecs, index_nat hi, List.getElem?_map, List.getElem?_eq_getElem hi, val_pvs, frozen_pvs, msnoc_len, msnoc_get, msnoc_set, msnoc_take, Int.le_refl, take_map_all, Nat.le_refl, St.freezeRows, BV.frozen, List.take_length, List.take_append_drop, z_repl_zero, Int.toNat_zero, true_and, and_true, and_self, eq_self, z_take_zero, List.drop_nil, List.take_nil, vAll, List.foldl_nil, List.foldl_cons, resultsOf, resultList, resultOf, zBV, splice, PV.remade, St.freezeAt, St.freezeBox, PV.single, plain, act, dstOf, if_true, if_false, reduceCtorEq, St.get, St.put, St.pvOf, St.putRow, St.consume, St.freeze, St.row, St.elems, St.grab, St.takeRow, St.setRow, St.place, St.optPv, St.setCell, St.setCellRow, binPV, intBin, unPV, BV.val, Nat.reduceEqDiff, bound, consumeAll, buildParts, capsOf, capOf, List.append_nil, Nat.reduceAdd, Nat.reduceLT, Nat.reduceLeDiff, beq_self_eq_true, List.length_map, Nat.beq, dcall, dcallP, List.mapM_cons, St.snapFn, St.snap, St.layAll, St.lay, St.freezeArg, St.freezeArg1]
    rw [List.drop_eq_getElem_cons hi, List.all_cons]
    (try simp only [bcase_bind, bcase_map, tail_bcase]); refine bcase_split (fun hb => ?_) (fun hb => ?_) <;> try simp only [hb,  val_pvs, frozen_pvs, msnoc_len, msnoc_get, msnoc_set, msnoc_take, Int.le_refl, take_map_all, Nat.le_refl, St.freezeRows, BV.frozen, List.take_length, List.take_append_drop, z_repl_zero, Int.toNat_zero, true_and, and_true, and_self, eq_self, z_take_zero, List.drop_nil, List.take_nil, vAll, List.foldl_nil, List.foldl_cons, resultsOf, resultList, resultOf, zBV, splice, PV.remade, St.freezeAt, St.freezeBox, PV.single, plain, act, dstOf, if_true, if_false, reduceCtorEq, St.get, St.put, St.pvOf, St.putRow, St.consume, St.freeze, St.row, St.elems, St.grab, St.takeRow, St.setRow, St.place, St.optPv, St.setCell, St.setCellRow, binPV, intBin, unPV, BV.val, Nat.reduceEqDiff, bound, consumeAll, buildParts, capsOf, capOf, List.append_nil, Nat.reduceAdd, Nat.reduceLT, Nat.reduceLeDiff, beq_self_eq_true, List.length_map, Nat.beq, dcall, dcallP, List.mapM_cons, St.snapFn, St.snap, St.layAll, St.lay, St.freezeArg, St.freezeArg1]
    · rw [decide_eq_false (by simp at hb; omega)]; rfl
    · rw [ih _ (by simp only [hi1]; rfl), decide_eq_true (show im[i].length ≤ 24 by simp at hb; omega), Bool.true_and]
  · intro rb

    simp only [fn11_b0, Int.lt_irrefl,  val_pvs, frozen_pvs, msnoc_len, msnoc_get, msnoc_set, msnoc_take, Int.le_refl, take_map_all, Nat.le_refl, St.freezeRows, BV.frozen, List.take_length, List.take_append_drop, z_repl_zero, Int.toNat_zero, true_and, and_true, and_self, eq_self, z_take_zero, List.drop_nil, List.take_nil, vAll, List.foldl_nil, List.foldl_cons, resultsOf, resultList, resultOf, zBV, splice, PV.remade, St.freezeAt, St.freezeBox, PV.single, plain, act, dstOf, if_true, if_false, reduceCtorEq, St.get, St.put, St.pvOf, St.putRow, St.consume, St.freeze, St.row, St.elems, St.grab, St.takeRow, St.setRow, St.place, St.optPv, St.setCell, St.setCellRow, binPV, intBin, unPV, BV.val, Nat.reduceEqDiff, bound, consumeAll, buildParts, capsOf, capOf, List.append_nil, Nat.reduceAdd, Nat.reduceLT, Nat.reduceLeDiff, beq_self_eq_true, List.length_map, Nat.beq, dcall, dcallP, List.mapM_cons, St.snapFn, St.snap, St.layAll, St.lay, St.freezeArg, St.freezeArg1]
    rw [List.drop_length]
    rfl

theorem cal11 {im : Img} : cal env 11 [.list 1 (im.map eSecs)] = some [(.bool (few7 im), false)] := by
  rw [cal_code env11 rfl]; simp only [fn11]; simp only [start, z_map_cons, z_map_nil, z_len_cons, z_len_nil, z_repl_zero, z_repl_succ, z_cons_app, z_nil_app, Nat.reduceAdd, Nat.reduceSub]
  simp only [ val_pvs, frozen_pvs, msnoc_len, msnoc_get, msnoc_set, msnoc_take, Int.le_refl, take_map_all, Nat.le_refl, St.freezeRows, BV.frozen, List.take_length, List.take_append_drop, z_repl_zero, Int.toNat_zero, true_and, and_true, and_self, eq_self, z_take_zero, List.drop_nil, List.take_nil, vAll, List.foldl_nil, List.foldl_cons, resultsOf, resultList, resultOf, zBV, splice, PV.remade, St.freezeAt, St.freezeBox, PV.single, plain, act, dstOf, if_true, if_false, reduceCtorEq, St.get, St.put, St.pvOf, St.putRow, St.consume, St.freeze, St.row, St.elems, St.grab, St.takeRow, St.setRow, St.place, St.optPv, St.setCell, St.setCellRow, binPV, intBin, unPV, BV.val, Nat.reduceEqDiff, bound, consumeAll, buildParts, capsOf, capOf, List.append_nil, Nat.reduceAdd, Nat.reduceLT, Nat.reduceLeDiff, beq_self_eq_true, List.length_map, Nat.beq, dcall, dcallP, List.mapM_cons, St.snapFn, St.snap, St.layAll, St.lay, St.freezeArg, St.freezeArg1]
  (try simp only [bcase_bind, bcase_map, tail_bcase]); refine bcase_split (fun hb => ?_) (fun hb => ?_) <;> try simp only [hb,  val_pvs, frozen_pvs, msnoc_len, msnoc_get, msnoc_set, msnoc_take, Int.le_refl, take_map_all, Nat.le_refl, St.freezeRows, BV.frozen, List.take_length, List.take_append_drop, z_repl_zero, Int.toNat_zero, true_and, and_true, and_self, eq_self, z_take_zero, List.drop_nil, List.take_nil, vAll, List.foldl_nil, List.foldl_cons, resultsOf, resultList, resultOf, zBV, splice, PV.remade, St.freezeAt, St.freezeBox, PV.single, plain, act, dstOf, if_true, if_false, reduceCtorEq, St.get, St.put, St.pvOf, St.putRow, St.consume, St.freeze, St.row, St.elems, St.grab, St.takeRow, St.setRow, St.place, St.optPv, St.setCell, St.setCellRow, binPV, intBin, unPV, BV.val, Nat.reduceEqDiff, bound, consumeAll, buildParts, capsOf, capOf, List.append_nil, Nat.reduceAdd, Nat.reduceLT, Nat.reduceLeDiff, beq_self_eq_true, List.length_map, Nat.beq, dcall, dcallP, List.mapM_cons, St.snapFn, St.snap, St.layAll, St.lay, St.freezeArg, St.freezeArg1]
  · simp at hb
    rw [few7, decide_eq_false (by omega)]; rfl
  · have hl : im.length ≤ 9 := by simp at hb; omega
    rw [loop11 (im := im) (by unfold lim; omega)]
    rotate_left
    · rfl
    · rw [few7, decide_eq_true hl, Bool.true_and]
      cases im.all (fun v => decide (v.length ≤ 24)) <;> simp only [vAll, List.foldl_nil, List.foldl_cons, resultsOf, resultList, resultOf, zBV, splice, PV.remade, St.freezeAt, St.freezeBox, PV.single, plain, act, dstOf, if_true, if_false, reduceCtorEq, St.get, St.put, St.pvOf, St.putRow, St.consume, St.freeze, St.row, St.elems, St.grab, St.takeRow, St.setRow, St.place, St.optPv, St.setCell, St.setCellRow, binPV, intBin, unPV, BV.val, Nat.reduceEqDiff, bound, consumeAll, buildParts, capsOf, capOf, List.append_nil, Nat.reduceAdd, Nat.reduceLT, Nat.reduceLeDiff, beq_self_eq_true, List.length_map, Nat.beq, dcall, dcallP, List.mapM_cons, St.snapFn, St.snap, St.layAll, St.lay, St.freezeArg, St.freezeArg1]
theorem loop47 {a b : List Sec} (hl : a.length ≤ lim) (hab : a.length = b.length) {st : St} (h : st.head [0, 1, 5] st.boxes.length = some ⟨[.pv (.list 8 (a.map eSec)), .pv (.list 8 (b.map eSec)), .any, .any, .any, .pv (.int .i64 (0 : Nat)), .any, .any, .any, .any, .any, .any, .any, .any, .any, .any, .any, .any, .any, .any, .any, .any, .any, .any, .any, .any], [], [], none⟩) :
   den env fn47_l1 st = if a = b then some (.normal, ⟨[.any, .any, .any, .any, .any, .any, .any, .any, .any, .any, .any, .any, .any, .any, .any, .any, .any, .any, .any, .any, .any, .any, .any, .any, .any, .any], [], [], none⟩) else some (.ret, ⟨[.any, .any, .any, .any, .pv (.bool false), .any, .any, .any, .any, .any, .any, .any, .any, .any, .any, .any, .any, .any, .any, .any, .any, .any, .any, .any, .any, .any], [], [], none⟩) := by
  unfold fn47_l1
  rw [ clean_up (env := env) (a.length) (fun i => ⟨[.pv (.list 8 (a.map eSec)), .pv (.list 8 (b.map eSec)), .any, .any, .any, .pv (.int .i64 i), .any, .any, .any, .any, .any, .any, .any, .any, .any, .any, .any, .any, .any, .any, .any, .any, .any, .any, .any, .any], [], [], none⟩) (fun i => if a.drop i = b.drop i then some (.normal, ⟨[.any, .any, .any, .any, .any, .any, .any, .any, .any, .any, .any, .any, .any, .any, .any, .any, .any, .any, .any, .any, .any, .any, .any, .any, .any, .any], [], [], none⟩) else some (.ret, ⟨[.any, .any, .any, .any, .pv (.bool false), .any, .any, .any, .any, .any, .any, .any, .any, .any, .any, .any, .any, .any, .any, .any, .any, .any, .any, .any, .any, .any], [], [], none⟩)) h (fun _ => rfl) (fun _ => rfl) ?_ ?_]
  · first | rfl | simp only [List.drop_zero, List.take_zero, List.map_nil, Nat.zero_add, List.nil_append, List.foldl_nil]
  · intro i rb hi ih

    have hi1 := i64_next hi hl
    have hj : i < b.length := by omega
    have F1 : ((i : Int) < (a.length : Int)) = True := eq_true (by omega)
    simp only [fn47_b0, F1, eSec, index_nat hi, index_nat hj, List.getElem?_map, List.getElem?_eq_getElem hi, List.getElem?_eq_getElem hj, part_sec, secPV_length, eqCells_sec, val_pvs, frozen_pvs, msnoc_len, msnoc_get, msnoc_set, msnoc_take, Int.le_refl, take_map_all, Nat.le_refl, St.freezeRows, BV.frozen, List.take_length, List.take_append_drop, z_repl_zero, Int.toNat_zero, true_and, and_true, and_self, eq_self, z_take_zero, List.drop_nil, List.take_nil, vAll, List.foldl_nil, List.foldl_cons, resultsOf, resultList, resultOf, zBV, splice, PV.remade, St.freezeAt, St.freezeBox, PV.single, plain, act, dstOf, if_true, if_false, reduceCtorEq, St.get, St.put, St.pvOf, St.putRow, St.consume, St.freeze, St.row, St.elems, St.grab, St.takeRow, St.setRow, St.place, St.optPv, St.setCell, St.setCellRow, binPV, intBin, unPV, BV.val, Nat.reduceEqDiff, bound, consumeAll, buildParts, capsOf, capOf, List.append_nil, Nat.reduceAdd, Nat.reduceLT, Nat.reduceLeDiff, beq_self_eq_true, List.length_map, Nat.beq, dcall, dcallP, List.mapM_cons, St.snapFn, St.snap, St.layAll, St.lay, St.freezeArg, St.freezeArg1]
    rw [List.drop_eq_getElem_cons hi, List.drop_eq_getElem_cons hj]
    (try simp only [bcase_bind, bcase_map, tail_bcase]); refine bcase_split (fun hb => ?_) (fun hb => ?_) <;> try simp only [hb,  val_pvs, frozen_pvs, msnoc_len, msnoc_get, msnoc_set, msnoc_take, Int.le_refl, take_map_all, Nat.le_refl, St.freezeRows, BV.frozen, List.take_length, List.take_append_drop, z_repl_zero, Int.toNat_zero, true_and, and_true, and_self, eq_self, z_take_zero, List.drop_nil, List.take_nil, vAll, List.foldl_nil, List.foldl_cons, resultsOf, resultList, resultOf, zBV, splice, PV.remade, St.freezeAt, St.freezeBox, PV.single, plain, act, dstOf, if_true, if_false, reduceCtorEq, St.get, St.put, St.pvOf, St.putRow, St.consume, St.freeze, St.row, St.elems, St.grab, St.takeRow, St.setRow, St.place, St.optPv, St.setCell, St.setCellRow, binPV, intBin, unPV, BV.val, Nat.reduceEqDiff, bound, consumeAll, buildParts, capsOf, capOf, List.append_nil, Nat.reduceAdd, Nat.reduceLT, Nat.reduceLeDiff, beq_self_eq_true, List.length_map, Nat.beq, dcall, dcallP, List.mapM_cons, St.snapFn, St.snap, St.layAll, St.lay, St.freezeArg, St.freezeArg1]
    · rw [ih _ (by simp only [hi1]; rfl)]
      simp only [decide_eq_true_eq] at hb
      simp only [hb, List.cons.injEq, true_and]
    · simp only [decide_eq_false_iff_not] at hb
      simp only [hb, List.cons.injEq, false_and, if_false]
      rfl
  · intro rb

    simp only [fn47_b0, Int.lt_irrefl,  val_pvs, frozen_pvs, msnoc_len, msnoc_get, msnoc_set, msnoc_take, Int.le_refl, take_map_all, Nat.le_refl, St.freezeRows, BV.frozen, List.take_length, List.take_append_drop, z_repl_zero, Int.toNat_zero, true_and, and_true, and_self, eq_self, z_take_zero, List.drop_nil, List.take_nil, vAll, List.foldl_nil, List.foldl_cons, resultsOf, resultList, resultOf, zBV, splice, PV.remade, St.freezeAt, St.freezeBox, PV.single, plain, act, dstOf, if_true, if_false, reduceCtorEq, St.get, St.put, St.pvOf, St.putRow, St.consume, St.freeze, St.row, St.elems, St.grab, St.takeRow, St.setRow, St.place, St.optPv, St.setCell, St.setCellRow, binPV, intBin, unPV, BV.val, Nat.reduceEqDiff, bound, consumeAll, buildParts, capsOf, capOf, List.append_nil, Nat.reduceAdd, Nat.reduceLT, Nat.reduceLeDiff, beq_self_eq_true, List.length_map, Nat.beq, dcall, dcallP, List.mapM_cons, St.snapFn, St.snap, St.layAll, St.lay, St.freezeArg, St.freezeArg1]
    rw [List.drop_length, hab, List.drop_length, if_pos rfl]
    rfl

theorem cal47 {a b : List Sec} (hl : a.length ≤ lim) : cal env 47 [.list 8 (a.map eSec), .list 8 (b.map eSec)] = some [(.bool (decide (a = b)), false)] := by
  rw [cal_code env47 rfl]; simp only [fn47]; simp only [start, z_map_cons, z_map_nil, z_len_cons, z_len_nil, z_repl_zero, z_repl_succ, z_cons_app, z_nil_app, Nat.reduceAdd, Nat.reduceSub]
  simp only [ val_pvs, frozen_pvs, msnoc_len, msnoc_get, msnoc_set, msnoc_take, Int.le_refl, take_map_all, Nat.le_refl, St.freezeRows, BV.frozen, List.take_length, List.take_append_drop, z_repl_zero, Int.toNat_zero, true_and, and_true, and_self, eq_self, z_take_zero, List.drop_nil, List.take_nil, vAll, List.foldl_nil, List.foldl_cons, resultsOf, resultList, resultOf, zBV, splice, PV.remade, St.freezeAt, St.freezeBox, PV.single, plain, act, dstOf, if_true, if_false, reduceCtorEq, St.get, St.put, St.pvOf, St.putRow, St.consume, St.freeze, St.row, St.elems, St.grab, St.takeRow, St.setRow, St.place, St.optPv, St.setCell, St.setCellRow, binPV, intBin, unPV, BV.val, Nat.reduceEqDiff, bound, consumeAll, buildParts, capsOf, capOf, List.append_nil, Nat.reduceAdd, Nat.reduceLT, Nat.reduceLeDiff, beq_self_eq_true, List.length_map, Nat.beq, dcall, dcallP, List.mapM_cons, St.snapFn, St.snap, St.layAll, St.lay, St.freezeArg, St.freezeArg1]
  (try simp only [bcase_bind, bcase_map, tail_bcase]); refine bcase_split (fun hb => ?_) (fun hb => ?_) <;> try simp only [hb,  val_pvs, frozen_pvs, msnoc_len, msnoc_get, msnoc_set, msnoc_take, Int.le_refl, take_map_all, Nat.le_refl, St.freezeRows, BV.frozen, List.take_length, List.take_append_drop, z_repl_zero, Int.toNat_zero, true_and, and_true, and_self, eq_self, z_take_zero, List.drop_nil, List.take_nil, vAll, List.foldl_nil, List.foldl_cons, resultsOf, resultList, resultOf, zBV, splice, PV.remade, St.freezeAt, St.freezeBox, PV.single, plain, act, dstOf, if_true, if_false, reduceCtorEq, St.get, St.put, St.pvOf, St.putRow, St.consume, St.freeze, St.row, St.elems, St.grab, St.takeRow, St.setRow, St.place, St.optPv, St.setCell, St.setCellRow, binPV, intBin, unPV, BV.val, Nat.reduceEqDiff, bound, consumeAll, buildParts, capsOf, capOf, List.append_nil, Nat.reduceAdd, Nat.reduceLT, Nat.reduceLeDiff, beq_self_eq_true, List.length_map, Nat.beq, dcall, dcallP, List.mapM_cons, St.snapFn, St.snap, St.layAll, St.lay, St.freezeArg, St.freezeArg1]
  · have hab : a.length = b.length := by simp at hb; omega
    rw [loop47 hl hab]
    rotate_left
    · rfl
    · by_cases e : a = b <;> simp only [e, vAll, List.foldl_nil, List.foldl_cons, resultsOf, resultList, resultOf, zBV, splice, PV.remade, St.freezeAt, St.freezeBox, PV.single, plain, act, dstOf, if_true, if_false, reduceCtorEq, St.get, St.put, St.pvOf, St.putRow, St.consume, St.freeze, St.row, St.elems, St.grab, St.takeRow, St.setRow, St.place, St.optPv, St.setCell, St.setCellRow, binPV, intBin, unPV, BV.val, Nat.reduceEqDiff, bound, consumeAll, buildParts, capsOf, capOf, List.append_nil, Nat.reduceAdd, Nat.reduceLT, Nat.reduceLeDiff, beq_self_eq_true, List.length_map, Nat.beq, dcall, dcallP, List.mapM_cons, St.snapFn, St.snap, St.layAll, St.lay, St.freezeArg, St.freezeArg1]
  · have : a ≠ b := fun e => by subst e; simp at hb
    simp only [this, vAll, List.foldl_nil, List.foldl_cons, resultsOf, resultList, resultOf, zBV, splice, PV.remade, St.freezeAt, St.freezeBox, PV.single, plain, act, dstOf, if_true, if_false, reduceCtorEq, St.get, St.put, St.pvOf, St.putRow, St.consume, St.freeze, St.row, St.elems, St.grab, St.takeRow, St.setRow, St.place, St.optPv, St.setCell, St.setCellRow, binPV, intBin, unPV, BV.val, Nat.reduceEqDiff, bound, consumeAll, buildParts, capsOf, capOf, List.append_nil, Nat.reduceAdd, Nat.reduceLT, Nat.reduceLeDiff, beq_self_eq_true, List.length_map, Nat.beq, dcall, dcallP, List.mapM_cons, St.snapFn, St.snap, St.layAll, St.lay, St.freezeArg, St.freezeArg1]
theorem loop17 {a b : Img} (hl : a.length ≤ lim) (hr : ∀ v ∈ a, v.length ≤ lim) (hab : a.length = b.length) {st : St} (h : st.head [0, 1, 5] st.boxes.length = some ⟨[.pv (.list 1 (a.map eSecs)), .pv (.list 1 (b.map eSecs)), .any, .any, .any, .pv (.int .i64 (0 : Nat)), .any, .any, .any, .any, .any, .any, .any, .any, .any, .any, .any, .any, .any, .any, .any, .any, .any, .any, .any, .any, .any], [], [], none⟩) :
   den env fn17_l1 st = if a = b then some (.normal, ⟨[.any, .any, .any, .any, .any, .any, .any, .any, .any, .any, .any, .any, .any, .any, .any, .any, .any, .any, .any, .any, .any, .any, .any, .any, .any, .any, .any], [], [], none⟩) else some (.ret, ⟨[.any, .any, .any, .any, .pv (.bool false), .any, .any, .any, .any, .any, .any, .any, .any, .any, .any, .any, .any, .any, .any, .any, .any, .any, .any, .any, .any, .any, .any], [], [], none⟩) := by
  unfold fn17_l1
  rw [ clean_up (env := env) (a.length) (fun i => ⟨[.pv (.list 1 (a.map eSecs)), .pv (.list 1 (b.map eSecs)), .any, .any, .any, .pv (.int .i64 i), .any, .any, .any, .any, .any, .any, .any, .any, .any, .any, .any, .any, .any, .any, .any, .any, .any, .any, .any, .any, .any], [], [], none⟩) (fun i => if a.drop i = b.drop i then some (.normal, ⟨[.any, .any, .any, .any, .any, .any, .any, .any, .any, .any, .any, .any, .any, .any, .any, .any, .any, .any, .any, .any, .any, .any, .any, .any, .any, .any, .any], [], [], none⟩) else some (.ret, ⟨[.any, .any, .any, .any, .pv (.bool false), .any, .any, .any, .any, .any, .any, .any, .any, .any, .any, .any, .any, .any, .any, .any, .any, .any, .any, .any, .any, .any, .any], [], [], none⟩)) h (fun _ => rfl) (fun _ => rfl) ?_ ?_]
  · first | rfl | simp only [List.drop_zero, List.take_zero, List.map_nil, Nat.zero_add, List.nil_append, List.foldl_nil]
  · intro i rb hi ih

    have hi1 := i64_next hi hl
    have hj : i < b.length := by omega
    have F1 : ((i : Int) < (a.length : Int)) = True := eq_true (by omega)
    have e1 := cal47 (b := b[i]) (hr _ (List.getElem_mem hi))
    simp only [fn17_b0, F1, e1, eSecs, index_nat hi, index_nat hj, List.getElem?_map, List.getElem?_eq_getElem hi, List.getElem?_eq_getElem hj, val_pvs, frozen_pvs, msnoc_len, msnoc_get, msnoc_set, msnoc_take, Int.le_refl, take_map_all, Nat.le_refl, St.freezeRows, BV.frozen, List.take_length, List.take_append_drop, z_repl_zero, Int.toNat_zero, true_and, and_true, and_self, eq_self, z_take_zero, List.drop_nil, List.take_nil, vAll, List.foldl_nil, List.foldl_cons, resultsOf, resultList, resultOf, zBV, splice, PV.remade, St.freezeAt, St.freezeBox, PV.single, plain, act, dstOf, if_true, if_false, reduceCtorEq, St.get, St.put, St.pvOf, St.putRow, St.consume, St.freeze, St.row, St.elems, St.grab, St.takeRow, St.setRow, St.place, St.optPv, St.setCell, St.setCellRow, binPV, intBin, unPV, BV.val, Nat.reduceEqDiff, bound, consumeAll, buildParts, capsOf, capOf, List.append_nil, Nat.reduceAdd, Nat.reduceLT, Nat.reduceLeDiff, beq_self_eq_true, List.length_map, Nat.beq, dcall, dcallP, List.mapM_cons, St.snapFn, St.snap, St.layAll, St.lay, St.freezeArg, St.freezeArg1]
    rw [List.drop_eq_getElem_cons hi, List.drop_eq_getElem_cons hj]
    (try simp only [bcase_bind, bcase_map, tail_bcase]); refine bcase_split (fun hb => ?_) (fun hb => ?_) <;> try simp only [hb,  val_pvs, frozen_pvs, msnoc_len, msnoc_get, msnoc_set, msnoc_take, Int.le_refl, take_map_all, Nat.le_refl, St.freezeRows, BV.frozen, List.take_length, List.take_append_drop, z_repl_zero, Int.toNat_zero, true_and, and_true, and_self, eq_self, z_take_zero, List.drop_nil, List.take_nil, vAll, List.foldl_nil, List.foldl_cons, resultsOf, resultList, resultOf, zBV, splice, PV.remade, St.freezeAt, St.freezeBox, PV.single, plain, act, dstOf, if_true, if_false, reduceCtorEq, St.get, St.put, St.pvOf, St.putRow, St.consume, St.freeze, St.row, St.elems, St.grab, St.takeRow, St.setRow, St.place, St.optPv, St.setCell, St.setCellRow, binPV, intBin, unPV, BV.val, Nat.reduceEqDiff, bound, consumeAll, buildParts, capsOf, capOf, List.append_nil, Nat.reduceAdd, Nat.reduceLT, Nat.reduceLeDiff, beq_self_eq_true, List.length_map, Nat.beq, dcall, dcallP, List.mapM_cons, St.snapFn, St.snap, St.layAll, St.lay, St.freezeArg, St.freezeArg1]
    · rw [ih _ (by simp only [hi1]; rfl)]
      simp only [decide_eq_true_eq] at hb
      simp only [hb, List.cons.injEq, true_and]
    · simp only [decide_eq_false_iff_not] at hb
      simp only [hb, List.cons.injEq, false_and, if_false]
      rfl
  · intro rb

    simp only [fn17_b0, Int.lt_irrefl,  val_pvs, frozen_pvs, msnoc_len, msnoc_get, msnoc_set, msnoc_take, Int.le_refl, take_map_all, Nat.le_refl, St.freezeRows, BV.frozen, List.take_length, List.take_append_drop, z_repl_zero, Int.toNat_zero, true_and, and_true, and_self, eq_self, z_take_zero, List.drop_nil, List.take_nil, vAll, List.foldl_nil, List.foldl_cons, resultsOf, resultList, resultOf, zBV, splice, PV.remade, St.freezeAt, St.freezeBox, PV.single, plain, act, dstOf, if_true, if_false, reduceCtorEq, St.get, St.put, St.pvOf, St.putRow, St.consume, St.freeze, St.row, St.elems, St.grab, St.takeRow, St.setRow, St.place, St.optPv, St.setCell, St.setCellRow, binPV, intBin, unPV, BV.val, Nat.reduceEqDiff, bound, consumeAll, buildParts, capsOf, capOf, List.append_nil, Nat.reduceAdd, Nat.reduceLT, Nat.reduceLeDiff, beq_self_eq_true, List.length_map, Nat.beq, dcall, dcallP, List.mapM_cons, St.snapFn, St.snap, St.layAll, St.lay, St.freezeArg, St.freezeArg1]
    rw [List.drop_length, hab, List.drop_length, if_pos rfl]
    rfl

theorem cal17 {a b : Img} (hl : a.length ≤ lim) (hr : ∀ v ∈ a, v.length ≤ lim) : cal env 17 [.list 1 (a.map eSecs), .list 1 (b.map eSecs)] = some [(.bool (decide (a = b)), false)] := by
  rw [cal_code env17 rfl]; simp only [fn17]; simp only [start, z_map_cons, z_map_nil, z_len_cons, z_len_nil, z_repl_zero, z_repl_succ, z_cons_app, z_nil_app, Nat.reduceAdd, Nat.reduceSub]
  simp only [ val_pvs, frozen_pvs, msnoc_len, msnoc_get, msnoc_set, msnoc_take, Int.le_refl, take_map_all, Nat.le_refl, St.freezeRows, BV.frozen, List.take_length, List.take_append_drop, z_repl_zero, Int.toNat_zero, true_and, and_true, and_self, eq_self, z_take_zero, List.drop_nil, List.take_nil, vAll, List.foldl_nil, List.foldl_cons, resultsOf, resultList, resultOf, zBV, splice, PV.remade, St.freezeAt, St.freezeBox, PV.single, plain, act, dstOf, if_true, if_false, reduceCtorEq, St.get, St.put, St.pvOf, St.putRow, St.consume, St.freeze, St.row, St.elems, St.grab, St.takeRow, St.setRow, St.place, St.optPv, St.setCell, St.setCellRow, binPV, intBin, unPV, BV.val, Nat.reduceEqDiff, bound, consumeAll, buildParts, capsOf, capOf, List.append_nil, Nat.reduceAdd, Nat.reduceLT, Nat.reduceLeDiff, beq_self_eq_true, List.length_map, Nat.beq, dcall, dcallP, List.mapM_cons, St.snapFn, St.snap, St.layAll, St.lay, St.freezeArg, St.freezeArg1]
  (try simp only [bcase_bind, bcase_map, tail_bcase]); refine bcase_split (fun hb => ?_) (fun hb => ?_) <;> try simp only [hb,  val_pvs, frozen_pvs, msnoc_len, msnoc_get, msnoc_set, msnoc_take, Int.le_refl, take_map_all, Nat.le_refl, St.freezeRows, BV.frozen, List.take_length, List.take_append_drop, z_repl_zero, Int.toNat_zero, true_and, and_true, and_self, eq_self, z_take_zero, List.drop_nil, List.take_nil, vAll, List.foldl_nil, List.foldl_cons, resultsOf, resultList, resultOf, zBV, splice, PV.remade, St.freezeAt, St.freezeBox, PV.single, plain, act, dstOf, if_true, if_false, reduceCtorEq, St.get, St.put, St.pvOf, St.putRow, St.consume, St.freeze, St.row, St.elems, St.grab, St.takeRow, St.setRow, St.place, St.optPv, St.setCell, St.setCellRow, binPV, intBin, unPV, BV.val, Nat.reduceEqDiff, bound, consumeAll, buildParts, capsOf, capOf, List.append_nil, Nat.reduceAdd, Nat.reduceLT, Nat.reduceLeDiff, beq_self_eq_true, List.length_map, Nat.beq, dcall, dcallP, List.mapM_cons, St.snapFn, St.snap, St.layAll, St.lay, St.freezeArg, St.freezeArg1]
  · have hab : a.length = b.length := by simp at hb; omega
    rw [loop17 hl hr hab]
    rotate_left
    · rfl
    · by_cases e : a = b <;> simp only [e, vAll, List.foldl_nil, List.foldl_cons, resultsOf, resultList, resultOf, zBV, splice, PV.remade, St.freezeAt, St.freezeBox, PV.single, plain, act, dstOf, if_true, if_false, reduceCtorEq, St.get, St.put, St.pvOf, St.putRow, St.consume, St.freeze, St.row, St.elems, St.grab, St.takeRow, St.setRow, St.place, St.optPv, St.setCell, St.setCellRow, binPV, intBin, unPV, BV.val, Nat.reduceEqDiff, bound, consumeAll, buildParts, capsOf, capOf, List.append_nil, Nat.reduceAdd, Nat.reduceLT, Nat.reduceLeDiff, beq_self_eq_true, List.length_map, Nat.beq, dcall, dcallP, List.mapM_cons, St.snapFn, St.snap, St.layAll, St.lay, St.freezeArg, St.freezeArg1]
  · have : a ≠ b := fun e => by subst e; simp at hb
    simp only [this, vAll, List.foldl_nil, List.foldl_cons, resultsOf, resultList, resultOf, zBV, splice, PV.remade, St.freezeAt, St.freezeBox, PV.single, plain, act, dstOf, if_true, if_false, reduceCtorEq, St.get, St.put, St.pvOf, St.putRow, St.consume, St.freeze, St.row, St.elems, St.grab, St.takeRow, St.setRow, St.place, St.optPv, St.setCell, St.setCellRow, binPV, intBin, unPV, BV.val, Nat.reduceEqDiff, bound, consumeAll, buildParts, capsOf, capOf, List.append_nil, Nat.reduceAdd, Nat.reduceLT, Nat.reduceLeDiff, beq_self_eq_true, List.length_map, Nat.beq, dcall, dcallP, List.mapM_cons, St.snapFn, St.snap, St.layAll, St.lay, St.freezeArg, St.freezeArg1]
theorem getD_get {α : Type} {l : List α} {i : Nat} {d : α} (h : i < l.length) : l.getD i d = l[i] := by simp [List.getD_eq_getElem?_getD, List.getElem?_eq_getElem h]
theorem cal51 {im : Img} {w : Wrt} (hl : im.length ≤ lim) (hr : ∀ v ∈ im, v.length ≤ lim) (hd : w.data.length ≤ lim) : cal env 51 [.list 1 (im.map eSecs), eWr w] = some [(.int .i64 (fitsErr im w), false)] := by
  obtain ⟨v, s, d⟩ := w
  simp only [eWr] at *
  by_cases h0 : 0 ≤ v ∧ v < im.length
  · have h1 := index_int (k := .i64) h0.1 h0.2
    have h2 : v.toNat < im.length := by omega
    have h3 := List.getElem?_eq_getElem h2
    have h4 : im[v.toNat].length ≤ lim := hr _ (List.getElem_mem h2)
    have h5 : IntKind.i64.wrap ((im[v.toNat].length : Int) - d.length) = im[v.toNat].length - d.length := i64_fits (by unfold lim at *; omega)
    rw [cal_code env51 rfl]; simp only [fn51]; simp only [start, z_map_cons, z_map_nil, z_len_cons, z_len_nil, z_repl_zero, z_repl_succ, z_cons_app, z_nil_app, Nat.reduceAdd, Nat.reduceSub]
    simp only [h1, h3, h5, eSecs, List.getElem?_map, val_pvs, frozen_pvs, msnoc_len, msnoc_get, msnoc_set, msnoc_take, Int.le_refl, take_map_all, Nat.le_refl, St.freezeRows, BV.frozen, List.take_length, List.take_append_drop, z_repl_zero, Int.toNat_zero, true_and, and_true, and_self, eq_self, z_take_zero, List.drop_nil, List.take_nil, vAll, List.foldl_nil, List.foldl_cons, resultsOf, resultList, resultOf, zBV, splice, PV.remade, St.freezeAt, St.freezeBox, PV.single, plain, act, dstOf, if_true, if_false, reduceCtorEq, St.get, St.put, St.pvOf, St.putRow, St.consume, St.freeze, St.row, St.elems, St.grab, St.takeRow, St.setRow, St.place, St.optPv, St.setCell, St.setCellRow, binPV, intBin, unPV, BV.val, Nat.reduceEqDiff, bound, consumeAll, buildParts, capsOf, capOf, List.append_nil, Nat.reduceAdd, Nat.reduceLT, Nat.reduceLeDiff, beq_self_eq_true, List.length_map, Nat.beq, dcall, dcallP, List.mapM_cons, St.snapFn, St.snap, St.layAll, St.lay, St.freezeArg, St.freezeArg1]
    repeat' ((try simp only [bcase_bind, bcase_map, tail_bcase]); refine bcase_split (fun hb => ?_) (fun hb => ?_) <;> try simp only [hb, h1, h3, h5, eSecs, List.getElem?_map, val_pvs, frozen_pvs, msnoc_len, msnoc_get, msnoc_set, msnoc_take, Int.le_refl, take_map_all, Nat.le_refl, St.freezeRows, BV.frozen, List.take_length, List.take_append_drop, z_repl_zero, Int.toNat_zero, true_and, and_true, and_self, eq_self, z_take_zero, List.drop_nil, List.take_nil, vAll, List.foldl_nil, List.foldl_cons, resultsOf, resultList, resultOf, zBV, splice, PV.remade, St.freezeAt, St.freezeBox, PV.single, plain, act, dstOf, if_true, if_false, reduceCtorEq, St.get, St.put, St.pvOf, St.putRow, St.consume, St.freeze, St.row, St.elems, St.grab, St.takeRow, St.setRow, St.place, St.optPv, St.setCell, St.setCellRow, binPV, intBin, unPV, BV.val, Nat.reduceEqDiff, bound, consumeAll, buildParts, capsOf, capOf, List.append_nil, Nat.reduceAdd, Nat.reduceLT, Nat.reduceLeDiff, beq_self_eq_true, List.length_map, Nat.beq, dcall, dcallP, List.mapM_cons, St.snapFn, St.snap, St.layAll, St.lay, St.freezeArg, St.freezeArg1])
    all_goals clear h1 h3 h5
    all_goals simp only [fitsErr, getD_get h2, decide_eq_true_eq, decide_eq_false_iff_not, beq_iff_eq, beq_eq_false_iff_ne, ne_eq, ge_iff_le, gt_iff_lt, Bool.and_eq_true, Bool.or_eq_true, Bool.not_eq_true', Bool.not_eq_false'] at *
    all_goals ((repeat' split) <;> first | rfl | (exfalso; omega))
  · rw [cal_code env51 rfl]; simp only [fn51]; simp only [start, z_map_cons, z_map_nil, z_len_cons, z_len_nil, z_repl_zero, z_repl_succ, z_cons_app, z_nil_app, Nat.reduceAdd, Nat.reduceSub]
    simp only [eSecs, List.getElem?_map, index_b, val_pvs, frozen_pvs, msnoc_len, msnoc_get, msnoc_set, msnoc_take, Int.le_refl, take_map_all, Nat.le_refl, St.freezeRows, BV.frozen, List.take_length, List.take_append_drop, z_repl_zero, Int.toNat_zero, true_and, and_true, and_self, eq_self, z_take_zero, List.drop_nil, List.take_nil, vAll, List.foldl_nil, List.foldl_cons, resultsOf, resultList, resultOf, zBV, splice, PV.remade, St.freezeAt, St.freezeBox, PV.single, plain, act, dstOf, if_true, if_false, reduceCtorEq, St.get, St.put, St.pvOf, St.putRow, St.consume, St.freeze, St.row, St.elems, St.grab, St.takeRow, St.setRow, St.place, St.optPv, St.setCell, St.setCellRow, binPV, intBin, unPV, BV.val, Nat.reduceEqDiff, bound, consumeAll, buildParts, capsOf, capOf, List.append_nil, Nat.reduceAdd, Nat.reduceLT, Nat.reduceLeDiff, beq_self_eq_true, List.length_map, Nat.beq, dcall, dcallP, List.mapM_cons, St.snapFn, St.snap, St.layAll, St.lay, St.freezeArg, St.freezeArg1]
    repeat' ((try simp only [bcase_bind, bcase_map, tail_bcase]); refine bcase_split (fun hb => ?_) (fun hb => ?_) <;> try simp only [hb, eSecs, List.getElem?_map, index_b, val_pvs, frozen_pvs, msnoc_len, msnoc_get, msnoc_set, msnoc_take, Int.le_refl, take_map_all, Nat.le_refl, St.freezeRows, BV.frozen, List.take_length, List.take_append_drop, z_repl_zero, Int.toNat_zero, true_and, and_true, and_self, eq_self, z_take_zero, List.drop_nil, List.take_nil, vAll, List.foldl_nil, List.foldl_cons, resultsOf, resultList, resultOf, zBV, splice, PV.remade, St.freezeAt, St.freezeBox, PV.single, plain, act, dstOf, if_true, if_false, reduceCtorEq, St.get, St.put, St.pvOf, St.putRow, St.consume, St.freeze, St.row, St.elems, St.grab, St.takeRow, St.setRow, St.place, St.optPv, St.setCell, St.setCellRow, binPV, intBin, unPV, BV.val, Nat.reduceEqDiff, bound, consumeAll, buildParts, capsOf, capOf, List.append_nil, Nat.reduceAdd, Nat.reduceLT, Nat.reduceLeDiff, beq_self_eq_true, List.length_map, Nat.beq, dcall, dcallP, List.mapM_cons, St.snapFn, St.snap, St.layAll, St.lay, St.freezeArg, St.freezeArg1])
    all_goals simp only [fitsErr, decide_eq_true_eq, decide_eq_false_iff_not, beq_iff_eq, beq_eq_false_iff_ne, ne_eq, ge_iff_le, gt_iff_lt, Bool.and_eq_true, Bool.or_eq_true, Bool.not_eq_true', Bool.not_eq_false'] at *
    all_goals ((repeat' split) <;> first | rfl | (exfalso; omega))
theorem cal52 {im : Img} {w : Wrt} (hl : im.length ≤ lim) (hr : ∀ v ∈ im, v.length ≤ lim) (hd : w.data.length ≤ lim) : cal env 52 [.list 1 ((imSizes im).map eI), eWr w] = some [(.int .i64 (fitsErr im w), false)] := by
  obtain ⟨v, s, d⟩ := w
  simp only [eWr, imSizes, List.map_map] at *
  by_cases h0 : 0 ≤ v ∧ v < im.length
  · have h1 := index_int (k := .i64) h0.1 h0.2
    have h2 : v.toNat < im.length := by omega
    have h3 := List.getElem?_eq_getElem h2
    have h4 : im[v.toNat].length ≤ lim := hr _ (List.getElem_mem h2)
    by_cases h6 : 0 ≤ s ∧ s < im[v.toNat].length
    · have h5 : IntKind.i64.wrap ((im[v.toNat].length : Int) - s) = im[v.toNat].length - s := i64_fits (by unfold lim at *; omega)
      rw [cal_code env52 rfl]; simp only [fn52]; simp only [start, z_map_cons, z_map_nil, z_len_cons, z_len_nil, z_repl_zero, z_repl_succ, z_cons_app, z_nil_app, Nat.reduceAdd, Nat.reduceSub]
      simp only [h1, h3, h5, eI, List.getElem?_map, Function.comp_apply, val_pvs, frozen_pvs, msnoc_len, msnoc_get, msnoc_set, msnoc_take, Int.le_refl, take_map_all, Nat.le_refl, St.freezeRows, BV.frozen, List.take_length, List.take_append_drop, z_repl_zero, Int.toNat_zero, true_and, and_true, and_self, eq_self, z_take_zero, List.drop_nil, List.take_nil, vAll, List.foldl_nil, List.foldl_cons, resultsOf, resultList, resultOf, zBV, splice, PV.remade, St.freezeAt, St.freezeBox, PV.single, plain, act, dstOf, if_true, if_false, reduceCtorEq, St.get, St.put, St.pvOf, St.putRow, St.consume, St.freeze, St.row, St.elems, St.grab, St.takeRow, St.setRow, St.place, St.optPv, St.setCell, St.setCellRow, binPV, intBin, unPV, BV.val, Nat.reduceEqDiff, bound, consumeAll, buildParts, capsOf, capOf, List.append_nil, Nat.reduceAdd, Nat.reduceLT, Nat.reduceLeDiff, beq_self_eq_true, List.length_map, Nat.beq, dcall, dcallP, List.mapM_cons, St.snapFn, St.snap, St.layAll, St.lay, St.freezeArg, St.freezeArg1]
      repeat' ((try simp only [bcase_bind, bcase_map, tail_bcase]); refine bcase_split (fun hb => ?_) (fun hb => ?_) <;> try simp only [hb, h1, h3, h5, eI, List.getElem?_map, Function.comp_apply, val_pvs, frozen_pvs, msnoc_len, msnoc_get, msnoc_set, msnoc_take, Int.le_refl, take_map_all, Nat.le_refl, St.freezeRows, BV.frozen, List.take_length, List.take_append_drop, z_repl_zero, Int.toNat_zero, true_and, and_true, and_self, eq_self, z_take_zero, List.drop_nil, List.take_nil, vAll, List.foldl_nil, List.foldl_cons, resultsOf, resultList, resultOf, zBV, splice, PV.remade, St.freezeAt, St.freezeBox, PV.single, plain, act, dstOf, if_true, if_false, reduceCtorEq, St.get, St.put, St.pvOf, St.putRow, St.consume, St.freeze, St.row, St.elems, St.grab, St.takeRow, St.setRow, St.place, St.optPv, St.setCell, St.setCellRow, binPV, intBin, unPV, BV.val, Nat.reduceEqDiff, bound, consumeAll, buildParts, capsOf, capOf, List.append_nil, Nat.reduceAdd, Nat.reduceLT, Nat.reduceLeDiff, beq_self_eq_true, List.length_map, Nat.beq, dcall, dcallP, List.mapM_cons, St.snapFn, St.snap, St.layAll, St.lay, St.freezeArg, St.freezeArg1])
      all_goals clear h1 h3 h5
      all_goals simp only [fitsErr, getD_get h2, decide_eq_true_eq, decide_eq_false_iff_not, beq_iff_eq, beq_eq_false_iff_ne, ne_eq, ge_iff_le, gt_iff_lt, Bool.and_eq_true, Bool.or_eq_true, Bool.not_eq_true', Bool.not_eq_false'] at *
      all_goals ((repeat' split) <;> first | rfl | (exfalso; omega))
    · --
      rw [cal_code env52 rfl]; simp only [fn52]; simp only [start, z_map_cons, z_map_nil, z_len_cons, z_len_nil, z_repl_zero, z_repl_succ, z_cons_app, z_nil_app, Nat.reduceAdd, Nat.reduceSub]
      simp only [h1, h3, eI, List.getElem?_map, Function.comp_apply, val_pvs, frozen_pvs, msnoc_len, msnoc_get, msnoc_set, msnoc_take, Int.le_refl, take_map_all, Nat.le_refl, St.freezeRows, BV.frozen, List.take_length, List.take_append_drop, z_repl_zero, Int.toNat_zero, true_and, and_true, and_self, eq_self, z_take_zero, List.drop_nil, List.take_nil, vAll, List.foldl_nil, List.foldl_cons, resultsOf, resultList, resultOf, zBV, splice, PV.remade, St.freezeAt, St.freezeBox, PV.single, plain, act, dstOf, if_true, if_false, reduceCtorEq, St.get, St.put, St.pvOf, St.putRow, St.consume, St.freeze, St.row, St.elems, St.grab, St.takeRow, St.setRow, St.place, St.optPv, St.setCell, St.setCellRow, binPV, intBin, unPV, BV.val, Nat.reduceEqDiff, bound, consumeAll, buildParts, capsOf, capOf, List.append_nil, Nat.reduceAdd, Nat.reduceLT, Nat.reduceLeDiff, beq_self_eq_true, List.length_map, Nat.beq, dcall, dcallP, List.mapM_cons, St.snapFn, St.snap, St.layAll, St.lay, St.freezeArg, St.freezeArg1]
      repeat' ((try simp only [bcase_bind, bcase_map, tail_bcase]); refine bcase_split (fun hb => ?_) (fun hb => ?_) <;> try simp only [hb, h1, h3, eI, List.getElem?_map, Function.comp_apply, val_pvs, frozen_pvs, msnoc_len, msnoc_get, msnoc_set, msnoc_take, Int.le_refl, take_map_all, Nat.le_refl, St.freezeRows, BV.frozen, List.take_length, List.take_append_drop, z_repl_zero, Int.toNat_zero, true_and, and_true, and_self, eq_self, z_take_zero, List.drop_nil, List.take_nil, vAll, List.foldl_nil, List.foldl_cons, resultsOf, resultList, resultOf, zBV, splice, PV.remade, St.freezeAt, St.freezeBox, PV.single, plain, act, dstOf, if_true, if_false, reduceCtorEq, St.get, St.put, St.pvOf, St.putRow, St.consume, St.freeze, St.row, St.elems, St.grab, St.takeRow, St.setRow, St.place, St.optPv, St.setCell, St.setCellRow, binPV, intBin, unPV, BV.val, Nat.reduceEqDiff, bound, consumeAll, buildParts, capsOf, capOf, List.append_nil, Nat.reduceAdd, Nat.reduceLT, Nat.reduceLeDiff, beq_self_eq_true, List.length_map, Nat.beq, dcall, dcallP, List.mapM_cons, St.snapFn, St.snap, St.layAll, St.lay, St.freezeArg, St.freezeArg1])
      all_goals clear h1 h3
      all_goals simp only [fitsErr, getD_get h2, decide_eq_true_eq, decide_eq_false_iff_not, beq_iff_eq, beq_eq_false_iff_ne, ne_eq, ge_iff_le, gt_iff_lt, Bool.and_eq_true, Bool.or_eq_true, Bool.not_eq_true', Bool.not_eq_false'] at *
      all_goals first | (exfalso; omega) | ((repeat' split) <;> first | rfl | (exfalso; omega))
  · rw [cal_code env52 rfl]; simp only [fn52]; simp only [start, z_map_cons, z_map_nil, z_len_cons, z_len_nil, z_repl_zero, z_repl_succ, z_cons_app, z_nil_app, Nat.reduceAdd, Nat.reduceSub]
    simp only [eI, List.getElem?_map, index_b, Function.comp_apply, val_pvs, frozen_pvs, msnoc_len, msnoc_get, msnoc_set, msnoc_take, Int.le_refl, take_map_all, Nat.le_refl, St.freezeRows, BV.frozen, List.take_length, List.take_append_drop, z_repl_zero, Int.toNat_zero, true_and, and_true, and_self, eq_self, z_take_zero, List.drop_nil, List.take_nil, vAll, List.foldl_nil, List.foldl_cons, resultsOf, resultList, resultOf, zBV, splice, PV.remade, St.freezeAt, St.freezeBox, PV.single, plain, act, dstOf, if_true, if_false, reduceCtorEq, St.get, St.put, St.pvOf, St.putRow, St.consume, St.freeze, St.row, St.elems, St.grab, St.takeRow, St.setRow, St.place, St.optPv, St.setCell, St.setCellRow, binPV, intBin, unPV, BV.val, Nat.reduceEqDiff, bound, consumeAll, buildParts, capsOf, capOf, List.append_nil, Nat.reduceAdd, Nat.reduceLT, Nat.reduceLeDiff, beq_self_eq_true, List.length_map, Nat.beq, dcall, dcallP, List.mapM_cons, St.snapFn, St.snap, St.layAll, St.lay, St.freezeArg, St.freezeArg1]
    repeat' ((try simp only [bcase_bind, bcase_map, tail_bcase]); refine bcase_split (fun hb => ?_) (fun hb => ?_) <;> try simp only [hb, eI, List.getElem?_map, index_b, Function.comp_apply, val_pvs, frozen_pvs, msnoc_len, msnoc_get, msnoc_set, msnoc_take, Int.le_refl, take_map_all, Nat.le_refl, St.freezeRows, BV.frozen, List.take_length, List.take_append_drop, z_repl_zero, Int.toNat_zero, true_and, and_true, and_self, eq_self, z_take_zero, List.drop_nil, List.take_nil, vAll, List.foldl_nil, List.foldl_cons, resultsOf, resultList, resultOf, zBV, splice, PV.remade, St.freezeAt, St.freezeBox, PV.single, plain, act, dstOf, if_true, if_false, reduceCtorEq, St.get, St.put, St.pvOf, St.putRow, St.consume, St.freeze, St.row, St.elems, St.grab, St.takeRow, St.setRow, St.place, St.optPv, St.setCell, St.setCellRow, binPV, intBin, unPV, BV.val, Nat.reduceEqDiff, bound, consumeAll, buildParts, capsOf, capOf, List.append_nil, Nat.reduceAdd, Nat.reduceLT, Nat.reduceLeDiff, beq_self_eq_true, List.length_map, Nat.beq, dcall, dcallP, List.mapM_cons, St.snapFn, St.snap, St.layAll, St.lay, St.freezeArg, St.freezeArg1])
    all_goals simp only [fitsErr, decide_eq_true_eq, decide_eq_false_iff_not, beq_iff_eq, beq_eq_false_iff_ne, ne_eq, ge_iff_le, gt_iff_lt, Bool.and_eq_true, Bool.or_eq_true, Bool.not_eq_true', Bool.not_eq_false'] at *
    all_goals first | (exfalso; omega) | ((repeat' split) <;> first | rfl | (exfalso; omega))
theorem cal21 {im : Img} {w : Wrt} (hl : im.length ≤ lim) (hr : ∀ v ∈ im, v.length ≤ lim) (hd : w.data.length ≤ lim) : cal env 21 [.list 1 (im.map eSecs), eWr w] = some [(.int .i64 (imFits im w), false)] := by
  have e1 := cal18 hl
  have e2 := cal51 (w := w) hl hr hd
  simp only [eWr] at *
  rw [cal_code env21 rfl]; simp only [fn21]; simp only [start, z_map_cons, z_map_nil, z_len_cons, z_len_nil, z_repl_zero, z_repl_succ, z_cons_app, z_nil_app, Nat.reduceAdd, Nat.reduceSub]
  simp only [e1, e2, val_pvs, frozen_pvs, msnoc_len, msnoc_get, msnoc_set, msnoc_take, Int.le_refl, take_map_all, Nat.le_refl, St.freezeRows, BV.frozen, List.take_length, List.take_append_drop, z_repl_zero, Int.toNat_zero, true_and, and_true, and_self, eq_self, z_take_zero, List.drop_nil, List.take_nil, vAll, List.foldl_nil, List.foldl_cons, resultsOf, resultList, resultOf, zBV, splice, PV.remade, St.freezeAt, St.freezeBox, PV.single, plain, act, dstOf, if_true, if_false, reduceCtorEq, St.get, St.put, St.pvOf, St.putRow, St.consume, St.freeze, St.row, St.elems, St.grab, St.takeRow, St.setRow, St.place, St.optPv, St.setCell, St.setCellRow, binPV, intBin, unPV, BV.val, Nat.reduceEqDiff, bound, consumeAll, buildParts, capsOf, capOf, List.append_nil, Nat.reduceAdd, Nat.reduceLT, Nat.reduceLeDiff, beq_self_eq_true, List.length_map, Nat.beq, dcall, dcallP, List.mapM_cons, St.snapFn, St.snap, St.layAll, St.lay, St.freezeArg, St.freezeArg1]
  repeat' ((try simp only [bcase_bind, bcase_map, tail_bcase]); refine bcase_split (fun hb => ?_) (fun hb => ?_) <;> try simp only [hb, e1, e2, val_pvs, frozen_pvs, msnoc_len, msnoc_get, msnoc_set, msnoc_take, Int.le_refl, take_map_all, Nat.le_refl, St.freezeRows, BV.frozen, List.take_length, List.take_append_drop, z_repl_zero, Int.toNat_zero, true_and, and_true, and_self, eq_self, z_take_zero, List.drop_nil, List.take_nil, vAll, List.foldl_nil, List.foldl_cons, resultsOf, resultList, resultOf, zBV, splice, PV.remade, St.freezeAt, St.freezeBox, PV.single, plain, act, dstOf, if_true, if_false, reduceCtorEq, St.get, St.put, St.pvOf, St.putRow, St.consume, St.freeze, St.row, St.elems, St.grab, St.takeRow, St.setRow, St.place, St.optPv, St.setCell, St.setCellRow, binPV, intBin, unPV, BV.val, Nat.reduceEqDiff, bound, consumeAll, buildParts, capsOf, capOf, List.append_nil, Nat.reduceAdd, Nat.reduceLT, Nat.reduceLeDiff, beq_self_eq_true, List.length_map, Nat.beq, dcall, dcallP, List.mapM_cons, St.snapFn, St.snap, St.layAll, St.lay, St.freezeArg, St.freezeArg1])
  all_goals simp only [imFits, decide_eq_true_eq, decide_eq_false_iff_not, beq_iff_eq, beq_eq_false_iff_ne, ne_eq, ge_iff_le, gt_iff_lt, Bool.and_eq_true, Bool.or_eq_true, Bool.not_eq_true', Bool.not_eq_false'] at *
  all_goals ((repeat' split) <;> first | rfl | (exfalso; omega))
theorem cal22 {im : Img} {w : Wrt} (hl : im.length ≤ lim) (hr : ∀ v ∈ im, v.length ≤ lim) (hd : w.data.length ≤ lim) : cal env 22 [.list 1 (im.map eSecs), eWr w] = some [(.int .i64 (imFits im w), false)] := by
  have e0 := cal37 hl
  have e1 := cal19 hl
  have e2 := cal52 (w := w) hl hr hd
  simp only [eWr] at *
  rw [cal_code env22 rfl]; simp only [fn22]; simp only [start, z_map_cons, z_map_nil, z_len_cons, z_len_nil, z_repl_zero, z_repl_succ, z_cons_app, z_nil_app, Nat.reduceAdd, Nat.reduceSub]
  simp only [e0, e1, e2, val_pvs, frozen_pvs, msnoc_len, msnoc_get, msnoc_set, msnoc_take, Int.le_refl, take_map_all, Nat.le_refl, St.freezeRows, BV.frozen, List.take_length, List.take_append_drop, z_repl_zero, Int.toNat_zero, true_and, and_true, and_self, eq_self, z_take_zero, List.drop_nil, List.take_nil, vAll, List.foldl_nil, List.foldl_cons, resultsOf, resultList, resultOf, zBV, splice, PV.remade, St.freezeAt, St.freezeBox, PV.single, plain, act, dstOf, if_true, if_false, reduceCtorEq, St.get, St.put, St.pvOf, St.putRow, St.consume, St.freeze, St.row, St.elems, St.grab, St.takeRow, St.setRow, St.place, St.optPv, St.setCell, St.setCellRow, binPV, intBin, unPV, BV.val, Nat.reduceEqDiff, bound, consumeAll, buildParts, capsOf, capOf, List.append_nil, Nat.reduceAdd, Nat.reduceLT, Nat.reduceLeDiff, beq_self_eq_true, List.length_map, Nat.beq, dcall, dcallP, List.mapM_cons, St.snapFn, St.snap, St.layAll, St.lay, St.freezeArg, St.freezeArg1]
  repeat' ((try simp only [bcase_bind, bcase_map, tail_bcase]); refine bcase_split (fun hb => ?_) (fun hb => ?_) <;> try simp only [hb, e0, e1, e2, val_pvs, frozen_pvs, msnoc_len, msnoc_get, msnoc_set, msnoc_take, Int.le_refl, take_map_all, Nat.le_refl, St.freezeRows, BV.frozen, List.take_length, List.take_append_drop, z_repl_zero, Int.toNat_zero, true_and, and_true, and_self, eq_self, z_take_zero, List.drop_nil, List.take_nil, vAll, List.foldl_nil, List.foldl_cons, resultsOf, resultList, resultOf, zBV, splice, PV.remade, St.freezeAt, St.freezeBox, PV.single, plain, act, dstOf, if_true, if_false, reduceCtorEq, St.get, St.put, St.pvOf, St.putRow, St.consume, St.freeze, St.row, St.elems, St.grab, St.takeRow, St.setRow, St.place, St.optPv, St.setCell, St.setCellRow, binPV, intBin, unPV, BV.val, Nat.reduceEqDiff, bound, consumeAll, buildParts, capsOf, capOf, List.append_nil, Nat.reduceAdd, Nat.reduceLT, Nat.reduceLeDiff, beq_self_eq_true, List.length_map, Nat.beq, dcall, dcallP, List.mapM_cons, St.snapFn, St.snap, St.layAll, St.lay, St.freezeArg, St.freezeArg1])
  all_goals simp only [imFits, decide_eq_true_eq, decide_eq_false_iff_not, beq_iff_eq, beq_eq_false_iff_ne, ne_eq, ge_iff_le, gt_iff_lt, Bool.and_eq_true, Bool.or_eq_true, Bool.not_eq_true', Bool.not_eq_false'] at *
  all_goals ((repeat' split) <;> first | rfl | (exfalso; omega))
def readErr (im : Img) (v : Int) (e : Exn) : Int :=
  if imCheck im ≠ 0 then imCheck im else if v < 0 ∨ (im.length : Int) ≤ v then 7
  else if e.start < 0 ∨ e.count < 0 ∨ ((im.getD v.toNat []).length : Int) < e.start ∨ ((im.getD v.toNat []).length : Int) - e.start < e.count then 2 else 0
def readOut (im : Img) (v : Int) (e : Exn) : List Sec :=
  if readErr im v e = 0 then ((im.getD v.toNat []).drop e.start.toNat).take e.count.toNat else []
end Go.Proofs.Ytldnpgbacakfeaa.V

namespace Go.Proofs.Ytldnpgbacakfeaa
set_option linter.all false

noncomputable def iter (env : Env) (f : Nat) (caps : List PV) (stop : Option Nat) : Option (List (List PV)) := iterRes (den env) env f caps stop
def ystart (n : Nat) (caps : List PV) (stop : Option Nat) : St := ⟨.yld :: (caps.map .pv ++ List.replicate (n - (caps.length + 1)) .any), [], [], some stop⟩
def yfin : Ex × St → Option (List (List PV))
  | (.exit _, _) => none
  | (_, st) => some st.ys
section
variable {env : Env}
theorem yfin_normal (st : St) : yfin (.normal, st) = some st.ys := (rfl)
theorem yfin_ret (st : St) : yfin (.ret, st) = some st.ys := (rfl)
theorem iter_code {f : Nat} {fn : VFn} {caps : List PV} {stop : Option Nat} (h : env f = some (.code fn)) (hl : caps.length + 1 = fn.nargs) (hr : fn.results.isEmpty = true) : iter env f caps stop = (den env fn.body (ystart fn.ntmps caps stop)).bind yfin := by
  unfold iter iterRes
  rw [h]
  simp only [if_pos (And.intro hl hr)]
  show (den env fn.body _).bind _ = _
  congr 1
  funext ⟨e, st⟩
  cases e <;> rfl

noncomputable def round1 (env : Env) (slots : List AV) (ps : List Nat) (assign body : VCode) (nb : Nat) (x : List PV) (st : St) : Option (Ex × St) :=
  (setParams slots ps x).bind fun sl => (den env assign { st with slots := sl }).bind fun p => match p with
    | (.normal, st) => (den env body st).bind fun p => match p with
      | (.normal, st) => if nb ≤ st.boxes.length then some (.normal, { st with boxes := st.boxes.take nb }) else none
      | p => some p
    | _ => none
theorem rounds_cons {slots : List AV} {ps : List Nat} {assign body : VCode} {nb k : Nat} {x : List PV} {xs : List (List PV)} {st : St} :
    rounds (den env) slots ps assign body nb k (x :: xs) st = (round1 env slots ps assign body nb x st).bind fun p => match p with
      | (.normal, st) => rounds (den env) slots ps assign body nb (k + 1) xs st
      | (e, st) => some (some (e, k + 1), st) := by
  conv => lhs; unfold rounds
  unfold round1
  show (setParams slots ps x).bind _ = _
  cases setParams slots ps x with
  | none => rfl
  | some sl =>
    simp only [Option.bind_some]
    show (den env assign _).bind _ = _
    cases den env assign { st with slots := sl } with
    | none => rfl
    | some p =>
      obtain ⟨e, s⟩ := p
      simp only [Option.bind_some]
      cases e with
      | normal =>
        simp only
        show (den env body _).bind _ = _
        cases den env body s with
        | none => rfl
        | some p =>
          obtain ⟨e, s⟩ := p
          simp only [Option.bind_some]
          cases e with
          | normal =>
            simp only
            split <;> rfl
          | exit i => rfl
          | ret => rfl
      | exit i => rfl
      | ret => rfl
theorem rounds_take {slots : List AV} {ps : List Nat} {assign body : VCode} {nb : Nat} {e : Ex} {m : Nat} {s : St} : ∀ {xs : List (List PV)} {k : Nat} {st : St}, rounds (den env) slots ps assign body nb k xs st = some (some (e, m), s) →
    k < m ∧ m ≤ k + xs.length ∧ rounds (den env) slots ps assign body nb k (xs.take (m - k)) st = some (some (e, m), s)
  | [], k, st, h => by cases h
  | x :: xs, k, st, h => by
    rw [rounds_cons] at h
    cases hr : round1 env slots ps assign body nb x st with
    | none => rw [hr] at h; cases h
    | some p =>
      obtain ⟨e1, s1⟩ := p
      rw [hr] at h
      simp only [Option.bind_some] at h
      cases e1 with
      | normal =>
        obtain ⟨h1, h2, h3⟩ := rounds_take h
        refine ⟨by omega, by simp only [List.length_cons]; omega, ?_⟩
        rw [show m - k = (m - (k + 1)) + 1 by omega, List.take_succ_cons, rounds_cons, hr]
        exact h3
      | exit i =>
        cases h
        refine ⟨by omega, by simp, ?_⟩
        rw [show k + 1 - k = 0 + 1 by omega, List.take_succ_cons, rounds_cons, hr]
        rfl
      | ret =>
        cases h
        refine ⟨by omega, by simp, ?_⟩
        rw [show k + 1 - k = 0 + 1 by omega, List.take_succ_cons, rounds_cons, hr]
        rfl
theorem rng_all {g : Opd} {ps : List Nat} {assign body : VCode} {st st1 : St} {f : Nat} {caps : List PV} {xs : List (List PV)} (hg : st.pvOf g = some (.func f caps)) (hi : iter env f caps none = some xs)
    (hr : rounds (den env) (st.slots.map AV.froze) ps assign body st.boxes.length 0 xs { st with slots := st.slots.map AV.froze } = some (none, st1)) : den env (.rng g ps assign body) st = some (.normal, { st1 with slots := st.slots.map AV.froze }) := by
  rw [den_eq]
  show ranged (den env) env g ps assign body st = _
  unfold ranged
  rw [hg]
  unfold iter at hi
  simp only [z_bind_eq, Option.bind_some, hi, hr]
theorem rng_out {g : Opd} {ps : List Nat} {assign body : VCode} {st st1 : St} {f : Nat} {caps : List PV} {xs : List (List PV)} {e : Ex} {k : Nat} (hg : st.pvOf g = some (.func f caps)) (hi : iter env f caps none = some xs)
    (hr : rounds (den env) (st.slots.map AV.froze) ps assign body st.boxes.length 0 xs { st with slots := st.slots.map AV.froze } = some (some (e, k), st1)) (hi2 : iter env f caps (some k) = some (xs.take k)) : den env (.rng g ps assign body) st = some (e, { st1 with slots := st.slots.map AV.froze }) := by
  obtain ⟨h1, h2, h3⟩ := rounds_take hr
  rw [den_eq]
  show ranged (den env) env g ps assign body st = _
  unfold ranged
  rw [hg]
  unfold iter at hi hi2
  simp only [Nat.sub_zero] at h3
  have hl : (xs.take k).length = k := by rw [List.length_take]; omega
  simp only [z_bind_eq, Option.bind_some, hi, hr, hi2, h3, hl, and_self, if_true]
def scanR {β : Type} (f : β → List PV → β ⊕ (Ex × St)) : List (List PV) → β → β ⊕ (Ex × St)
  | [], b => .inl b
  | x :: xs, b => match f b x with
    | .inl b => scanR f xs b
    | .inr r => .inr r
theorem rng_scan {β : Type} (B : β → List Box) (F : β → List PV → β ⊕ (Ex × St)) (Pr : β → Prop) (b0 : β) {g : Opd} {ps : List Nat} {assign body : VCode} {st : St} {f : Nat} {caps : List PV} {xs : List (List PV)} (hg : st.pvOf g = some (.func f caps)) (hi : iter env f caps none = some xs)
    (hi2 : ∀ k, 1 ≤ k → k ≤ xs.length → iter env f caps (some k) = some (xs.take k)) (hB : st.boxes = B b0) (hP : Pr b0)
    (h : ∀ b x, Pr b → x ∈ xs → ∀ sl0, match F b x with
      | .inl b' => Pr b' ∧ ∃ sl1, round1 env (st.slots.map AV.froze) ps assign body st.boxes.length x ⟨sl0, B b, st.ys, st.stop⟩ = some (.normal, ⟨sl1, B b', st.ys, st.stop⟩)
      | .inr (e, s) => e ≠ .normal ∧ ∃ sl1, round1 env (st.slots.map AV.froze) ps assign body st.boxes.length x ⟨sl0, B b, st.ys, st.stop⟩ = some (e, { s with slots := sl1 })) :
    den env (.rng g ps assign body) st = match scanR F xs b0 with
      | .inl b => some (.normal, ⟨st.slots.map AV.froze, B b, st.ys, st.stop⟩)
      | .inr (e, s) => some (e, { s with slots := st.slots.map AV.froze }) := by
  have key : ∀ (l : List (List PV)), (∀ x ∈ l, x ∈ xs) → ∀ (b : β), Pr b → ∀ (k : Nat) (sl0 : List AV), match scanR F l b with
      | .inl b' => ∃ sl1, rounds (den env) (st.slots.map AV.froze) ps assign body st.boxes.length k l ⟨sl0, B b, st.ys, st.stop⟩ = some (none, ⟨sl1, B b', st.ys, st.stop⟩)
      | .inr (e, s) => ∃ sl1 m, rounds (den env) (st.slots.map AV.froze) ps assign body st.boxes.length k l ⟨sl0, B b, st.ys, st.stop⟩ = some (some (e, m), { s with slots := sl1 }) := by
    intro l
    induction l with
    | nil => intro _ b _ k sl0; exact ⟨sl0, rfl⟩
    | cons x l ih =>
      intro hl b hb k sl0
      have h1 := h b x hb (hl x (by simp)) sl0
      unfold scanR
      cases hF : F b x with
      | inl b' =>
        rw [hF] at h1
        obtain ⟨q1, sl1, q2⟩ := h1
        have h2 := ih (fun y hy => hl y (by simp [hy])) b' q1 (k + 1) sl1
        simp only
        rw [rounds_cons, q2]
        exact h2
      | inr r =>
        obtain ⟨e, s⟩ := r
        rw [hF] at h1
        obtain ⟨q1, sl1, q2⟩ := h1
        simp only
        rw [rounds_cons, q2]
        cases e with
        | normal => exact absurd rfl q1
        | exit i => exact ⟨sl1, k + 1, rfl⟩
        | ret => exact ⟨sl1, k + 1, rfl⟩
  have h0 := key xs (fun x hx => hx) b0 hP 0 (st.slots.map AV.froze)
  rw [← hB] at h0
  cases hs : scanR F xs b0 with
  | inl b =>
    rw [hs] at h0
    obtain ⟨sl1, h0⟩ := h0
    have r := rng_all hg hi h0
    exact r
  | inr r =>
    obtain ⟨e, s⟩ := r
    rw [hs] at h0
    obtain ⟨sl1, m, h0⟩ := h0
    obtain ⟨q1, q2, _⟩ := rounds_take h0
    have r := rng_out hg hi h0 (hi2 m (by omega) (by omega))
    exact r
theorem rng_fold {β : Type} (B : β → List Box) (F : β → List PV → β) (Pr : β → Prop) (b0 : β) {g : Opd} {ps : List Nat} {assign body : VCode} {st : St} {f : Nat} {caps : List PV} {xs : List (List PV)} (hg : st.pvOf g = some (.func f caps)) (hi : iter env f caps none = some xs)
    (hB : st.boxes = B b0) (hP : Pr b0)
    (h : ∀ b x, Pr b → x ∈ xs → ∀ sl0, Pr (F b x) ∧ ∃ sl1, round1 env (st.slots.map AV.froze) ps assign body st.boxes.length x ⟨sl0, B b, st.ys, st.stop⟩ = some (.normal, ⟨sl1, B (F b x), st.ys, st.stop⟩)) :
    den env (.rng g ps assign body) st = some (.normal, ⟨st.slots.map AV.froze, B (xs.foldl F b0), st.ys, st.stop⟩) := by
  have key : ∀ (l : List (List PV)), (∀ x ∈ l, x ∈ xs) → ∀ (b : β), Pr b → ∀ (k : Nat) (sl0 : List AV), ∃ sl1, rounds (den env) (st.slots.map AV.froze) ps assign body st.boxes.length k l ⟨sl0, B b, st.ys, st.stop⟩ = some (none, ⟨sl1, B (l.foldl F b), st.ys, st.stop⟩) := by
    intro l
    induction l with
    | nil => intro _ b _ k sl0; exact ⟨sl0, rfl⟩
    | cons x l ih =>
      intro hl b hb k sl0
      obtain ⟨q1, sl1, q2⟩ := h b x hb (hl x (by simp)) sl0
      obtain ⟨sl2, h2⟩ := ih (fun y hy => hl y (by simp [hy])) _ q1 (k + 1) sl1
      refine ⟨sl2, ?_⟩
      rw [rounds_cons, q2]
      exact h2
  obtain ⟨sl1, h0⟩ := key xs (fun x hx => hx) b0 hP 0 (st.slots.map AV.froze)
  rw [← hB] at h0
  have r := rng_all hg hi h0
  exact r
theorem rng_idx (B : Nat → List Box) {g : Opd} {ps : List Nat} {assign body : VCode} {st : St} {f : Nat} {caps : List PV} {xs : List (List PV)} (hg : st.pvOf g = some (.func f caps)) (hi : iter env f caps none = some xs) (hB : st.boxes = B 0)
    (h : ∀ j x, xs[j]? = some x → ∀ sl0, ∃ sl1, round1 env (st.slots.map AV.froze) ps assign body st.boxes.length x ⟨sl0, B j, st.ys, st.stop⟩ = some (.normal, ⟨sl1, B (j + 1), st.ys, st.stop⟩)) :
    den env (.rng g ps assign body) st = some (.normal, ⟨st.slots.map AV.froze, B xs.length, st.ys, st.stop⟩) := by
  have key : ∀ (l : List (List PV)) (j : Nat), xs.drop j = l → ∀ (k : Nat) (sl0 : List AV), ∃ sl1, rounds (den env) (st.slots.map AV.froze) ps assign body st.boxes.length k l ⟨sl0, B j, st.ys, st.stop⟩ = some (none, ⟨sl1, B (j + l.length), st.ys, st.stop⟩) := by
    intro l
    induction l with
    | nil => intro j _ k sl0; exact ⟨sl0, rfl⟩
    | cons x l ih =>
      intro j hj k sl0
      have hx : xs[j]? = some x := by rw [← List.head?_drop, hj]; rfl
      have hd : xs.drop (j + 1) = l := by rw [← List.drop_drop, hj]; rfl
      obtain ⟨sl1, q⟩ := h j x hx sl0
      obtain ⟨sl2, q2⟩ := ih (j + 1) hd (k + 1) sl1
      refine ⟨sl2, ?_⟩
      rw [rounds_cons, q]
      simp only [Option.bind_some, q2, List.length_cons]
      rw [show j + 1 + l.length = j + (l.length + 1) by omega]
  obtain ⟨sl1, q⟩ := key xs 0 (by simp) 0 (st.slots.map AV.froze)
  rw [← hB, Nat.zero_add] at q
  have r := rng_all hg hi q
  exact r
theorem rng_idx_out (B : Nat → List Box) (m : Nat) {g : Opd} {ps : List Nat} {assign body : VCode} {st s : St} {e : Ex} {f : Nat} {caps : List PV} {xs : List (List PV)} (hg : st.pvOf g = some (.func f caps)) (hi : iter env f caps none = some xs) (hi2 : iter env f caps (some (m + 1)) = some (xs.take (m + 1))) (hB : st.boxes = B 0) (hm : m < xs.length)
    (h : ∀ j x, j < m → xs[j]? = some x → ∀ sl0, ∃ sl1, round1 env (st.slots.map AV.froze) ps assign body st.boxes.length x ⟨sl0, B j, st.ys, st.stop⟩ = some (.normal, ⟨sl1, B (j + 1), st.ys, st.stop⟩))
    (he : e ≠ .normal) (hl : ∀ x, xs[m]? = some x → ∀ sl0, ∃ sl1, round1 env (st.slots.map AV.froze) ps assign body st.boxes.length x ⟨sl0, B m, st.ys, st.stop⟩ = some (e, { s with slots := sl1 })) :
    den env (.rng g ps assign body) st = some (e, { s with slots := st.slots.map AV.froze }) := by
  have key : ∀ (d j : Nat), j + d = m → ∀ (k : Nat) (sl0 : List AV), ∃ sl1, rounds (den env) (st.slots.map AV.froze) ps assign body st.boxes.length k (xs.drop j) ⟨sl0, B j, st.ys, st.stop⟩ = some (some (e, k + d + 1), { s with slots := sl1 }) := by
    intro d
    induction d with
    | zero =>
      intro j hj k sl0
      obtain rfl : j = m := by omega
      rw [List.drop_eq_getElem_cons hm]
      obtain ⟨sl1, q⟩ := hl _ (List.getElem?_eq_getElem hm) sl0
      refine ⟨sl1, ?_⟩
      rw [rounds_cons, q]
      cases e with
      | normal => exact absurd rfl he
      | exit i => rfl
      | ret => rfl
    | succ d ih =>
      intro j hj k sl0
      have hj' : j < xs.length := by omega
      rw [List.drop_eq_getElem_cons hj']
      obtain ⟨sl1, q⟩ := h j _ (by omega) (List.getElem?_eq_getElem hj') sl0
      obtain ⟨sl2, q2⟩ := ih (j + 1) (by omega) (k + 1) sl1
      refine ⟨sl2, ?_⟩
      rw [rounds_cons, q]
      simp only [Option.bind_some, q2]
      rw [show k + 1 + d + 1 = k + (d + 1) + 1 by omega]
  obtain ⟨sl1, q⟩ := key m 0 (by omega) 0 (st.slots.map AV.froze)
  rw [List.drop_zero, ← hB, Nat.zero_add] at q
  have r := rng_out hg hi q hi2
  exact r
theorem clean_upP {keep post : List Nat} {id nb : Nat} {b : VCode} (n : Nat) (P : Nat → Prop) (S : Nat → St) (R : Nat → Option (Ex × St)) {st : St} (h : st.head keep st.boxes.length = some (S 0)) (hP : P 0) (hS : ∀ i, (S i).boxes.length = nb) (hh : ∀ i, (S i).head keep nb = some (S i))
    (step : ∀ i rb, i < n → P i → (P (i + 1) → ∀ s, s.head keep nb = some (S (i + 1)) → tailOf env id post nb (den env rb s) = R (i + 1)) → tailOf env id post nb ((den env b (S i)).bind (next env rb)) = R i)
    (last : ∀ rb, P n → tailOf env id post nb ((den env b (S n)).bind (next env rb)) = R n) :
    den env (.clean keep post (.block id (.loop keep b))) st = R 0 := by
  refine clean_rec S R (fun i => i ≤ n ∧ P i) (fun i => n - i) 0 h ⟨Nat.zero_le _, hP⟩ hS hh fun i rb hi ih => ?_
  by_cases hn : i = n
  · subst hn; exact last rb hi.2
  · exact step i rb (by omega) hi.2 fun hp s hs => ih (i + 1) (by omega) ⟨by omega, hp⟩ s hs
noncomputable def rassign (env : Env) (body : VCode) (nb : Nat) : Ex × St → Option (Ex × St)
  | (.normal, st) => (den env body st).bind fun p => match p with
    | (.normal, st) => if nb ≤ st.boxes.length then some (.normal, { st with boxes := st.boxes.take nb }) else none
    | p => some p
  | _ => none
def rend (nb : Nat) : Ex × St → Option (Ex × St)
  | (.normal, st) => if nb ≤ st.boxes.length then some (.normal, { st with boxes := st.boxes.take nb }) else none
  | p => some p
theorem round1_eq (slots : List AV) (ps : List Nat) (assign body : VCode) (nb : Nat) (x : List PV) (st : St) : round1 env slots ps assign body nb x st = (setParams slots ps x).bind fun sl => (den env assign { st with slots := sl }).bind (rassign env body nb) := by
  unfold round1
  rfl
theorem rassign_normal (body : VCode) (nb : Nat) (st : St) : rassign env body nb (.normal, st) = (den env body st).bind (rend nb) := by
  rfl
theorem rend_normal (nb : Nat) (st : St) : rend nb (.normal, st) = if nb ≤ st.boxes.length then some (.normal, { st with boxes := st.boxes.take nb }) else none := (rfl)
theorem rend_exit (nb i : Nat) (st : St) : rend nb (.exit i, st) = some (.exit i, st) := (rfl)
theorem rend_ret (nb : Nat) (st : St) : rend nb (.ret, st) = some (.ret, st) := (rfl)
theorem setP_nil (slots : List AV) : setParams slots [] [] = some slots := (rfl)
theorem setP_cons (slots : List AV) (p : Nat) (ps : List Nat) (v : PV) (vs : List PV) : setParams slots (p :: ps) (v :: vs) = setParams (slots.set p (.pv v)) ps vs := (rfl)
theorem froze_pv (v : PV) : AV.froze (.pv v) = .pv v := (rfl)
theorem froze_row (sz : Nat) (es : List PV) : AV.froze (.row sz es) = .pv (.list sz es) := (rfl)
theorem froze_any : AV.froze .any = .any := (rfl)
theorem froze_tup (l : List AV) : AV.froze (.tup l) = .any := (rfl)
theorem froze_ref (r : Root) (i j : Nat) : AV.froze (.ref r i j) = .any := (rfl)
theorem froze_pel (r : Root) (i j : Nat) : AV.froze (.pel r i j) = .any := (rfl)
theorem froze_pbox (i j : Nat) : AV.froze (.pbox i j) = .pbox i j := (rfl)
theorem froze_fn (f : Nat) (l : List AV) : AV.froze (.fn f l) = .fn f l := (rfl)
theorem froze_yld : AV.froze .yld = .yld := (rfl)
end
def vRng := And.intro @round1_eq (And.intro @rassign_normal (And.intro @rend_normal (And.intro @rend_exit (And.intro @rend_ret (And.intro @setP_nil (And.intro @setP_cons (And.intro @froze_pv (And.intro @froze_row (And.intro @froze_any (And.intro @froze_tup (And.intro @froze_ref (And.intro @froze_pel (And.intro @froze_pbox (And.intro @froze_fn (And.intro @froze_yld (And.intro @yfin_normal @yfin_ret))))))))))))))))
end Go.Proofs.Ytldnpgbacakfeaa
