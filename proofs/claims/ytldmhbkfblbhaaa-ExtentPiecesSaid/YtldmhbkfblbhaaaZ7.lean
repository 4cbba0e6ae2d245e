/-
  Part 7 of the texts that the statement stands on.
-/
import Derived.Test.YtldmhbkfblbhaaaZ6
set_option linter.all false
namespace Go.Proofs.Ytldmhbkfblbhaaa.V
set_option linter.all false
def nrmE : List Exn → Int
  | [] => 0
  | e :: l => if e.count < 0 then 1 else if 0 < e.count ∧ (e.start < 0 ∨ e.count > 4096 - e.start) then 2 else nrmE l
def nrmOut (l : List Exn) : List Exn := if nrmE l = 0 then orS l else []
set_option maxRecDepth 20000 in
theorem loop16 {l : List Exn} (ho : okEs l) (hl : l.length ≤ 10000) {st : St} (h : st.head [0, 6, 7, 8] st.boxes.length = some ⟨sl 34 [(0, .pv (.list 2 (l.map eExt))), (6, .pv (.list 2 (l.map eExt))), (7, .pv (.int .i64 l.length)), (8, .pv (.int .i64 (0 : Nat)))], [], [], none⟩) :
   den env fn16_l1 st = if nrmE (l.drop ((0 : Nat))) = 0 then some (.normal, ⟨sl 34 [(0, .pv (.list 2 (l.map eExt))), (2, .any), (3, .any)], [], [], none⟩) else some (.ret, ⟨sl 34 [(0, .pv (.list 2 (l.map eExt))), (2, .row 2 []), (3, .pv (.int .i64 (nrmE (l.drop ((0 : Nat))))))], [], [], none⟩) := by
  unfold fn16_l1
  refine clean_up (env := env) (l.length) (fun i => ⟨sl 34 [(0, .pv (.list 2 (l.map eExt))), (6, .pv (.list 2 (l.map eExt))), (7, .pv (.int .i64 l.length)), (8, .pv (.int .i64 i))], [], [], none⟩) (fun i => if nrmE (l.drop (i)) = 0 then some (.normal, ⟨sl 34 [(0, .pv (.list 2 (l.map eExt))), (2, .any), (3, .any)], [], [], none⟩) else some (.ret, ⟨sl 34 [(0, .pv (.list 2 (l.map eExt))), (2, .row 2 []), (3, .pv (.int .i64 (nrmE (l.drop (i)))))], [], [], none⟩)) h (fun _ => rfl) (fun _ => by simp only [slAll, Nat.reduceMul, Nat.reduceBEq, Nat.reduceLT, Nat.reduceLeDiff, Nat.zero_le, List.take_zero, List.take_nil, List.take_succ_cons, List.length_cons, List.length_nil, Nat.le_refl, Nat.reduceAdd, decide_true, Bool.and_self, Bool.true_and]) ?_ ?_
  · intro i rb hi ih

    have hlim : lim = 1073741824 := rfl
    have hi1 := i64_next hi (by omega)
    have F1 : ((i : Int) < (l.length : Int)) = True := eq_true (by omega)
    have hx : l[i]? = some l[i] := List.getElem?_eq_getElem hi
    obtain ⟨⟨o1, o2⟩, o3, o4⟩ := ho _ (List.getElem_mem hi)
    rw [List.drop_eq_getElem_cons hi]
    generalize l[i] = x at *
    have P2 : part [PV.int .i64 x.start, .int .i64 x.count] 0 (some 2) = some (.agg [.int .i64 x.start, .int .i64 x.count]) := rfl
    have ch : nrmE (x :: l.drop (i + 1)) = if x.count < 0 then 1 else if 0 < x.count ∧ (x.start < 0 ∨ x.count > 4096 - x.start) then 2 else nrmE (l.drop (i + 1)) := rfl
    by_cases c1 : x.count < 0
    · have hv : nrmE (x :: l.drop (i + 1)) = 1 := by rw [ch, if_pos c1]
      rw [hv]
      simp only [fn16_b0, F1, hx, eExt, P2, c1, index_nat hi, List.getElem?_map, Option.map_some, List.length_map, slAll, Nat.reduceMul, Nat.reduceBEq, Nat.reduceLT, Nat.reduceLeDiff, Nat.zero_le, List.take_zero, List.take_nil, List.take_succ_cons, List.length_cons, List.length_nil, Nat.le_refl, List.isEmpty_nil, val_pvs, frozen_pvs, msnoc_len, msnoc_get, msnoc_set, msnoc_take, Int.le_refl, take_map_all, Nat.le_refl, St.freezeRows, BV.frozen, List.take_length, List.take_append_drop, z_repl_zero, Int.toNat_zero, true_and, and_true, and_self, eq_self, z_take_zero, List.drop_nil, List.take_nil, vAll, List.foldl_nil, List.foldl_cons, resultsOf, resultList, resultOf, zBV, splice, PV.remade, St.freezeAt, St.freezeBox, St.freezeCap, PV.single, plain, act, dstOf, if_true, if_false, reduceCtorEq, St.get, St.put, St.pvOf, St.putRow, St.consume, St.freeze, St.row, St.elems, St.grab, St.takeRow, St.setRow, St.place, St.optPv, St.setCell, St.setCellRow, binPV, intBin, unPV, BV.val, Nat.reduceEqDiff, bound, consumeAll, buildParts, capsOf, capOf, List.append_nil, Nat.reduceAdd, Nat.reduceLT, Nat.reduceLeDiff, beq_self_eq_true, List.length_map, Nat.beq, dcall, dcallP, List.mapM_cons, St.snapFn, St.snap, St.layAll, St.lay, St.freezeArg, St.freezeArg1]
      rfl
    · by_cases c2 : x.count > 0
      · have c2' : (x.count > 0) = True := eq_true c2
        by_cases c3 : x.start < 0
        · have hv : nrmE (x :: l.drop (i + 1)) = 2 := by rw [ch, if_neg c1, if_pos ⟨c2, .inl c3⟩]
          rw [hv]
          simp only [fn16_b0, F1, hx, eExt, P2, c1, c2', c3, index_nat hi, List.getElem?_map, Option.map_some, List.length_map, slAll, Nat.reduceMul, Nat.reduceBEq, Nat.reduceLT, Nat.reduceLeDiff, Nat.zero_le, List.take_zero, List.take_nil, List.take_succ_cons, List.length_cons, List.length_nil, Nat.le_refl, List.isEmpty_nil, val_pvs, frozen_pvs, msnoc_len, msnoc_get, msnoc_set, msnoc_take, Int.le_refl, take_map_all, Nat.le_refl, St.freezeRows, BV.frozen, List.take_length, List.take_append_drop, z_repl_zero, Int.toNat_zero, true_and, and_true, and_self, eq_self, z_take_zero, List.drop_nil, List.take_nil, vAll, List.foldl_nil, List.foldl_cons, resultsOf, resultList, resultOf, zBV, splice, PV.remade, St.freezeAt, St.freezeBox, St.freezeCap, PV.single, plain, act, dstOf, if_true, if_false, reduceCtorEq, St.get, St.put, St.pvOf, St.putRow, St.consume, St.freeze, St.row, St.elems, St.grab, St.takeRow, St.setRow, St.place, St.optPv, St.setCell, St.setCellRow, binPV, intBin, unPV, BV.val, Nat.reduceEqDiff, bound, consumeAll, buildParts, capsOf, capOf, List.append_nil, Nat.reduceAdd, Nat.reduceLT, Nat.reduceLeDiff, beq_self_eq_true, List.length_map, Nat.beq, dcall, dcallP, List.mapM_cons, St.snapFn, St.snap, St.layAll, St.lay, St.freezeArg, St.freezeArg1]
          rfl
        · have W1 : IntKind.i64.wrap (4096 - x.start) = 4096 - x.start := i64_fits (by omega)
          by_cases c4 : x.count > 4096 - x.start
          · have c4' : (x.count > 4096 - x.start) = True := eq_true c4
            have hv : nrmE (x :: l.drop (i + 1)) = 2 := by rw [ch, if_neg c1, if_pos ⟨c2, .inr c4⟩]
            rw [hv]
            simp only [fn16_b0, F1, hx, eExt, P2, c1, c2', c3, c4', W1, index_nat hi, List.getElem?_map, Option.map_some, List.length_map, slAll, Nat.reduceMul, Nat.reduceBEq, Nat.reduceLT, Nat.reduceLeDiff, Nat.zero_le, List.take_zero, List.take_nil, List.take_succ_cons, List.length_cons, List.length_nil, Nat.le_refl, List.isEmpty_nil, val_pvs, frozen_pvs, msnoc_len, msnoc_get, msnoc_set, msnoc_take, Int.le_refl, take_map_all, Nat.le_refl, St.freezeRows, BV.frozen, List.take_length, List.take_append_drop, z_repl_zero, Int.toNat_zero, true_and, and_true, and_self, eq_self, z_take_zero, List.drop_nil, List.take_nil, vAll, List.foldl_nil, List.foldl_cons, resultsOf, resultList, resultOf, zBV, splice, PV.remade, St.freezeAt, St.freezeBox, St.freezeCap, PV.single, plain, act, dstOf, if_true, if_false, reduceCtorEq, St.get, St.put, St.pvOf, St.putRow, St.consume, St.freeze, St.row, St.elems, St.grab, St.takeRow, St.setRow, St.place, St.optPv, St.setCell, St.setCellRow, binPV, intBin, unPV, BV.val, Nat.reduceEqDiff, bound, consumeAll, buildParts, capsOf, capOf, List.append_nil, Nat.reduceAdd, Nat.reduceLT, Nat.reduceLeDiff, beq_self_eq_true, List.length_map, Nat.beq, dcall, dcallP, List.mapM_cons, St.snapFn, St.snap, St.layAll, St.lay, St.freezeArg, St.freezeArg1]
            rfl
          · have c4' : (x.count > 4096 - x.start) = False := eq_false c4
            have hv : nrmE (x :: l.drop (i + 1)) = nrmE (l.drop (i + 1)) := by rw [ch, if_neg c1, if_neg (by omega)]
            rw [hv]
            simp only [fn16_b0, F1, hx, eExt, P2, c1, c2', c3, c4', W1, index_nat hi, List.getElem?_map, Option.map_some, List.length_map, slAll, Nat.reduceMul, Nat.reduceBEq, Nat.reduceLT, Nat.reduceLeDiff, Nat.zero_le, List.take_zero, List.take_nil, List.take_succ_cons, List.length_cons, List.length_nil, Nat.le_refl, List.isEmpty_nil, val_pvs, frozen_pvs, msnoc_len, msnoc_get, msnoc_set, msnoc_take, Int.le_refl, take_map_all, Nat.le_refl, St.freezeRows, BV.frozen, List.take_length, List.take_append_drop, z_repl_zero, Int.toNat_zero, true_and, and_true, and_self, eq_self, z_take_zero, List.drop_nil, List.take_nil, vAll, List.foldl_nil, List.foldl_cons, resultsOf, resultList, resultOf, zBV, splice, PV.remade, St.freezeAt, St.freezeBox, St.freezeCap, PV.single, plain, act, dstOf, if_true, if_false, reduceCtorEq, St.get, St.put, St.pvOf, St.putRow, St.consume, St.freeze, St.row, St.elems, St.grab, St.takeRow, St.setRow, St.place, St.optPv, St.setCell, St.setCellRow, binPV, intBin, unPV, BV.val, Nat.reduceEqDiff, bound, consumeAll, buildParts, capsOf, capOf, List.append_nil, Nat.reduceAdd, Nat.reduceLT, Nat.reduceLeDiff, beq_self_eq_true, List.length_map, Nat.beq, dcall, dcallP, List.mapM_cons, St.snapFn, St.snap, St.layAll, St.lay, St.freezeArg, St.freezeArg1]
            rw [ih _ (by simp only [hi1, slAll, Nat.reduceMul, Nat.reduceBEq, Nat.reduceLT, Nat.reduceLeDiff, Nat.zero_le, List.take_zero, List.take_nil, List.take_succ_cons, List.length_cons, List.length_nil, Nat.le_refl, List.isEmpty_nil, val_pvs, frozen_pvs, msnoc_len, msnoc_get, msnoc_set, msnoc_take, Int.le_refl, take_map_all, Nat.le_refl, St.freezeRows, BV.frozen, List.take_length, List.take_append_drop, z_repl_zero, Int.toNat_zero, true_and, and_true, and_self, eq_self, z_take_zero, List.drop_nil, List.take_nil, vAll, List.foldl_nil, List.foldl_cons, resultsOf, resultList, resultOf, zBV, splice, PV.remade, St.freezeAt, St.freezeBox, St.freezeCap, PV.single, plain, act, dstOf, if_true, if_false, reduceCtorEq, St.get, St.put, St.pvOf, St.putRow, St.consume, St.freeze, St.row, St.elems, St.grab, St.takeRow, St.setRow, St.place, St.optPv, St.setCell, St.setCellRow, binPV, intBin, unPV, BV.val, Nat.reduceEqDiff, bound, consumeAll, buildParts, capsOf, capOf, List.append_nil, Nat.reduceAdd, Nat.reduceLT, Nat.reduceLeDiff, beq_self_eq_true, List.length_map, Nat.beq, dcall, dcallP, List.mapM_cons, St.snapFn, St.snap, St.layAll, St.lay, St.freezeArg, St.freezeArg1] <;> rfl)]
      · have c2' : (x.count > 0) = False := eq_false c2
        have hv : nrmE (x :: l.drop (i + 1)) = nrmE (l.drop (i + 1)) := by rw [ch, if_neg c1, if_neg (by omega)]
        rw [hv]
        simp only [fn16_b0, F1, hx, eExt, P2, c1, c2', index_nat hi, List.getElem?_map, Option.map_some, List.length_map, slAll, Nat.reduceMul, Nat.reduceBEq, Nat.reduceLT, Nat.reduceLeDiff, Nat.zero_le, List.take_zero, List.take_nil, List.take_succ_cons, List.length_cons, List.length_nil, Nat.le_refl, List.isEmpty_nil, val_pvs, frozen_pvs, msnoc_len, msnoc_get, msnoc_set, msnoc_take, Int.le_refl, take_map_all, Nat.le_refl, St.freezeRows, BV.frozen, List.take_length, List.take_append_drop, z_repl_zero, Int.toNat_zero, true_and, and_true, and_self, eq_self, z_take_zero, List.drop_nil, List.take_nil, vAll, List.foldl_nil, List.foldl_cons, resultsOf, resultList, resultOf, zBV, splice, PV.remade, St.freezeAt, St.freezeBox, St.freezeCap, PV.single, plain, act, dstOf, if_true, if_false, reduceCtorEq, St.get, St.put, St.pvOf, St.putRow, St.consume, St.freeze, St.row, St.elems, St.grab, St.takeRow, St.setRow, St.place, St.optPv, St.setCell, St.setCellRow, binPV, intBin, unPV, BV.val, Nat.reduceEqDiff, bound, consumeAll, buildParts, capsOf, capOf, List.append_nil, Nat.reduceAdd, Nat.reduceLT, Nat.reduceLeDiff, beq_self_eq_true, List.length_map, Nat.beq, dcall, dcallP, List.mapM_cons, St.snapFn, St.snap, St.layAll, St.lay, St.freezeArg, St.freezeArg1]
        rw [ih _ (by simp only [hi1, slAll, Nat.reduceMul, Nat.reduceBEq, Nat.reduceLT, Nat.reduceLeDiff, Nat.zero_le, List.take_zero, List.take_nil, List.take_succ_cons, List.length_cons, List.length_nil, Nat.le_refl, List.isEmpty_nil, val_pvs, frozen_pvs, msnoc_len, msnoc_get, msnoc_set, msnoc_take, Int.le_refl, take_map_all, Nat.le_refl, St.freezeRows, BV.frozen, List.take_length, List.take_append_drop, z_repl_zero, Int.toNat_zero, true_and, and_true, and_self, eq_self, z_take_zero, List.drop_nil, List.take_nil, vAll, List.foldl_nil, List.foldl_cons, resultsOf, resultList, resultOf, zBV, splice, PV.remade, St.freezeAt, St.freezeBox, St.freezeCap, PV.single, plain, act, dstOf, if_true, if_false, reduceCtorEq, St.get, St.put, St.pvOf, St.putRow, St.consume, St.freeze, St.row, St.elems, St.grab, St.takeRow, St.setRow, St.place, St.optPv, St.setCell, St.setCellRow, binPV, intBin, unPV, BV.val, Nat.reduceEqDiff, bound, consumeAll, buildParts, capsOf, capOf, List.append_nil, Nat.reduceAdd, Nat.reduceLT, Nat.reduceLeDiff, beq_self_eq_true, List.length_map, Nat.beq, dcall, dcallP, List.mapM_cons, St.snapFn, St.snap, St.layAll, St.lay, St.freezeArg, St.freezeArg1] <;> rfl)]
  · intro rb

    simp only [fn16_b0, Int.lt_irrefl, List.length_map, List.drop_length, nrmE, if_true, slAll, Nat.reduceMul, Nat.reduceBEq, Nat.reduceLT, Nat.reduceLeDiff, Nat.zero_le, List.take_zero, List.take_nil, List.take_succ_cons, List.length_cons, List.length_nil, Nat.le_refl, List.isEmpty_nil, val_pvs, frozen_pvs, msnoc_len, msnoc_get, msnoc_set, msnoc_take, Int.le_refl, take_map_all, Nat.le_refl, St.freezeRows, BV.frozen, List.take_length, List.take_append_drop, z_repl_zero, Int.toNat_zero, true_and, and_true, and_self, eq_self, z_take_zero, List.drop_nil, List.take_nil, vAll, List.foldl_nil, List.foldl_cons, resultsOf, resultList, resultOf, zBV, splice, PV.remade, St.freezeAt, St.freezeBox, St.freezeCap, PV.single, plain, act, dstOf, if_true, if_false, reduceCtorEq, St.get, St.put, St.pvOf, St.putRow, St.consume, St.freeze, St.row, St.elems, St.grab, St.takeRow, St.setRow, St.place, St.optPv, St.setCell, St.setCellRow, binPV, intBin, unPV, BV.val, Nat.reduceEqDiff, bound, consumeAll, buildParts, capsOf, capOf, List.append_nil, Nat.reduceAdd, Nat.reduceLT, Nat.reduceLeDiff, beq_self_eq_true, List.length_map, Nat.beq, dcall, dcallP, List.mapM_cons, St.snapFn, St.snap, St.layAll, St.lay, St.freezeArg, St.freezeArg1]

theorem cal16 {l : List Exn} (ho : okEs l) (hl : l.length ≤ 10000) : cal env 16 [.list 2 (l.map eExt)] = some [(.list 2 ((nrmOut l).map eExt), true), (.int .i64 (nrmE l), false)] := by
  have e1 := cal25 ho okEs_nil hl (by simp)
  simp only [List.map_nil] at e1
  unfold nrmOut
  rw [cal_code env16 rfl]; simp only [fn16, slAll, Nat.reduceBEq, Nat.reduceLeDiff, Nat.reduceAdd, List.length_cons, List.length_nil]
  simp only [e1, List.length_map, slAll, Nat.reduceMul, Nat.reduceBEq, Nat.reduceLT, Nat.reduceLeDiff, Nat.zero_le, List.take_zero, List.take_nil, List.take_succ_cons, List.length_cons, List.length_nil, Nat.le_refl, List.isEmpty_nil, val_pvs, frozen_pvs, msnoc_len, msnoc_get, msnoc_set, msnoc_take, Int.le_refl, take_map_all, Nat.le_refl, St.freezeRows, BV.frozen, List.take_length, List.take_append_drop, z_repl_zero, Int.toNat_zero, true_and, and_true, and_self, eq_self, z_take_zero, List.drop_nil, List.take_nil, vAll, List.foldl_nil, List.foldl_cons, resultsOf, resultList, resultOf, zBV, splice, PV.remade, St.freezeAt, St.freezeBox, St.freezeCap, PV.single, plain, act, dstOf, if_true, if_false, reduceCtorEq, St.get, St.put, St.pvOf, St.putRow, St.consume, St.freeze, St.row, St.elems, St.grab, St.takeRow, St.setRow, St.place, St.optPv, St.setCell, St.setCellRow, binPV, intBin, unPV, BV.val, Nat.reduceEqDiff, bound, consumeAll, buildParts, capsOf, capOf, List.append_nil, Nat.reduceAdd, Nat.reduceLT, Nat.reduceLeDiff, beq_self_eq_true, List.length_map, Nat.beq, dcall, dcallP, List.mapM_cons, St.snapFn, St.snap, St.layAll, St.lay, St.freezeArg, St.freezeArg1]
  rw [loop16 ho hl (by simp only [slAll, Nat.reduceMul, Nat.reduceBEq, Nat.reduceLT, Nat.reduceLeDiff, Nat.zero_le, List.take_zero, List.take_nil, List.take_succ_cons, List.length_cons, List.length_nil, Nat.le_refl, List.isEmpty_nil, val_pvs, frozen_pvs, msnoc_len, msnoc_get, msnoc_set, msnoc_take, Int.le_refl, take_map_all, Nat.le_refl, St.freezeRows, BV.frozen, List.take_length, List.take_append_drop, z_repl_zero, Int.toNat_zero, true_and, and_true, and_self, eq_self, z_take_zero, List.drop_nil, List.take_nil, vAll, List.foldl_nil, List.foldl_cons, resultsOf, resultList, resultOf, zBV, splice, PV.remade, St.freezeAt, St.freezeBox, St.freezeCap, PV.single, plain, act, dstOf, if_true, if_false, reduceCtorEq, St.get, St.put, St.pvOf, St.putRow, St.consume, St.freeze, St.row, St.elems, St.grab, St.takeRow, St.setRow, St.place, St.optPv, St.setCell, St.setCellRow, binPV, intBin, unPV, BV.val, Nat.reduceEqDiff, bound, consumeAll, buildParts, capsOf, capOf, List.append_nil, Nat.reduceAdd, Nat.reduceLT, Nat.reduceLeDiff, beq_self_eq_true, List.length_map, Nat.beq, dcall, dcallP, List.mapM_cons, St.snapFn, St.snap, St.layAll, St.lay, St.freezeArg, St.freezeArg1] <;> rfl), List.drop_zero]
  split
  · rename_i h
    rw [h]
    simp only [e1, List.length_map, slAll, Nat.reduceMul, Nat.reduceBEq, Nat.reduceLT, Nat.reduceLeDiff, Nat.zero_le, List.take_zero, List.take_nil, List.take_succ_cons, List.length_cons, List.length_nil, Nat.le_refl, List.isEmpty_nil, val_pvs, frozen_pvs, msnoc_len, msnoc_get, msnoc_set, msnoc_take, Int.le_refl, take_map_all, Nat.le_refl, St.freezeRows, BV.frozen, List.take_length, List.take_append_drop, z_repl_zero, Int.toNat_zero, true_and, and_true, and_self, eq_self, z_take_zero, List.drop_nil, List.take_nil, vAll, List.foldl_nil, List.foldl_cons, resultsOf, resultList, resultOf, zBV, splice, PV.remade, St.freezeAt, St.freezeBox, St.freezeCap, PV.single, plain, act, dstOf, if_true, if_false, reduceCtorEq, St.get, St.put, St.pvOf, St.putRow, St.consume, St.freeze, St.row, St.elems, St.grab, St.takeRow, St.setRow, St.place, St.optPv, St.setCell, St.setCellRow, binPV, intBin, unPV, BV.val, Nat.reduceEqDiff, bound, consumeAll, buildParts, capsOf, capOf, List.append_nil, Nat.reduceAdd, Nat.reduceLT, Nat.reduceLeDiff, beq_self_eq_true, List.length_map, Nat.beq, dcall, dcallP, List.mapM_cons, St.snapFn, St.snap, St.layAll, St.lay, St.freezeArg, St.freezeArg1]
    try rfl
  · rename_i h
    simp only [e1, List.length_map, slAll, Nat.reduceMul, Nat.reduceBEq, Nat.reduceLT, Nat.reduceLeDiff, Nat.zero_le, List.take_zero, List.take_nil, List.take_succ_cons, List.length_cons, List.length_nil, Nat.le_refl, List.isEmpty_nil, val_pvs, frozen_pvs, msnoc_len, msnoc_get, msnoc_set, msnoc_take, Int.le_refl, take_map_all, Nat.le_refl, St.freezeRows, BV.frozen, List.take_length, List.take_append_drop, z_repl_zero, Int.toNat_zero, true_and, and_true, and_self, eq_self, z_take_zero, List.drop_nil, List.take_nil, vAll, List.foldl_nil, List.foldl_cons, resultsOf, resultList, resultOf, zBV, splice, PV.remade, St.freezeAt, St.freezeBox, St.freezeCap, PV.single, plain, act, dstOf, if_true, if_false, reduceCtorEq, St.get, St.put, St.pvOf, St.putRow, St.consume, St.freeze, St.row, St.elems, St.grab, St.takeRow, St.setRow, St.place, St.optPv, St.setCell, St.setCellRow, binPV, intBin, unPV, BV.val, Nat.reduceEqDiff, bound, consumeAll, buildParts, capsOf, capOf, List.append_nil, Nat.reduceAdd, Nat.reduceLT, Nat.reduceLeDiff, beq_self_eq_true, List.length_map, Nat.beq, dcall, dcallP, List.mapM_cons, St.snapFn, St.snap, St.layAll, St.lay, St.freezeArg, St.freezeArg1]
    try rfl
set_option maxRecDepth 20000 in
theorem loop17 {l : List Exn} (ho : okEs l) (hl : l.length ≤ 10000) {st : St} (h : st.head [0, 4] st.boxes.length = some ⟨sl 34 [(0, .pv (.list 2 (l.map eExt))), (4, .pv (.int .i64 (0 : Nat)))], [], [], none⟩) :
   den env fn17_l1 st = if nrmE (l.drop ((0 : Nat))) = 0 then some (.normal, ⟨sl 34 [(0, .pv (.list 2 (l.map eExt))), (2, .any), (3, .any)], [], [], none⟩) else some (.ret, ⟨sl 34 [(0, .pv (.list 2 (l.map eExt))), (2, .row 2 []), (3, .pv (.int .i64 (nrmE (l.drop ((0 : Nat))))))], [], [], none⟩) := by
  unfold fn17_l1
  refine clean_up (env := env) (l.length) (fun i => ⟨sl 34 [(0, .pv (.list 2 (l.map eExt))), (4, .pv (.int .i64 i))], [], [], none⟩) (fun i => if nrmE (l.drop (i)) = 0 then some (.normal, ⟨sl 34 [(0, .pv (.list 2 (l.map eExt))), (2, .any), (3, .any)], [], [], none⟩) else some (.ret, ⟨sl 34 [(0, .pv (.list 2 (l.map eExt))), (2, .row 2 []), (3, .pv (.int .i64 (nrmE (l.drop (i)))))], [], [], none⟩)) h (fun _ => rfl) (fun _ => by simp only [slAll, Nat.reduceMul, Nat.reduceBEq, Nat.reduceLT, Nat.reduceLeDiff, Nat.zero_le, List.take_zero, List.take_nil, List.take_succ_cons, List.length_cons, List.length_nil, Nat.le_refl, Nat.reduceAdd, decide_true, Bool.and_self, Bool.true_and]) ?_ ?_
  · intro i rb hi ih

    have hlim : lim = 1073741824 := rfl
    have hi1 := i64_next hi (by omega)
    have F1 : ((i : Int) < (l.length : Int)) = True := eq_true (by omega)
    have hx : l[i]? = some l[i] := List.getElem?_eq_getElem hi
    have hox := ho _ (List.getElem_mem hi)
    rw [List.drop_eq_getElem_cons hi]
    generalize l[i] = x at *
    have P2 : part [PV.int .i64 x.start, .int .i64 x.count] 0 (some 2) = some (.agg [.int .i64 x.start, .int .i64 x.count]) := rfl
    have ch : nrmE (x :: l.drop (i + 1)) = if x.count < 0 then 1 else if 0 < x.count ∧ (x.start < 0 ∨ x.count > 4096 - x.start) then 2 else nrmE (l.drop (i + 1)) := rfl
    by_cases c1 : x.count < 0
    · have hv : nrmE (x :: l.drop (i + 1)) = 1 := by rw [ch, if_pos c1]
      rw [hv]
      simp only [fn17_b0, F1, hx, eExt, P2, c1, index_nat hi, List.getElem?_map, Option.map_some, List.length_map, slAll, Nat.reduceMul, Nat.reduceBEq, Nat.reduceLT, Nat.reduceLeDiff, Nat.zero_le, List.take_zero, List.take_nil, List.take_succ_cons, List.length_cons, List.length_nil, Nat.le_refl, List.isEmpty_nil, val_pvs, frozen_pvs, msnoc_len, msnoc_get, msnoc_set, msnoc_take, Int.le_refl, take_map_all, Nat.le_refl, St.freezeRows, BV.frozen, List.take_length, List.take_append_drop, z_repl_zero, Int.toNat_zero, true_and, and_true, and_self, eq_self, z_take_zero, List.drop_nil, List.take_nil, vAll, List.foldl_nil, List.foldl_cons, resultsOf, resultList, resultOf, zBV, splice, PV.remade, St.freezeAt, St.freezeBox, St.freezeCap, PV.single, plain, act, dstOf, if_true, if_false, reduceCtorEq, St.get, St.put, St.pvOf, St.putRow, St.consume, St.freeze, St.row, St.elems, St.grab, St.takeRow, St.setRow, St.place, St.optPv, St.setCell, St.setCellRow, binPV, intBin, unPV, BV.val, Nat.reduceEqDiff, bound, consumeAll, buildParts, capsOf, capOf, List.append_nil, Nat.reduceAdd, Nat.reduceLT, Nat.reduceLeDiff, beq_self_eq_true, List.length_map, Nat.beq, dcall, dcallP, List.mapM_cons, St.snapFn, St.snap, St.layAll, St.lay, St.freezeArg, St.freezeArg1]
      rfl
    · by_cases c2 : x.count > 0
      · have c2' : (x.count > 0) = True := eq_true c2
        have e1 := cal34 (e := x) (size := 4096) hox (by omega) c2
        simp only [eExt] at e1
        by_cases c3 : x.start < 0 ∨ x.count > 4096 - x.start
        · have hv : nrmE (x :: l.drop (i + 1)) = 2 := by rw [ch, if_neg c1, if_pos ⟨c2, c3⟩]
          rw [hv]
          rw [decide_eq_true c3] at e1
          simp only [fn17_b0, F1, hx, eExt, P2, c1, c2', e1, index_nat hi, List.getElem?_map, Option.map_some, List.length_map, slAll, Nat.reduceMul, Nat.reduceBEq, Nat.reduceLT, Nat.reduceLeDiff, Nat.zero_le, List.take_zero, List.take_nil, List.take_succ_cons, List.length_cons, List.length_nil, Nat.le_refl, List.isEmpty_nil, val_pvs, frozen_pvs, msnoc_len, msnoc_get, msnoc_set, msnoc_take, Int.le_refl, take_map_all, Nat.le_refl, St.freezeRows, BV.frozen, List.take_length, List.take_append_drop, z_repl_zero, Int.toNat_zero, true_and, and_true, and_self, eq_self, z_take_zero, List.drop_nil, List.take_nil, vAll, List.foldl_nil, List.foldl_cons, resultsOf, resultList, resultOf, zBV, splice, PV.remade, St.freezeAt, St.freezeBox, St.freezeCap, PV.single, plain, act, dstOf, if_true, if_false, reduceCtorEq, St.get, St.put, St.pvOf, St.putRow, St.consume, St.freeze, St.row, St.elems, St.grab, St.takeRow, St.setRow, St.place, St.optPv, St.setCell, St.setCellRow, binPV, intBin, unPV, BV.val, Nat.reduceEqDiff, bound, consumeAll, buildParts, capsOf, capOf, List.append_nil, Nat.reduceAdd, Nat.reduceLT, Nat.reduceLeDiff, beq_self_eq_true, List.length_map, Nat.beq, dcall, dcallP, List.mapM_cons, St.snapFn, St.snap, St.layAll, St.lay, St.freezeArg, St.freezeArg1]
          rfl
        · have hv : nrmE (x :: l.drop (i + 1)) = nrmE (l.drop (i + 1)) := by rw [ch, if_neg c1, if_neg (fun q => c3 q.2)]
          rw [hv]
          rw [decide_eq_false c3] at e1
          simp only [fn17_b0, F1, hx, eExt, P2, c1, c2', e1, index_nat hi, List.getElem?_map, Option.map_some, List.length_map, slAll, Nat.reduceMul, Nat.reduceBEq, Nat.reduceLT, Nat.reduceLeDiff, Nat.zero_le, List.take_zero, List.take_nil, List.take_succ_cons, List.length_cons, List.length_nil, Nat.le_refl, List.isEmpty_nil, val_pvs, frozen_pvs, msnoc_len, msnoc_get, msnoc_set, msnoc_take, Int.le_refl, take_map_all, Nat.le_refl, St.freezeRows, BV.frozen, List.take_length, List.take_append_drop, z_repl_zero, Int.toNat_zero, true_and, and_true, and_self, eq_self, z_take_zero, List.drop_nil, List.take_nil, vAll, List.foldl_nil, List.foldl_cons, resultsOf, resultList, resultOf, zBV, splice, PV.remade, St.freezeAt, St.freezeBox, St.freezeCap, PV.single, plain, act, dstOf, if_true, if_false, reduceCtorEq, St.get, St.put, St.pvOf, St.putRow, St.consume, St.freeze, St.row, St.elems, St.grab, St.takeRow, St.setRow, St.place, St.optPv, St.setCell, St.setCellRow, binPV, intBin, unPV, BV.val, Nat.reduceEqDiff, bound, consumeAll, buildParts, capsOf, capOf, List.append_nil, Nat.reduceAdd, Nat.reduceLT, Nat.reduceLeDiff, beq_self_eq_true, List.length_map, Nat.beq, dcall, dcallP, List.mapM_cons, St.snapFn, St.snap, St.layAll, St.lay, St.freezeArg, St.freezeArg1]
          rw [ih _ (by simp only [hi1, slAll, Nat.reduceMul, Nat.reduceBEq, Nat.reduceLT, Nat.reduceLeDiff, Nat.zero_le, List.take_zero, List.take_nil, List.take_succ_cons, List.length_cons, List.length_nil, Nat.le_refl, List.isEmpty_nil, val_pvs, frozen_pvs, msnoc_len, msnoc_get, msnoc_set, msnoc_take, Int.le_refl, take_map_all, Nat.le_refl, St.freezeRows, BV.frozen, List.take_length, List.take_append_drop, z_repl_zero, Int.toNat_zero, true_and, and_true, and_self, eq_self, z_take_zero, List.drop_nil, List.take_nil, vAll, List.foldl_nil, List.foldl_cons, resultsOf, resultList, resultOf, zBV, splice, PV.remade, St.freezeAt, St.freezeBox, St.freezeCap, PV.single, plain, act, dstOf, if_true, if_false, reduceCtorEq, St.get, St.put, St.pvOf, St.putRow, St.consume, St.freeze, St.row, St.elems, St.grab, St.takeRow, St.setRow, St.place, St.optPv, St.setCell, St.setCellRow, binPV, intBin, unPV, BV.val, Nat.reduceEqDiff, bound, consumeAll, buildParts, capsOf, capOf, List.append_nil, Nat.reduceAdd, Nat.reduceLT, Nat.reduceLeDiff, beq_self_eq_true, List.length_map, Nat.beq, dcall, dcallP, List.mapM_cons, St.snapFn, St.snap, St.layAll, St.lay, St.freezeArg, St.freezeArg1] <;> rfl)]
      · have c2' : (x.count > 0) = False := eq_false c2
        have hv : nrmE (x :: l.drop (i + 1)) = nrmE (l.drop (i + 1)) := by rw [ch, if_neg c1, if_neg (by omega)]
        rw [hv]
        simp only [fn17_b0, F1, hx, eExt, P2, c1, c2', index_nat hi, List.getElem?_map, Option.map_some, List.length_map, slAll, Nat.reduceMul, Nat.reduceBEq, Nat.reduceLT, Nat.reduceLeDiff, Nat.zero_le, List.take_zero, List.take_nil, List.take_succ_cons, List.length_cons, List.length_nil, Nat.le_refl, List.isEmpty_nil, val_pvs, frozen_pvs, msnoc_len, msnoc_get, msnoc_set, msnoc_take, Int.le_refl, take_map_all, Nat.le_refl, St.freezeRows, BV.frozen, List.take_length, List.take_append_drop, z_repl_zero, Int.toNat_zero, true_and, and_true, and_self, eq_self, z_take_zero, List.drop_nil, List.take_nil, vAll, List.foldl_nil, List.foldl_cons, resultsOf, resultList, resultOf, zBV, splice, PV.remade, St.freezeAt, St.freezeBox, St.freezeCap, PV.single, plain, act, dstOf, if_true, if_false, reduceCtorEq, St.get, St.put, St.pvOf, St.putRow, St.consume, St.freeze, St.row, St.elems, St.grab, St.takeRow, St.setRow, St.place, St.optPv, St.setCell, St.setCellRow, binPV, intBin, unPV, BV.val, Nat.reduceEqDiff, bound, consumeAll, buildParts, capsOf, capOf, List.append_nil, Nat.reduceAdd, Nat.reduceLT, Nat.reduceLeDiff, beq_self_eq_true, List.length_map, Nat.beq, dcall, dcallP, List.mapM_cons, St.snapFn, St.snap, St.layAll, St.lay, St.freezeArg, St.freezeArg1]
        rw [ih _ (by simp only [hi1, slAll, Nat.reduceMul, Nat.reduceBEq, Nat.reduceLT, Nat.reduceLeDiff, Nat.zero_le, List.take_zero, List.take_nil, List.take_succ_cons, List.length_cons, List.length_nil, Nat.le_refl, List.isEmpty_nil, val_pvs, frozen_pvs, msnoc_len, msnoc_get, msnoc_set, msnoc_take, Int.le_refl, take_map_all, Nat.le_refl, St.freezeRows, BV.frozen, List.take_length, List.take_append_drop, z_repl_zero, Int.toNat_zero, true_and, and_true, and_self, eq_self, z_take_zero, List.drop_nil, List.take_nil, vAll, List.foldl_nil, List.foldl_cons, resultsOf, resultList, resultOf, zBV, splice, PV.remade, St.freezeAt, St.freezeBox, St.freezeCap, PV.single, plain, act, dstOf, if_true, if_false, reduceCtorEq, St.get, St.put, St.pvOf, St.putRow, St.consume, St.freeze, St.row, St.elems, St.grab, St.takeRow, St.setRow, St.place, St.optPv, St.setCell, St.setCellRow, binPV, intBin, unPV, BV.val, Nat.reduceEqDiff, bound, consumeAll, buildParts, capsOf, capOf, List.append_nil, Nat.reduceAdd, Nat.reduceLT, Nat.reduceLeDiff, beq_self_eq_true, List.length_map, Nat.beq, dcall, dcallP, List.mapM_cons, St.snapFn, St.snap, St.layAll, St.lay, St.freezeArg, St.freezeArg1] <;> rfl)]
  · intro rb

    simp only [fn17_b0, Int.lt_irrefl, List.length_map, List.drop_length, nrmE, if_true, slAll, Nat.reduceMul, Nat.reduceBEq, Nat.reduceLT, Nat.reduceLeDiff, Nat.zero_le, List.take_zero, List.take_nil, List.take_succ_cons, List.length_cons, List.length_nil, Nat.le_refl, List.isEmpty_nil, val_pvs, frozen_pvs, msnoc_len, msnoc_get, msnoc_set, msnoc_take, Int.le_refl, take_map_all, Nat.le_refl, St.freezeRows, BV.frozen, List.take_length, List.take_append_drop, z_repl_zero, Int.toNat_zero, true_and, and_true, and_self, eq_self, z_take_zero, List.drop_nil, List.take_nil, vAll, List.foldl_nil, List.foldl_cons, resultsOf, resultList, resultOf, zBV, splice, PV.remade, St.freezeAt, St.freezeBox, St.freezeCap, PV.single, plain, act, dstOf, if_true, if_false, reduceCtorEq, St.get, St.put, St.pvOf, St.putRow, St.consume, St.freeze, St.row, St.elems, St.grab, St.takeRow, St.setRow, St.place, St.optPv, St.setCell, St.setCellRow, binPV, intBin, unPV, BV.val, Nat.reduceEqDiff, bound, consumeAll, buildParts, capsOf, capOf, List.append_nil, Nat.reduceAdd, Nat.reduceLT, Nat.reduceLeDiff, beq_self_eq_true, List.length_map, Nat.beq, dcall, dcallP, List.mapM_cons, St.snapFn, St.snap, St.layAll, St.lay, St.freezeArg, St.freezeArg1]

theorem orS_eq (l : List Exn) : orS l = ext (inS l) 4096 := by
  unfold orS setOf
  exact ext_congr fun s _ => by simp [orB, inS]
theorem cal17 {l : List Exn} (ho : okEs l) (hl : l.length ≤ 10000) : cal env 17 [.list 2 (l.map eExt)] = some [(.list 2 ((nrmOut l).map eExt), true), (.int .i64 (nrmE l), false)] := by
  have e1 := cal36 ho hl
  have e2 := calList (f := inS l)
  rw [← orS_eq] at e2
  unfold nrmOut
  rw [cal_code env17 rfl]; simp only [fn17, slAll, Nat.reduceBEq, Nat.reduceLeDiff, Nat.reduceAdd, List.length_cons, List.length_nil]
  simp only [e1, e2, List.length_map, slAll, Nat.reduceMul, Nat.reduceBEq, Nat.reduceLT, Nat.reduceLeDiff, Nat.zero_le, List.take_zero, List.take_nil, List.take_succ_cons, List.length_cons, List.length_nil, Nat.le_refl, List.isEmpty_nil, val_pvs, frozen_pvs, msnoc_len, msnoc_get, msnoc_set, msnoc_take, Int.le_refl, take_map_all, Nat.le_refl, St.freezeRows, BV.frozen, List.take_length, List.take_append_drop, z_repl_zero, Int.toNat_zero, true_and, and_true, and_self, eq_self, z_take_zero, List.drop_nil, List.take_nil, vAll, List.foldl_nil, List.foldl_cons, resultsOf, resultList, resultOf, zBV, splice, PV.remade, St.freezeAt, St.freezeBox, St.freezeCap, PV.single, plain, act, dstOf, if_true, if_false, reduceCtorEq, St.get, St.put, St.pvOf, St.putRow, St.consume, St.freeze, St.row, St.elems, St.grab, St.takeRow, St.setRow, St.place, St.optPv, St.setCell, St.setCellRow, binPV, intBin, unPV, BV.val, Nat.reduceEqDiff, bound, consumeAll, buildParts, capsOf, capOf, List.append_nil, Nat.reduceAdd, Nat.reduceLT, Nat.reduceLeDiff, beq_self_eq_true, List.length_map, Nat.beq, dcall, dcallP, List.mapM_cons, St.snapFn, St.snap, St.layAll, St.lay, St.freezeArg, St.freezeArg1]
  rw [loop17 ho hl (by simp only [slAll, Nat.reduceMul, Nat.reduceBEq, Nat.reduceLT, Nat.reduceLeDiff, Nat.zero_le, List.take_zero, List.take_nil, List.take_succ_cons, List.length_cons, List.length_nil, Nat.le_refl, List.isEmpty_nil, val_pvs, frozen_pvs, msnoc_len, msnoc_get, msnoc_set, msnoc_take, Int.le_refl, take_map_all, Nat.le_refl, St.freezeRows, BV.frozen, List.take_length, List.take_append_drop, z_repl_zero, Int.toNat_zero, true_and, and_true, and_self, eq_self, z_take_zero, List.drop_nil, List.take_nil, vAll, List.foldl_nil, List.foldl_cons, resultsOf, resultList, resultOf, zBV, splice, PV.remade, St.freezeAt, St.freezeBox, St.freezeCap, PV.single, plain, act, dstOf, if_true, if_false, reduceCtorEq, St.get, St.put, St.pvOf, St.putRow, St.consume, St.freeze, St.row, St.elems, St.grab, St.takeRow, St.setRow, St.place, St.optPv, St.setCell, St.setCellRow, binPV, intBin, unPV, BV.val, Nat.reduceEqDiff, bound, consumeAll, buildParts, capsOf, capOf, List.append_nil, Nat.reduceAdd, Nat.reduceLT, Nat.reduceLeDiff, beq_self_eq_true, List.length_map, Nat.beq, dcall, dcallP, List.mapM_cons, St.snapFn, St.snap, St.layAll, St.lay, St.freezeArg, St.freezeArg1] <;> rfl), List.drop_zero]
  split
  · rename_i h
    rw [h]
    simp only [e1, e2, List.length_map, slAll, Nat.reduceMul, Nat.reduceBEq, Nat.reduceLT, Nat.reduceLeDiff, Nat.zero_le, List.take_zero, List.take_nil, List.take_succ_cons, List.length_cons, List.length_nil, Nat.le_refl, List.isEmpty_nil, val_pvs, frozen_pvs, msnoc_len, msnoc_get, msnoc_set, msnoc_take, Int.le_refl, take_map_all, Nat.le_refl, St.freezeRows, BV.frozen, List.take_length, List.take_append_drop, z_repl_zero, Int.toNat_zero, true_and, and_true, and_self, eq_self, z_take_zero, List.drop_nil, List.take_nil, vAll, List.foldl_nil, List.foldl_cons, resultsOf, resultList, resultOf, zBV, splice, PV.remade, St.freezeAt, St.freezeBox, St.freezeCap, PV.single, plain, act, dstOf, if_true, if_false, reduceCtorEq, St.get, St.put, St.pvOf, St.putRow, St.consume, St.freeze, St.row, St.elems, St.grab, St.takeRow, St.setRow, St.place, St.optPv, St.setCell, St.setCellRow, binPV, intBin, unPV, BV.val, Nat.reduceEqDiff, bound, consumeAll, buildParts, capsOf, capOf, List.append_nil, Nat.reduceAdd, Nat.reduceLT, Nat.reduceLeDiff, beq_self_eq_true, List.length_map, Nat.beq, dcall, dcallP, List.mapM_cons, St.snapFn, St.snap, St.layAll, St.lay, St.freezeArg, St.freezeArg1]
    try rfl
  · rename_i h
    simp only [e1, e2, List.length_map, slAll, Nat.reduceMul, Nat.reduceBEq, Nat.reduceLT, Nat.reduceLeDiff, Nat.zero_le, List.take_zero, List.take_nil, List.take_succ_cons, List.length_cons, List.length_nil, Nat.le_refl, List.isEmpty_nil, val_pvs, frozen_pvs, msnoc_len, msnoc_get, msnoc_set, msnoc_take, Int.le_refl, take_map_all, Nat.le_refl, St.freezeRows, BV.frozen, List.take_length, List.take_append_drop, z_repl_zero, Int.toNat_zero, true_and, and_true, and_self, eq_self, z_take_zero, List.drop_nil, List.take_nil, vAll, List.foldl_nil, List.foldl_cons, resultsOf, resultList, resultOf, zBV, splice, PV.remade, St.freezeAt, St.freezeBox, St.freezeCap, PV.single, plain, act, dstOf, if_true, if_false, reduceCtorEq, St.get, St.put, St.pvOf, St.putRow, St.consume, St.freeze, St.row, St.elems, St.grab, St.takeRow, St.setRow, St.place, St.optPv, St.setCell, St.setCellRow, binPV, intBin, unPV, BV.val, Nat.reduceEqDiff, bound, consumeAll, buildParts, capsOf, capOf, List.append_nil, Nat.reduceAdd, Nat.reduceLT, Nat.reduceLeDiff, beq_self_eq_true, List.length_map, Nat.beq, dcall, dcallP, List.mapM_cons, St.snapFn, St.snap, St.layAll, St.lay, St.freezeArg, St.freezeArg1]
    try rfl
end Go.Proofs.Ytldmhbkfblbhaaa.V

namespace Go.Proofs.Ytldmhbkfblbhaaa.V
set_option linter.all false
def pcs (s m : Int) (q : Nat) : List Exn := (List.range q).map fun (i : Nat) => (⟨s + (i : Int) * m, m⟩ : Exn)
theorem pcs_succ (s m : Int) (q : Nat) : pcs s m (q + 1) = pcs s m q ++ [⟨s + (q : Int) * m, m⟩] := by
  unfold pcs
  rw [List.range_succ, List.map_append]; rfl
theorem pcs_len (s m : Int) (q : Nat) : (pcs s m q).length = q := by simp [pcs]
def qOf (c m : Int) : Nat := ((c - 1) / m).toNat
def splE (m : Int) (e : Exn) : List Exn := pcs e.start m (qOf e.count m) ++ [⟨e.start + (qOf e.count m : Int) * m, e.count - (qOf e.count m : Int) * m⟩]
def splX (l : List Exn) (m : Int) : List Exn := if m ≤ 0 then [] else (orS l).flatMap (splE m)
theorem qOf_ok {c m : Int} (hc : 1 ≤ c) (hm : 1 ≤ m) : (qOf c m : Int) * m < c ∧ c ≤ (qOf c m : Int) * m + m ∧ (qOf c m : Int) < c := by
  have h0 : (0 : Int) ≤ (c - 1) / m := Int.ediv_nonneg (by omega) (by omega)
  have hq : (qOf c m : Int) = (c - 1) / m := by unfold qOf; omega
  have h1 : (c - 1) / m * m ≤ c - 1 := Int.ediv_mul_le _ (by omega)
  have h2 := Int.lt_ediv_add_one_mul_self (c - 1) (show 0 < m by omega)
  rw [Int.add_mul, Int.one_mul] at h2
  have h3 : (c - 1) / m * 1 ≤ (c - 1) / m * m := Int.mul_le_mul_of_nonneg_left hm h0
  rw [hq]
  exact ⟨by omega, by omega, by omega⟩
theorem splE_len {e : Exn} {m : Int} (h : 1 ≤ e.count ∧ e.count ≤ 4096) (hm : 1 ≤ m) : (splE m e).length ≤ 4096 := by
  have := qOf_ok h.1 hm
  unfold splE
  rw [List.length_append, pcs_len, List.length_cons, List.length_nil]
  omega
theorem flat_len {m : Int} (hm : 1 ≤ m) : ∀ {l : List Exn}, (∀ x ∈ l, 0 ≤ x.start ∧ 1 ≤ x.count ∧ x.start + x.count ≤ (4096 : Int)) → (l.flatMap (splE m)).length ≤ 4096 * l.length
  | [], _ => by simp
  | x :: l, h => by
    have h1 := h x (by simp)
    have h2 := splE_len (e := x) (m := m) ⟨by omega, by omega⟩ hm
    have h3 := flat_len hm (l := l) fun y hy => h y (by simp [hy])
    rw [List.flatMap_cons, List.length_append, List.length_cons]
    omega
theorem step_le {m : Int} {i q : Nat} (hm : 1 ≤ m) (h : i < q) : ((i + 1 : Nat) : Int) * m = (i : Int) * m + m ∧ 0 ≤ (i : Int) * m ∧ (i : Int) * m + m ≤ (q : Int) * m := by
  have h1 : ((i + 1 : Nat) : Int) * m = (i : Int) * m + m := by
    rw [show ((i + 1 : Nat) : Int) = (i : Int) + 1 by omega, Int.add_mul, Int.one_mul]
  refine ⟨h1, Int.mul_nonneg (by omega) (by omega), ?_⟩
  rw [← h1]
  exact Int.mul_le_mul_of_nonneg_right (by omega) (by omega)
def pcq (s c m : Int) (q i : Nat) : List Exn := if i ≤ q then pcs s m i else pcs s m q ++ [⟨s + (q : Int) * m, c - (q : Int) * m⟩]
theorem pcq_len (s c m : Int) {q i : Nat} (h : i ≤ q) : (pcq s c m q i).length = i := by
  unfold pcq
  rw [if_pos h, pcs_len]
def bExn (a b : Int) : List BV := [.pv (.int .i64 a), .pv (.int .i64 b)]
set_option maxRecDepth 20000 in
theorem loop23 {s c m : Int} {q k : Nat} {U O : List Exn} (hs : 0 ≤ s) (hc : s + c ≤ 4096) (hm : 1 ≤ m ∧ m ≤ 9223372036854775807) (hq1 : (q : Int) * m < c) (hq2 : c ≤ (q : Int) * m + m) (hO : O.length + q ≤ 50000000) {st : St} (h : st.head [1, 6, 8, 12, 13, 14, 28, 42] st.boxes.length = some ⟨sl 45 [(1, .pv (.int .i64 m)), (6, .row 2 ((O ++ pcs s m ((0 : Nat))).map eExt)), (8, .pbox 0 0), (12, .row 2 (U.map eExt)), (13, .pv (.int .i64 U.length)), (14, .pv (.int .i64 k)), (28, .any), (42, .any)], [⟨false, bExn (s + (((0 : Nat) : Nat) : Int) * m) (c - (((0 : Nat) : Nat) : Int) * m)⟩], [], none⟩) :
   den env fn23_l1 st = some (.normal, ⟨sl 45 [(1, .pv (.int .i64 m)), (4, .any), (5, .any), (6, .row 2 ((O ++ pcs s m q).map eExt)), (8, .pbox 0 0), (12, .row 2 (U.map eExt)), (13, .pv (.int .i64 U.length)), (14, .pv (.int .i64 k)), (28, .any), (42, .any)], [⟨false, bExn (s + (q : Int) * m) (c - (q : Int) * m)⟩], [], none⟩) := by
  unfold fn23_l1
  refine clean_up (env := env) (q) (fun i => ⟨sl 45 [(1, .pv (.int .i64 m)), (6, .row 2 ((O ++ pcs s m (i)).map eExt)), (8, .pbox 0 0), (12, .row 2 (U.map eExt)), (13, .pv (.int .i64 U.length)), (14, .pv (.int .i64 k)), (28, .any), (42, .any)], [⟨false, bExn (s + ((i : Nat) : Int) * m) (c - ((i : Nat) : Int) * m)⟩], [], none⟩) (fun i => some (.normal, ⟨sl 45 [(1, .pv (.int .i64 m)), (4, .any), (5, .any), (6, .row 2 ((O ++ pcs s m q).map eExt)), (8, .pbox 0 0), (12, .row 2 (U.map eExt)), (13, .pv (.int .i64 U.length)), (14, .pv (.int .i64 k)), (28, .any), (42, .any)], [⟨false, bExn (s + (q : Int) * m) (c - (q : Int) * m)⟩], [], none⟩)) h (fun _ => rfl) (fun _ => by simp only [slAll, Nat.reduceMul, Nat.reduceBEq, Nat.reduceLT, Nat.reduceLeDiff, Nat.zero_le, List.take_zero, List.take_nil, List.take_succ_cons, List.length_cons, List.length_nil, Nat.le_refl, Nat.reduceAdd, decide_true, Bool.and_self, Bool.true_and]) ?_ ?_
  · intro i rb hi ih

    have hlim : lim = 1073741824 := rfl
    obtain ⟨s1, s2, s3⟩ := step_le hm.1 hi
    have hp := pcs_succ s m i
    have hpl := pcs_len s m i
    rw [s1, hp] at ih
    generalize (i : Int) * m = t at *
    generalize pcs s m i = p at *
    have F1 : (c - t > m) = True := eq_true (by omega)
    have W1 : IntKind.i64.wrap (s + t + m) = s + (t + m) := by rw [i64_fits (by omega)]; omega
    have W2 : IntKind.i64.wrap (c - t - m) = c - (t + m) := by rw [i64_fits (by omega)]; omega
    have L1 : (O.length + p.length + 1 ≤ lim) = True := eq_true (by omega)
    have T1 : List.take (O.length + p.length) (List.map eExt (O ++ p)) = List.map eExt (O ++ p) := List.take_of_length_le (by simp)
    have L2 : (1 ≤ lim) = True := eq_true (by omega)
    simp only [fn23_b0, bExn, F1, W1, W2, L1, L2, T1, List.length_map, List.length_append, List.length_cons, List.length_nil, slAll, Nat.reduceMul, Nat.reduceBEq, Nat.reduceLT, Nat.reduceLeDiff, Nat.zero_le, List.take_zero, List.take_nil, List.take_succ_cons, List.length_cons, List.length_nil, Nat.le_refl, List.isEmpty_nil, val_pvs, frozen_pvs, msnoc_len, msnoc_get, msnoc_set, msnoc_take, Int.le_refl, take_map_all, Nat.le_refl, St.freezeRows, BV.frozen, List.take_length, List.take_append_drop, z_repl_zero, Int.toNat_zero, true_and, and_true, and_self, eq_self, z_take_zero, List.drop_nil, List.take_nil, vAll, List.foldl_nil, List.foldl_cons, resultsOf, resultList, resultOf, zBV, splice, PV.remade, St.freezeAt, St.freezeBox, St.freezeCap, PV.single, plain, act, dstOf, if_true, if_false, reduceCtorEq, St.get, St.put, St.pvOf, St.putRow, St.consume, St.freeze, St.row, St.elems, St.grab, St.takeRow, St.setRow, St.place, St.optPv, St.setCell, St.setCellRow, binPV, intBin, unPV, BV.val, Nat.reduceEqDiff, bound, consumeAll, buildParts, capsOf, capOf, List.append_nil, Nat.reduceAdd, Nat.reduceLT, Nat.reduceLeDiff, beq_self_eq_true, List.length_map, Nat.beq, dcall, dcallP, List.mapM_cons, St.snapFn, St.snap, St.layAll, St.lay, St.freezeArg, St.freezeArg1]
    rw [ih _ (by simp only [eExt, bExn, List.map_append, List.map_cons, List.map_nil, List.append_assoc, slAll, Nat.reduceMul, Nat.reduceBEq, Nat.reduceLT, Nat.reduceLeDiff, Nat.zero_le, List.take_zero, List.take_nil, List.take_succ_cons, List.length_cons, List.length_nil, Nat.le_refl, List.isEmpty_nil, val_pvs, frozen_pvs, msnoc_len, msnoc_get, msnoc_set, msnoc_take, Int.le_refl, take_map_all, Nat.le_refl, St.freezeRows, BV.frozen, List.take_length, List.take_append_drop, z_repl_zero, Int.toNat_zero, true_and, and_true, and_self, eq_self, z_take_zero, List.drop_nil, List.take_nil, vAll, List.foldl_nil, List.foldl_cons, resultsOf, resultList, resultOf, zBV, splice, PV.remade, St.freezeAt, St.freezeBox, St.freezeCap, PV.single, plain, act, dstOf, if_true, if_false, reduceCtorEq, St.get, St.put, St.pvOf, St.putRow, St.consume, St.freeze, St.row, St.elems, St.grab, St.takeRow, St.setRow, St.place, St.optPv, St.setCell, St.setCellRow, binPV, intBin, unPV, BV.val, Nat.reduceEqDiff, bound, consumeAll, buildParts, capsOf, capOf, List.append_nil, Nat.reduceAdd, Nat.reduceLT, Nat.reduceLeDiff, beq_self_eq_true, List.length_map, Nat.beq, dcall, dcallP, List.mapM_cons, St.snapFn, St.snap, St.layAll, St.lay, St.freezeArg, St.freezeArg1] <;> rfl)]
    rfl
  · intro rb

    have F1 : (c - (q : Int) * m > m) = False := eq_false (by omega)
    simp only [fn23_b0, bExn, F1, slAll, Nat.reduceMul, Nat.reduceBEq, Nat.reduceLT, Nat.reduceLeDiff, Nat.zero_le, List.take_zero, List.take_nil, List.take_succ_cons, List.length_cons, List.length_nil, Nat.le_refl, List.isEmpty_nil, val_pvs, frozen_pvs, msnoc_len, msnoc_get, msnoc_set, msnoc_take, Int.le_refl, take_map_all, Nat.le_refl, St.freezeRows, BV.frozen, List.take_length, List.take_append_drop, z_repl_zero, Int.toNat_zero, true_and, and_true, and_self, eq_self, z_take_zero, List.drop_nil, List.take_nil, vAll, List.foldl_nil, List.foldl_cons, resultsOf, resultList, resultOf, zBV, splice, PV.remade, St.freezeAt, St.freezeBox, St.freezeCap, PV.single, plain, act, dstOf, if_true, if_false, reduceCtorEq, St.get, St.put, St.pvOf, St.putRow, St.consume, St.freeze, St.row, St.elems, St.grab, St.takeRow, St.setRow, St.place, St.optPv, St.setCell, St.setCellRow, binPV, intBin, unPV, BV.val, Nat.reduceEqDiff, bound, consumeAll, buildParts, capsOf, capOf, List.append_nil, Nat.reduceAdd, Nat.reduceLT, Nat.reduceLeDiff, beq_self_eq_true, List.length_map, Nat.beq, dcall, dcallP, List.mapM_cons, St.snapFn, St.snap, St.layAll, St.lay, St.freezeArg, St.freezeArg1]

set_option maxRecDepth 20000 in
theorem loop23l3 {m : Int} {U : List Exn} (hm : 1 ≤ m ∧ m ≤ 9223372036854775807) (hU : ∀ x ∈ U, 0 ≤ x.start ∧ 1 ≤ x.count ∧ x.start + x.count ≤ (4096 : Int)) (hl : U.length ≤ 4096) {st : St} (h : st.head [1, 6, 12, 13, 14, 28, 42] st.boxes.length = some ⟨sl 45 [(1, .pv (.int .i64 m)), (6, .row 2 (((U.take ((0 : Nat))).flatMap (splE m)).map eExt)), (12, .row 2 (U.map eExt)), (13, .pv (.int .i64 U.length)), (14, .pv (.int .i64 (0 : Nat))), (28, .any), (42, .any)], [], [], none⟩) :
   den env fn23_l3 st = some (.normal, ⟨sl 45 [(4, .any), (5, .any), (6, .row 2 ((U.flatMap (splE m)).map eExt))], [], [], none⟩) := by
  unfold fn23_l3
  refine clean_up (env := env) (U.length) (fun i => ⟨sl 45 [(1, .pv (.int .i64 m)), (6, .row 2 (((U.take (i)).flatMap (splE m)).map eExt)), (12, .row 2 (U.map eExt)), (13, .pv (.int .i64 U.length)), (14, .pv (.int .i64 i)), (28, .any), (42, .any)], [], [], none⟩) (fun i => some (.normal, ⟨sl 45 [(4, .any), (5, .any), (6, .row 2 ((U.flatMap (splE m)).map eExt))], [], [], none⟩)) h (fun _ => rfl) (fun _ => by simp only [slAll, Nat.reduceMul, Nat.reduceBEq, Nat.reduceLT, Nat.reduceLeDiff, Nat.zero_le, List.take_zero, List.take_nil, List.take_succ_cons, List.length_cons, List.length_nil, Nat.le_refl, Nat.reduceAdd, decide_true, Bool.and_self, Bool.true_and]) ?_ ?_
  · intro i rb hi ih

    have hlim : lim = 1073741824 := rfl
    have hi1 := i64_next hi (by omega)
    have F1 : ((i : Int) < (U.length : Int)) = True := eq_true (by omega)
    have hx : U[i]? = some U[i] := List.getElem?_eq_getElem hi
    have hox := hU _ (List.getElem_mem hi)
    have htl := flat_len hm.1 (l := U.take i) fun y hy => hU y (List.mem_of_mem_take hy)
    rw [List.length_take] at htl
    have hfl : (U.take (i + 1)).flatMap (splE m) = (U.take i).flatMap (splE m) ++ splE m U[i] := by
      rw [List.take_succ, hx, List.flatMap_append]; simp
    rw [hfl] at ih
    generalize (U.take i).flatMap (splE m) = O at *
    generalize U[i] = x at *
    obtain ⟨o1, o2, o3⟩ := hox
    obtain ⟨q1, q2, q3⟩ := qOf_ok o2 hm.1
    have hse : splE m x = pcs x.start m (qOf x.count m) ++ [⟨x.start + (qOf x.count m : Int) * m, x.count - (qOf x.count m : Int) * m⟩] := rfl
    rw [hse] at ih
    have P2 : part [PV.int .i64 x.start, .int .i64 x.count] 0 (some 2) = some (.agg [.int .i64 x.start, .int .i64 x.count]) := rfl
    have hO : O.length + qOf x.count m ≤ 50000000 := by omega
    have hpl := pcs_len x.start m (qOf x.count m)
    have L1 : (O.length + (pcs x.start m (qOf x.count m)).length + 1 ≤ lim) = True := eq_true (by omega)
    have T1 : List.take (O.length + (pcs x.start m (qOf x.count m)).length) (List.map eExt (O ++ pcs x.start m (qOf x.count m))) = List.map eExt (O ++ pcs x.start m (qOf x.count m)) := List.take_of_length_le (by simp)
    have L2 : (1 ≤ lim) = True := eq_true (by omega)
    have hz : pcs x.start m 0 = [] := rfl
    simp only [fn23_b2, F1, hx, eExt, P2, index_nat hi, List.getElem?_map, Option.map_some, List.length_map, slAll, Nat.reduceMul, Nat.reduceBEq, Nat.reduceLT, Nat.reduceLeDiff, Nat.zero_le, List.take_zero, List.take_nil, List.take_succ_cons, List.length_cons, List.length_nil, Nat.le_refl, List.isEmpty_nil, val_pvs, frozen_pvs, msnoc_len, msnoc_get, msnoc_set, msnoc_take, Int.le_refl, take_map_all, Nat.le_refl, St.freezeRows, BV.frozen, List.take_length, List.take_append_drop, z_repl_zero, Int.toNat_zero, true_and, and_true, and_self, eq_self, z_take_zero, List.drop_nil, List.take_nil, vAll, List.foldl_nil, List.foldl_cons, resultsOf, resultList, resultOf, zBV, splice, PV.remade, St.freezeAt, St.freezeBox, St.freezeCap, PV.single, plain, act, dstOf, if_true, if_false, reduceCtorEq, St.get, St.put, St.pvOf, St.putRow, St.consume, St.freeze, St.row, St.elems, St.grab, St.takeRow, St.setRow, St.place, St.optPv, St.setCell, St.setCellRow, binPV, intBin, unPV, BV.val, Nat.reduceEqDiff, bound, consumeAll, buildParts, capsOf, capOf, List.append_nil, Nat.reduceAdd, Nat.reduceLT, Nat.reduceLeDiff, beq_self_eq_true, List.length_map, Nat.beq, dcall, dcallP, List.mapM_cons, St.snapFn, St.snap, St.layAll, St.lay, St.freezeArg, St.freezeArg1]
    rw [loop23 (s := x.start) (c := x.count) (m := m) (q := qOf x.count m) (k := i) (U := U) (O := O) o1 o3 hm q1 q2 hO (by simp only [hz, bExn, List.append_nil, Int.natCast_zero, Int.zero_mul, Int.add_zero, Int.sub_zero, slAll, Nat.reduceMul, Nat.reduceBEq, Nat.reduceLT, Nat.reduceLeDiff, Nat.zero_le, List.take_zero, List.take_nil, List.take_succ_cons, List.length_cons, List.length_nil, Nat.le_refl, List.isEmpty_nil, val_pvs, frozen_pvs, msnoc_len, msnoc_get, msnoc_set, msnoc_take, Int.le_refl, take_map_all, Nat.le_refl, St.freezeRows, BV.frozen, List.take_length, List.take_append_drop, z_repl_zero, Int.toNat_zero, true_and, and_true, and_self, eq_self, z_take_zero, List.drop_nil, List.take_nil, vAll, List.foldl_nil, List.foldl_cons, resultsOf, resultList, resultOf, zBV, splice, PV.remade, St.freezeAt, St.freezeBox, St.freezeCap, PV.single, plain, act, dstOf, if_true, if_false, reduceCtorEq, St.get, St.put, St.pvOf, St.putRow, St.consume, St.freeze, St.row, St.elems, St.grab, St.takeRow, St.setRow, St.place, St.optPv, St.setCell, St.setCellRow, binPV, intBin, unPV, BV.val, Nat.reduceEqDiff, bound, consumeAll, buildParts, capsOf, capOf, List.append_nil, Nat.reduceAdd, Nat.reduceLT, Nat.reduceLeDiff, beq_self_eq_true, List.length_map, Nat.beq, dcall, dcallP, List.mapM_cons, St.snapFn, St.snap, St.layAll, St.lay, St.freezeArg, St.freezeArg1] <;> rfl)]
    simp only [bExn, L1, L2, T1, List.length_map, List.length_append, List.length_cons, List.length_nil, slAll, Nat.reduceMul, Nat.reduceBEq, Nat.reduceLT, Nat.reduceLeDiff, Nat.zero_le, List.take_zero, List.take_nil, List.take_succ_cons, List.length_cons, List.length_nil, Nat.le_refl, List.isEmpty_nil, val_pvs, frozen_pvs, msnoc_len, msnoc_get, msnoc_set, msnoc_take, Int.le_refl, take_map_all, Nat.le_refl, St.freezeRows, BV.frozen, List.take_length, List.take_append_drop, z_repl_zero, Int.toNat_zero, true_and, and_true, and_self, eq_self, z_take_zero, List.drop_nil, List.take_nil, vAll, List.foldl_nil, List.foldl_cons, resultsOf, resultList, resultOf, zBV, splice, PV.remade, St.freezeAt, St.freezeBox, St.freezeCap, PV.single, plain, act, dstOf, if_true, if_false, reduceCtorEq, St.get, St.put, St.pvOf, St.putRow, St.consume, St.freeze, St.row, St.elems, St.grab, St.takeRow, St.setRow, St.place, St.optPv, St.setCell, St.setCellRow, binPV, intBin, unPV, BV.val, Nat.reduceEqDiff, bound, consumeAll, buildParts, capsOf, capOf, List.append_nil, Nat.reduceAdd, Nat.reduceLT, Nat.reduceLeDiff, beq_self_eq_true, List.length_map, Nat.beq, dcall, dcallP, List.mapM_cons, St.snapFn, St.snap, St.layAll, St.lay, St.freezeArg, St.freezeArg1]
    rw [ih _ (by simp only [hi1, eExt, List.map_append, List.map_cons, List.map_nil, List.append_assoc, slAll, Nat.reduceMul, Nat.reduceBEq, Nat.reduceLT, Nat.reduceLeDiff, Nat.zero_le, List.take_zero, List.take_nil, List.take_succ_cons, List.length_cons, List.length_nil, Nat.le_refl, List.isEmpty_nil, val_pvs, frozen_pvs, msnoc_len, msnoc_get, msnoc_set, msnoc_take, Int.le_refl, take_map_all, Nat.le_refl, St.freezeRows, BV.frozen, List.take_length, List.take_append_drop, z_repl_zero, Int.toNat_zero, true_and, and_true, and_self, eq_self, z_take_zero, List.drop_nil, List.take_nil, vAll, List.foldl_nil, List.foldl_cons, resultsOf, resultList, resultOf, zBV, splice, PV.remade, St.freezeAt, St.freezeBox, St.freezeCap, PV.single, plain, act, dstOf, if_true, if_false, reduceCtorEq, St.get, St.put, St.pvOf, St.putRow, St.consume, St.freeze, St.row, St.elems, St.grab, St.takeRow, St.setRow, St.place, St.optPv, St.setCell, St.setCellRow, binPV, intBin, unPV, BV.val, Nat.reduceEqDiff, bound, consumeAll, buildParts, capsOf, capOf, List.append_nil, Nat.reduceAdd, Nat.reduceLT, Nat.reduceLeDiff, beq_self_eq_true, List.length_map, Nat.beq, dcall, dcallP, List.mapM_cons, St.snapFn, St.snap, St.layAll, St.lay, St.freezeArg, St.freezeArg1] <;> rfl)]
  · intro rb

    simp only [fn23_b2, Int.lt_irrefl, List.take_length, slAll, Nat.reduceMul, Nat.reduceBEq, Nat.reduceLT, Nat.reduceLeDiff, Nat.zero_le, List.take_zero, List.take_nil, List.take_succ_cons, List.length_cons, List.length_nil, Nat.le_refl, List.isEmpty_nil, val_pvs, frozen_pvs, msnoc_len, msnoc_get, msnoc_set, msnoc_take, Int.le_refl, take_map_all, Nat.le_refl, St.freezeRows, BV.frozen, List.take_length, List.take_append_drop, z_repl_zero, Int.toNat_zero, true_and, and_true, and_self, eq_self, z_take_zero, List.drop_nil, List.take_nil, vAll, List.foldl_nil, List.foldl_cons, resultsOf, resultList, resultOf, zBV, splice, PV.remade, St.freezeAt, St.freezeBox, St.freezeCap, PV.single, plain, act, dstOf, if_true, if_false, reduceCtorEq, St.get, St.put, St.pvOf, St.putRow, St.consume, St.freeze, St.row, St.elems, St.grab, St.takeRow, St.setRow, St.place, St.optPv, St.setCell, St.setCellRow, binPV, intBin, unPV, BV.val, Nat.reduceEqDiff, bound, consumeAll, buildParts, capsOf, capOf, List.append_nil, Nat.reduceAdd, Nat.reduceLT, Nat.reduceLeDiff, beq_self_eq_true, List.length_map, Nat.beq, dcall, dcallP, List.mapM_cons, St.snapFn, St.snap, St.layAll, St.lay, St.freezeArg, St.freezeArg1]

theorem cal23 {l : List Exn} {m : Int} (ho : okEs l) (hl : l.length ≤ 10000) (hm : -9223372036854775808 ≤ m ∧ m ≤ 9223372036854775807) : cal env 23 [.list 2 (l.map eExt), .int .i64 m] = some [(.list 2 ((splX l m).map eExt), true), (.int .i64 (if m ≤ 0 then 1 else 0), false)] := by
  have e1 := cal25 (a := l) (b := []) ho (fun x hx => by cases hx) hl (by simp)
  unfold splX
  by_cases c1 : m ≤ 0
  · rw [if_pos c1, if_pos c1]
    rw [cal_code env23 rfl]; simp only [fn23, slAll, Nat.reduceBEq, Nat.reduceLeDiff, Nat.reduceAdd, List.length_cons, List.length_nil]
    simp only [c1, slAll, Nat.reduceMul, Nat.reduceBEq, Nat.reduceLT, Nat.reduceLeDiff, Nat.zero_le, List.take_zero, List.take_nil, List.take_succ_cons, List.length_cons, List.length_nil, Nat.le_refl, List.isEmpty_nil, val_pvs, frozen_pvs, msnoc_len, msnoc_get, msnoc_set, msnoc_take, Int.le_refl, take_map_all, Nat.le_refl, St.freezeRows, BV.frozen, List.take_length, List.take_append_drop, z_repl_zero, Int.toNat_zero, true_and, and_true, and_self, eq_self, z_take_zero, List.drop_nil, List.take_nil, vAll, List.foldl_nil, List.foldl_cons, resultsOf, resultList, resultOf, zBV, splice, PV.remade, St.freezeAt, St.freezeBox, St.freezeCap, PV.single, plain, act, dstOf, if_true, if_false, reduceCtorEq, St.get, St.put, St.pvOf, St.putRow, St.consume, St.freeze, St.row, St.elems, St.grab, St.takeRow, St.setRow, St.place, St.optPv, St.setCell, St.setCellRow, binPV, intBin, unPV, BV.val, Nat.reduceEqDiff, bound, consumeAll, buildParts, capsOf, capOf, List.append_nil, Nat.reduceAdd, Nat.reduceLT, Nat.reduceLeDiff, beq_self_eq_true, List.length_map, Nat.beq, dcall, dcallP, List.mapM_cons, St.snapFn, St.snap, St.layAll, St.lay, St.freezeArg, St.freezeArg1]
  · rw [if_neg c1, if_neg c1]
    simp only [List.map_nil] at e1
    have hU : ∀ x ∈ orS l, 0 ≤ x.start ∧ 1 ≤ x.count ∧ x.start + x.count ≤ (4096 : Int) := by
      intro x hx
      rw [orS_eq] at hx
      exact ext_in _ _ x hx
    have hll : (orS l).length ≤ 4096 := by rw [orS_eq]; exact ext_len _ _
    have e2 : setOf orB l [] = orS l := rfl
    rw [e2] at e1
    generalize orS l = U at *
    rw [cal_code env23 rfl]; simp only [fn23, slAll, Nat.reduceBEq, Nat.reduceLeDiff, Nat.reduceAdd, List.length_cons, List.length_nil]
    simp only [e1, c1, List.length_map, List.drop_zero, slAll, Nat.reduceMul, Nat.reduceBEq, Nat.reduceLT, Nat.reduceLeDiff, Nat.zero_le, List.take_zero, List.take_nil, List.take_succ_cons, List.length_cons, List.length_nil, Nat.le_refl, List.isEmpty_nil, val_pvs, frozen_pvs, msnoc_len, msnoc_get, msnoc_set, msnoc_take, Int.le_refl, take_map_all, Nat.le_refl, St.freezeRows, BV.frozen, List.take_length, List.take_append_drop, z_repl_zero, Int.toNat_zero, true_and, and_true, and_self, eq_self, z_take_zero, List.drop_nil, List.take_nil, vAll, List.foldl_nil, List.foldl_cons, resultsOf, resultList, resultOf, zBV, splice, PV.remade, St.freezeAt, St.freezeBox, St.freezeCap, PV.single, plain, act, dstOf, if_true, if_false, reduceCtorEq, St.get, St.put, St.pvOf, St.putRow, St.consume, St.freeze, St.row, St.elems, St.grab, St.takeRow, St.setRow, St.place, St.optPv, St.setCell, St.setCellRow, binPV, intBin, unPV, BV.val, Nat.reduceEqDiff, bound, consumeAll, buildParts, capsOf, capOf, List.append_nil, Nat.reduceAdd, Nat.reduceLT, Nat.reduceLeDiff, beq_self_eq_true, List.length_map, Nat.beq, dcall, dcallP, List.mapM_cons, St.snapFn, St.snap, St.layAll, St.lay, St.freezeArg, St.freezeArg1]
    rw [loop23l3 (m := m) (U := U) ⟨by omega, hm.2⟩ hU hll (by simp only [List.take_zero, List.flatMap_nil, List.map_nil, slAll, Nat.reduceMul, Nat.reduceBEq, Nat.reduceLT, Nat.reduceLeDiff, Nat.zero_le, List.take_zero, List.take_nil, List.take_succ_cons, List.length_cons, List.length_nil, Nat.le_refl, List.isEmpty_nil, val_pvs, frozen_pvs, msnoc_len, msnoc_get, msnoc_set, msnoc_take, Int.le_refl, take_map_all, Nat.le_refl, St.freezeRows, BV.frozen, List.take_length, List.take_append_drop, z_repl_zero, Int.toNat_zero, true_and, and_true, and_self, eq_self, z_take_zero, List.drop_nil, List.take_nil, vAll, List.foldl_nil, List.foldl_cons, resultsOf, resultList, resultOf, zBV, splice, PV.remade, St.freezeAt, St.freezeBox, St.freezeCap, PV.single, plain, act, dstOf, if_true, if_false, reduceCtorEq, St.get, St.put, St.pvOf, St.putRow, St.consume, St.freeze, St.row, St.elems, St.grab, St.takeRow, St.setRow, St.place, St.optPv, St.setCell, St.setCellRow, binPV, intBin, unPV, BV.val, Nat.reduceEqDiff, bound, consumeAll, buildParts, capsOf, capOf, List.append_nil, Nat.reduceAdd, Nat.reduceLT, Nat.reduceLeDiff, beq_self_eq_true, List.length_map, Nat.beq, dcall, dcallP, List.mapM_cons, St.snapFn, St.snap, St.layAll, St.lay, St.freezeArg, St.freezeArg1] <;> rfl)]
    simp only [e1, c1, List.length_map, List.drop_zero, slAll, Nat.reduceMul, Nat.reduceBEq, Nat.reduceLT, Nat.reduceLeDiff, Nat.zero_le, List.take_zero, List.take_nil, List.take_succ_cons, List.length_cons, List.length_nil, Nat.le_refl, List.isEmpty_nil, val_pvs, frozen_pvs, msnoc_len, msnoc_get, msnoc_set, msnoc_take, Int.le_refl, take_map_all, Nat.le_refl, St.freezeRows, BV.frozen, List.take_length, List.take_append_drop, z_repl_zero, Int.toNat_zero, true_and, and_true, and_self, eq_self, z_take_zero, List.drop_nil, List.take_nil, vAll, List.foldl_nil, List.foldl_cons, resultsOf, resultList, resultOf, zBV, splice, PV.remade, St.freezeAt, St.freezeBox, St.freezeCap, PV.single, plain, act, dstOf, if_true, if_false, reduceCtorEq, St.get, St.put, St.pvOf, St.putRow, St.consume, St.freeze, St.row, St.elems, St.grab, St.takeRow, St.setRow, St.place, St.optPv, St.setCell, St.setCellRow, binPV, intBin, unPV, BV.val, Nat.reduceEqDiff, bound, consumeAll, buildParts, capsOf, capOf, List.append_nil, Nat.reduceAdd, Nat.reduceLT, Nat.reduceLeDiff, beq_self_eq_true, List.length_map, Nat.beq, dcall, dcallP, List.mapM_cons, St.snapFn, St.snap, St.layAll, St.lay, St.freezeArg, St.freezeArg1]
set_option maxRecDepth 20000 in
theorem loop24 {s c m : Int} {q k : Nat} {U O : List Exn} (hs : 0 ≤ s) (hc : s + c ≤ 4096) (hm : 1 ≤ m ∧ m ≤ 9223372036854775807) (hq1 : (q : Int) * m < c) (hq2 : c ≤ (q : Int) * m + m) (hO : O.length + q ≤ 50000000) {st : St} (h : st.head [1, 6, 7, 8, 9, 15, 39] st.boxes.length = some ⟨sl 50 [(1, .pv (.int .i64 m)), (6, .row 2 ((O ++ pcq s c m q ((0 : Nat))).map eExt)), (7, .row 2 (U.map eExt)), (8, .pv (.int .i64 k)), (9, .pbox 0 0), (15, .any), (39, .any)], [⟨false, bExn (s + min ((((0 : Nat) : Nat) : Int) * m) c) (c - min ((((0 : Nat) : Nat) : Int) * m) c)⟩], [], none⟩) :
   den env fn24_l1 st = some (.normal, ⟨sl 50 [(1, .pv (.int .i64 m)), (4, .any), (5, .any), (6, .row 2 ((O ++ pcq s c m q (q + 1)).map eExt)), (7, .row 2 (U.map eExt)), (8, .pv (.int .i64 k)), (15, .any), (39, .any)], [⟨false, bExn (s + c) 0⟩], [], none⟩) := by
  unfold fn24_l1
  refine clean_up (env := env) (q + 1) (fun i => ⟨sl 50 [(1, .pv (.int .i64 m)), (6, .row 2 ((O ++ pcq s c m q (i)).map eExt)), (7, .row 2 (U.map eExt)), (8, .pv (.int .i64 k)), (9, .pbox 0 0), (15, .any), (39, .any)], [⟨false, bExn (s + min (((i : Nat) : Int) * m) c) (c - min (((i : Nat) : Int) * m) c)⟩], [], none⟩) (fun i => some (.normal, ⟨sl 50 [(1, .pv (.int .i64 m)), (4, .any), (5, .any), (6, .row 2 ((O ++ pcq s c m q (q + 1)).map eExt)), (7, .row 2 (U.map eExt)), (8, .pv (.int .i64 k)), (15, .any), (39, .any)], [⟨false, bExn (s + c) 0⟩], [], none⟩)) h (fun _ => rfl) (fun _ => by simp only [slAll, Nat.reduceMul, Nat.reduceBEq, Nat.reduceLT, Nat.reduceLeDiff, Nat.zero_le, List.take_zero, List.take_nil, List.take_succ_cons, List.length_cons, List.length_nil, Nat.le_refl, Nat.reduceAdd, decide_true, Bool.and_self, Bool.true_and]) ?_ ?_
  · intro i rb hi ih

    have hlim : lim = 1073741824 := rfl
    have L2 : (1 ≤ lim) = True := eq_true (by omega)
    have hpl := pcq_len s c m (show i ≤ q by omega)
    have L1 : (O.length + (pcq s c m q i).length + 1 ≤ lim) = True := eq_true (by omega)
    have T1 : List.take (O.length + (pcq s c m q i).length) (List.map eExt (O ++ pcq s c m q i)) = List.map eExt (O ++ pcq s c m q i) := List.take_of_length_le (by simp)
    have hv : min ((i : Int) * m) c = (i : Int) * m ∧ 0 ≤ (i : Int) * m ∧ (i : Int) * m < c ∧ min (((i + 1 : Nat) : Int) * m) c = (i : Int) * m + (if m < c - (i : Int) * m then m else c - (i : Int) * m) ∧ pcq s c m q (i + 1) = pcq s c m q i ++ [⟨s + (i : Int) * m, if m < c - (i : Int) * m then m else c - (i : Int) * m⟩] := by
      by_cases h : i < q
      · obtain ⟨s1, s2, s3⟩ := step_le hm.1 h
        have hn : (if m < c - (i : Int) * m then m else c - (i : Int) * m) = m := by split <;> omega
        rw [hn]
        refine ⟨by omega, by omega, by omega, by rw [s1]; omega, ?_⟩
        unfold pcq
        rw [if_pos (by omega), if_pos (by omega), pcs_succ]
      · have hiq : i = q := by omega
        subst hiq
        have s2 : 0 ≤ (i : Int) * m := Int.mul_nonneg (by omega) (by omega)
        have s1 : ((i + 1 : Nat) : Int) * m = (i : Int) * m + m := by
          rw [show ((i + 1 : Nat) : Int) = (i : Int) + 1 by omega, Int.add_mul, Int.one_mul]
        have hn : (if m < c - (i : Int) * m then m else c - (i : Int) * m) = c - (i : Int) * m := by split <;> omega
        rw [hn]
        refine ⟨by omega, by omega, by omega, by rw [s1]; omega, ?_⟩
        unfold pcq
        rw [if_neg (by omega), if_pos (by omega)]
    obtain ⟨v1, v2, v3, v4, v5⟩ := hv
    rw [v4, v5] at ih
    rw [v1]
    generalize (i : Int) * m = t at *
    generalize pcq s c m q i = p at *
    have F1 : (c - t > 0) = True := eq_true (by omega)
    have hnb : 0 ≤ (if m < c - t then m else c - t) ∧ (if m < c - t then m else c - t) ≤ c - t := by split <;> omega
    generalize hnn : (if m < c - t then m else c - t) = n at *
    have W1 : IntKind.i64.wrap (s + t + n) = s + (t + n) := by rw [i64_fits (by omega)]; omega
    have W2 : IntKind.i64.wrap (c - t - n) = c - (t + n) := by rw [i64_fits (by omega)]; omega
    simp only [fn24_b0, bExn, F1, hnn, W1, W2, L1, L2, T1, List.length_map, List.length_append, List.length_cons, List.length_nil, slAll, Nat.reduceMul, Nat.reduceBEq, Nat.reduceLT, Nat.reduceLeDiff, Nat.zero_le, List.take_zero, List.take_nil, List.take_succ_cons, List.length_cons, List.length_nil, Nat.le_refl, List.isEmpty_nil, val_pvs, frozen_pvs, msnoc_len, msnoc_get, msnoc_set, msnoc_take, Int.le_refl, take_map_all, Nat.le_refl, St.freezeRows, BV.frozen, List.take_length, List.take_append_drop, z_repl_zero, Int.toNat_zero, true_and, and_true, and_self, eq_self, z_take_zero, List.drop_nil, List.take_nil, vAll, List.foldl_nil, List.foldl_cons, resultsOf, resultList, resultOf, zBV, splice, PV.remade, St.freezeAt, St.freezeBox, St.freezeCap, PV.single, plain, act, dstOf, if_true, if_false, reduceCtorEq, St.get, St.put, St.pvOf, St.putRow, St.consume, St.freeze, St.row, St.elems, St.grab, St.takeRow, St.setRow, St.place, St.optPv, St.setCell, St.setCellRow, binPV, intBin, unPV, BV.val, Nat.reduceEqDiff, bound, consumeAll, buildParts, capsOf, capOf, List.append_nil, Nat.reduceAdd, Nat.reduceLT, Nat.reduceLeDiff, beq_self_eq_true, List.length_map, Nat.beq, dcall, dcallP, List.mapM_cons, St.snapFn, St.snap, St.layAll, St.lay, St.freezeArg, St.freezeArg1]
    rw [ih _ (by simp only [eExt, bExn, List.map_append, List.map_cons, List.map_nil, List.append_assoc, slAll, Nat.reduceMul, Nat.reduceBEq, Nat.reduceLT, Nat.reduceLeDiff, Nat.zero_le, List.take_zero, List.take_nil, List.take_succ_cons, List.length_cons, List.length_nil, Nat.le_refl, List.isEmpty_nil, val_pvs, frozen_pvs, msnoc_len, msnoc_get, msnoc_set, msnoc_take, Int.le_refl, take_map_all, Nat.le_refl, St.freezeRows, BV.frozen, List.take_length, List.take_append_drop, z_repl_zero, Int.toNat_zero, true_and, and_true, and_self, eq_self, z_take_zero, List.drop_nil, List.take_nil, vAll, List.foldl_nil, List.foldl_cons, resultsOf, resultList, resultOf, zBV, splice, PV.remade, St.freezeAt, St.freezeBox, St.freezeCap, PV.single, plain, act, dstOf, if_true, if_false, reduceCtorEq, St.get, St.put, St.pvOf, St.putRow, St.consume, St.freeze, St.row, St.elems, St.grab, St.takeRow, St.setRow, St.place, St.optPv, St.setCell, St.setCellRow, binPV, intBin, unPV, BV.val, Nat.reduceEqDiff, bound, consumeAll, buildParts, capsOf, capOf, List.append_nil, Nat.reduceAdd, Nat.reduceLT, Nat.reduceLeDiff, beq_self_eq_true, List.length_map, Nat.beq, dcall, dcallP, List.mapM_cons, St.snapFn, St.snap, St.layAll, St.lay, St.freezeArg, St.freezeArg1] <;> rfl)]
    rfl
  · intro rb

    have v : min (((q + 1 : Nat) : Int) * m) c = c := by
      rw [show ((q + 1 : Nat) : Int) = (q : Int) + 1 by omega, Int.add_mul, Int.one_mul]; omega
    rw [v]
    have F1 : (c - c > 0) = False := eq_false (by omega)
    have Z : c - c = 0 := by omega
    have Z2 : ((0 : Int) > 0) = False := eq_false (by omega)
    simp only [fn24_b0, bExn, F1, Z, Z2, slAll, Nat.reduceMul, Nat.reduceBEq, Nat.reduceLT, Nat.reduceLeDiff, Nat.zero_le, List.take_zero, List.take_nil, List.take_succ_cons, List.length_cons, List.length_nil, Nat.le_refl, List.isEmpty_nil, val_pvs, frozen_pvs, msnoc_len, msnoc_get, msnoc_set, msnoc_take, Int.le_refl, take_map_all, Nat.le_refl, St.freezeRows, BV.frozen, List.take_length, List.take_append_drop, z_repl_zero, Int.toNat_zero, true_and, and_true, and_self, eq_self, z_take_zero, List.drop_nil, List.take_nil, vAll, List.foldl_nil, List.foldl_cons, resultsOf, resultList, resultOf, zBV, splice, PV.remade, St.freezeAt, St.freezeBox, St.freezeCap, PV.single, plain, act, dstOf, if_true, if_false, reduceCtorEq, St.get, St.put, St.pvOf, St.putRow, St.consume, St.freeze, St.row, St.elems, St.grab, St.takeRow, St.setRow, St.place, St.optPv, St.setCell, St.setCellRow, binPV, intBin, unPV, BV.val, Nat.reduceEqDiff, bound, consumeAll, buildParts, capsOf, capOf, List.append_nil, Nat.reduceAdd, Nat.reduceLT, Nat.reduceLeDiff, beq_self_eq_true, List.length_map, Nat.beq, dcall, dcallP, List.mapM_cons, St.snapFn, St.snap, St.layAll, St.lay, St.freezeArg, St.freezeArg1]

theorem pcq_all {m : Int} (e : Exn) : pcq e.start e.count m (qOf e.count m) (qOf e.count m + 1) = splE m e := by
  unfold pcq splE
  rw [if_neg (by omega)]
set_option maxRecDepth 20000 in
theorem loop24l3 {m : Int} {U : List Exn} (hm : 1 ≤ m ∧ m ≤ 9223372036854775807) (hU : ∀ x ∈ U, 0 ≤ x.start ∧ 1 ≤ x.count ∧ x.start + x.count ≤ (4096 : Int)) (hl : U.length ≤ 4096) {st : St} (h : st.head [1, 6, 7, 8, 15, 39] st.boxes.length = some ⟨sl 50 [(1, .pv (.int .i64 m)), (6, .row 2 (((U.take ((0 : Nat))).flatMap (splE m)).map eExt)), (7, .row 2 (U.map eExt)), (8, .pv (.int .i64 (0 : Nat))), (15, .any), (39, .any)], [], [], none⟩) :
   den env fn24_l3 st = some (.normal, ⟨sl 50 [(4, .any), (5, .any), (6, .row 2 ((U.flatMap (splE m)).map eExt))], [], [], none⟩) := by
  unfold fn24_l3
  refine clean_up (env := env) (U.length) (fun i => ⟨sl 50 [(1, .pv (.int .i64 m)), (6, .row 2 (((U.take (i)).flatMap (splE m)).map eExt)), (7, .row 2 (U.map eExt)), (8, .pv (.int .i64 i)), (15, .any), (39, .any)], [], [], none⟩) (fun i => some (.normal, ⟨sl 50 [(4, .any), (5, .any), (6, .row 2 ((U.flatMap (splE m)).map eExt))], [], [], none⟩)) h (fun _ => rfl) (fun _ => by simp only [slAll, Nat.reduceMul, Nat.reduceBEq, Nat.reduceLT, Nat.reduceLeDiff, Nat.zero_le, List.take_zero, List.take_nil, List.take_succ_cons, List.length_cons, List.length_nil, Nat.le_refl, Nat.reduceAdd, decide_true, Bool.and_self, Bool.true_and]) ?_ ?_
  · intro i rb hi ih

    have hlim : lim = 1073741824 := rfl
    have hi1 := i64_next hi (by omega)
    have F1 : ((i : Int) < (U.length : Int)) = True := eq_true (by omega)
    have hx : U[i]? = some U[i] := List.getElem?_eq_getElem hi
    have hox := hU _ (List.getElem_mem hi)
    have htl := flat_len hm.1 (l := U.take i) fun y hy => hU y (List.mem_of_mem_take hy)
    rw [List.length_take] at htl
    have hfl : (U.take (i + 1)).flatMap (splE m) = (U.take i).flatMap (splE m) ++ splE m U[i] := by
      rw [List.take_succ, hx, List.flatMap_append]; simp
    rw [hfl] at ih
    generalize (U.take i).flatMap (splE m) = O at *
    generalize U[i] = x at *
    obtain ⟨o1, o2, o3⟩ := hox
    obtain ⟨q1, q2, q3⟩ := qOf_ok o2 hm.1
    have P2 : part [PV.int .i64 x.start, .int .i64 x.count] 0 (some 2) = some (.agg [.int .i64 x.start, .int .i64 x.count]) := rfl
    have hO : O.length + qOf x.count m ≤ 50000000 := by omega
    have hz : pcq x.start x.count m (qOf x.count m) 0 = [] := by unfold pcq; rw [if_pos (by omega)]; rfl
    have hmn : min (((0 : Nat) : Int) * m) x.count = 0 := by rw [Int.natCast_zero, Int.zero_mul]; omega
    have hal := pcq_all (m := m) x
    simp only [fn24_b2, F1, hx, eExt, P2, index_nat hi, List.getElem?_map, Option.map_some, List.length_map, slAll, Nat.reduceMul, Nat.reduceBEq, Nat.reduceLT, Nat.reduceLeDiff, Nat.zero_le, List.take_zero, List.take_nil, List.take_succ_cons, List.length_cons, List.length_nil, Nat.le_refl, List.isEmpty_nil, val_pvs, frozen_pvs, msnoc_len, msnoc_get, msnoc_set, msnoc_take, Int.le_refl, take_map_all, Nat.le_refl, St.freezeRows, BV.frozen, List.take_length, List.take_append_drop, z_repl_zero, Int.toNat_zero, true_and, and_true, and_self, eq_self, z_take_zero, List.drop_nil, List.take_nil, vAll, List.foldl_nil, List.foldl_cons, resultsOf, resultList, resultOf, zBV, splice, PV.remade, St.freezeAt, St.freezeBox, St.freezeCap, PV.single, plain, act, dstOf, if_true, if_false, reduceCtorEq, St.get, St.put, St.pvOf, St.putRow, St.consume, St.freeze, St.row, St.elems, St.grab, St.takeRow, St.setRow, St.place, St.optPv, St.setCell, St.setCellRow, binPV, intBin, unPV, BV.val, Nat.reduceEqDiff, bound, consumeAll, buildParts, capsOf, capOf, List.append_nil, Nat.reduceAdd, Nat.reduceLT, Nat.reduceLeDiff, beq_self_eq_true, List.length_map, Nat.beq, dcall, dcallP, List.mapM_cons, St.snapFn, St.snap, St.layAll, St.lay, St.freezeArg, St.freezeArg1]
    rw [loop24 (s := x.start) (c := x.count) (m := m) (q := qOf x.count m) (k := i) (U := U) (O := O) o1 o3 hm q1 q2 hO (by simp only [hz, hmn, bExn, List.append_nil, Int.add_zero, Int.sub_zero, slAll, Nat.reduceMul, Nat.reduceBEq, Nat.reduceLT, Nat.reduceLeDiff, Nat.zero_le, List.take_zero, List.take_nil, List.take_succ_cons, List.length_cons, List.length_nil, Nat.le_refl, List.isEmpty_nil, val_pvs, frozen_pvs, msnoc_len, msnoc_get, msnoc_set, msnoc_take, Int.le_refl, take_map_all, Nat.le_refl, St.freezeRows, BV.frozen, List.take_length, List.take_append_drop, z_repl_zero, Int.toNat_zero, true_and, and_true, and_self, eq_self, z_take_zero, List.drop_nil, List.take_nil, vAll, List.foldl_nil, List.foldl_cons, resultsOf, resultList, resultOf, zBV, splice, PV.remade, St.freezeAt, St.freezeBox, St.freezeCap, PV.single, plain, act, dstOf, if_true, if_false, reduceCtorEq, St.get, St.put, St.pvOf, St.putRow, St.consume, St.freeze, St.row, St.elems, St.grab, St.takeRow, St.setRow, St.place, St.optPv, St.setCell, St.setCellRow, binPV, intBin, unPV, BV.val, Nat.reduceEqDiff, bound, consumeAll, buildParts, capsOf, capOf, List.append_nil, Nat.reduceAdd, Nat.reduceLT, Nat.reduceLeDiff, beq_self_eq_true, List.length_map, Nat.beq, dcall, dcallP, List.mapM_cons, St.snapFn, St.snap, St.layAll, St.lay, St.freezeArg, St.freezeArg1] <;> rfl)]
    rw [hal]
    simp only [bExn, List.length_map, List.length_append, List.length_cons, List.length_nil, slAll, Nat.reduceMul, Nat.reduceBEq, Nat.reduceLT, Nat.reduceLeDiff, Nat.zero_le, List.take_zero, List.take_nil, List.take_succ_cons, List.length_cons, List.length_nil, Nat.le_refl, List.isEmpty_nil, val_pvs, frozen_pvs, msnoc_len, msnoc_get, msnoc_set, msnoc_take, Int.le_refl, take_map_all, Nat.le_refl, St.freezeRows, BV.frozen, List.take_length, List.take_append_drop, z_repl_zero, Int.toNat_zero, true_and, and_true, and_self, eq_self, z_take_zero, List.drop_nil, List.take_nil, vAll, List.foldl_nil, List.foldl_cons, resultsOf, resultList, resultOf, zBV, splice, PV.remade, St.freezeAt, St.freezeBox, St.freezeCap, PV.single, plain, act, dstOf, if_true, if_false, reduceCtorEq, St.get, St.put, St.pvOf, St.putRow, St.consume, St.freeze, St.row, St.elems, St.grab, St.takeRow, St.setRow, St.place, St.optPv, St.setCell, St.setCellRow, binPV, intBin, unPV, BV.val, Nat.reduceEqDiff, bound, consumeAll, buildParts, capsOf, capOf, List.append_nil, Nat.reduceAdd, Nat.reduceLT, Nat.reduceLeDiff, beq_self_eq_true, List.length_map, Nat.beq, dcall, dcallP, List.mapM_cons, St.snapFn, St.snap, St.layAll, St.lay, St.freezeArg, St.freezeArg1]
    rw [ih _ (by simp only [hi1, slAll, Nat.reduceMul, Nat.reduceBEq, Nat.reduceLT, Nat.reduceLeDiff, Nat.zero_le, List.take_zero, List.take_nil, List.take_succ_cons, List.length_cons, List.length_nil, Nat.le_refl, List.isEmpty_nil, val_pvs, frozen_pvs, msnoc_len, msnoc_get, msnoc_set, msnoc_take, Int.le_refl, take_map_all, Nat.le_refl, St.freezeRows, BV.frozen, List.take_length, List.take_append_drop, z_repl_zero, Int.toNat_zero, true_and, and_true, and_self, eq_self, z_take_zero, List.drop_nil, List.take_nil, vAll, List.foldl_nil, List.foldl_cons, resultsOf, resultList, resultOf, zBV, splice, PV.remade, St.freezeAt, St.freezeBox, St.freezeCap, PV.single, plain, act, dstOf, if_true, if_false, reduceCtorEq, St.get, St.put, St.pvOf, St.putRow, St.consume, St.freeze, St.row, St.elems, St.grab, St.takeRow, St.setRow, St.place, St.optPv, St.setCell, St.setCellRow, binPV, intBin, unPV, BV.val, Nat.reduceEqDiff, bound, consumeAll, buildParts, capsOf, capOf, List.append_nil, Nat.reduceAdd, Nat.reduceLT, Nat.reduceLeDiff, beq_self_eq_true, List.length_map, Nat.beq, dcall, dcallP, List.mapM_cons, St.snapFn, St.snap, St.layAll, St.lay, St.freezeArg, St.freezeArg1] <;> rfl)]
  · intro rb

    simp only [fn24_b2, Int.lt_irrefl, List.take_length, List.length_map, slAll, Nat.reduceMul, Nat.reduceBEq, Nat.reduceLT, Nat.reduceLeDiff, Nat.zero_le, List.take_zero, List.take_nil, List.take_succ_cons, List.length_cons, List.length_nil, Nat.le_refl, List.isEmpty_nil, val_pvs, frozen_pvs, msnoc_len, msnoc_get, msnoc_set, msnoc_take, Int.le_refl, take_map_all, Nat.le_refl, St.freezeRows, BV.frozen, List.take_length, List.take_append_drop, z_repl_zero, Int.toNat_zero, true_and, and_true, and_self, eq_self, z_take_zero, List.drop_nil, List.take_nil, vAll, List.foldl_nil, List.foldl_cons, resultsOf, resultList, resultOf, zBV, splice, PV.remade, St.freezeAt, St.freezeBox, St.freezeCap, PV.single, plain, act, dstOf, if_true, if_false, reduceCtorEq, St.get, St.put, St.pvOf, St.putRow, St.consume, St.freeze, St.row, St.elems, St.grab, St.takeRow, St.setRow, St.place, St.optPv, St.setCell, St.setCellRow, binPV, intBin, unPV, BV.val, Nat.reduceEqDiff, bound, consumeAll, buildParts, capsOf, capOf, List.append_nil, Nat.reduceAdd, Nat.reduceLT, Nat.reduceLeDiff, beq_self_eq_true, List.length_map, Nat.beq, dcall, dcallP, List.mapM_cons, St.snapFn, St.snap, St.layAll, St.lay, St.freezeArg, St.freezeArg1]

theorem cal24 {l : List Exn} {m : Int} (ho : okEs l) (hl : l.length ≤ 10000) (hm : -9223372036854775808 ≤ m ∧ m ≤ 9223372036854775807) : cal env 24 [.list 2 (l.map eExt), .int .i64 m] = some [(.list 2 ((splX l m).map eExt), true), (.int .i64 (if m ≤ 0 then 1 else 0), false)] := by
  have e1 := cal36 ho hl
  have e2 := calList (f := inS l)
  unfold splX
  by_cases c1 : m < 1
  · rw [if_pos (by omega), if_pos (by omega)]
    rw [cal_code env24 rfl]; simp only [fn24, slAll, Nat.reduceBEq, Nat.reduceLeDiff, Nat.reduceAdd, List.length_cons, List.length_nil]
    simp only [c1, slAll, Nat.reduceMul, Nat.reduceBEq, Nat.reduceLT, Nat.reduceLeDiff, Nat.zero_le, List.take_zero, List.take_nil, List.take_succ_cons, List.length_cons, List.length_nil, Nat.le_refl, List.isEmpty_nil, val_pvs, frozen_pvs, msnoc_len, msnoc_get, msnoc_set, msnoc_take, Int.le_refl, take_map_all, Nat.le_refl, St.freezeRows, BV.frozen, List.take_length, List.take_append_drop, z_repl_zero, Int.toNat_zero, true_and, and_true, and_self, eq_self, z_take_zero, List.drop_nil, List.take_nil, vAll, List.foldl_nil, List.foldl_cons, resultsOf, resultList, resultOf, zBV, splice, PV.remade, St.freezeAt, St.freezeBox, St.freezeCap, PV.single, plain, act, dstOf, if_true, if_false, reduceCtorEq, St.get, St.put, St.pvOf, St.putRow, St.consume, St.freeze, St.row, St.elems, St.grab, St.takeRow, St.setRow, St.place, St.optPv, St.setCell, St.setCellRow, binPV, intBin, unPV, BV.val, Nat.reduceEqDiff, bound, consumeAll, buildParts, capsOf, capOf, List.append_nil, Nat.reduceAdd, Nat.reduceLT, Nat.reduceLeDiff, beq_self_eq_true, List.length_map, Nat.beq, dcall, dcallP, List.mapM_cons, St.snapFn, St.snap, St.layAll, St.lay, St.freezeArg, St.freezeArg1]
  · rw [if_neg (by omega), if_neg (by omega)]
    have hU : ∀ x ∈ orS l, 0 ≤ x.start ∧ 1 ≤ x.count ∧ x.start + x.count ≤ (4096 : Int) := by
      intro x hx
      rw [orS_eq] at hx
      exact ext_in _ _ x hx
    have hll : (orS l).length ≤ 4096 := by rw [orS_eq]; exact ext_len _ _
    rw [← orS_eq] at e2
    generalize orS l = U at *
    rw [cal_code env24 rfl]; simp only [fn24, slAll, Nat.reduceBEq, Nat.reduceLeDiff, Nat.reduceAdd, List.length_cons, List.length_nil]
    simp only [e1, e2, c1, List.length_map, List.drop_zero, slAll, Nat.reduceMul, Nat.reduceBEq, Nat.reduceLT, Nat.reduceLeDiff, Nat.zero_le, List.take_zero, List.take_nil, List.take_succ_cons, List.length_cons, List.length_nil, Nat.le_refl, List.isEmpty_nil, val_pvs, frozen_pvs, msnoc_len, msnoc_get, msnoc_set, msnoc_take, Int.le_refl, take_map_all, Nat.le_refl, St.freezeRows, BV.frozen, List.take_length, List.take_append_drop, z_repl_zero, Int.toNat_zero, true_and, and_true, and_self, eq_self, z_take_zero, List.drop_nil, List.take_nil, vAll, List.foldl_nil, List.foldl_cons, resultsOf, resultList, resultOf, zBV, splice, PV.remade, St.freezeAt, St.freezeBox, St.freezeCap, PV.single, plain, act, dstOf, if_true, if_false, reduceCtorEq, St.get, St.put, St.pvOf, St.putRow, St.consume, St.freeze, St.row, St.elems, St.grab, St.takeRow, St.setRow, St.place, St.optPv, St.setCell, St.setCellRow, binPV, intBin, unPV, BV.val, Nat.reduceEqDiff, bound, consumeAll, buildParts, capsOf, capOf, List.append_nil, Nat.reduceAdd, Nat.reduceLT, Nat.reduceLeDiff, beq_self_eq_true, List.length_map, Nat.beq, dcall, dcallP, List.mapM_cons, St.snapFn, St.snap, St.layAll, St.lay, St.freezeArg, St.freezeArg1]
    rw [loop24l3 (m := m) (U := U) ⟨by omega, hm.2⟩ hU hll (by simp only [List.take_zero, List.flatMap_nil, List.map_nil, slAll, Nat.reduceMul, Nat.reduceBEq, Nat.reduceLT, Nat.reduceLeDiff, Nat.zero_le, List.take_zero, List.take_nil, List.take_succ_cons, List.length_cons, List.length_nil, Nat.le_refl, List.isEmpty_nil, val_pvs, frozen_pvs, msnoc_len, msnoc_get, msnoc_set, msnoc_take, Int.le_refl, take_map_all, Nat.le_refl, St.freezeRows, BV.frozen, List.take_length, List.take_append_drop, z_repl_zero, Int.toNat_zero, true_and, and_true, and_self, eq_self, z_take_zero, List.drop_nil, List.take_nil, vAll, List.foldl_nil, List.foldl_cons, resultsOf, resultList, resultOf, zBV, splice, PV.remade, St.freezeAt, St.freezeBox, St.freezeCap, PV.single, plain, act, dstOf, if_true, if_false, reduceCtorEq, St.get, St.put, St.pvOf, St.putRow, St.consume, St.freeze, St.row, St.elems, St.grab, St.takeRow, St.setRow, St.place, St.optPv, St.setCell, St.setCellRow, binPV, intBin, unPV, BV.val, Nat.reduceEqDiff, bound, consumeAll, buildParts, capsOf, capOf, List.append_nil, Nat.reduceAdd, Nat.reduceLT, Nat.reduceLeDiff, beq_self_eq_true, List.length_map, Nat.beq, dcall, dcallP, List.mapM_cons, St.snapFn, St.snap, St.layAll, St.lay, St.freezeArg, St.freezeArg1] <;> rfl)]
    simp only [e1, e2, c1, List.length_map, List.drop_zero, slAll, Nat.reduceMul, Nat.reduceBEq, Nat.reduceLT, Nat.reduceLeDiff, Nat.zero_le, List.take_zero, List.take_nil, List.take_succ_cons, List.length_cons, List.length_nil, Nat.le_refl, List.isEmpty_nil, val_pvs, frozen_pvs, msnoc_len, msnoc_get, msnoc_set, msnoc_take, Int.le_refl, take_map_all, Nat.le_refl, St.freezeRows, BV.frozen, List.take_length, List.take_append_drop, z_repl_zero, Int.toNat_zero, true_and, and_true, and_self, eq_self, z_take_zero, List.drop_nil, List.take_nil, vAll, List.foldl_nil, List.foldl_cons, resultsOf, resultList, resultOf, zBV, splice, PV.remade, St.freezeAt, St.freezeBox, St.freezeCap, PV.single, plain, act, dstOf, if_true, if_false, reduceCtorEq, St.get, St.put, St.pvOf, St.putRow, St.consume, St.freeze, St.row, St.elems, St.grab, St.takeRow, St.setRow, St.place, St.optPv, St.setCell, St.setCellRow, binPV, intBin, unPV, BV.val, Nat.reduceEqDiff, bound, consumeAll, buildParts, capsOf, capOf, List.append_nil, Nat.reduceAdd, Nat.reduceLT, Nat.reduceLeDiff, beq_self_eq_true, List.length_map, Nat.beq, dcall, dcallP, List.mapM_cons, St.snapFn, St.snap, St.layAll, St.lay, St.freezeArg, St.freezeArg1]
end Go.Proofs.Ytldmhbkfblbhaaa.V

namespace Go.Proofs.Ytldmhbkfblbhaaa.V
set_option linter.all false
theorem cal33 {a b : Int} : cal env 33 [.int .i64 a, .int .i64 b] = some [(.agg [.int .i64 a, .int .i64 b], false)] := by
  rw [cal_code env33 rfl]; simp only [fn33, slAll, Nat.reduceBEq, Nat.reduceLeDiff, Nat.reduceAdd, List.length_cons, List.length_nil]
  simp only [ slAll, Nat.reduceMul, Nat.reduceBEq, Nat.reduceLT, Nat.reduceLeDiff, Nat.zero_le, List.take_zero, List.take_nil, List.take_succ_cons, List.length_cons, List.length_nil, Nat.le_refl, List.isEmpty_nil, val_pvs, frozen_pvs, msnoc_len, msnoc_get, msnoc_set, msnoc_take, Int.le_refl, take_map_all, Nat.le_refl, St.freezeRows, BV.frozen, List.take_length, List.take_append_drop, z_repl_zero, Int.toNat_zero, true_and, and_true, and_self, eq_self, z_take_zero, List.drop_nil, List.take_nil, vAll, List.foldl_nil, List.foldl_cons, resultsOf, resultList, resultOf, zBV, splice, PV.remade, St.freezeAt, St.freezeBox, St.freezeCap, PV.single, plain, act, dstOf, if_true, if_false, reduceCtorEq, St.get, St.put, St.pvOf, St.putRow, St.consume, St.freeze, St.row, St.elems, St.grab, St.takeRow, St.setRow, St.place, St.optPv, St.setCell, St.setCellRow, binPV, intBin, unPV, BV.val, Nat.reduceEqDiff, bound, consumeAll, buildParts, capsOf, capOf, List.append_nil, Nat.reduceAdd, Nat.reduceLT, Nat.reduceLeDiff, beq_self_eq_true, List.length_map, Nat.beq, dcall, dcallP, List.mapM_cons, St.snapFn, St.snap, St.layAll, St.lay, St.freezeArg, St.freezeArg1]
def few1 (a b : List Exn) : Bool := decide (a.length ≤ 20) && decide (b.length ≤ 20)
theorem cal12 {a b : List Exn} : cal env 12 [.list 2 (a.map eExt), .list 2 (b.map eExt)] = some [(.bool (few1 a b), false)] := by
  unfold few1
  by_cases h1 : a.length ≤ 20
  · have G1 : ((a.length : Int) ≤ 20) = True := eq_true (by omega)
    by_cases h2 : b.length ≤ 20
    · have G2 : ((b.length : Int) ≤ 20) = True := eq_true (by omega)
      rw [decide_eq_true h1, decide_eq_true h2]
      rw [cal_code env12 rfl]; simp only [fn12, slAll, Nat.reduceBEq, Nat.reduceLeDiff, Nat.reduceAdd, List.length_cons, List.length_nil]
      simp only [G1, G2, List.length_map, slAll, Nat.reduceMul, Nat.reduceBEq, Nat.reduceLT, Nat.reduceLeDiff, Nat.zero_le, List.take_zero, List.take_nil, List.take_succ_cons, List.length_cons, List.length_nil, Nat.le_refl, List.isEmpty_nil, val_pvs, frozen_pvs, msnoc_len, msnoc_get, msnoc_set, msnoc_take, Int.le_refl, take_map_all, Nat.le_refl, St.freezeRows, BV.frozen, List.take_length, List.take_append_drop, z_repl_zero, Int.toNat_zero, true_and, and_true, and_self, eq_self, z_take_zero, List.drop_nil, List.take_nil, vAll, List.foldl_nil, List.foldl_cons, resultsOf, resultList, resultOf, zBV, splice, PV.remade, St.freezeAt, St.freezeBox, St.freezeCap, PV.single, plain, act, dstOf, if_true, if_false, reduceCtorEq, St.get, St.put, St.pvOf, St.putRow, St.consume, St.freeze, St.row, St.elems, St.grab, St.takeRow, St.setRow, St.place, St.optPv, St.setCell, St.setCellRow, binPV, intBin, unPV, BV.val, Nat.reduceEqDiff, bound, consumeAll, buildParts, capsOf, capOf, List.append_nil, Nat.reduceAdd, Nat.reduceLT, Nat.reduceLeDiff, beq_self_eq_true, List.length_map, Nat.beq, dcall, dcallP, List.mapM_cons, St.snapFn, St.snap, St.layAll, St.lay, St.freezeArg, St.freezeArg1]
    · have G2 : ((b.length : Int) ≤ 20) = False := eq_false (by omega)
      rw [decide_eq_true h1, decide_eq_false h2]
      rw [cal_code env12 rfl]; simp only [fn12, slAll, Nat.reduceBEq, Nat.reduceLeDiff, Nat.reduceAdd, List.length_cons, List.length_nil]
      simp only [G1, G2, List.length_map, slAll, Nat.reduceMul, Nat.reduceBEq, Nat.reduceLT, Nat.reduceLeDiff, Nat.zero_le, List.take_zero, List.take_nil, List.take_succ_cons, List.length_cons, List.length_nil, Nat.le_refl, List.isEmpty_nil, val_pvs, frozen_pvs, msnoc_len, msnoc_get, msnoc_set, msnoc_take, Int.le_refl, take_map_all, Nat.le_refl, St.freezeRows, BV.frozen, List.take_length, List.take_append_drop, z_repl_zero, Int.toNat_zero, true_and, and_true, and_self, eq_self, z_take_zero, List.drop_nil, List.take_nil, vAll, List.foldl_nil, List.foldl_cons, resultsOf, resultList, resultOf, zBV, splice, PV.remade, St.freezeAt, St.freezeBox, St.freezeCap, PV.single, plain, act, dstOf, if_true, if_false, reduceCtorEq, St.get, St.put, St.pvOf, St.putRow, St.consume, St.freeze, St.row, St.elems, St.grab, St.takeRow, St.setRow, St.place, St.optPv, St.setCell, St.setCellRow, binPV, intBin, unPV, BV.val, Nat.reduceEqDiff, bound, consumeAll, buildParts, capsOf, capOf, List.append_nil, Nat.reduceAdd, Nat.reduceLT, Nat.reduceLeDiff, beq_self_eq_true, List.length_map, Nat.beq, dcall, dcallP, List.mapM_cons, St.snapFn, St.snap, St.layAll, St.lay, St.freezeArg, St.freezeArg1]
  · have G1 : ((a.length : Int) ≤ 20) = False := eq_false (by omega)
    rw [decide_eq_false h1, Bool.false_and]
    rw [cal_code env12 rfl]; simp only [fn12, slAll, Nat.reduceBEq, Nat.reduceLeDiff, Nat.reduceAdd, List.length_cons, List.length_nil]
    simp only [G1, List.length_map, slAll, Nat.reduceMul, Nat.reduceBEq, Nat.reduceLT, Nat.reduceLeDiff, Nat.zero_le, List.take_zero, List.take_nil, List.take_succ_cons, List.length_cons, List.length_nil, Nat.le_refl, List.isEmpty_nil, val_pvs, frozen_pvs, msnoc_len, msnoc_get, msnoc_set, msnoc_take, Int.le_refl, take_map_all, Nat.le_refl, St.freezeRows, BV.frozen, List.take_length, List.take_append_drop, z_repl_zero, Int.toNat_zero, true_and, and_true, and_self, eq_self, z_take_zero, List.drop_nil, List.take_nil, vAll, List.foldl_nil, List.foldl_cons, resultsOf, resultList, resultOf, zBV, splice, PV.remade, St.freezeAt, St.freezeBox, St.freezeCap, PV.single, plain, act, dstOf, if_true, if_false, reduceCtorEq, St.get, St.put, St.pvOf, St.putRow, St.consume, St.freeze, St.row, St.elems, St.grab, St.takeRow, St.setRow, St.place, St.optPv, St.setCell, St.setCellRow, binPV, intBin, unPV, BV.val, Nat.reduceEqDiff, bound, consumeAll, buildParts, capsOf, capOf, List.append_nil, Nat.reduceAdd, Nat.reduceLT, Nat.reduceLeDiff, beq_self_eq_true, List.length_map, Nat.beq, dcall, dcallP, List.mapM_cons, St.snapFn, St.snap, St.layAll, St.lay, St.freezeArg, St.freezeArg1]
theorem xNrm1 : nrmOut [⟨5, 3⟩, ⟨0, 2⟩, ⟨7, 4⟩] = [⟨0, 2⟩, ⟨5, 6⟩] := by kernel_rfl
theorem xSplit : splX [⟨0, 5⟩, ⟨10, 2⟩] 2 = [⟨0, 2⟩, ⟨2, 2⟩, ⟨4, 1⟩, ⟨10, 2⟩] := by kernel_rfl
theorem xNrm2 : nrmOut [⟨-3, 5⟩] = [] := rfl
theorem xUni : setOf orB [⟨0, 2⟩] [⟨2, 1⟩] = [⟨0, 3⟩] := by kernel_rfl
theorem xSub : setOf subB [⟨0, 10⟩] [⟨3, 2⟩] = [⟨0, 3⟩, ⟨5, 5⟩] := by kernel_rfl
theorem xCompl : compl [⟨3, 2⟩] 8 = [⟨0, 3⟩, ⟨5, 3⟩] := by kernel_rfl
theorem xCnt : cntE (orS [⟨-3, 5⟩]) = 2 := by kernel_rfl
set_option maxRecDepth 20000 in
theorem calAwake : cal env 13 [] = some [(.bool true, false)] := by
  have n1 := cal16 (l := [⟨5, 3⟩, ⟨0, 2⟩, ⟨7, 4⟩]) (by unfold okEs okE; decide) (by decide)
  rw [xNrm1, show nrmE [⟨5, 3⟩, ⟨0, 2⟩, ⟨7, 4⟩] = 0 from rfl] at n1
  have s1 := cal23 (l := [⟨0, 5⟩, ⟨10, 2⟩]) (m := 2) (by unfold okEs okE; decide) (by decide) (by decide)
  rw [xSplit, if_neg (by decide)] at s1
  have n2 := cal16 (l := [⟨-3, 5⟩]) (by unfold okEs okE; decide) (by decide)
  rw [xNrm2, show nrmE [⟨-3, 5⟩] = 2 from rfl] at n2
  have m1 := cal18 (a := [⟨0, 2⟩, ⟨5, 6⟩]) (b := [⟨0, 2⟩, ⟨5, 6⟩]) (by decide)
  rw [decide_eq_true rfl] at m1
  have m2 := cal18 (a := [⟨0, 2⟩, ⟨2, 2⟩, ⟨4, 1⟩, ⟨10, 2⟩]) (b := [⟨0, 2⟩, ⟨2, 2⟩, ⟨4, 1⟩, ⟨10, 2⟩]) (by decide)
  rw [decide_eq_true rfl] at m2
  have k1 := cal14 (l := [⟨0, 2⟩, ⟨5, 6⟩]) (size := 11) (by unfold okEs okE; decide) (by decide)
  rw [show chkX [⟨0, 2⟩, ⟨5, 6⟩] 11 = 0 from rfl] at k1
  have k2 := cal14 (l := [⟨0, 2⟩, ⟨5, 6⟩]) (size := 10) (by unfold okEs okE; decide) (by decide)
  rw [show chkX [⟨0, 2⟩, ⟨5, 6⟩] 10 = 2 from rfl] at k2
  have k3 := cal14 (l := [⟨0, 2⟩, ⟨2, 1⟩]) (size := 5) (by unfold okEs okE; decide) (by decide)
  rw [show chkX [⟨0, 2⟩, ⟨2, 1⟩] 5 = 3 from rfl] at k3
  have u1 := cal25 (a := [⟨0, 2⟩]) (b := [⟨2, 1⟩]) (by unfold okEs okE; decide) (by unfold okEs okE; decide) (by decide) (by decide)
  rw [xUni] at u1
  have m3 := cal18 (a := [⟨0, 3⟩]) (b := [⟨0, 3⟩]) (by decide)
  rw [decide_eq_true rfl] at m3
  have u2 := cal29 (a := [⟨0, 10⟩]) (b := [⟨3, 2⟩]) (by unfold okEs okE; decide) (by unfold okEs okE; decide) (by decide) (by decide)
  rw [xSub] at u2
  have m4 := cal18 (a := [⟨0, 3⟩, ⟨5, 5⟩]) (b := [⟨0, 3⟩, ⟨5, 5⟩]) (by decide)
  rw [decide_eq_true rfl] at m4
  have u3 := cal19 (l := [⟨3, 2⟩]) (size := 8) (by unfold okEs okE; decide) (by decide) (by decide)
  rw [xCompl] at u3
  have m5 := cal18 (a := [⟨0, 3⟩, ⟨5, 3⟩]) (b := [⟨0, 3⟩, ⟨5, 3⟩]) (by decide)
  rw [decide_eq_true rfl] at m5
  have c1 := cal31 (l := [⟨-3, 5⟩]) (by unfold okEs okE; decide) (by decide)
  rw [xCnt] at c1
  have h1 := cal21 (l := [⟨0, 2⟩, ⟨5, 6⟩]) (s := 10) (by unfold okEs okE; decide) (by decide)
  rw [show hasX [⟨0, 2⟩, ⟨5, 6⟩] 10 = true from rfl] at h1
  have h2 := cal21 (l := [⟨0, 2⟩, ⟨5, 6⟩]) (s := 11) (by unfold okEs okE; decide) (by decide)
  rw [show hasX [⟨0, 2⟩, ⟨5, 6⟩] 11 = false from rfl] at h2
  simp only [List.map_cons, List.map_nil, eExt] at n1 s1 n2 m1 m2 m3 m4 m5 k1 k2 k3 u1 u2 u3 c1 h1 h2
  have L1 : (1 ≤ lim) = True := eq_true (by decide)
  have L2 : (2 ≤ lim) = True := eq_true (by decide)
  have L3 : (3 ≤ lim) = True := eq_true (by decide)
  have L4 : (4 ≤ lim) = True := eq_true (by decide)
  rw [cal_code env13 rfl]; simp only [fn13, slAll, Nat.reduceBEq, Nat.reduceLeDiff, Nat.reduceAdd, List.length_cons, List.length_nil]
  simp only [cal33, n1, s1, n2, m1, m2, m3, m4, m5, k1, k2, k3, u1, u2, u3, c1, h1, h2, L1, L2, L3, L4, List.length_cons, List.length_nil, slAll, Nat.reduceMul, Nat.reduceBEq, Nat.reduceLT, Nat.reduceLeDiff, Nat.zero_le, List.take_zero, List.take_nil, List.take_succ_cons, List.length_cons, List.length_nil, Nat.le_refl, List.isEmpty_nil, val_pvs, frozen_pvs, msnoc_len, msnoc_get, msnoc_set, msnoc_take, Int.le_refl, take_map_all, Nat.le_refl, St.freezeRows, BV.frozen, List.take_length, List.take_append_drop, z_repl_zero, Int.toNat_zero, true_and, and_true, and_self, eq_self, z_take_zero, List.drop_nil, List.take_nil, vAll, List.foldl_nil, List.foldl_cons, resultsOf, resultList, resultOf, zBV, splice, PV.remade, St.freezeAt, St.freezeBox, St.freezeCap, PV.single, plain, act, dstOf, if_true, if_false, reduceCtorEq, St.get, St.put, St.pvOf, St.putRow, St.consume, St.freeze, St.row, St.elems, St.grab, St.takeRow, St.setRow, St.place, St.optPv, St.setCell, St.setCellRow, binPV, intBin, unPV, BV.val, Nat.reduceEqDiff, bound, consumeAll, buildParts, capsOf, capOf, List.append_nil, Nat.reduceAdd, Nat.reduceLT, Nat.reduceLeDiff, beq_self_eq_true, List.length_map, Nat.beq, dcall, dcallP, List.mapM_cons, St.snapFn, St.snap, St.layAll, St.lay, St.freezeArg, St.freezeArg1]
end Go.Proofs.Ytldmhbkfblbhaaa.V

namespace Go.Proofs.Ytldmhbkfblbhaaa.V
set_option linter.all false
theorem few1_len {a b : List Exn} (h : few1 a b = true) : a.length ≤ 20 ∧ b.length ≤ 20 := by
  unfold few1 at h
  simpa using h
theorem lim20 {n : Nat} (h : n ≤ 10000) : n ≤ lim := by unfold lim; omega
theorem set_len (k : Bool → Bool → Bool) (a b : List Exn) : (setOf k a b).length ≤ lim := lim20 (Nat.le_trans (ext_len _ _) (by decide))
theorem cal3 {l : List Exn} {size : Int} (ho : okEs l) (hs : -9223372036854775808 ≤ size ∧ size ≤ 9223372036854775807) : cal env 3 [.list 2 (l.map eExt), .int .i64 size] = some [(.bool true, false)] := by
  have e0 := cal12 (a := l) (b := [])
  have e3 := calAwake
  cases hf : few1 l [] with
  | false =>
    rw [hf] at e0
    simp only [List.map_nil] at e0
    rw [cal_code env3 rfl]; simp only [fn3, slAll, Nat.reduceBEq, Nat.reduceLeDiff, Nat.reduceAdd, List.length_cons, List.length_nil]
    simp only [e0, e3, slAll, Nat.reduceMul, Nat.reduceBEq, Nat.reduceLT, Nat.reduceLeDiff, Nat.zero_le, List.take_zero, List.take_nil, List.take_succ_cons, List.length_cons, List.length_nil, Nat.le_refl, List.isEmpty_nil, val_pvs, frozen_pvs, msnoc_len, msnoc_get, msnoc_set, msnoc_take, Int.le_refl, take_map_all, Nat.le_refl, St.freezeRows, BV.frozen, List.take_length, List.take_append_drop, z_repl_zero, Int.toNat_zero, true_and, and_true, and_self, eq_self, z_take_zero, List.drop_nil, List.take_nil, vAll, List.foldl_nil, List.foldl_cons, resultsOf, resultList, resultOf, zBV, splice, PV.remade, St.freezeAt, St.freezeBox, St.freezeCap, PV.single, plain, act, dstOf, if_true, if_false, reduceCtorEq, St.get, St.put, St.pvOf, St.putRow, St.consume, St.freeze, St.row, St.elems, St.grab, St.takeRow, St.setRow, St.place, St.optPv, St.setCell, St.setCellRow, binPV, intBin, unPV, BV.val, Nat.reduceEqDiff, bound, consumeAll, buildParts, capsOf, capOf, List.append_nil, Nat.reduceAdd, Nat.reduceLT, Nat.reduceLeDiff, beq_self_eq_true, List.length_map, Nat.beq, dcall, dcallP, List.mapM_cons, St.snapFn, St.snap, St.layAll, St.lay, St.freezeArg, St.freezeArg1]
  | true =>
    rw [hf] at e0
    have hl := few1_len hf
    have k1 := cal14 (size := size) ho (by omega)
    have k2 := cal15 (size := size) ho (by omega)
    simp only [List.map_nil] at e0
    rw [cal_code env3 rfl]; simp only [fn3, slAll, Nat.reduceBEq, Nat.reduceLeDiff, Nat.reduceAdd, List.length_cons, List.length_nil]
    simp only [e0, e3, k1, k2, slAll, Nat.reduceMul, Nat.reduceBEq, Nat.reduceLT, Nat.reduceLeDiff, Nat.zero_le, List.take_zero, List.take_nil, List.take_succ_cons, List.length_cons, List.length_nil, Nat.le_refl, List.isEmpty_nil, val_pvs, frozen_pvs, msnoc_len, msnoc_get, msnoc_set, msnoc_take, Int.le_refl, take_map_all, Nat.le_refl, St.freezeRows, BV.frozen, List.take_length, List.take_append_drop, z_repl_zero, Int.toNat_zero, true_and, and_true, and_self, eq_self, z_take_zero, List.drop_nil, List.take_nil, vAll, List.foldl_nil, List.foldl_cons, resultsOf, resultList, resultOf, zBV, splice, PV.remade, St.freezeAt, St.freezeBox, St.freezeCap, PV.single, plain, act, dstOf, if_true, if_false, reduceCtorEq, St.get, St.put, St.pvOf, St.putRow, St.consume, St.freeze, St.row, St.elems, St.grab, St.takeRow, St.setRow, St.place, St.optPv, St.setCell, St.setCellRow, binPV, intBin, unPV, BV.val, Nat.reduceEqDiff, bound, consumeAll, buildParts, capsOf, capOf, List.append_nil, Nat.reduceAdd, Nat.reduceLT, Nat.reduceLeDiff, beq_self_eq_true, List.length_map, Nat.beq, dcall, dcallP, List.mapM_cons, St.snapFn, St.snap, St.layAll, St.lay, St.freezeArg, St.freezeArg1]
theorem cal4 {l : List Exn} (ho : okEs l) : cal env 4 [.list 2 (l.map eExt)] = some [(.bool true, false)] := by
  have e0 := cal12 (a := l) (b := [])
  have e3 := calAwake
  cases hf : few1 l [] with
  | false =>
    rw [hf] at e0
    simp only [List.map_nil] at e0
    rw [cal_code env4 rfl]; simp only [fn4, slAll, Nat.reduceBEq, Nat.reduceLeDiff, Nat.reduceAdd, List.length_cons, List.length_nil]
    simp only [e0, e3, slAll, Nat.reduceMul, Nat.reduceBEq, Nat.reduceLT, Nat.reduceLeDiff, Nat.zero_le, List.take_zero, List.take_nil, List.take_succ_cons, List.length_cons, List.length_nil, Nat.le_refl, List.isEmpty_nil, val_pvs, frozen_pvs, msnoc_len, msnoc_get, msnoc_set, msnoc_take, Int.le_refl, take_map_all, Nat.le_refl, St.freezeRows, BV.frozen, List.take_length, List.take_append_drop, z_repl_zero, Int.toNat_zero, true_and, and_true, and_self, eq_self, z_take_zero, List.drop_nil, List.take_nil, vAll, List.foldl_nil, List.foldl_cons, resultsOf, resultList, resultOf, zBV, splice, PV.remade, St.freezeAt, St.freezeBox, St.freezeCap, PV.single, plain, act, dstOf, if_true, if_false, reduceCtorEq, St.get, St.put, St.pvOf, St.putRow, St.consume, St.freeze, St.row, St.elems, St.grab, St.takeRow, St.setRow, St.place, St.optPv, St.setCell, St.setCellRow, binPV, intBin, unPV, BV.val, Nat.reduceEqDiff, bound, consumeAll, buildParts, capsOf, capOf, List.append_nil, Nat.reduceAdd, Nat.reduceLT, Nat.reduceLeDiff, beq_self_eq_true, List.length_map, Nat.beq, dcall, dcallP, List.mapM_cons, St.snapFn, St.snap, St.layAll, St.lay, St.freezeArg, St.freezeArg1]
  | true =>
    rw [hf] at e0
    have hl := few1_len hf
    have k1 := cal16 ho (by omega)
    have k2 := cal17 ho (by omega)
    have hn : (nrmOut l).length ≤ lim := by
      unfold nrmOut
      split
      · exact set_len _ _ _
      · exact Nat.zero_le _
    have k3 := cal18 (a := nrmOut l) (b := nrmOut l) hn
    rw [decide_eq_true rfl] at k3
    simp only [List.map_nil] at e0
    rw [cal_code env4 rfl]; simp only [fn4, slAll, Nat.reduceBEq, Nat.reduceLeDiff, Nat.reduceAdd, List.length_cons, List.length_nil]
    simp only [e0, e3, k1, k2, k3, slAll, Nat.reduceMul, Nat.reduceBEq, Nat.reduceLT, Nat.reduceLeDiff, Nat.zero_le, List.take_zero, List.take_nil, List.take_succ_cons, List.length_cons, List.length_nil, Nat.le_refl, List.isEmpty_nil, val_pvs, frozen_pvs, msnoc_len, msnoc_get, msnoc_set, msnoc_take, Int.le_refl, take_map_all, Nat.le_refl, St.freezeRows, BV.frozen, List.take_length, List.take_append_drop, z_repl_zero, Int.toNat_zero, true_and, and_true, and_self, eq_self, z_take_zero, List.drop_nil, List.take_nil, vAll, List.foldl_nil, List.foldl_cons, resultsOf, resultList, resultOf, zBV, splice, PV.remade, St.freezeAt, St.freezeBox, St.freezeCap, PV.single, plain, act, dstOf, if_true, if_false, reduceCtorEq, St.get, St.put, St.pvOf, St.putRow, St.consume, St.freeze, St.row, St.elems, St.grab, St.takeRow, St.setRow, St.place, St.optPv, St.setCell, St.setCellRow, binPV, intBin, unPV, BV.val, Nat.reduceEqDiff, bound, consumeAll, buildParts, capsOf, capOf, List.append_nil, Nat.reduceAdd, Nat.reduceLT, Nat.reduceLeDiff, beq_self_eq_true, List.length_map, Nat.beq, dcall, dcallP, List.mapM_cons, St.snapFn, St.snap, St.layAll, St.lay, St.freezeArg, St.freezeArg1]
theorem cal5 {l : List Exn} {size sector : Int} (ho : okEs l) (hs : -9223372036854775808 ≤ size ∧ size ≤ 9223372036854775807) : cal env 5 [.list 2 (l.map eExt), .int .i64 size, .int .i64 sector] = some [(.bool true, false)] := by
  have e0 := cal12 (a := l) (b := [])
  have e3 := calAwake
  cases hf : few1 l [] with
  | false =>
    rw [hf] at e0
    simp only [List.map_nil] at e0
    rw [cal_code env5 rfl]; simp only [fn5, slAll, Nat.reduceBEq, Nat.reduceLeDiff, Nat.reduceAdd, List.length_cons, List.length_nil]
    simp only [e0, e3, slAll, Nat.reduceMul, Nat.reduceBEq, Nat.reduceLT, Nat.reduceLeDiff, Nat.zero_le, List.take_zero, List.take_nil, List.take_succ_cons, List.length_cons, List.length_nil, Nat.le_refl, List.isEmpty_nil, val_pvs, frozen_pvs, msnoc_len, msnoc_get, msnoc_set, msnoc_take, Int.le_refl, take_map_all, Nat.le_refl, St.freezeRows, BV.frozen, List.take_length, List.take_append_drop, z_repl_zero, Int.toNat_zero, true_and, and_true, and_self, eq_self, z_take_zero, List.drop_nil, List.take_nil, vAll, List.foldl_nil, List.foldl_cons, resultsOf, resultList, resultOf, zBV, splice, PV.remade, St.freezeAt, St.freezeBox, St.freezeCap, PV.single, plain, act, dstOf, if_true, if_false, reduceCtorEq, St.get, St.put, St.pvOf, St.putRow, St.consume, St.freeze, St.row, St.elems, St.grab, St.takeRow, St.setRow, St.place, St.optPv, St.setCell, St.setCellRow, binPV, intBin, unPV, BV.val, Nat.reduceEqDiff, bound, consumeAll, buildParts, capsOf, capOf, List.append_nil, Nat.reduceAdd, Nat.reduceLT, Nat.reduceLeDiff, beq_self_eq_true, List.length_map, Nat.beq, dcall, dcallP, List.mapM_cons, St.snapFn, St.snap, St.layAll, St.lay, St.freezeArg, St.freezeArg1]
  | true =>
    rw [hf] at e0
    have hl := few1_len hf
    have k1 := cal19 ho (by omega) hs
    have k2 := cal20 ho (by omega) hs
    have k3 := cal18 (a := compl l size) (b := compl l size) (lim20 (Nat.le_trans (ext_len _ _) (by have := compN_le size; omega)))
    rw [decide_eq_true rfl] at k3
    have k4 := cal21 (s := sector) ho (by omega)
    have k5 := cal22 (s := sector) ho (by omega)
    simp only [List.map_nil] at e0
    rw [cal_code env5 rfl]; simp only [fn5, slAll, Nat.reduceBEq, Nat.reduceLeDiff, Nat.reduceAdd, List.length_cons, List.length_nil]
    simp only [e0, e3, k1, k2, k3, k4, k5, slAll, Nat.reduceMul, Nat.reduceBEq, Nat.reduceLT, Nat.reduceLeDiff, Nat.zero_le, List.take_zero, List.take_nil, List.take_succ_cons, List.length_cons, List.length_nil, Nat.le_refl, List.isEmpty_nil, val_pvs, frozen_pvs, msnoc_len, msnoc_get, msnoc_set, msnoc_take, Int.le_refl, take_map_all, Nat.le_refl, St.freezeRows, BV.frozen, List.take_length, List.take_append_drop, z_repl_zero, Int.toNat_zero, true_and, and_true, and_self, eq_self, z_take_zero, List.drop_nil, List.take_nil, vAll, List.foldl_nil, List.foldl_cons, resultsOf, resultList, resultOf, zBV, splice, PV.remade, St.freezeAt, St.freezeBox, St.freezeCap, PV.single, plain, act, dstOf, if_true, if_false, reduceCtorEq, St.get, St.put, St.pvOf, St.putRow, St.consume, St.freeze, St.row, St.elems, St.grab, St.takeRow, St.setRow, St.place, St.optPv, St.setCell, St.setCellRow, binPV, intBin, unPV, BV.val, Nat.reduceEqDiff, bound, consumeAll, buildParts, capsOf, capOf, List.append_nil, Nat.reduceAdd, Nat.reduceLT, Nat.reduceLeDiff, beq_self_eq_true, List.length_map, Nat.beq, dcall, dcallP, List.mapM_cons, St.snapFn, St.snap, St.layAll, St.lay, St.freezeArg, St.freezeArg1]
theorem cal6 {l : List Exn} {m : Int} (ho : okEs l) (hm : -9223372036854775808 ≤ m ∧ m ≤ 9223372036854775807) : cal env 6 [.list 2 (l.map eExt), .int .i64 m] = some [(.bool true, false)] := by
  have e0 := cal12 (a := l) (b := [])
  have e3 := calAwake
  cases hf : few1 l [] with
  | false =>
    rw [hf] at e0
    simp only [List.map_nil] at e0
    rw [cal_code env6 rfl]; simp only [fn6, slAll, Nat.reduceBEq, Nat.reduceLeDiff, Nat.reduceAdd, List.length_cons, List.length_nil]
    simp only [e0, e3, slAll, Nat.reduceMul, Nat.reduceBEq, Nat.reduceLT, Nat.reduceLeDiff, Nat.zero_le, List.take_zero, List.take_nil, List.take_succ_cons, List.length_cons, List.length_nil, Nat.le_refl, List.isEmpty_nil, val_pvs, frozen_pvs, msnoc_len, msnoc_get, msnoc_set, msnoc_take, Int.le_refl, take_map_all, Nat.le_refl, St.freezeRows, BV.frozen, List.take_length, List.take_append_drop, z_repl_zero, Int.toNat_zero, true_and, and_true, and_self, eq_self, z_take_zero, List.drop_nil, List.take_nil, vAll, List.foldl_nil, List.foldl_cons, resultsOf, resultList, resultOf, zBV, splice, PV.remade, St.freezeAt, St.freezeBox, St.freezeCap, PV.single, plain, act, dstOf, if_true, if_false, reduceCtorEq, St.get, St.put, St.pvOf, St.putRow, St.consume, St.freeze, St.row, St.elems, St.grab, St.takeRow, St.setRow, St.place, St.optPv, St.setCell, St.setCellRow, binPV, intBin, unPV, BV.val, Nat.reduceEqDiff, bound, consumeAll, buildParts, capsOf, capOf, List.append_nil, Nat.reduceAdd, Nat.reduceLT, Nat.reduceLeDiff, beq_self_eq_true, List.length_map, Nat.beq, dcall, dcallP, List.mapM_cons, St.snapFn, St.snap, St.layAll, St.lay, St.freezeArg, St.freezeArg1]
  | true =>
    rw [hf] at e0
    have hl := few1_len hf
    have k1 := cal23 ho (by omega) hm
    have k2 := cal24 ho (by omega) hm
    have hn : (splX l m).length ≤ lim := by
      unfold splX
      split
      · exact Nat.zero_le _
      · have h1 := flat_len (m := m) (by omega) (l := orS l) (fun x hx => by rw [orS_eq] at hx; exact ext_in _ _ x hx)
        have h2 : (orS l).length ≤ 4096 := by rw [orS_eq]; exact ext_len _ _
        unfold lim
        omega
    have k3 := cal18 (a := splX l m) (b := splX l m) hn
    rw [decide_eq_true rfl] at k3
    simp only [List.map_nil] at e0
    rw [cal_code env6 rfl]; simp only [fn6, slAll, Nat.reduceBEq, Nat.reduceLeDiff, Nat.reduceAdd, List.length_cons, List.length_nil]
    simp only [e0, e3, k1, k2, k3, slAll, Nat.reduceMul, Nat.reduceBEq, Nat.reduceLT, Nat.reduceLeDiff, Nat.zero_le, List.take_zero, List.take_nil, List.take_succ_cons, List.length_cons, List.length_nil, Nat.le_refl, List.isEmpty_nil, val_pvs, frozen_pvs, msnoc_len, msnoc_get, msnoc_set, msnoc_take, Int.le_refl, take_map_all, Nat.le_refl, St.freezeRows, BV.frozen, List.take_length, List.take_append_drop, z_repl_zero, Int.toNat_zero, true_and, and_true, and_self, eq_self, z_take_zero, List.drop_nil, List.take_nil, vAll, List.foldl_nil, List.foldl_cons, resultsOf, resultList, resultOf, zBV, splice, PV.remade, St.freezeAt, St.freezeBox, St.freezeCap, PV.single, plain, act, dstOf, if_true, if_false, reduceCtorEq, St.get, St.put, St.pvOf, St.putRow, St.consume, St.freeze, St.row, St.elems, St.grab, St.takeRow, St.setRow, St.place, St.optPv, St.setCell, St.setCellRow, binPV, intBin, unPV, BV.val, Nat.reduceEqDiff, bound, consumeAll, buildParts, capsOf, capOf, List.append_nil, Nat.reduceAdd, Nat.reduceLT, Nat.reduceLeDiff, beq_self_eq_true, List.length_map, Nat.beq, dcall, dcallP, List.mapM_cons, St.snapFn, St.snap, St.layAll, St.lay, St.freezeArg, St.freezeArg1]
theorem cal8 {a b : List Exn} (ha : okEs a) (hb : okEs b) : cal env 8 [.list 2 (a.map eExt), .list 2 (b.map eExt)] = some [(.bool true, false)] := by
  have e0 := cal12 (a := a) (b := b)
  have e3 := calAwake
  cases hf : few1 a b with
  | false =>
    rw [hf] at e0
    rw [cal_code env8 rfl]; simp only [fn8, slAll, Nat.reduceBEq, Nat.reduceLeDiff, Nat.reduceAdd, List.length_cons, List.length_nil]
    simp only [e0, e3, slAll, Nat.reduceMul, Nat.reduceBEq, Nat.reduceLT, Nat.reduceLeDiff, Nat.zero_le, List.take_zero, List.take_nil, List.take_succ_cons, List.length_cons, List.length_nil, Nat.le_refl, List.isEmpty_nil, val_pvs, frozen_pvs, msnoc_len, msnoc_get, msnoc_set, msnoc_take, Int.le_refl, take_map_all, Nat.le_refl, St.freezeRows, BV.frozen, List.take_length, List.take_append_drop, z_repl_zero, Int.toNat_zero, true_and, and_true, and_self, eq_self, z_take_zero, List.drop_nil, List.take_nil, vAll, List.foldl_nil, List.foldl_cons, resultsOf, resultList, resultOf, zBV, splice, PV.remade, St.freezeAt, St.freezeBox, St.freezeCap, PV.single, plain, act, dstOf, if_true, if_false, reduceCtorEq, St.get, St.put, St.pvOf, St.putRow, St.consume, St.freeze, St.row, St.elems, St.grab, St.takeRow, St.setRow, St.place, St.optPv, St.setCell, St.setCellRow, binPV, intBin, unPV, BV.val, Nat.reduceEqDiff, bound, consumeAll, buildParts, capsOf, capOf, List.append_nil, Nat.reduceAdd, Nat.reduceLT, Nat.reduceLeDiff, beq_self_eq_true, List.length_map, Nat.beq, dcall, dcallP, List.mapM_cons, St.snapFn, St.snap, St.layAll, St.lay, St.freezeArg, St.freezeArg1]
  | true =>
    rw [hf] at e0
    have hl := few1_len hf
    have k1 := cal25 ha hb (by omega) (by omega)
    have k2 := cal26 ha hb (by omega) (by omega)
    have k3 := cal18 (a := setOf orB a b) (b := setOf orB a b) (set_len _ _ _)
    rw [decide_eq_true rfl] at k3
    have j1 := cal27 ha hb (by omega) (by omega)
    have j2 := cal28 ha hb (by omega) (by omega)
    have j3 := cal18 (a := setOf andB a b) (b := setOf andB a b) (set_len _ _ _)
    rw [decide_eq_true rfl] at j3
    have i1 := cal29 ha hb (by omega) (by omega)
    have i2 := cal30 ha hb (by omega) (by omega)
    have i3 := cal18 (a := setOf subB a b) (b := setOf subB a b) (set_len _ _ _)
    rw [decide_eq_true rfl] at i3
    have c1 := cal31 ha (by omega)
    have c2 := cal32 ha (by omega)
    rw [cal_code env8 rfl]; simp only [fn8, slAll, Nat.reduceBEq, Nat.reduceLeDiff, Nat.reduceAdd, List.length_cons, List.length_nil]
    simp only [e0, e3, k1, k2, k3, j1, j2, j3, i1, i2, i3, c1, c2, slAll, Nat.reduceMul, Nat.reduceBEq, Nat.reduceLT, Nat.reduceLeDiff, Nat.zero_le, List.take_zero, List.take_nil, List.take_succ_cons, List.length_cons, List.length_nil, Nat.le_refl, List.isEmpty_nil, val_pvs, frozen_pvs, msnoc_len, msnoc_get, msnoc_set, msnoc_take, Int.le_refl, take_map_all, Nat.le_refl, St.freezeRows, BV.frozen, List.take_length, List.take_append_drop, z_repl_zero, Int.toNat_zero, true_and, and_true, and_self, eq_self, z_take_zero, List.drop_nil, List.take_nil, vAll, List.foldl_nil, List.foldl_cons, resultsOf, resultList, resultOf, zBV, splice, PV.remade, St.freezeAt, St.freezeBox, St.freezeCap, PV.single, plain, act, dstOf, if_true, if_false, reduceCtorEq, St.get, St.put, St.pvOf, St.putRow, St.consume, St.freeze, St.row, St.elems, St.grab, St.takeRow, St.setRow, St.place, St.optPv, St.setCell, St.setCellRow, binPV, intBin, unPV, BV.val, Nat.reduceEqDiff, bound, consumeAll, buildParts, capsOf, capOf, List.append_nil, Nat.reduceAdd, Nat.reduceLT, Nat.reduceLeDiff, beq_self_eq_true, List.length_map, Nat.beq, dcall, dcallP, List.mapM_cons, St.snapFn, St.snap, St.layAll, St.lay, St.freezeArg, St.freezeArg1]
end Go.Proofs.Ytldmhbkfblbhaaa.V
