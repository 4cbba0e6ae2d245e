/-
  Part 10 of the texts that the statement stands on.
-/
import Derived.Test.YtldnpgbacakfeaaZ9
set_option linter.all false
namespace Go.Proofs.Ytldnpgbacakfeaa.V
set_option linter.all false
theorem cal28 {im : Img} {v : Int} {e : Exn} (hl : im.length ≤ lim) (hr : ∀ v ∈ im, v.length ≤ lim) : cal env 28 [.list 1 (im.map eSecs), eI v, eExt e] = some [(eSecs (readOut im v e), true), (.int .i64 (readErr im v e), false)] := by
  obtain ⟨s, c⟩ := e
  have e1 := cal18 hl
  simp only [eI, eExt] at *
  by_cases h0 : 0 ≤ v ∧ v < im.length
  · have h1 := index_int (k := .i64) h0.1 h0.2
    have h2 : v.toNat < im.length := by omega
    have h3 := List.getElem?_eq_getElem h2
    have h4 : im[v.toNat].length ≤ lim := hr _ (List.getElem_mem h2)
    by_cases h6 : 0 ≤ s ∧ s ≤ im[v.toNat].length
    · have h5 : IntKind.i64.wrap ((im[v.toNat].length : Int) - s) = im[v.toNat].length - s := i64_fits (by unfold lim at *; omega)
      by_cases h7 : 0 ≤ c ∧ c ≤ im[v.toNat].length - s
      · have h8 : IntKind.i64.wrap (s + c) = s + c := i64_fits (by unfold lim at *; omega)
        have h9 : (0 ≤ s + c ∧ s + c ≤ (im[v.toNat].length : Int)) = True := eq_true (by omega)
        have h10 : (0 ≤ s ∧ s ≤ ((s + c).toNat : Int)) = True := eq_true (by omega)
        have h11 : (((im[v.toNat].map eSec).drop s.toNat).take ((s + c).toNat - s.toNat)) = ((im[v.toNat].drop s.toNat).take c.toNat).map eSec := by
          rw [List.map_take, List.map_drop]; congr 1; omega
        have h12 : ((im[v.toNat].drop s.toNat).take c.toNat).length ≤ lim := by simp; omega
        have e2 := cal58 (es := ((im[v.toNat].drop s.toNat).take c.toNat).map eSec) (by rw [List.length_map]; exact h12)
        rw [cal_code env28 rfl]; simp only [fn28]; simp only [start, z_map_cons, z_map_nil, z_len_cons, z_len_nil, z_repl_zero, z_repl_succ, z_cons_app, z_nil_app, Nat.reduceAdd, Nat.reduceSub]
        simp only [e1, h1, h3, h5, h8, h9, h10, h11, e2, eSecs, List.getElem?_map, val_pvs, frozen_pvs, msnoc_len, msnoc_get, msnoc_set, msnoc_take, Int.le_refl, take_map_all, Nat.le_refl, St.freezeRows, BV.frozen, List.take_length, List.take_append_drop, z_repl_zero, Int.toNat_zero, true_and, and_true, and_self, eq_self, z_take_zero, List.drop_nil, List.take_nil, vAll, List.foldl_nil, List.foldl_cons, resultsOf, resultList, resultOf, zBV, splice, PV.remade, St.freezeAt, St.freezeBox, PV.single, plain, act, dstOf, if_true, if_false, reduceCtorEq, St.get, St.put, St.pvOf, St.putRow, St.consume, St.freeze, St.row, St.elems, St.grab, St.takeRow, St.setRow, St.place, St.optPv, St.setCell, St.setCellRow, binPV, intBin, unPV, BV.val, Nat.reduceEqDiff, bound, consumeAll, buildParts, capsOf, capOf, List.append_nil, Nat.reduceAdd, Nat.reduceLT, Nat.reduceLeDiff, beq_self_eq_true, List.length_map, Nat.beq, dcall, dcallP, List.mapM_cons, St.snapFn, St.snap, St.layAll, St.lay, St.freezeArg, St.freezeArg1]
        repeat' ((try simp only [bcase_bind, bcase_map, tail_bcase]); refine bcase_split (fun hb => ?_) (fun hb => ?_) <;> try simp only [hb, e1, h1, h3, h5, h8, h9, h10, h11, e2, eSecs, List.getElem?_map, val_pvs, frozen_pvs, msnoc_len, msnoc_get, msnoc_set, msnoc_take, Int.le_refl, take_map_all, Nat.le_refl, St.freezeRows, BV.frozen, List.take_length, List.take_append_drop, z_repl_zero, Int.toNat_zero, true_and, and_true, and_self, eq_self, z_take_zero, List.drop_nil, List.take_nil, vAll, List.foldl_nil, List.foldl_cons, resultsOf, resultList, resultOf, zBV, splice, PV.remade, St.freezeAt, St.freezeBox, PV.single, plain, act, dstOf, if_true, if_false, reduceCtorEq, St.get, St.put, St.pvOf, St.putRow, St.consume, St.freeze, St.row, St.elems, St.grab, St.takeRow, St.setRow, St.place, St.optPv, St.setCell, St.setCellRow, binPV, intBin, unPV, BV.val, Nat.reduceEqDiff, bound, consumeAll, buildParts, capsOf, capOf, List.append_nil, Nat.reduceAdd, Nat.reduceLT, Nat.reduceLeDiff, beq_self_eq_true, List.length_map, Nat.beq, dcall, dcallP, List.mapM_cons, St.snapFn, St.snap, St.layAll, St.lay, St.freezeArg, St.freezeArg1])
        all_goals clear h1 h3 h5 h8 h9 h10 h11 e2
        all_goals simp only [readOut, readErr, getD_get h2, decide_eq_true_eq, decide_eq_false_iff_not, beq_iff_eq, beq_eq_false_iff_ne, ne_eq, ge_iff_le, gt_iff_lt, Bool.and_eq_true, Bool.or_eq_true, Bool.not_eq_true', Bool.not_eq_false'] at *
        all_goals first | (exfalso; omega) | ((repeat' split) <;> first | rfl | (exfalso; omega))
      · --
        rw [cal_code env28 rfl]; simp only [fn28]; simp only [start, z_map_cons, z_map_nil, z_len_cons, z_len_nil, z_repl_zero, z_repl_succ, z_cons_app, z_nil_app, Nat.reduceAdd, Nat.reduceSub]
        simp only [e1, h1, h3, h5, eSecs, List.getElem?_map, val_pvs, frozen_pvs, msnoc_len, msnoc_get, msnoc_set, msnoc_take, Int.le_refl, take_map_all, Nat.le_refl, St.freezeRows, BV.frozen, List.take_length, List.take_append_drop, z_repl_zero, Int.toNat_zero, true_and, and_true, and_self, eq_self, z_take_zero, List.drop_nil, List.take_nil, vAll, List.foldl_nil, List.foldl_cons, resultsOf, resultList, resultOf, zBV, splice, PV.remade, St.freezeAt, St.freezeBox, PV.single, plain, act, dstOf, if_true, if_false, reduceCtorEq, St.get, St.put, St.pvOf, St.putRow, St.consume, St.freeze, St.row, St.elems, St.grab, St.takeRow, St.setRow, St.place, St.optPv, St.setCell, St.setCellRow, binPV, intBin, unPV, BV.val, Nat.reduceEqDiff, bound, consumeAll, buildParts, capsOf, capOf, List.append_nil, Nat.reduceAdd, Nat.reduceLT, Nat.reduceLeDiff, beq_self_eq_true, List.length_map, Nat.beq, dcall, dcallP, List.mapM_cons, St.snapFn, St.snap, St.layAll, St.lay, St.freezeArg, St.freezeArg1]
        repeat' ((try simp only [bcase_bind, bcase_map, tail_bcase]); refine bcase_split (fun hb => ?_) (fun hb => ?_) <;> try simp only [hb, e1, h1, h3, h5, eSecs, List.getElem?_map, val_pvs, frozen_pvs, msnoc_len, msnoc_get, msnoc_set, msnoc_take, Int.le_refl, take_map_all, Nat.le_refl, St.freezeRows, BV.frozen, List.take_length, List.take_append_drop, z_repl_zero, Int.toNat_zero, true_and, and_true, and_self, eq_self, z_take_zero, List.drop_nil, List.take_nil, vAll, List.foldl_nil, List.foldl_cons, resultsOf, resultList, resultOf, zBV, splice, PV.remade, St.freezeAt, St.freezeBox, PV.single, plain, act, dstOf, if_true, if_false, reduceCtorEq, St.get, St.put, St.pvOf, St.putRow, St.consume, St.freeze, St.row, St.elems, St.grab, St.takeRow, St.setRow, St.place, St.optPv, St.setCell, St.setCellRow, binPV, intBin, unPV, BV.val, Nat.reduceEqDiff, bound, consumeAll, buildParts, capsOf, capOf, List.append_nil, Nat.reduceAdd, Nat.reduceLT, Nat.reduceLeDiff, beq_self_eq_true, List.length_map, Nat.beq, dcall, dcallP, List.mapM_cons, St.snapFn, St.snap, St.layAll, St.lay, St.freezeArg, St.freezeArg1])
        all_goals clear h1 h3 h5
        all_goals simp only [readOut, readErr, getD_get h2, decide_eq_true_eq, decide_eq_false_iff_not, beq_iff_eq, beq_eq_false_iff_ne, ne_eq, ge_iff_le, gt_iff_lt, Bool.and_eq_true, Bool.or_eq_true, Bool.not_eq_true', Bool.not_eq_false'] at *
        all_goals first | (exfalso; omega) | ((repeat' split) <;> first | rfl | (exfalso; omega))
    · --
      rw [cal_code env28 rfl]; simp only [fn28]; simp only [start, z_map_cons, z_map_nil, z_len_cons, z_len_nil, z_repl_zero, z_repl_succ, z_cons_app, z_nil_app, Nat.reduceAdd, Nat.reduceSub]
      simp only [e1, h1, h3, eSecs, List.getElem?_map, val_pvs, frozen_pvs, msnoc_len, msnoc_get, msnoc_set, msnoc_take, Int.le_refl, take_map_all, Nat.le_refl, St.freezeRows, BV.frozen, List.take_length, List.take_append_drop, z_repl_zero, Int.toNat_zero, true_and, and_true, and_self, eq_self, z_take_zero, List.drop_nil, List.take_nil, vAll, List.foldl_nil, List.foldl_cons, resultsOf, resultList, resultOf, zBV, splice, PV.remade, St.freezeAt, St.freezeBox, PV.single, plain, act, dstOf, if_true, if_false, reduceCtorEq, St.get, St.put, St.pvOf, St.putRow, St.consume, St.freeze, St.row, St.elems, St.grab, St.takeRow, St.setRow, St.place, St.optPv, St.setCell, St.setCellRow, binPV, intBin, unPV, BV.val, Nat.reduceEqDiff, bound, consumeAll, buildParts, capsOf, capOf, List.append_nil, Nat.reduceAdd, Nat.reduceLT, Nat.reduceLeDiff, beq_self_eq_true, List.length_map, Nat.beq, dcall, dcallP, List.mapM_cons, St.snapFn, St.snap, St.layAll, St.lay, St.freezeArg, St.freezeArg1]
      repeat' ((try simp only [bcase_bind, bcase_map, tail_bcase]); refine bcase_split (fun hb => ?_) (fun hb => ?_) <;> try simp only [hb, e1, h1, h3, eSecs, List.getElem?_map, val_pvs, frozen_pvs, msnoc_len, msnoc_get, msnoc_set, msnoc_take, Int.le_refl, take_map_all, Nat.le_refl, St.freezeRows, BV.frozen, List.take_length, List.take_append_drop, z_repl_zero, Int.toNat_zero, true_and, and_true, and_self, eq_self, z_take_zero, List.drop_nil, List.take_nil, vAll, List.foldl_nil, List.foldl_cons, resultsOf, resultList, resultOf, zBV, splice, PV.remade, St.freezeAt, St.freezeBox, PV.single, plain, act, dstOf, if_true, if_false, reduceCtorEq, St.get, St.put, St.pvOf, St.putRow, St.consume, St.freeze, St.row, St.elems, St.grab, St.takeRow, St.setRow, St.place, St.optPv, St.setCell, St.setCellRow, binPV, intBin, unPV, BV.val, Nat.reduceEqDiff, bound, consumeAll, buildParts, capsOf, capOf, List.append_nil, Nat.reduceAdd, Nat.reduceLT, Nat.reduceLeDiff, beq_self_eq_true, List.length_map, Nat.beq, dcall, dcallP, List.mapM_cons, St.snapFn, St.snap, St.layAll, St.lay, St.freezeArg, St.freezeArg1])
      all_goals clear h1 h3
      all_goals simp only [readOut, readErr, getD_get h2, decide_eq_true_eq, decide_eq_false_iff_not, beq_iff_eq, beq_eq_false_iff_ne, ne_eq, ge_iff_le, gt_iff_lt, Bool.and_eq_true, Bool.or_eq_true, Bool.not_eq_true', Bool.not_eq_false'] at *
      all_goals first | (exfalso; omega) | ((repeat' split) <;> first | rfl | (exfalso; omega))
  · rw [cal_code env28 rfl]; simp only [fn28]; simp only [start, z_map_cons, z_map_nil, z_len_cons, z_len_nil, z_repl_zero, z_repl_succ, z_cons_app, z_nil_app, Nat.reduceAdd, Nat.reduceSub]
    simp only [e1, eSecs, List.getElem?_map, index_b, val_pvs, frozen_pvs, msnoc_len, msnoc_get, msnoc_set, msnoc_take, Int.le_refl, take_map_all, Nat.le_refl, St.freezeRows, BV.frozen, List.take_length, List.take_append_drop, z_repl_zero, Int.toNat_zero, true_and, and_true, and_self, eq_self, z_take_zero, List.drop_nil, List.take_nil, vAll, List.foldl_nil, List.foldl_cons, resultsOf, resultList, resultOf, zBV, splice, PV.remade, St.freezeAt, St.freezeBox, PV.single, plain, act, dstOf, if_true, if_false, reduceCtorEq, St.get, St.put, St.pvOf, St.putRow, St.consume, St.freeze, St.row, St.elems, St.grab, St.takeRow, St.setRow, St.place, St.optPv, St.setCell, St.setCellRow, binPV, intBin, unPV, BV.val, Nat.reduceEqDiff, bound, consumeAll, buildParts, capsOf, capOf, List.append_nil, Nat.reduceAdd, Nat.reduceLT, Nat.reduceLeDiff, beq_self_eq_true, List.length_map, Nat.beq, dcall, dcallP, List.mapM_cons, St.snapFn, St.snap, St.layAll, St.lay, St.freezeArg, St.freezeArg1]
    repeat' ((try simp only [bcase_bind, bcase_map, tail_bcase]); refine bcase_split (fun hb => ?_) (fun hb => ?_) <;> try simp only [hb, e1, eSecs, List.getElem?_map, index_b, val_pvs, frozen_pvs, msnoc_len, msnoc_get, msnoc_set, msnoc_take, Int.le_refl, take_map_all, Nat.le_refl, St.freezeRows, BV.frozen, List.take_length, List.take_append_drop, z_repl_zero, Int.toNat_zero, true_and, and_true, and_self, eq_self, z_take_zero, List.drop_nil, List.take_nil, vAll, List.foldl_nil, List.foldl_cons, resultsOf, resultList, resultOf, zBV, splice, PV.remade, St.freezeAt, St.freezeBox, PV.single, plain, act, dstOf, if_true, if_false, reduceCtorEq, St.get, St.put, St.pvOf, St.putRow, St.consume, St.freeze, St.row, St.elems, St.grab, St.takeRow, St.setRow, St.place, St.optPv, St.setCell, St.setCellRow, binPV, intBin, unPV, BV.val, Nat.reduceEqDiff, bound, consumeAll, buildParts, capsOf, capOf, List.append_nil, Nat.reduceAdd, Nat.reduceLT, Nat.reduceLeDiff, beq_self_eq_true, List.length_map, Nat.beq, dcall, dcallP, List.mapM_cons, St.snapFn, St.snap, St.layAll, St.lay, St.freezeArg, St.freezeArg1])
    all_goals simp only [readOut, readErr, decide_eq_true_eq, decide_eq_false_iff_not, beq_iff_eq, beq_eq_false_iff_ne, ne_eq, ge_iff_le, gt_iff_lt, Bool.and_eq_true, Bool.or_eq_true, Bool.not_eq_true', Bool.not_eq_false'] at *
    all_goals first | (exfalso; omega) | ((repeat' split) <;> first | rfl | (exfalso; omega))
theorem cal29 {im : Img} {v : Int} {e : Exn} (hl : im.length ≤ lim) (hr : ∀ v ∈ im, v.length ≤ lim) : cal env 29 [.list 1 (im.map eSecs), eI v, eExt e] = some [(eSecs (readOut im v e), true), (.int .i64 (readErr im v e), false)] := by
  obtain ⟨s, c⟩ := e
  have e1 := cal19 hl
  simp only [eI, eExt] at *
  by_cases h0 : 0 ≤ v ∧ v < im.length
  · have h1 := index_int (k := .i64) h0.1 h0.2
    have h2 : v.toNat < im.length := by omega
    have h3 := List.getElem?_eq_getElem h2
    have h4 : im[v.toNat].length ≤ lim := hr _ (List.getElem_mem h2)
    by_cases h6 : 0 ≤ s ∧ s ≤ im[v.toNat].length
    · have h5 : IntKind.i64.wrap ((im[v.toNat].length : Int) - s) = im[v.toNat].length - s := i64_fits (by unfold lim at *; omega)
      by_cases h7 : 0 ≤ c ∧ c ≤ im[v.toNat].length - s
      · have h8 : IntKind.i64.wrap (s + c) = s + c := i64_fits (by unfold lim at *; omega)
        have h9 : (0 ≤ s + c ∧ s + c ≤ (im[v.toNat].length : Int)) = True := eq_true (by omega)
        have h10 : (0 ≤ s ∧ s ≤ ((s + c).toNat : Int)) = True := eq_true (by omega)
        have h11 : (((im[v.toNat].map eSec).drop s.toNat).take ((s + c).toNat - s.toNat)) = ((im[v.toNat].drop s.toNat).take c.toNat).map eSec := by
          rw [List.map_take, List.map_drop]; congr 1; omega
        have h12 : ((im[v.toNat].drop s.toNat).take c.toNat).length ≤ lim := by simp; omega
        have e2 : (((im[v.toNat].drop s.toNat).take c.toNat).length ≤ lim) = True := eq_true h12
        rw [cal_code env29 rfl]; simp only [fn29]; simp only [start, z_map_cons, z_map_nil, z_len_cons, z_len_nil, z_repl_zero, z_repl_succ, z_cons_app, z_nil_app, Nat.reduceAdd, Nat.reduceSub]
        simp only [e1, h1, h3, h5, h8, h9, h10, h11, e2, eSecs, List.getElem?_map, val_pvs, frozen_pvs, msnoc_len, msnoc_get, msnoc_set, msnoc_take, Int.le_refl, take_map_all, Nat.le_refl, St.freezeRows, BV.frozen, List.take_length, List.take_append_drop, z_repl_zero, Int.toNat_zero, true_and, and_true, and_self, eq_self, z_take_zero, List.drop_nil, List.take_nil, vAll, List.foldl_nil, List.foldl_cons, resultsOf, resultList, resultOf, zBV, splice, PV.remade, St.freezeAt, St.freezeBox, PV.single, plain, act, dstOf, if_true, if_false, reduceCtorEq, St.get, St.put, St.pvOf, St.putRow, St.consume, St.freeze, St.row, St.elems, St.grab, St.takeRow, St.setRow, St.place, St.optPv, St.setCell, St.setCellRow, binPV, intBin, unPV, BV.val, Nat.reduceEqDiff, bound, consumeAll, buildParts, capsOf, capOf, List.append_nil, Nat.reduceAdd, Nat.reduceLT, Nat.reduceLeDiff, beq_self_eq_true, List.length_map, Nat.beq, dcall, dcallP, List.mapM_cons, St.snapFn, St.snap, St.layAll, St.lay, St.freezeArg, St.freezeArg1]
        repeat' ((try simp only [bcase_bind, bcase_map, tail_bcase]); refine bcase_split (fun hb => ?_) (fun hb => ?_) <;> try simp only [hb, e1, h1, h3, h5, h8, h9, h10, h11, e2, eSecs, List.getElem?_map, val_pvs, frozen_pvs, msnoc_len, msnoc_get, msnoc_set, msnoc_take, Int.le_refl, take_map_all, Nat.le_refl, St.freezeRows, BV.frozen, List.take_length, List.take_append_drop, z_repl_zero, Int.toNat_zero, true_and, and_true, and_self, eq_self, z_take_zero, List.drop_nil, List.take_nil, vAll, List.foldl_nil, List.foldl_cons, resultsOf, resultList, resultOf, zBV, splice, PV.remade, St.freezeAt, St.freezeBox, PV.single, plain, act, dstOf, if_true, if_false, reduceCtorEq, St.get, St.put, St.pvOf, St.putRow, St.consume, St.freeze, St.row, St.elems, St.grab, St.takeRow, St.setRow, St.place, St.optPv, St.setCell, St.setCellRow, binPV, intBin, unPV, BV.val, Nat.reduceEqDiff, bound, consumeAll, buildParts, capsOf, capOf, List.append_nil, Nat.reduceAdd, Nat.reduceLT, Nat.reduceLeDiff, beq_self_eq_true, List.length_map, Nat.beq, dcall, dcallP, List.mapM_cons, St.snapFn, St.snap, St.layAll, St.lay, St.freezeArg, St.freezeArg1])
        all_goals clear h1 h3 h5 h8 h9 h10 h11 e2
        all_goals simp only [readOut, readErr, getD_get h2, decide_eq_true_eq, decide_eq_false_iff_not, beq_iff_eq, beq_eq_false_iff_ne, ne_eq, ge_iff_le, gt_iff_lt, Bool.and_eq_true, Bool.or_eq_true, Bool.not_eq_true', Bool.not_eq_false'] at *
        all_goals first | (exfalso; omega) | ((repeat' split) <;> first | rfl | (exfalso; omega))
      · --
        rw [cal_code env29 rfl]; simp only [fn29]; simp only [start, z_map_cons, z_map_nil, z_len_cons, z_len_nil, z_repl_zero, z_repl_succ, z_cons_app, z_nil_app, Nat.reduceAdd, Nat.reduceSub]
        simp only [e1, h1, h3, h5, eSecs, List.getElem?_map, val_pvs, frozen_pvs, msnoc_len, msnoc_get, msnoc_set, msnoc_take, Int.le_refl, take_map_all, Nat.le_refl, St.freezeRows, BV.frozen, List.take_length, List.take_append_drop, z_repl_zero, Int.toNat_zero, true_and, and_true, and_self, eq_self, z_take_zero, List.drop_nil, List.take_nil, vAll, List.foldl_nil, List.foldl_cons, resultsOf, resultList, resultOf, zBV, splice, PV.remade, St.freezeAt, St.freezeBox, PV.single, plain, act, dstOf, if_true, if_false, reduceCtorEq, St.get, St.put, St.pvOf, St.putRow, St.consume, St.freeze, St.row, St.elems, St.grab, St.takeRow, St.setRow, St.place, St.optPv, St.setCell, St.setCellRow, binPV, intBin, unPV, BV.val, Nat.reduceEqDiff, bound, consumeAll, buildParts, capsOf, capOf, List.append_nil, Nat.reduceAdd, Nat.reduceLT, Nat.reduceLeDiff, beq_self_eq_true, List.length_map, Nat.beq, dcall, dcallP, List.mapM_cons, St.snapFn, St.snap, St.layAll, St.lay, St.freezeArg, St.freezeArg1]
        repeat' ((try simp only [bcase_bind, bcase_map, tail_bcase]); refine bcase_split (fun hb => ?_) (fun hb => ?_) <;> try simp only [hb, e1, h1, h3, h5, eSecs, List.getElem?_map, val_pvs, frozen_pvs, msnoc_len, msnoc_get, msnoc_set, msnoc_take, Int.le_refl, take_map_all, Nat.le_refl, St.freezeRows, BV.frozen, List.take_length, List.take_append_drop, z_repl_zero, Int.toNat_zero, true_and, and_true, and_self, eq_self, z_take_zero, List.drop_nil, List.take_nil, vAll, List.foldl_nil, List.foldl_cons, resultsOf, resultList, resultOf, zBV, splice, PV.remade, St.freezeAt, St.freezeBox, PV.single, plain, act, dstOf, if_true, if_false, reduceCtorEq, St.get, St.put, St.pvOf, St.putRow, St.consume, St.freeze, St.row, St.elems, St.grab, St.takeRow, St.setRow, St.place, St.optPv, St.setCell, St.setCellRow, binPV, intBin, unPV, BV.val, Nat.reduceEqDiff, bound, consumeAll, buildParts, capsOf, capOf, List.append_nil, Nat.reduceAdd, Nat.reduceLT, Nat.reduceLeDiff, beq_self_eq_true, List.length_map, Nat.beq, dcall, dcallP, List.mapM_cons, St.snapFn, St.snap, St.layAll, St.lay, St.freezeArg, St.freezeArg1])
        all_goals clear h1 h3 h5
        all_goals simp only [readOut, readErr, getD_get h2, decide_eq_true_eq, decide_eq_false_iff_not, beq_iff_eq, beq_eq_false_iff_ne, ne_eq, ge_iff_le, gt_iff_lt, Bool.and_eq_true, Bool.or_eq_true, Bool.not_eq_true', Bool.not_eq_false'] at *
        all_goals first | (exfalso; omega) | ((repeat' split) <;> first | rfl | (exfalso; omega))
    · --
      rw [cal_code env29 rfl]; simp only [fn29]; simp only [start, z_map_cons, z_map_nil, z_len_cons, z_len_nil, z_repl_zero, z_repl_succ, z_cons_app, z_nil_app, Nat.reduceAdd, Nat.reduceSub]
      simp only [e1, h1, h3, eSecs, List.getElem?_map, val_pvs, frozen_pvs, msnoc_len, msnoc_get, msnoc_set, msnoc_take, Int.le_refl, take_map_all, Nat.le_refl, St.freezeRows, BV.frozen, List.take_length, List.take_append_drop, z_repl_zero, Int.toNat_zero, true_and, and_true, and_self, eq_self, z_take_zero, List.drop_nil, List.take_nil, vAll, List.foldl_nil, List.foldl_cons, resultsOf, resultList, resultOf, zBV, splice, PV.remade, St.freezeAt, St.freezeBox, PV.single, plain, act, dstOf, if_true, if_false, reduceCtorEq, St.get, St.put, St.pvOf, St.putRow, St.consume, St.freeze, St.row, St.elems, St.grab, St.takeRow, St.setRow, St.place, St.optPv, St.setCell, St.setCellRow, binPV, intBin, unPV, BV.val, Nat.reduceEqDiff, bound, consumeAll, buildParts, capsOf, capOf, List.append_nil, Nat.reduceAdd, Nat.reduceLT, Nat.reduceLeDiff, beq_self_eq_true, List.length_map, Nat.beq, dcall, dcallP, List.mapM_cons, St.snapFn, St.snap, St.layAll, St.lay, St.freezeArg, St.freezeArg1]
      repeat' ((try simp only [bcase_bind, bcase_map, tail_bcase]); refine bcase_split (fun hb => ?_) (fun hb => ?_) <;> try simp only [hb, e1, h1, h3, eSecs, List.getElem?_map, val_pvs, frozen_pvs, msnoc_len, msnoc_get, msnoc_set, msnoc_take, Int.le_refl, take_map_all, Nat.le_refl, St.freezeRows, BV.frozen, List.take_length, List.take_append_drop, z_repl_zero, Int.toNat_zero, true_and, and_true, and_self, eq_self, z_take_zero, List.drop_nil, List.take_nil, vAll, List.foldl_nil, List.foldl_cons, resultsOf, resultList, resultOf, zBV, splice, PV.remade, St.freezeAt, St.freezeBox, PV.single, plain, act, dstOf, if_true, if_false, reduceCtorEq, St.get, St.put, St.pvOf, St.putRow, St.consume, St.freeze, St.row, St.elems, St.grab, St.takeRow, St.setRow, St.place, St.optPv, St.setCell, St.setCellRow, binPV, intBin, unPV, BV.val, Nat.reduceEqDiff, bound, consumeAll, buildParts, capsOf, capOf, List.append_nil, Nat.reduceAdd, Nat.reduceLT, Nat.reduceLeDiff, beq_self_eq_true, List.length_map, Nat.beq, dcall, dcallP, List.mapM_cons, St.snapFn, St.snap, St.layAll, St.lay, St.freezeArg, St.freezeArg1])
      all_goals clear h1 h3
      all_goals simp only [readOut, readErr, getD_get h2, decide_eq_true_eq, decide_eq_false_iff_not, beq_iff_eq, beq_eq_false_iff_ne, ne_eq, ge_iff_le, gt_iff_lt, Bool.and_eq_true, Bool.or_eq_true, Bool.not_eq_true', Bool.not_eq_false'] at *
      all_goals first | (exfalso; omega) | ((repeat' split) <;> first | rfl | (exfalso; omega))
  · rw [cal_code env29 rfl]; simp only [fn29]; simp only [start, z_map_cons, z_map_nil, z_len_cons, z_len_nil, z_repl_zero, z_repl_succ, z_cons_app, z_nil_app, Nat.reduceAdd, Nat.reduceSub]
    simp only [e1, eSecs, List.getElem?_map, index_b, val_pvs, frozen_pvs, msnoc_len, msnoc_get, msnoc_set, msnoc_take, Int.le_refl, take_map_all, Nat.le_refl, St.freezeRows, BV.frozen, List.take_length, List.take_append_drop, z_repl_zero, Int.toNat_zero, true_and, and_true, and_self, eq_self, z_take_zero, List.drop_nil, List.take_nil, vAll, List.foldl_nil, List.foldl_cons, resultsOf, resultList, resultOf, zBV, splice, PV.remade, St.freezeAt, St.freezeBox, PV.single, plain, act, dstOf, if_true, if_false, reduceCtorEq, St.get, St.put, St.pvOf, St.putRow, St.consume, St.freeze, St.row, St.elems, St.grab, St.takeRow, St.setRow, St.place, St.optPv, St.setCell, St.setCellRow, binPV, intBin, unPV, BV.val, Nat.reduceEqDiff, bound, consumeAll, buildParts, capsOf, capOf, List.append_nil, Nat.reduceAdd, Nat.reduceLT, Nat.reduceLeDiff, beq_self_eq_true, List.length_map, Nat.beq, dcall, dcallP, List.mapM_cons, St.snapFn, St.snap, St.layAll, St.lay, St.freezeArg, St.freezeArg1]
    repeat' ((try simp only [bcase_bind, bcase_map, tail_bcase]); refine bcase_split (fun hb => ?_) (fun hb => ?_) <;> try simp only [hb, e1, eSecs, List.getElem?_map, index_b, val_pvs, frozen_pvs, msnoc_len, msnoc_get, msnoc_set, msnoc_take, Int.le_refl, take_map_all, Nat.le_refl, St.freezeRows, BV.frozen, List.take_length, List.take_append_drop, z_repl_zero, Int.toNat_zero, true_and, and_true, and_self, eq_self, z_take_zero, List.drop_nil, List.take_nil, vAll, List.foldl_nil, List.foldl_cons, resultsOf, resultList, resultOf, zBV, splice, PV.remade, St.freezeAt, St.freezeBox, PV.single, plain, act, dstOf, if_true, if_false, reduceCtorEq, St.get, St.put, St.pvOf, St.putRow, St.consume, St.freeze, St.row, St.elems, St.grab, St.takeRow, St.setRow, St.place, St.optPv, St.setCell, St.setCellRow, binPV, intBin, unPV, BV.val, Nat.reduceEqDiff, bound, consumeAll, buildParts, capsOf, capOf, List.append_nil, Nat.reduceAdd, Nat.reduceLT, Nat.reduceLeDiff, beq_self_eq_true, List.length_map, Nat.beq, dcall, dcallP, List.mapM_cons, St.snapFn, St.snap, St.layAll, St.lay, St.freezeArg, St.freezeArg1])
    all_goals simp only [readOut, readErr, decide_eq_true_eq, decide_eq_false_iff_not, beq_iff_eq, beq_eq_false_iff_ne, ne_eq, ge_iff_le, gt_iff_lt, Bool.and_eq_true, Bool.or_eq_true, Bool.not_eq_true', Bool.not_eq_false'] at *
    all_goals first | (exfalso; omega) | ((repeat' split) <;> first | rfl | (exfalso; omega))
end Go.Proofs.Ytldnpgbacakfeaa.V

namespace Go.Proofs.Ytldnpgbacakfeaa.V
set_option linter.all false
theorem calAwake : cal env 14 [] = some [(.bool true, false)] := cal_of_vmCall (n := 200) (by kernel_rfl)
end Go.Proofs.Ytldnpgbacakfeaa.V

namespace Go.Proofs.Ytldnpgbacakfeaa.V
set_option linter.all false

theorem few7_len {im : Img} (h : few7 im = true) : im.length ≤ 9 ∧ ∀ v ∈ im, v.length ≤ 24 := by
  simp only [few7, Bool.and_eq_true, decide_eq_true_eq, List.all_eq_true] at h
  exact h
theorem few7_lim {im : Img} (h : few7 im = true) : im.length ≤ lim ∧ ∀ v ∈ im, v.length ≤ lim := by
  obtain ⟨h1, h2⟩ := few7_len h
  exact ⟨by unfold lim; omega, fun v hv => by have := h2 v hv; unfold lim; omega⟩
theorem readOut_len {im : Img} {v : Int} {e : Exn} (h : ∀ v ∈ im, v.length ≤ lim) : (readOut im v e).length ≤ lim := by
  unfold readOut
  split
  · simp only [List.length_take, List.length_drop, List.getD_eq_getElem?_getD]
    cases hx : im[v.toNat]? with
    | none => simp
    | some x => have := h x (List.mem_of_getElem? hx); simp only [Option.getD_some]; omega
  · simp
theorem cal7 {im : Img} {v : Int} {e : Exn} : cal env 7 [.list 1 (im.map eSecs), eI v, eExt e] = some [(.bool true, false)] := by
  have e0 := cal11 (im := im)
  have e3 := calAwake
  by_cases hf : few7 im = true
  · obtain ⟨hl, hr⟩ := few7_lim hf
    have e1 := cal28 (v := v) (e := e) hl hr
    have e2 := cal29 (v := v) (e := e) hl hr
    have e4 := cal30 (l := readOut im v e) (m := readOut im v e) (readOut_len hr)
    rw [hf] at e0
    simp only [eSecs, eI, eExt, decide_true, eq_self] at e0 e1 e2 e4 ⊢
    rw [cal_code env7 rfl]; simp only [fn7]; simp only [start, z_map_cons, z_map_nil, z_len_cons, z_len_nil, z_repl_zero, z_repl_succ, z_cons_app, z_nil_app, Nat.reduceAdd, Nat.reduceSub]
    simp only [e0, e1, e2, e3, e4, beq_self_eq_true, val_pvs, frozen_pvs, msnoc_len, msnoc_get, msnoc_set, msnoc_take, Int.le_refl, take_map_all, Nat.le_refl, St.freezeRows, BV.frozen, List.take_length, List.take_append_drop, z_repl_zero, Int.toNat_zero, true_and, and_true, and_self, eq_self, z_take_zero, List.drop_nil, List.take_nil, vAll, List.foldl_nil, List.foldl_cons, resultsOf, resultList, resultOf, zBV, splice, PV.remade, St.freezeAt, St.freezeBox, PV.single, plain, act, dstOf, if_true, if_false, reduceCtorEq, St.get, St.put, St.pvOf, St.putRow, St.consume, St.freeze, St.row, St.elems, St.grab, St.takeRow, St.setRow, St.place, St.optPv, St.setCell, St.setCellRow, binPV, intBin, unPV, BV.val, Nat.reduceEqDiff, bound, consumeAll, buildParts, capsOf, capOf, List.append_nil, Nat.reduceAdd, Nat.reduceLT, Nat.reduceLeDiff, beq_self_eq_true, List.length_map, Nat.beq, dcall, dcallP, List.mapM_cons, St.snapFn, St.snap, St.layAll, St.lay, St.freezeArg, St.freezeArg1]
    try simp only [bcase_bind, bcase_map, tail_bcase]
  · have hf : few7 im = false := by simpa using hf
    rw [hf] at e0
    simp only [eI, eExt] at *
    rw [cal_code env7 rfl]; simp only [fn7]; simp only [start, z_map_cons, z_map_nil, z_len_cons, z_len_nil, z_repl_zero, z_repl_succ, z_cons_app, z_nil_app, Nat.reduceAdd, Nat.reduceSub]
    simp only [e0, e3, val_pvs, frozen_pvs, msnoc_len, msnoc_get, msnoc_set, msnoc_take, Int.le_refl, take_map_all, Nat.le_refl, St.freezeRows, BV.frozen, List.take_length, List.take_append_drop, z_repl_zero, Int.toNat_zero, true_and, and_true, and_self, eq_self, z_take_zero, List.drop_nil, List.take_nil, vAll, List.foldl_nil, List.foldl_cons, resultsOf, resultList, resultOf, zBV, splice, PV.remade, St.freezeAt, St.freezeBox, PV.single, plain, act, dstOf, if_true, if_false, reduceCtorEq, St.get, St.put, St.pvOf, St.putRow, St.consume, St.freeze, St.row, St.elems, St.grab, St.takeRow, St.setRow, St.place, St.optPv, St.setCell, St.setCellRow, binPV, intBin, unPV, BV.val, Nat.reduceEqDiff, bound, consumeAll, buildParts, capsOf, capOf, List.append_nil, Nat.reduceAdd, Nat.reduceLT, Nat.reduceLeDiff, beq_self_eq_true, List.length_map, Nat.beq, dcall, dcallP, List.mapM_cons, St.snapFn, St.snap, St.layAll, St.lay, St.freezeArg, St.freezeArg1]
end Go.Proofs.Ytldnpgbacakfeaa.V

namespace Go.Proofs.Ytldnpgbacakfeaa.V
set_option linter.all false

theorem cal57 {l m : List Exn} (hl : l.length ≤ lim) : cal env 57 [eExts l, eExts m] = some [(.bool (decide (l = m)), false)] := by
  have e1 := cal42 (m := m) hl
  unfold eExts
  rw [cal_code env57 rfl]; simp only [fn57]; simp only [start, z_map_cons, z_map_nil, z_len_cons, z_len_nil, z_repl_zero, z_repl_succ, z_cons_app, z_nil_app, Nat.reduceAdd, Nat.reduceSub]
  simp only [e1, val_pvs, frozen_pvs, msnoc_len, msnoc_get, msnoc_set, msnoc_take, Int.le_refl, take_map_all, Nat.le_refl, St.freezeRows, BV.frozen, List.take_length, List.take_append_drop, z_repl_zero, Int.toNat_zero, true_and, and_true, and_self, eq_self, z_take_zero, List.drop_nil, List.take_nil, vAll, List.foldl_nil, List.foldl_cons, resultsOf, resultList, resultOf, zBV, splice, PV.remade, St.freezeAt, St.freezeBox, PV.single, plain, act, dstOf, if_true, if_false, reduceCtorEq, St.get, St.put, St.pvOf, St.putRow, St.consume, St.freeze, St.row, St.elems, St.grab, St.takeRow, St.setRow, St.place, St.optPv, St.setCell, St.setCellRow, binPV, intBin, unPV, BV.val, Nat.reduceEqDiff, bound, consumeAll, buildParts, capsOf, capOf, List.append_nil, Nat.reduceAdd, Nat.reduceLT, Nat.reduceLeDiff, beq_self_eq_true, List.length_map, Nat.beq, dcall, dcallP, List.mapM_cons, St.snapFn, St.snap, St.layAll, St.lay, St.freezeArg, St.freezeArg1]
theorem cal27 {l m : List (List Exn)} (hl : l.length ≤ lim) (hr : ∀ x ∈ l, x.length ≤ lim) : cal env 27 [.list 1 (l.map eExts), .list 1 (m.map eExts)] = some [(.bool (decide (l = m)), false)] := by
  have e1 := cal56 (enc := eExts) (enc2 := eExts) (l := l) (m := m) (eq := fun x y => decide (x = y)) (caps := []) (fun x hx y _ => cal57 (hr x hx)) (fun x => rfl) (fun x => rfl) hl
  rw [eqF_eq] at e1
  rw [cal_code env27 rfl]; simp only [fn27]; simp only [start, z_map_cons, z_map_nil, z_len_cons, z_len_nil, z_repl_zero, z_repl_succ, z_cons_app, z_nil_app, Nat.reduceAdd, Nat.reduceSub]
  simp only [e1, val_pvs, frozen_pvs, msnoc_len, msnoc_get, msnoc_set, msnoc_take, Int.le_refl, take_map_all, Nat.le_refl, St.freezeRows, BV.frozen, List.take_length, List.take_append_drop, z_repl_zero, Int.toNat_zero, true_and, and_true, and_self, eq_self, z_take_zero, List.drop_nil, List.take_nil, vAll, List.foldl_nil, List.foldl_cons, resultsOf, resultList, resultOf, zBV, splice, PV.remade, St.freezeAt, St.freezeBox, PV.single, plain, act, dstOf, if_true, if_false, reduceCtorEq, St.get, St.put, St.pvOf, St.putRow, St.consume, St.freeze, St.row, St.elems, St.grab, St.takeRow, St.setRow, St.place, St.optPv, St.setCell, St.setCellRow, binPV, intBin, unPV, BV.val, Nat.reduceEqDiff, bound, consumeAll, buildParts, capsOf, capOf, List.append_nil, Nat.reduceAdd, Nat.reduceLT, Nat.reduceLeDiff, beq_self_eq_true, List.length_map, Nat.beq, dcall, dcallP, List.mapM_cons, St.snapFn, St.snap, St.layAll, St.lay, St.freezeArg, St.freezeArg1]
theorem loop64 {a b : List Sec} (hl : a.length ≤ lim) (hab : a.length = b.length) {st : St} (h : st.head [0, 1, 5] st.boxes.length = some ⟨[.pv (.list 8 (a.map eSec)), .pv (.list 8 (b.map eSec)), .any, .any, .any, .pv (.int .i64 (0 : Nat)), .any, .any, .any, .any, .any, .any, .any, .any, .any, .any, .any, .any, .any, .any, .any, .any, .any, .any, .any, .any], [], [], none⟩) :
   den env fn64_l1 st = if a = b then some (.normal, ⟨[.any, .any, .any, .any, .any, .any, .any, .any, .any, .any, .any, .any, .any, .any, .any, .any, .any, .any, .any, .any, .any, .any, .any, .any, .any, .any], [], [], none⟩) else some (.ret, ⟨[.any, .any, .any, .any, .pv (.bool false), .any, .any, .any, .any, .any, .any, .any, .any, .any, .any, .any, .any, .any, .any, .any, .any, .any, .any, .any, .any, .any], [], [], none⟩) := by
  unfold fn64_l1
  rw [ clean_up (env := env) (a.length) (fun i => ⟨[.pv (.list 8 (a.map eSec)), .pv (.list 8 (b.map eSec)), .any, .any, .any, .pv (.int .i64 i), .any, .any, .any, .any, .any, .any, .any, .any, .any, .any, .any, .any, .any, .any, .any, .any, .any, .any, .any, .any], [], [], none⟩) (fun i => if a.drop i = b.drop i then some (.normal, ⟨[.any, .any, .any, .any, .any, .any, .any, .any, .any, .any, .any, .any, .any, .any, .any, .any, .any, .any, .any, .any, .any, .any, .any, .any, .any, .any], [], [], none⟩) else some (.ret, ⟨[.any, .any, .any, .any, .pv (.bool false), .any, .any, .any, .any, .any, .any, .any, .any, .any, .any, .any, .any, .any, .any, .any, .any, .any, .any, .any, .any, .any], [], [], none⟩)) h (fun _ => rfl) (fun _ => rfl) ?_ ?_]
  · first | rfl | simp only [List.drop_zero, List.take_zero, List.map_nil, Nat.zero_add, List.nil_append, List.foldl_nil]
  · intro i rb hi ih

    have hi1 := i64_next hi hl
    have hj : i < b.length := by omega
    have F1 : ((i : Int) < (a.length : Int)) = True := eq_true (by omega)
    rw [List.drop_eq_getElem_cons hi, List.drop_eq_getElem_cons hj]
    by_cases hd : a[i] = b[i]
    · simp only [fn64_b0, F1, eSec, index_nat hi, index_nat hj, List.getElem?_map, List.getElem?_eq_getElem hi, List.getElem?_eq_getElem hj, part_sec, secPV_length, eqCells_sec, hd, decide_true, val_pvs, frozen_pvs, msnoc_len, msnoc_get, msnoc_set, msnoc_take, Int.le_refl, take_map_all, Nat.le_refl, St.freezeRows, BV.frozen, List.take_length, List.take_append_drop, z_repl_zero, Int.toNat_zero, true_and, and_true, and_self, eq_self, z_take_zero, List.drop_nil, List.take_nil, vAll, List.foldl_nil, List.foldl_cons, resultsOf, resultList, resultOf, zBV, splice, PV.remade, St.freezeAt, St.freezeBox, PV.single, plain, act, dstOf, if_true, if_false, reduceCtorEq, St.get, St.put, St.pvOf, St.putRow, St.consume, St.freeze, St.row, St.elems, St.grab, St.takeRow, St.setRow, St.place, St.optPv, St.setCell, St.setCellRow, binPV, intBin, unPV, BV.val, Nat.reduceEqDiff, bound, consumeAll, buildParts, capsOf, capOf, List.append_nil, Nat.reduceAdd, Nat.reduceLT, Nat.reduceLeDiff, beq_self_eq_true, List.length_map, Nat.beq, dcall, dcallP, List.mapM_cons, St.snapFn, St.snap, St.layAll, St.lay, St.freezeArg, St.freezeArg1]
      rw [ih _ (by simp only [hi1]; rfl)]
      simp only [List.cons.injEq, true_and]
    · have hdf := decide_eq_false hd
      simp only [fn64_b0, F1, eSec, index_nat hi, index_nat hj, List.getElem?_map, List.getElem?_eq_getElem hi, List.getElem?_eq_getElem hj, part_sec, secPV_length, eqCells_sec, hdf, val_pvs, frozen_pvs, msnoc_len, msnoc_get, msnoc_set, msnoc_take, Int.le_refl, take_map_all, Nat.le_refl, St.freezeRows, BV.frozen, List.take_length, List.take_append_drop, z_repl_zero, Int.toNat_zero, true_and, and_true, and_self, eq_self, z_take_zero, List.drop_nil, List.take_nil, vAll, List.foldl_nil, List.foldl_cons, resultsOf, resultList, resultOf, zBV, splice, PV.remade, St.freezeAt, St.freezeBox, PV.single, plain, act, dstOf, if_true, if_false, reduceCtorEq, St.get, St.put, St.pvOf, St.putRow, St.consume, St.freeze, St.row, St.elems, St.grab, St.takeRow, St.setRow, St.place, St.optPv, St.setCell, St.setCellRow, binPV, intBin, unPV, BV.val, Nat.reduceEqDiff, bound, consumeAll, buildParts, capsOf, capOf, List.append_nil, Nat.reduceAdd, Nat.reduceLT, Nat.reduceLeDiff, beq_self_eq_true, List.length_map, Nat.beq, dcall, dcallP, List.mapM_cons, St.snapFn, St.snap, St.layAll, St.lay, St.freezeArg, St.freezeArg1]
      rw [if_neg (fun e => hd (List.cons.inj e).1)]
      rfl
  · intro rb

    simp only [fn64_b0, Int.lt_irrefl,  val_pvs, frozen_pvs, msnoc_len, msnoc_get, msnoc_set, msnoc_take, Int.le_refl, take_map_all, Nat.le_refl, St.freezeRows, BV.frozen, List.take_length, List.take_append_drop, z_repl_zero, Int.toNat_zero, true_and, and_true, and_self, eq_self, z_take_zero, List.drop_nil, List.take_nil, vAll, List.foldl_nil, List.foldl_cons, resultsOf, resultList, resultOf, zBV, splice, PV.remade, St.freezeAt, St.freezeBox, PV.single, plain, act, dstOf, if_true, if_false, reduceCtorEq, St.get, St.put, St.pvOf, St.putRow, St.consume, St.freeze, St.row, St.elems, St.grab, St.takeRow, St.setRow, St.place, St.optPv, St.setCell, St.setCellRow, binPV, intBin, unPV, BV.val, Nat.reduceEqDiff, bound, consumeAll, buildParts, capsOf, capOf, List.append_nil, Nat.reduceAdd, Nat.reduceLT, Nat.reduceLeDiff, beq_self_eq_true, List.length_map, Nat.beq, dcall, dcallP, List.mapM_cons, St.snapFn, St.snap, St.layAll, St.lay, St.freezeArg, St.freezeArg1]
    rw [List.drop_length, hab, List.drop_length, if_pos rfl]
    rfl

theorem cal64 {a b : List Sec} (hl : a.length ≤ lim) : cal env 64 [.list 8 (a.map eSec), .list 8 (b.map eSec)] = some [(.bool (decide (a = b)), false)] := by
  rw [cal_code env64 rfl]; simp only [fn64]; simp only [start, z_map_cons, z_map_nil, z_len_cons, z_len_nil, z_repl_zero, z_repl_succ, z_cons_app, z_nil_app, Nat.reduceAdd, Nat.reduceSub]
  by_cases hab : a.length = b.length
  · have G : (((a.length : Int)) != (b.length : Int)) = false := by simp; omega
    simp only [G, val_pvs, frozen_pvs, msnoc_len, msnoc_get, msnoc_set, msnoc_take, Int.le_refl, take_map_all, Nat.le_refl, St.freezeRows, BV.frozen, List.take_length, List.take_append_drop, z_repl_zero, Int.toNat_zero, true_and, and_true, and_self, eq_self, z_take_zero, List.drop_nil, List.take_nil, vAll, List.foldl_nil, List.foldl_cons, resultsOf, resultList, resultOf, zBV, splice, PV.remade, St.freezeAt, St.freezeBox, PV.single, plain, act, dstOf, if_true, if_false, reduceCtorEq, St.get, St.put, St.pvOf, St.putRow, St.consume, St.freeze, St.row, St.elems, St.grab, St.takeRow, St.setRow, St.place, St.optPv, St.setCell, St.setCellRow, binPV, intBin, unPV, BV.val, Nat.reduceEqDiff, bound, consumeAll, buildParts, capsOf, capOf, List.append_nil, Nat.reduceAdd, Nat.reduceLT, Nat.reduceLeDiff, beq_self_eq_true, List.length_map, Nat.beq, dcall, dcallP, List.mapM_cons, St.snapFn, St.snap, St.layAll, St.lay, St.freezeArg, St.freezeArg1]
    rw [loop64 hl hab]
    rotate_left
    · rfl
    · by_cases e : a = b <;> simp only [e, val_pvs, frozen_pvs, msnoc_len, msnoc_get, msnoc_set, msnoc_take, Int.le_refl, take_map_all, Nat.le_refl, St.freezeRows, BV.frozen, List.take_length, List.take_append_drop, z_repl_zero, Int.toNat_zero, true_and, and_true, and_self, eq_self, z_take_zero, List.drop_nil, List.take_nil, vAll, List.foldl_nil, List.foldl_cons, resultsOf, resultList, resultOf, zBV, splice, PV.remade, St.freezeAt, St.freezeBox, PV.single, plain, act, dstOf, if_true, if_false, reduceCtorEq, St.get, St.put, St.pvOf, St.putRow, St.consume, St.freeze, St.row, St.elems, St.grab, St.takeRow, St.setRow, St.place, St.optPv, St.setCell, St.setCellRow, binPV, intBin, unPV, BV.val, Nat.reduceEqDiff, bound, consumeAll, buildParts, capsOf, capOf, List.append_nil, Nat.reduceAdd, Nat.reduceLT, Nat.reduceLeDiff, beq_self_eq_true, List.length_map, Nat.beq, dcall, dcallP, List.mapM_cons, St.snapFn, St.snap, St.layAll, St.lay, St.freezeArg, St.freezeArg1]
  · have G : (((a.length : Int)) != (b.length : Int)) = true := by simp; omega
    have : a ≠ b := fun e => hab (by rw [e])
    have hdf := decide_eq_false this
    simp only [G, hdf, val_pvs, frozen_pvs, msnoc_len, msnoc_get, msnoc_set, msnoc_take, Int.le_refl, take_map_all, Nat.le_refl, St.freezeRows, BV.frozen, List.take_length, List.take_append_drop, z_repl_zero, Int.toNat_zero, true_and, and_true, and_self, eq_self, z_take_zero, List.drop_nil, List.take_nil, vAll, List.foldl_nil, List.foldl_cons, resultsOf, resultList, resultOf, zBV, splice, PV.remade, St.freezeAt, St.freezeBox, PV.single, plain, act, dstOf, if_true, if_false, reduceCtorEq, St.get, St.put, St.pvOf, St.putRow, St.consume, St.freeze, St.row, St.elems, St.grab, St.takeRow, St.setRow, St.place, St.optPv, St.setCell, St.setCellRow, binPV, intBin, unPV, BV.val, Nat.reduceEqDiff, bound, consumeAll, buildParts, capsOf, capOf, List.append_nil, Nat.reduceAdd, Nat.reduceLT, Nat.reduceLeDiff, beq_self_eq_true, List.length_map, Nat.beq, dcall, dcallP, List.mapM_cons, St.snapFn, St.snap, St.layAll, St.lay, St.freezeArg, St.freezeArg1]
theorem loop35 {a : List Wrt} (hl : a.length ≤ lim) (hd : ∀ x ∈ a, x.data.length ≤ lim) {st : St} (h : st.head [0, 1, 5] st.boxes.length = some ⟨[.pv (.list 3 (a.map eWr)), .pv (.list 3 (a.map eWr)), .any, .any, .any, .pv (.int .i64 (0 : Nat)), .any, .any, .any, .any, .any, .any, .any, .any, .any, .any, .any, .any, .any, .any, .any, .any, .any, .any, .any, .any, .any, .any, .any, .any, .any, .any, .any, .any, .any, .any, .any, .any, .any, .any, .any, .any, .any, .any, .any, .any, .any, .any, .any, .any, .any, .any, .any, .any, .any], [], [], none⟩) :
   den env fn35_l1 st = some (.normal, ⟨[.any, .any, .any, .any, .any, .any, .any, .any, .any, .any, .any, .any, .any, .any, .any, .any, .any, .any, .any, .any, .any, .any, .any, .any, .any, .any, .any, .any, .any, .any, .any, .any, .any, .any, .any, .any, .any, .any, .any, .any, .any, .any, .any, .any, .any, .any, .any, .any, .any, .any, .any, .any, .any, .any, .any], [], [], none⟩) := by
  unfold fn35_l1
  refine clean_up (env := env) (a.length) (fun i => ⟨[.pv (.list 3 (a.map eWr)), .pv (.list 3 (a.map eWr)), .any, .any, .any, .pv (.int .i64 i), .any, .any, .any, .any, .any, .any, .any, .any, .any, .any, .any, .any, .any, .any, .any, .any, .any, .any, .any, .any, .any, .any, .any, .any, .any, .any, .any, .any, .any, .any, .any, .any, .any, .any, .any, .any, .any, .any, .any, .any, .any, .any, .any, .any, .any, .any, .any, .any, .any], [], [], none⟩) (fun i => some (.normal, ⟨[.any, .any, .any, .any, .any, .any, .any, .any, .any, .any, .any, .any, .any, .any, .any, .any, .any, .any, .any, .any, .any, .any, .any, .any, .any, .any, .any, .any, .any, .any, .any, .any, .any, .any, .any, .any, .any, .any, .any, .any, .any, .any, .any, .any, .any, .any, .any, .any, .any, .any, .any, .any, .any, .any, .any], [], [], none⟩)) h (fun _ => rfl) (fun _ => rfl) ?_ ?_
  · intro i rb hi ih

    have hi1 := i64_next hi hl
    have F1 : ((i : Int) < (a.length : Int)) = True := eq_true (by omega)
    have e1 := cal64 (b := a[i].data) (hd _ (List.getElem_mem hi))
    have F2 : ∀ n : Int, (n != n) = false := fun n => by simp
    simp only [fn35_b0, F1, F2, e1, eWr, index_nat hi, List.getElem?_map, List.getElem?_eq_getElem hi, Option.map_some, decide_true, val_pvs, frozen_pvs, msnoc_len, msnoc_get, msnoc_set, msnoc_take, Int.le_refl, take_map_all, Nat.le_refl, St.freezeRows, BV.frozen, List.take_length, List.take_append_drop, z_repl_zero, Int.toNat_zero, true_and, and_true, and_self, eq_self, z_take_zero, List.drop_nil, List.take_nil, vAll, List.foldl_nil, List.foldl_cons, resultsOf, resultList, resultOf, zBV, splice, PV.remade, St.freezeAt, St.freezeBox, PV.single, plain, act, dstOf, if_true, if_false, reduceCtorEq, St.get, St.put, St.pvOf, St.putRow, St.consume, St.freeze, St.row, St.elems, St.grab, St.takeRow, St.setRow, St.place, St.optPv, St.setCell, St.setCellRow, binPV, intBin, unPV, BV.val, Nat.reduceEqDiff, bound, consumeAll, buildParts, capsOf, capOf, List.append_nil, Nat.reduceAdd, Nat.reduceLT, Nat.reduceLeDiff, beq_self_eq_true, List.length_map, Nat.beq, dcall, dcallP, List.mapM_cons, St.snapFn, St.snap, St.layAll, St.lay, St.freezeArg, St.freezeArg1]
    rw [ih _ (by simp only [hi1]; rfl)]
  · intro rb

    simp only [fn35_b0, Int.lt_irrefl,  val_pvs, frozen_pvs, msnoc_len, msnoc_get, msnoc_set, msnoc_take, Int.le_refl, take_map_all, Nat.le_refl, St.freezeRows, BV.frozen, List.take_length, List.take_append_drop, z_repl_zero, Int.toNat_zero, true_and, and_true, and_self, eq_self, z_take_zero, List.drop_nil, List.take_nil, vAll, List.foldl_nil, List.foldl_cons, resultsOf, resultList, resultOf, zBV, splice, PV.remade, St.freezeAt, St.freezeBox, PV.single, plain, act, dstOf, if_true, if_false, reduceCtorEq, St.get, St.put, St.pvOf, St.putRow, St.consume, St.freeze, St.row, St.elems, St.grab, St.takeRow, St.setRow, St.place, St.optPv, St.setCell, St.setCellRow, binPV, intBin, unPV, BV.val, Nat.reduceEqDiff, bound, consumeAll, buildParts, capsOf, capOf, List.append_nil, Nat.reduceAdd, Nat.reduceLT, Nat.reduceLeDiff, beq_self_eq_true, List.length_map, Nat.beq, dcall, dcallP, List.mapM_cons, St.snapFn, St.snap, St.layAll, St.lay, St.freezeArg, St.freezeArg1]
    rfl

theorem cal35 {a : List Wrt} (hl : a.length ≤ lim) (hd : ∀ x ∈ a, x.data.length ≤ lim) : cal env 35 [.list 3 (a.map eWr), .list 3 (a.map eWr)] = some [(.bool true, false)] := by
  have G : (((a.length : Int)) != (a.length : Int)) = false := by simp
  rw [cal_code env35 rfl]; simp only [fn35]; simp only [start, z_map_cons, z_map_nil, z_len_cons, z_len_nil, z_repl_zero, z_repl_succ, z_cons_app, z_nil_app, Nat.reduceAdd, Nat.reduceSub]
  simp only [G, val_pvs, frozen_pvs, msnoc_len, msnoc_get, msnoc_set, msnoc_take, Int.le_refl, take_map_all, Nat.le_refl, St.freezeRows, BV.frozen, List.take_length, List.take_append_drop, z_repl_zero, Int.toNat_zero, true_and, and_true, and_self, eq_self, z_take_zero, List.drop_nil, List.take_nil, vAll, List.foldl_nil, List.foldl_cons, resultsOf, resultList, resultOf, zBV, splice, PV.remade, St.freezeAt, St.freezeBox, PV.single, plain, act, dstOf, if_true, if_false, reduceCtorEq, St.get, St.put, St.pvOf, St.putRow, St.consume, St.freeze, St.row, St.elems, St.grab, St.takeRow, St.setRow, St.place, St.optPv, St.setCell, St.setCellRow, binPV, intBin, unPV, BV.val, Nat.reduceEqDiff, bound, consumeAll, buildParts, capsOf, capOf, List.append_nil, Nat.reduceAdd, Nat.reduceLT, Nat.reduceLeDiff, beq_self_eq_true, List.length_map, Nat.beq, dcall, dcallP, List.mapM_cons, St.snapFn, St.snap, St.layAll, St.lay, St.freezeArg, St.freezeArg1]
  rw [loop35 hl hd]
  rotate_left
  · rfl
  · simp only [val_pvs, frozen_pvs, msnoc_len, msnoc_get, msnoc_set, msnoc_take, Int.le_refl, take_map_all, Nat.le_refl, St.freezeRows, BV.frozen, List.take_length, List.take_append_drop, z_repl_zero, Int.toNat_zero, true_and, and_true, and_self, eq_self, z_take_zero, List.drop_nil, List.take_nil, vAll, List.foldl_nil, List.foldl_cons, resultsOf, resultList, resultOf, zBV, splice, PV.remade, St.freezeAt, St.freezeBox, PV.single, plain, act, dstOf, if_true, if_false, reduceCtorEq, St.get, St.put, St.pvOf, St.putRow, St.consume, St.freeze, St.row, St.elems, St.grab, St.takeRow, St.setRow, St.place, St.optPv, St.setCell, St.setCellRow, binPV, intBin, unPV, BV.val, Nat.reduceEqDiff, bound, consumeAll, buildParts, capsOf, capOf, List.append_nil, Nat.reduceAdd, Nat.reduceLT, Nat.reduceLeDiff, beq_self_eq_true, List.length_map, Nat.beq, dcall, dcallP, List.mapM_cons, St.snapFn, St.snap, St.layAll, St.lay, St.freezeArg, St.freezeArg1]
theorem patchN_few {a b : Img} (hf : ∀ v ∈ a, v.length ≤ 24) : ∀ n, (patchN a b n).length ≤ 24 * n := by
  intro n
  induction n with
  | zero => simp [patchN]
  | succ n ih =>
    rw [patchN_succ, List.length_append]
    have : (patchV n (b.getD n []) (volDiff (a.getD n []) (b.getD n []))).length ≤ 24 := by
      simp only [patchV, List.length_map]
      refine Nat.le_trans (volDiff_len _ _) ?_
      rw [List.getD_eq_getElem?_getD]
      cases h : a[n]? with
      | none => simp
      | some v => exact hf v (List.mem_of_getElem? h)
    omega
theorem patchOut_few {a b : Img} (ha : few7 a = true) (hb : few7 b = true) : (patchOut a b).length ≤ lim ∧ ∀ x ∈ patchOut a b, x.data.length ≤ 24 := by
  obtain ⟨h1, h2⟩ := few7_len ha
  obtain ⟨h3, h4⟩ := few7_len hb
  unfold patchOut
  split
  · refine ⟨?_, fun x hx => ?_⟩
    · have := patchN_few (b := b) h2 a.length
      unfold patchOf lim; omega
    · simp only [patchOf, patchN, List.mem_flatMap, List.mem_range, patchV, List.mem_map] at hx
      obtain ⟨i, hi, y, hy, rfl⟩ := hx
      simp only [List.length_take, List.length_drop, List.getD_eq_getElem?_getD]
      cases h : b[i]? with
      | none => simp
      | some v => have := h4 v (List.mem_of_getElem? h); simp only [Option.getD_some]; omega
  · exact ⟨by simp [lim], by simp⟩
theorem cal8 {a b : Img} : cal env 8 [.list 1 (a.map eSecs), .list 1 (b.map eSecs)] = some [(.bool true, false)] := by
  have e0 := cal11 (im := a)
  have e00 := cal11 (im := b)
  have e3 := calAwake
  by_cases hf : few7 a = true
  · by_cases hg : few7 b = true
    · obtain ⟨hl, hr⟩ := few7_lim hf
      obtain ⟨hl2, hr2⟩ := few7_lim hg
      have hP : pairErr a b = 0 → ∀ n, n ≤ a.length → (patchN a b n).length ≤ lim := fun _ n hn => by
        have := patchN_few (b := b) (few7_len hf).2 n
        have := (few7_len hf).1
        unfold lim; omega
      have hpo := patchOut_few hf hg
      have hdr : ∀ x ∈ differOut a b, x.length ≤ lim := fun x hx => by
        unfold differOut at hx
        split at hx
        · simp only [differ, List.mem_map] at hx
          obtain ⟨q, hq, rfl⟩ := hx
          exact Nat.le_trans (volDiff_len _ _) (hr _ (List.of_mem_zip hq).1)
        · simp at hx
      have hdl : (differOut a b).length ≤ lim := by
        unfold differOut; split
        · simp only [differ, List.length_map, List.length_zip]; omega
        · simp
      have e1 := cal26 hl hl2 hr
      have e2 := cal31 hl hl2 hr
      have e4 := cal32 hl hl2 hr hP
      have e5 := cal33 hl hl2 hr hP
      have e6 := cal34 (b := b) hl hr
      have e7 := cal17 (b := b) hl hr
      have e8 := cal27 (l := differOut a b) (m := differOut a b) hdl hdr
      have e9 := cal35 (a := patchOut a b) hpo.1 (fun x hx => Nat.le_trans (hpo.2 x hx) (by unfold lim; omega))
      rw [hf] at e0
      rw [hg] at e00
      rw [decide_eq_true rfl] at e8
      have G : ∀ x : Bool, (x == x) = true := by simp
      rw [cal_code env8 rfl]; simp only [fn8]; simp only [start, z_map_cons, z_map_nil, z_len_cons, z_len_nil, z_repl_zero, z_repl_succ, z_cons_app, z_nil_app, Nat.reduceAdd, Nat.reduceSub]
      simp only [e0, e00, e1, e2, e3, e4, e5, e6, e7, e8, e9, G, val_pvs, frozen_pvs, msnoc_len, msnoc_get, msnoc_set, msnoc_take, Int.le_refl, take_map_all, Nat.le_refl, St.freezeRows, BV.frozen, List.take_length, List.take_append_drop, z_repl_zero, Int.toNat_zero, true_and, and_true, and_self, eq_self, z_take_zero, List.drop_nil, List.take_nil, vAll, List.foldl_nil, List.foldl_cons, resultsOf, resultList, resultOf, zBV, splice, PV.remade, St.freezeAt, St.freezeBox, PV.single, plain, act, dstOf, if_true, if_false, reduceCtorEq, St.get, St.put, St.pvOf, St.putRow, St.consume, St.freeze, St.row, St.elems, St.grab, St.takeRow, St.setRow, St.place, St.optPv, St.setCell, St.setCellRow, binPV, intBin, unPV, BV.val, Nat.reduceEqDiff, bound, consumeAll, buildParts, capsOf, capOf, List.append_nil, Nat.reduceAdd, Nat.reduceLT, Nat.reduceLeDiff, beq_self_eq_true, List.length_map, Nat.beq, dcall, dcallP, List.mapM_cons, St.snapFn, St.snap, St.layAll, St.lay, St.freezeArg, St.freezeArg1]
      try simp only [bcase_bind, bcase_map, tail_bcase]
    · have hg : few7 b = false := by simpa using hg
      rw [hf] at e0
      rw [hg] at e00
      rw [cal_code env8 rfl]; simp only [fn8]; simp only [start, z_map_cons, z_map_nil, z_len_cons, z_len_nil, z_repl_zero, z_repl_succ, z_cons_app, z_nil_app, Nat.reduceAdd, Nat.reduceSub]
      simp only [e0, e00, e3, val_pvs, frozen_pvs, msnoc_len, msnoc_get, msnoc_set, msnoc_take, Int.le_refl, take_map_all, Nat.le_refl, St.freezeRows, BV.frozen, List.take_length, List.take_append_drop, z_repl_zero, Int.toNat_zero, true_and, and_true, and_self, eq_self, z_take_zero, List.drop_nil, List.take_nil, vAll, List.foldl_nil, List.foldl_cons, resultsOf, resultList, resultOf, zBV, splice, PV.remade, St.freezeAt, St.freezeBox, PV.single, plain, act, dstOf, if_true, if_false, reduceCtorEq, St.get, St.put, St.pvOf, St.putRow, St.consume, St.freeze, St.row, St.elems, St.grab, St.takeRow, St.setRow, St.place, St.optPv, St.setCell, St.setCellRow, binPV, intBin, unPV, BV.val, Nat.reduceEqDiff, bound, consumeAll, buildParts, capsOf, capOf, List.append_nil, Nat.reduceAdd, Nat.reduceLT, Nat.reduceLeDiff, beq_self_eq_true, List.length_map, Nat.beq, dcall, dcallP, List.mapM_cons, St.snapFn, St.snap, St.layAll, St.lay, St.freezeArg, St.freezeArg1]
  · have hf : few7 a = false := by simpa using hf
    rw [hf] at e0
    rw [cal_code env8 rfl]; simp only [fn8]; simp only [start, z_map_cons, z_map_nil, z_len_cons, z_len_nil, z_repl_zero, z_repl_succ, z_cons_app, z_nil_app, Nat.reduceAdd, Nat.reduceSub]
    simp only [e0, e3, val_pvs, frozen_pvs, msnoc_len, msnoc_get, msnoc_set, msnoc_take, Int.le_refl, take_map_all, Nat.le_refl, St.freezeRows, BV.frozen, List.take_length, List.take_append_drop, z_repl_zero, Int.toNat_zero, true_and, and_true, and_self, eq_self, z_take_zero, List.drop_nil, List.take_nil, vAll, List.foldl_nil, List.foldl_cons, resultsOf, resultList, resultOf, zBV, splice, PV.remade, St.freezeAt, St.freezeBox, PV.single, plain, act, dstOf, if_true, if_false, reduceCtorEq, St.get, St.put, St.pvOf, St.putRow, St.consume, St.freeze, St.row, St.elems, St.grab, St.takeRow, St.setRow, St.place, St.optPv, St.setCell, St.setCellRow, binPV, intBin, unPV, BV.val, Nat.reduceEqDiff, bound, consumeAll, buildParts, capsOf, capOf, List.append_nil, Nat.reduceAdd, Nat.reduceLT, Nat.reduceLeDiff, beq_self_eq_true, List.length_map, Nat.beq, dcall, dcallP, List.mapM_cons, St.snapFn, St.snap, St.layAll, St.lay, St.freezeArg, St.freezeArg1]
end Go.Proofs.Ytldnpgbacakfeaa.V

namespace Go.Proofs.Ytldnpgbacakfeaa.V
set_option linter.all false

theorem wrErrs_append (sz : List Int) : ∀ (l m : List Wrt) (i : Nat), wrErrs sz (l ++ m) i = if (wrErrs sz l i).2 = 0 then wrErrs sz m (i + l.length) else wrErrs sz l i
  | [], m, i => by simp [wrErrs]
  | w :: l, m, i => by
    simp only [List.cons_append, wrErrs]
    by_cases h : wrErr sz w = 0
    · simp only [h, ne_eq, not_true, if_false]
      rw [wrErrs_append sz l m (i + 1)]
      simp only [List.length_cons]
      rw [show i + 1 + l.length = i + (l.length + 1) by omega]
    · simp [h]
theorem wrErrs_idx (sz : List Int) : ∀ (l : List Wrt) (i : Nat), (wrErrs sz l i).2 ≠ 0 → (i : Int) ≤ (wrErrs sz l i).1 ∧ (wrErrs sz l i).1 < (i : Int) + l.length
  | [], i, h => by simp [wrErrs] at h
  | w :: l, i, h => by
    unfold wrErrs at h ⊢
    by_cases hw : wrErr sz w = 0
    · simp only [hw, ne_eq, not_true, if_false] at h ⊢
      have := wrErrs_idx sz l (i + 1) h
      simp only [List.length_cons]
      omega
    · simp [hw]; omega
def fewW (l : List Wrt) : Bool := decide (l.length ≤ 40) && !l.any fun w => decide (w.data.length > 30)
theorem fewW_len {l : List Wrt} (h : fewW l = true) : l.length ≤ 40 ∧ ∀ w ∈ l, w.data.length ≤ 30 := by
  simp only [fewW, Bool.and_eq_true, decide_eq_true_eq, Bool.not_eq_true', List.any_eq_false] at h
  exact ⟨h.1, fun w hw => by have := h.2 w hw; simp at this; omega⟩
theorem cal50 {w : Wrt} : cal env 50 [eWr w] = some [(.bool (decide (w.data.length > 30)), false)] := by
  have G : (((w.data.length : Int)) > 30) = (w.data.length > 30) := propext (by omega)
  unfold eWr
  rw [cal_code env50 rfl]; simp only [fn50]; simp only [start, z_map_cons, z_map_nil, z_len_cons, z_len_nil, z_repl_zero, z_repl_succ, z_cons_app, z_nil_app, Nat.reduceAdd, Nat.reduceSub]
  simp only [G, val_pvs, frozen_pvs, msnoc_len, msnoc_get, msnoc_set, msnoc_take, Int.le_refl, take_map_all, Nat.le_refl, St.freezeRows, BV.frozen, List.take_length, List.take_append_drop, z_repl_zero, Int.toNat_zero, true_and, and_true, and_self, eq_self, z_take_zero, List.drop_nil, List.take_nil, vAll, List.foldl_nil, List.foldl_cons, resultsOf, resultList, resultOf, zBV, splice, PV.remade, St.freezeAt, St.freezeBox, PV.single, plain, act, dstOf, if_true, if_false, reduceCtorEq, St.get, St.put, St.pvOf, St.putRow, St.consume, St.freeze, St.row, St.elems, St.grab, St.takeRow, St.setRow, St.place, St.optPv, St.setCell, St.setCellRow, binPV, intBin, unPV, BV.val, Nat.reduceEqDiff, bound, consumeAll, buildParts, capsOf, capOf, List.append_nil, Nat.reduceAdd, Nat.reduceLT, Nat.reduceLeDiff, beq_self_eq_true, List.length_map, Nat.beq, dcall, dcallP, List.mapM_cons, St.snapFn, St.snap, St.layAll, St.lay, St.freezeArg, St.freezeArg1]
theorem cal20 {l : List Wrt} : cal env 20 [.list 3 (l.map eWr)] = some [(.bool (fewW l), false)] := by
  by_cases h : l.length ≤ 40
  · have e1 := cal49 (l := l) (enc := eWr) (caps := []) (fun x _ => cal50 (w := x)) (fun x => rfl) (show l.length ≤ lim by unfold lim; omega)
    have G : (((l.length : Int)) ≤ 40) = True := eq_true (by omega)
    have G2 := decide_eq_true h
    rw [cal_code env20 rfl]; simp only [fn20]; simp only [start, z_map_cons, z_map_nil, z_len_cons, z_len_nil, z_repl_zero, z_repl_succ, z_cons_app, z_nil_app, Nat.reduceAdd, Nat.reduceSub]
    simp only [e1, G, G2, fewW, val_pvs, frozen_pvs, msnoc_len, msnoc_get, msnoc_set, msnoc_take, Int.le_refl, take_map_all, Nat.le_refl, St.freezeRows, BV.frozen, List.take_length, List.take_append_drop, z_repl_zero, Int.toNat_zero, true_and, and_true, and_self, eq_self, z_take_zero, List.drop_nil, List.take_nil, vAll, List.foldl_nil, List.foldl_cons, resultsOf, resultList, resultOf, zBV, splice, PV.remade, St.freezeAt, St.freezeBox, PV.single, plain, act, dstOf, if_true, if_false, reduceCtorEq, St.get, St.put, St.pvOf, St.putRow, St.consume, St.freeze, St.row, St.elems, St.grab, St.takeRow, St.setRow, St.place, St.optPv, St.setCell, St.setCellRow, binPV, intBin, unPV, BV.val, Nat.reduceEqDiff, bound, consumeAll, buildParts, capsOf, capOf, List.append_nil, Nat.reduceAdd, Nat.reduceLT, Nat.reduceLeDiff, beq_self_eq_true, List.length_map, Nat.beq, dcall, dcallP, List.mapM_cons, St.snapFn, St.snap, St.layAll, St.lay, St.freezeArg, St.freezeArg1]
  · have G : (((l.length : Int)) ≤ 40) = False := eq_false (by omega)
    have G2 := decide_eq_false h
    rw [cal_code env20 rfl]; simp only [fn20]; simp only [start, z_map_cons, z_map_nil, z_len_cons, z_len_nil, z_repl_zero, z_repl_succ, z_cons_app, z_nil_app, Nat.reduceAdd, Nat.reduceSub]
    simp only [G, G2, fewW, val_pvs, frozen_pvs, msnoc_len, msnoc_get, msnoc_set, msnoc_take, Int.le_refl, take_map_all, Nat.le_refl, St.freezeRows, BV.frozen, List.take_length, List.take_append_drop, z_repl_zero, Int.toNat_zero, true_and, and_true, and_self, eq_self, z_take_zero, List.drop_nil, List.take_nil, vAll, List.foldl_nil, List.foldl_cons, resultsOf, resultList, resultOf, zBV, splice, PV.remade, St.freezeAt, St.freezeBox, PV.single, plain, act, dstOf, if_true, if_false, reduceCtorEq, St.get, St.put, St.pvOf, St.putRow, St.consume, St.freeze, St.row, St.elems, St.grab, St.takeRow, St.setRow, St.place, St.optPv, St.setCell, St.setCellRow, binPV, intBin, unPV, BV.val, Nat.reduceEqDiff, bound, consumeAll, buildParts, capsOf, capOf, List.append_nil, Nat.reduceAdd, Nat.reduceLT, Nat.reduceLeDiff, beq_self_eq_true, List.length_map, Nat.beq, dcall, dcallP, List.mapM_cons, St.snapFn, St.snap, St.layAll, St.lay, St.freezeArg, St.freezeArg1]
def okW (l : List Wrt) : Prop := ∀ w ∈ l, i64b w.volume = true ∧ i64b w.start = true
theorem cal23 {im : Img} {l : List Wrt} (hw : okW l) (hl : im.length ≤ 1000000) (hr : ∀ v ∈ im, v.length ≤ 1000000) : cal env 23 [.list 1 (im.map eSecs), .list 3 (l.map eWr)] = some [(.list 1 ((apO im l).map eSecs), false), (.int .i64 (apI im l), false), (.int .i64 (apE im l), false)] :=
  (cal_ext env23).trans (applyX_enc hw hl hr)
theorem szs_small {a b : Img} (h : szsOf a = szsOf b) (hl : b.length ≤ 9) (hr : ∀ v ∈ b, v.length ≤ 24) : a.length ≤ 9 ∧ ∀ v ∈ a, v.length ≤ 24 := by
  obtain ⟨h1, h2⟩ := sizes_inj (a := a) (b := b) h
  refine ⟨by omega, fun v hv => ?_⟩
  obtain ⟨i, hi, rfl⟩ := List.mem_iff_getElem.1 hv
  rw [h2 i hi (by omega)]
  exact hr _ (List.getElem_mem _)
theorem apO_small {im : Img} {l : List Wrt} (hl : im.length ≤ 9) (hr : ∀ v ∈ im, v.length ≤ 24) : (apO im l).length ≤ 9 ∧ ∀ v ∈ apO im l, v.length ≤ 24 := by
  by_cases h : apE im l = 0
  · exact szs_small (apO_sizes h) hl hr
  · unfold apO; rw [if_neg h]; simp
theorem apE_szs {im : Img} {l : List Wrt} (h : apE im l = 0) : szErr (szsOf im) = 0 := by
  unfold apE at h
  split at h
  · rename_i h2; exact absurd h h2
  · omega
theorem ap_steps {im : Img} {l m : List Wrt} (h : apE im l = 0) : apE im (l ++ m) = apE (apO im l) m ∧ apO im (l ++ m) = apO (apO im l) m := by
  have h0 := apE_szs h
  have hs := apO_sizes h
  have e : apE im (l ++ m) = apE (apO im l) m := by
    have h1 := h
    unfold apE at h1 ⊢
    rw [hs]
    simp only [h0, ne_eq, not_true, if_false] at h1 ⊢
    rw [wrErrs_append, if_pos h1, wrErrs_shift _ m _ 0]
  refine ⟨e, ?_⟩
  have e2 : apO im l = l.foldl put1 im := by unfold apO; rw [if_pos h]
  by_cases hz : apE im (l ++ m) = 0
  · unfold apO at *
    rw [if_pos hz]
    rw [if_pos h] at e
    rw [if_pos h, if_pos (by rw [← e]; exact hz), List.foldl_append]
  · rw [show apO im (l ++ m) = [] by unfold apO; rw [if_neg hz]]
    rw [show apO (apO im l) m = [] by rw [apO.eq_def (apO im l) m, if_neg (by rw [← e]; exact hz)]]
theorem ap_first {im : Img} {l m : List Wrt} (h : apE im l ≠ 0) : apE im (l ++ m) = apE im l := by
  unfold apE at h ⊢
  by_cases h0 : szErr (szsOf im) = 0
  · simp only [h0, ne_eq, not_true, if_false] at h ⊢
    rw [wrErrs_append, if_neg h]
  · simp [h0]
theorem apI_lt {im : Img} {l : List Wrt} (h : apE im l ≠ 0) : apI im l < max (l.length : Int) 1 := by
  unfold apE at h
  unfold apI
  by_cases h0 : szErr (szsOf im) = 0
  · simp only [h0, ne_eq, not_true, if_false] at h ⊢
    have := wrErrs_idx _ l 0 h
    omega
  · simp [h0]; omega
theorem apI_lt2 {im : Img} {l : List Wrt} (h : apE im l ≠ 0) (h0 : szErr (szsOf im) = 0) : apI im l < (l.length : Int) := by
  unfold apE at h
  unfold apI
  simp only [h0, ne_eq, not_true, if_false] at h ⊢
  have := wrErrs_idx _ l 0 h
  omega
theorem dif_comm (a b : List Sec) : dif a b = dif b a := by
  funext i; unfold dif
  exact decide_eq_decide.2 ⟨fun h e => h e.symm, fun h e => h e.symm⟩
theorem volDiff_comm {a b : List Sec} (h : a.length = b.length) : volDiff a b = volDiff b a := by
  simp only [volDiff, difs, difN, dif_comm a b, h]
theorem differ_comm {a b : Img} (h : imSizes a = imSizes b) : differ a b = differ b a := by
  obtain ⟨h1, h2⟩ := sizes_inj h
  apply List.ext_getElem
  · simp [differ]; omega
  · intro i hi hj
    simp only [differ, List.length_map, List.length_zip] at hi hj
    simp only [differ, List.getElem_map, List.getElem_zip]
    exact volDiff_comm (h2 i (by omega) (by omega))
end Go.Proofs.Ytldnpgbacakfeaa.V
