/-
  Part 6 of the texts that the statement stands on.
-/
import Derived.Test.YtldnpgbacakfeaaZ5
import Derived.ProofKit
import Derived.SizedLaws
import Derived.OpenShut
import Derived.Deep.Strs
import Derived.Test.YtldnpgbacakfeaaRows
set_option linter.all false
namespace Go.Proofs.Ytldnpgbacakfeaa.V
set_option linter.all false
theorem cal28 {im : Img} {v : Int} {e : Exn} (hl : im.length ≤ lim) (hr : ∀ v ∈ im, v.length ≤ lim) : cal env 28 [.list 1 (im.map eSecs), eI v, eExt e] = some [(eSecs (readOut im v e), true), (.int .i64 (readErr im v e), false)] := by
  obtain ⟨s, c⟩ := e
  have e1 := cal18 hl
  simp only [eI, eExt] at *
  by_cases h0 : 0 ≤ v ∧ v < im.length
  · have h1 := index_int (k := .i64) h0.1 h0.2
    have h2 : v.toNat < im.length := by omega
    have h3 := List.getElem?_eq_getElem h2
    have h4 : im[v.toNat].length ≤ lim := hr _ (List.getElem_mem h2)
    by_cases h6 : 0 ≤ s ∧ s ≤ im[v.toNat].length
    · have h5 : IntKind.i64.wrap ((im[v.toNat].length : Int) - s) = im[v.toNat].length - s := i64_fits (by unfold lim at *; omega)
      by_cases h7 : 0 ≤ c ∧ c ≤ im[v.toNat].length - s
      · have h8 : IntKind.i64.wrap (s + c) = s + c := i64_fits (by unfold lim at *; omega)
        have h9 : (0 ≤ s + c ∧ s + c ≤ (im[v.toNat].length : Int)) = True := eq_true (by omega)
        have h10 : (0 ≤ s ∧ s ≤ ((s + c).toNat : Int)) = True := eq_true (by omega)
        have h11 : (((im[v.toNat].map eSec).drop s.toNat).take ((s + c).toNat - s.toNat)) = ((im[v.toNat].drop s.toNat).take c.toNat).map eSec := by
          rw [List.map_take, List.map_drop]; congr 1; omega
        have h12 : ((im[v.toNat].drop s.toNat).take c.toNat).length ≤ lim := by simp; omega
        have e2 := cal58 (es := ((im[v.toNat].drop s.toNat).take c.toNat).map eSec) (by rw [List.length_map]; exact h12)
        rw [cal_code env28 rfl]; simp only [fn28]; simp only [start, z_map_cons, z_map_nil, z_len_cons, z_len_nil, z_repl_zero, z_repl_succ, z_cons_app, z_nil_app, Nat.reduceAdd, Nat.reduceSub]
        simp only [e1, h1, h3, h5, h8, h9, h10, h11, e2, eSecs, List.getElem?_map, val_pvs, frozen_pvs, msnoc_len, msnoc_get, msnoc_set, msnoc_take, Int.le_refl, take_map_all, Nat.le_refl, St.freezeRows, BV.frozen, List.take_length, List.take_append_drop, z_repl_zero, Int.toNat_zero, true_and, and_true, and_self, eq_self, z_take_zero, List.drop_nil, List.take_nil, vAll, List.foldl_nil, List.foldl_cons, resultsOf, resultList, resultOf, zBV, splice, PV.remade, St.freezeAt, St.freezeBox, PV.single, plain, act, dstOf, if_true, if_false, reduceCtorEq, St.get, St.put, St.pvOf, St.putRow, St.consume, St.freeze, St.row, St.elems, St.grab, St.takeRow, St.setRow, St.place, St.optPv, St.setCell, St.setCellRow, binPV, intBin, unPV, BV.val, Nat.reduceEqDiff, bound, consumeAll, buildParts, capsOf, capOf, List.append_nil, Nat.reduceAdd, Nat.reduceLT, Nat.reduceLeDiff, beq_self_eq_true, List.length_map, Nat.beq, dcall, dcallP, List.mapM_cons, St.snapFn, St.snap, St.layAll, St.lay, St.freezeArg, St.freezeArg1]
        repeat' ((try simp only [bcase_bind, bcase_map, tail_bcase]); refine bcase_split (fun hb => ?_) (fun hb => ?_) <;> try simp only [hb, e1, h1, h3, h5, h8, h9, h10, h11, e2, eSecs, List.getElem?_map, val_pvs, frozen_pvs, msnoc_len, msnoc_get, msnoc_set, msnoc_take, Int.le_refl, take_map_all, Nat.le_refl, St.freezeRows, BV.frozen, List.take_length, List.take_append_drop, z_repl_zero, Int.toNat_zero, true_and, and_true, and_self, eq_self, z_take_zero, List.drop_nil, List.take_nil, vAll, List.foldl_nil, List.foldl_cons, resultsOf, resultList, resultOf, zBV, splice, PV.remade, St.freezeAt, St.freezeBox, PV.single, plain, act, dstOf, if_true, if_false, reduceCtorEq, St.get, St.put, St.pvOf, St.putRow, St.consume, St.freeze, St.row, St.elems, St.grab, St.takeRow, St.setRow, St.place, St.optPv, St.setCell, St.setCellRow, binPV, intBin, unPV, BV.val, Nat.reduceEqDiff, bound, consumeAll, buildParts, capsOf, capOf, List.append_nil, Nat.reduceAdd, Nat.reduceLT, Nat.reduceLeDiff, beq_self_eq_true, List.length_map, Nat.beq, dcall, dcallP, List.mapM_cons, St.snapFn, St.snap, St.layAll, St.lay, St.freezeArg, St.freezeArg1])
        all_goals clear h1 h3 h5 h8 h9 h10 h11 e2
        all_goals simp only [readOut, readErr, getD_get h2, decide_eq_true_eq, decide_eq_false_iff_not, beq_iff_eq, beq_eq_false_iff_ne, ne_eq, ge_iff_le, gt_iff_lt, Bool.and_eq_true, Bool.or_eq_true, Bool.not_eq_true', Bool.not_eq_false'] at *
        all_goals first | (exfalso; omega) | ((repeat' split) <;> first | rfl | (exfalso; omega))
      · --
        rw [cal_code env28 rfl]; simp only [fn28]; simp only [start, z_map_cons, z_map_nil, z_len_cons, z_len_nil, z_repl_zero, z_repl_succ, z_cons_app, z_nil_app, Nat.reduceAdd, Nat.reduceSub]
        simp only [e1, h1, h3, h5, eSecs, List.getElem?_map, val_pvs, frozen_pvs, msnoc_len, msnoc_get, msnoc_set, msnoc_take, Int.le_refl, take_map_all, Nat.le_refl, St.freezeRows, BV.frozen, List.take_length, List.take_append_drop, z_repl_zero, Int.toNat_zero, true_and, and_true, and_self, eq_self, z_take_zero, List.drop_nil, List.take_nil, vAll, List.foldl_nil, List.foldl_cons, resultsOf, resultList, resultOf, zBV, splice, PV.remade, St.freezeAt, St.freezeBox, PV.single, plain, act, dstOf, if_true, if_false, reduceCtorEq, St.get, St.put, St.pvOf, St.putRow, St.consume, St.freeze, St.row, St.elems, St.grab, St.takeRow, St.setRow, St.place, St.optPv, St.setCell, St.setCellRow, binPV, intBin, unPV, BV.val, Nat.reduceEqDiff, bound, consumeAll, buildParts, capsOf, capOf, List.append_nil, Nat.reduceAdd, Nat.reduceLT, Nat.reduceLeDiff, beq_self_eq_true, List.length_map, Nat.beq, dcall, dcallP, List.mapM_cons, St.snapFn, St.snap, St.layAll, St.lay, St.freezeArg, St.freezeArg1]
        repeat' ((try simp only [bcase_bind, bcase_map, tail_bcase]); refine bcase_split (fun hb => ?_) (fun hb => ?_) <;> try simp only [hb, e1, h1, h3, h5, eSecs, List.getElem?_map, val_pvs, frozen_pvs, msnoc_len, msnoc_get, msnoc_set, msnoc_take, Int.le_refl, take_map_all, Nat.le_refl, St.freezeRows, BV.frozen, List.take_length, List.take_append_drop, z_repl_zero, Int.toNat_zero, true_and, and_true, and_self, eq_self, z_take_zero, List.drop_nil, List.take_nil, vAll, List.foldl_nil, List.foldl_cons, resultsOf, resultList, resultOf, zBV, splice, PV.remade, St.freezeAt, St.freezeBox, PV.single, plain, act, dstOf, if_true, if_false, reduceCtorEq, St.get, St.put, St.pvOf, St.putRow, St.consume, St.freeze, St.row, St.elems, St.grab, St.takeRow, St.setRow, St.place, St.optPv, St.setCell, St.setCellRow, binPV, intBin, unPV, BV.val, Nat.reduceEqDiff, bound, consumeAll, buildParts, capsOf, capOf, List.append_nil, Nat.reduceAdd, Nat.reduceLT, Nat.reduceLeDiff, beq_self_eq_true, List.length_map, Nat.beq, dcall, dcallP, List.mapM_cons, St.snapFn, St.snap, St.layAll, St.lay, St.freezeArg, St.freezeArg1])
        all_goals clear h1 h3 h5
        all_goals simp only [readOut, readErr, getD_get h2, decide_eq_true_eq, decide_eq_false_iff_not, beq_iff_eq, beq_eq_false_iff_ne, ne_eq, ge_iff_le, gt_iff_lt, Bool.and_eq_true, Bool.or_eq_true, Bool.not_eq_true', Bool.not_eq_false'] at *
        all_goals first | (exfalso; omega) | ((repeat' split) <;> first | rfl | (exfalso; omega))
    · --
      rw [cal_code env28 rfl]; simp only [fn28]; simp only [start, z_map_cons, z_map_nil, z_len_cons, z_len_nil, z_repl_zero, z_repl_succ, z_cons_app, z_nil_app, Nat.reduceAdd, Nat.reduceSub]
      simp only [e1, h1, h3, eSecs, List.getElem?_map, val_pvs, frozen_pvs, msnoc_len, msnoc_get, msnoc_set, msnoc_take, Int.le_refl, take_map_all, Nat.le_refl, St.freezeRows, BV.frozen, List.take_length, List.take_append_drop, z_repl_zero, Int.toNat_zero, true_and, and_true, and_self, eq_self, z_take_zero, List.drop_nil, List.take_nil, vAll, List.foldl_nil, List.foldl_cons, resultsOf, resultList, resultOf, zBV, splice, PV.remade, St.freezeAt, St.freezeBox, PV.single, plain, act, dstOf, if_true, if_false, reduceCtorEq, St.get, St.put, St.pvOf, St.putRow, St.consume, St.freeze, St.row, St.elems, St.grab, St.takeRow, St.setRow, St.place, St.optPv, St.setCell, St.setCellRow, binPV, intBin, unPV, BV.val, Nat.reduceEqDiff, bound, consumeAll, buildParts, capsOf, capOf, List.append_nil, Nat.reduceAdd, Nat.reduceLT, Nat.reduceLeDiff, beq_self_eq_true, List.length_map, Nat.beq, dcall, dcallP, List.mapM_cons, St.snapFn, St.snap, St.layAll, St.lay, St.freezeArg, St.freezeArg1]
      repeat' ((try simp only [bcase_bind, bcase_map, tail_bcase]); refine bcase_split (fun hb => ?_) (fun hb => ?_) <;> try simp only [hb, e1, h1, h3, eSecs, List.getElem?_map, val_pvs, frozen_pvs, msnoc_len, msnoc_get, msnoc_set, msnoc_take, Int.le_refl, take_map_all, Nat.le_refl, St.freezeRows, BV.frozen, List.take_length, List.take_append_drop, z_repl_zero, Int.toNat_zero, true_and, and_true, and_self, eq_self, z_take_zero, List.drop_nil, List.take_nil, vAll, List.foldl_nil, List.foldl_cons, resultsOf, resultList, resultOf, zBV, splice, PV.remade, St.freezeAt, St.freezeBox, PV.single, plain, act, dstOf, if_true, if_false, reduceCtorEq, St.get, St.put, St.pvOf, St.putRow, St.consume, St.freeze, St.row, St.elems, St.grab, St.takeRow, St.setRow, St.place, St.optPv, St.setCell, St.setCellRow, binPV, intBin, unPV, BV.val, Nat.reduceEqDiff, bound, consumeAll, buildParts, capsOf, capOf, List.append_nil, Nat.reduceAdd, Nat.reduceLT, Nat.reduceLeDiff, beq_self_eq_true, List.length_map, Nat.beq, dcall, dcallP, List.mapM_cons, St.snapFn, St.snap, St.layAll, St.lay, St.freezeArg, St.freezeArg1])
      all_goals clear h1 h3
      all_goals simp only [readOut, readErr, getD_get h2, decide_eq_true_eq, decide_eq_false_iff_not, beq_iff_eq, beq_eq_false_iff_ne, ne_eq, ge_iff_le, gt_iff_lt, Bool.and_eq_true, Bool.or_eq_true, Bool.not_eq_true', Bool.not_eq_false'] at *
      all_goals first | (exfalso; omega) | ((repeat' split) <;> first | rfl | (exfalso; omega))
  · rw [cal_code env28 rfl]; simp only [fn28]; simp only [start, z_map_cons, z_map_nil, z_len_cons, z_len_nil, z_repl_zero, z_repl_succ, z_cons_app, z_nil_app, Nat.reduceAdd, Nat.reduceSub]
    simp only [e1, eSecs, List.getElem?_map, index_b, val_pvs, frozen_pvs, msnoc_len, msnoc_get, msnoc_set, msnoc_take, Int.le_refl, take_map_all, Nat.le_refl, St.freezeRows, BV.frozen, List.take_length, List.take_append_drop, z_repl_zero, Int.toNat_zero, true_and, and_true, and_self, eq_self, z_take_zero, List.drop_nil, List.take_nil, vAll, List.foldl_nil, List.foldl_cons, resultsOf, resultList, resultOf, zBV, splice, PV.remade, St.freezeAt, St.freezeBox, PV.single, plain, act, dstOf, if_true, if_false, reduceCtorEq, St.get, St.put, St.pvOf, St.putRow, St.consume, St.freeze, St.row, St.elems, St.grab, St.takeRow, St.setRow, St.place, St.optPv, St.setCell, St.setCellRow, binPV, intBin, unPV, BV.val, Nat.reduceEqDiff, bound, consumeAll, buildParts, capsOf, capOf, List.append_nil, Nat.reduceAdd, Nat.reduceLT, Nat.reduceLeDiff, beq_self_eq_true, List.length_map, Nat.beq, dcall, dcallP, List.mapM_cons, St.snapFn, St.snap, St.layAll, St.lay, St.freezeArg, St.freezeArg1]
    repeat' ((try simp only [bcase_bind, bcase_map, tail_bcase]); refine bcase_split (fun hb => ?_) (fun hb => ?_) <;> try simp only [hb, e1, eSecs, List.getElem?_map, index_b, val_pvs, frozen_pvs, msnoc_len, msnoc_get, msnoc_set, msnoc_take, Int.le_refl, take_map_all, Nat.le_refl, St.freezeRows, BV.frozen, List.take_length, List.take_append_drop, z_repl_zero, Int.toNat_zero, true_and, and_true, and_self, eq_self, z_take_zero, List.drop_nil, List.take_nil, vAll, List.foldl_nil, List.foldl_cons, resultsOf, resultList, resultOf, zBV, splice, PV.remade, St.freezeAt, St.freezeBox, PV.single, plain, act, dstOf, if_true, if_false, reduceCtorEq, St.get, St.put, St.pvOf, St.putRow, St.consume, St.freeze, St.row, St.elems, St.grab, St.takeRow, St.setRow, St.place, St.optPv, St.setCell, St.setCellRow, binPV, intBin, unPV, BV.val, Nat.reduceEqDiff, bound, consumeAll, buildParts, capsOf, capOf, List.append_nil, Nat.reduceAdd, Nat.reduceLT, Nat.reduceLeDiff, beq_self_eq_true, List.length_map, Nat.beq, dcall, dcallP, List.mapM_cons, St.snapFn, St.snap, St.layAll, St.lay, St.freezeArg, St.freezeArg1])
    all_goals simp only [readOut, readErr, decide_eq_true_eq, decide_eq_false_iff_not, beq_iff_eq, beq_eq_false_iff_ne, ne_eq, ge_iff_le, gt_iff_lt, Bool.and_eq_true, Bool.or_eq_true, Bool.not_eq_true', Bool.not_eq_false'] at *
    all_goals first | (exfalso; omega) | ((repeat' split) <;> first | rfl | (exfalso; omega))
theorem cal29 {im : Img} {v : Int} {e : Exn} (hl : im.length ≤ lim) (hr : ∀ v ∈ im, v.length ≤ lim) : cal env 29 [.list 1 (im.map eSecs), eI v, eExt e] = some [(eSecs (readOut im v e), true), (.int .i64 (readErr im v e), false)] := by
  obtain ⟨s, c⟩ := e
  have e1 := cal19 hl
  simp only [eI, eExt] at *
  by_cases h0 : 0 ≤ v ∧ v < im.length
  · have h1 := index_int (k := .i64) h0.1 h0.2
    have h2 : v.toNat < im.length := by omega
    have h3 := List.getElem?_eq_getElem h2
    have h4 : im[v.toNat].length ≤ lim := hr _ (List.getElem_mem h2)
    by_cases h6 : 0 ≤ s ∧ s ≤ im[v.toNat].length
    · have h5 : IntKind.i64.wrap ((im[v.toNat].length : Int) - s) = im[v.toNat].length - s := i64_fits (by unfold lim at *; omega)
      by_cases h7 : 0 ≤ c ∧ c ≤ im[v.toNat].length - s
      · have h8 : IntKind.i64.wrap (s + c) = s + c := i64_fits (by unfold lim at *; omega)
        have h9 : (0 ≤ s + c ∧ s + c ≤ (im[v.toNat].length : Int)) = True := eq_true (by omega)
        have h10 : (0 ≤ s ∧ s ≤ ((s + c).toNat : Int)) = True := eq_true (by omega)
        have h11 : (((im[v.toNat].map eSec).drop s.toNat).take ((s + c).toNat - s.toNat)) = ((im[v.toNat].drop s.toNat).take c.toNat).map eSec := by
          rw [List.map_take, List.map_drop]; congr 1; omega
        have h12 : ((im[v.toNat].drop s.toNat).take c.toNat).length ≤ lim := by simp; omega
        have e2 : (((im[v.toNat].drop s.toNat).take c.toNat).length ≤ lim) = True := eq_true h12
        rw [cal_code env29 rfl]; simp only [fn29]; simp only [start, z_map_cons, z_map_nil, z_len_cons, z_len_nil, z_repl_zero, z_repl_succ, z_cons_app, z_nil_app, Nat.reduceAdd, Nat.reduceSub]
        simp only [e1, h1, h3, h5, h8, h9, h10, h11, e2, eSecs, List.getElem?_map, val_pvs, frozen_pvs, msnoc_len, msnoc_get, msnoc_set, msnoc_take, Int.le_refl, take_map_all, Nat.le_refl, St.freezeRows, BV.frozen, List.take_length, List.take_append_drop, z_repl_zero, Int.toNat_zero, true_and, and_true, and_self, eq_self, z_take_zero, List.drop_nil, List.take_nil, vAll, List.foldl_nil, List.foldl_cons, resultsOf, resultList, resultOf, zBV, splice, PV.remade, St.freezeAt, St.freezeBox, PV.single, plain, act, dstOf, if_true, if_false, reduceCtorEq, St.get, St.put, St.pvOf, St.putRow, St.consume, St.freeze, St.row, St.elems, St.grab, St.takeRow, St.setRow, St.place, St.optPv, St.setCell, St.setCellRow, binPV, intBin, unPV, BV.val, Nat.reduceEqDiff, bound, consumeAll, buildParts, capsOf, capOf, List.append_nil, Nat.reduceAdd, Nat.reduceLT, Nat.reduceLeDiff, beq_self_eq_true, List.length_map, Nat.beq, dcall, dcallP, List.mapM_cons, St.snapFn, St.snap, St.layAll, St.lay, St.freezeArg, St.freezeArg1]
        repeat' ((try simp only [bcase_bind, bcase_map, tail_bcase]); refine bcase_split (fun hb => ?_) (fun hb => ?_) <;> try simp only [hb, e1, h1, h3, h5, h8, h9, h10, h11, e2, eSecs, List.getElem?_map, val_pvs, frozen_pvs, msnoc_len, msnoc_get, msnoc_set, msnoc_take, Int.le_refl, take_map_all, Nat.le_refl, St.freezeRows, BV.frozen, List.take_length, List.take_append_drop, z_repl_zero, Int.toNat_zero, true_and, and_true, and_self, eq_self, z_take_zero, List.drop_nil, List.take_nil, vAll, List.foldl_nil, List.foldl_cons, resultsOf, resultList, resultOf, zBV, splice, PV.remade, St.freezeAt, St.freezeBox, PV.single, plain, act, dstOf, if_true, if_false, reduceCtorEq, St.get, St.put, St.pvOf, St.putRow, St.consume, St.freeze, St.row, St.elems, St.grab, St.takeRow, St.setRow, St.place, St.optPv, St.setCell, St.setCellRow, binPV, intBin, unPV, BV.val, Nat.reduceEqDiff, bound, consumeAll, buildParts, capsOf, capOf, List.append_nil, Nat.reduceAdd, Nat.reduceLT, Nat.reduceLeDiff, beq_self_eq_true, List.length_map, Nat.beq, dcall, dcallP, List.mapM_cons, St.snapFn, St.snap, St.layAll, St.lay, St.freezeArg, St.freezeArg1])
        all_goals clear h1 h3 h5 h8 h9 h10 h11 e2
        all_goals simp only [readOut, readErr, getD_get h2, decide_eq_true_eq, decide_eq_false_iff_not, beq_iff_eq, beq_eq_false_iff_ne, ne_eq, ge_iff_le, gt_iff_lt, Bool.and_eq_true, Bool.or_eq_true, Bool.not_eq_true', Bool.not_eq_false'] at *
        all_goals first | (exfalso; omega) | ((repeat' split) <;> first | rfl | (exfalso; omega))
      · --
        rw [cal_code env29 rfl]; simp only [fn29]; simp only [start, z_map_cons, z_map_nil, z_len_cons, z_len_nil, z_repl_zero, z_repl_succ, z_cons_app, z_nil_app, Nat.reduceAdd, Nat.reduceSub]
        simp only [e1, h1, h3, h5, eSecs, List.getElem?_map, val_pvs, frozen_pvs, msnoc_len, msnoc_get, msnoc_set, msnoc_take, Int.le_refl, take_map_all, Nat.le_refl, St.freezeRows, BV.frozen, List.take_length, List.take_append_drop, z_repl_zero, Int.toNat_zero, true_and, and_true, and_self, eq_self, z_take_zero, List.drop_nil, List.take_nil, vAll, List.foldl_nil, List.foldl_cons, resultsOf, resultList, resultOf, zBV, splice, PV.remade, St.freezeAt, St.freezeBox, PV.single, plain, act, dstOf, if_true, if_false, reduceCtorEq, St.get, St.put, St.pvOf, St.putRow, St.consume, St.freeze, St.row, St.elems, St.grab, St.takeRow, St.setRow, St.place, St.optPv, St.setCell, St.setCellRow, binPV, intBin, unPV, BV.val, Nat.reduceEqDiff, bound, consumeAll, buildParts, capsOf, capOf, List.append_nil, Nat.reduceAdd, Nat.reduceLT, Nat.reduceLeDiff, beq_self_eq_true, List.length_map, Nat.beq, dcall, dcallP, List.mapM_cons, St.snapFn, St.snap, St.layAll, St.lay, St.freezeArg, St.freezeArg1]
        repeat' ((try simp only [bcase_bind, bcase_map, tail_bcase]); refine bcase_split (fun hb => ?_) (fun hb => ?_) <;> try simp only [hb, e1, h1, h3, h5, eSecs, List.getElem?_map, val_pvs, frozen_pvs, msnoc_len, msnoc_get, msnoc_set, msnoc_take, Int.le_refl, take_map_all, Nat.le_refl, St.freezeRows, BV.frozen, List.take_length, List.take_append_drop, z_repl_zero, Int.toNat_zero, true_and, and_true, and_self, eq_self, z_take_zero, List.drop_nil, List.take_nil, vAll, List.foldl_nil, List.foldl_cons, resultsOf, resultList, resultOf, zBV, splice, PV.remade, St.freezeAt, St.freezeBox, PV.single, plain, act, dstOf, if_true, if_false, reduceCtorEq, St.get, St.put, St.pvOf, St.putRow, St.consume, St.freeze, St.row, St.elems, St.grab, St.takeRow, St.setRow, St.place, St.optPv, St.setCell, St.setCellRow, binPV, intBin, unPV, BV.val, Nat.reduceEqDiff, bound, consumeAll, buildParts, capsOf, capOf, List.append_nil, Nat.reduceAdd, Nat.reduceLT, Nat.reduceLeDiff, beq_self_eq_true, List.length_map, Nat.beq, dcall, dcallP, List.mapM_cons, St.snapFn, St.snap, St.layAll, St.lay, St.freezeArg, St.freezeArg1])
        all_goals clear h1 h3 h5
        all_goals simp only [readOut, readErr, getD_get h2, decide_eq_true_eq, decide_eq_false_iff_not, beq_iff_eq, beq_eq_false_iff_ne, ne_eq, ge_iff_le, gt_iff_lt, Bool.and_eq_true, Bool.or_eq_true, Bool.not_eq_true', Bool.not_eq_false'] at *
        all_goals first | (exfalso; omega) | ((repeat' split) <;> first | rfl | (exfalso; omega))
    · --
      rw [cal_code env29 rfl]; simp only [fn29]; simp only [start, z_map_cons, z_map_nil, z_len_cons, z_len_nil, z_repl_zero, z_repl_succ, z_cons_app, z_nil_app, Nat.reduceAdd, Nat.reduceSub]
      simp only [e1, h1, h3, eSecs, List.getElem?_map, val_pvs, frozen_pvs, msnoc_len, msnoc_get, msnoc_set, msnoc_take, Int.le_refl, take_map_all, Nat.le_refl, St.freezeRows, BV.frozen, List.take_length, List.take_append_drop, z_repl_zero, Int.toNat_zero, true_and, and_true, and_self, eq_self, z_take_zero, List.drop_nil, List.take_nil, vAll, List.foldl_nil, List.foldl_cons, resultsOf, resultList, resultOf, zBV, splice, PV.remade, St.freezeAt, St.freezeBox, PV.single, plain, act, dstOf, if_true, if_false, reduceCtorEq, St.get, St.put, St.pvOf, St.putRow, St.consume, St.freeze, St.row, St.elems, St.grab, St.takeRow, St.setRow, St.place, St.optPv, St.setCell, St.setCellRow, binPV, intBin, unPV, BV.val, Nat.reduceEqDiff, bound, consumeAll, buildParts, capsOf, capOf, List.append_nil, Nat.reduceAdd, Nat.reduceLT, Nat.reduceLeDiff, beq_self_eq_true, List.length_map, Nat.beq, dcall, dcallP, List.mapM_cons, St.snapFn, St.snap, St.layAll, St.lay, St.freezeArg, St.freezeArg1]
      repeat' ((try simp only [bcase_bind, bcase_map, tail_bcase]); refine bcase_split (fun hb => ?_) (fun hb => ?_) <;> try simp only [hb, e1, h1, h3, eSecs, List.getElem?_map, val_pvs, frozen_pvs, msnoc_len, msnoc_get, msnoc_set, msnoc_take, Int.le_refl, take_map_all, Nat.le_refl, St.freezeRows, BV.frozen, List.take_length, List.take_append_drop, z_repl_zero, Int.toNat_zero, true_and, and_true, and_self, eq_self, z_take_zero, List.drop_nil, List.take_nil, vAll, List.foldl_nil, List.foldl_cons, resultsOf, resultList, resultOf, zBV, splice, PV.remade, St.freezeAt, St.freezeBox, PV.single, plain, act, dstOf, if_true, if_false, reduceCtorEq, St.get, St.put, St.pvOf, St.putRow, St.consume, St.freeze, St.row, St.elems, St.grab, St.takeRow, St.setRow, St.place, St.optPv, St.setCell, St.setCellRow, binPV, intBin, unPV, BV.val, Nat.reduceEqDiff, bound, consumeAll, buildParts, capsOf, capOf, List.append_nil, Nat.reduceAdd, Nat.reduceLT, Nat.reduceLeDiff, beq_self_eq_true, List.length_map, Nat.beq, dcall, dcallP, List.mapM_cons, St.snapFn, St.snap, St.layAll, St.lay, St.freezeArg, St.freezeArg1])
      all_goals clear h1 h3
      all_goals simp only [readOut, readErr, getD_get h2, decide_eq_true_eq, decide_eq_false_iff_not, beq_iff_eq, beq_eq_false_iff_ne, ne_eq, ge_iff_le, gt_iff_lt, Bool.and_eq_true, Bool.or_eq_true, Bool.not_eq_true', Bool.not_eq_false'] at *
      all_goals first | (exfalso; omega) | ((repeat' split) <;> first | rfl | (exfalso; omega))
  · rw [cal_code env29 rfl]; simp only [fn29]; simp only [start, z_map_cons, z_map_nil, z_len_cons, z_len_nil, z_repl_zero, z_repl_succ, z_cons_app, z_nil_app, Nat.reduceAdd, Nat.reduceSub]
    simp only [e1, eSecs, List.getElem?_map, index_b, val_pvs, frozen_pvs, msnoc_len, msnoc_get, msnoc_set, msnoc_take, Int.le_refl, take_map_all, Nat.le_refl, St.freezeRows, BV.frozen, List.take_length, List.take_append_drop, z_repl_zero, Int.toNat_zero, true_and, and_true, and_self, eq_self, z_take_zero, List.drop_nil, List.take_nil, vAll, List.foldl_nil, List.foldl_cons, resultsOf, resultList, resultOf, zBV, splice, PV.remade, St.freezeAt, St.freezeBox, PV.single, plain, act, dstOf, if_true, if_false, reduceCtorEq, St.get, St.put, St.pvOf, St.putRow, St.consume, St.freeze, St.row, St.elems, St.grab, St.takeRow, St.setRow, St.place, St.optPv, St.setCell, St.setCellRow, binPV, intBin, unPV, BV.val, Nat.reduceEqDiff, bound, consumeAll, buildParts, capsOf, capOf, List.append_nil, Nat.reduceAdd, Nat.reduceLT, Nat.reduceLeDiff, beq_self_eq_true, List.length_map, Nat.beq, dcall, dcallP, List.mapM_cons, St.snapFn, St.snap, St.layAll, St.lay, St.freezeArg, St.freezeArg1]
    repeat' ((try simp only [bcase_bind, bcase_map, tail_bcase]); refine bcase_split (fun hb => ?_) (fun hb => ?_) <;> try simp only [hb, e1, eSecs, List.getElem?_map, index_b, val_pvs, frozen_pvs, msnoc_len, msnoc_get, msnoc_set, msnoc_take, Int.le_refl, take_map_all, Nat.le_refl, St.freezeRows, BV.frozen, List.take_length, List.take_append_drop, z_repl_zero, Int.toNat_zero, true_and, and_true, and_self, eq_self, z_take_zero, List.drop_nil, List.take_nil, vAll, List.foldl_nil, List.foldl_cons, resultsOf, resultList, resultOf, zBV, splice, PV.remade, St.freezeAt, St.freezeBox, PV.single, plain, act, dstOf, if_true, if_false, reduceCtorEq, St.get, St.put, St.pvOf, St.putRow, St.consume, St.freeze, St.row, St.elems, St.grab, St.takeRow, St.setRow, St.place, St.optPv, St.setCell, St.setCellRow, binPV, intBin, unPV, BV.val, Nat.reduceEqDiff, bound, consumeAll, buildParts, capsOf, capOf, List.append_nil, Nat.reduceAdd, Nat.reduceLT, Nat.reduceLeDiff, beq_self_eq_true, List.length_map, Nat.beq, dcall, dcallP, List.mapM_cons, St.snapFn, St.snap, St.layAll, St.lay, St.freezeArg, St.freezeArg1])
    all_goals simp only [readOut, readErr, decide_eq_true_eq, decide_eq_false_iff_not, beq_iff_eq, beq_eq_false_iff_ne, ne_eq, ge_iff_le, gt_iff_lt, Bool.and_eq_true, Bool.or_eq_true, Bool.not_eq_true', Bool.not_eq_false'] at *
    all_goals first | (exfalso; omega) | ((repeat' split) <;> first | rfl | (exfalso; omega))
end Go.Proofs.Ytldnpgbacakfeaa.V

namespace Go.Proofs.Ytldnpgbacakfeaa.V
set_option linter.all false
theorem calAwake : cal env 14 [] = some [(.bool true, false)] := cal_of_vmCall (n := 200) (by kernel_rfl)
end Go.Proofs.Ytldnpgbacakfeaa.V

namespace Go.Proofs.Ytldnpgbacakfeaa.V
set_option linter.all false

theorem few7_len {im : Img} (h : few7 im = true) : im.length ≤ 9 ∧ ∀ v ∈ im, v.length ≤ 24 := by
  simp only [few7, Bool.and_eq_true, decide_eq_true_eq, List.all_eq_true] at h
  exact h
theorem few7_lim {im : Img} (h : few7 im = true) : im.length ≤ lim ∧ ∀ v ∈ im, v.length ≤ lim := by
  obtain ⟨h1, h2⟩ := few7_len h
  exact ⟨by unfold lim; omega, fun v hv => by have := h2 v hv; unfold lim; omega⟩
theorem readOut_len {im : Img} {v : Int} {e : Exn} (h : ∀ v ∈ im, v.length ≤ lim) : (readOut im v e).length ≤ lim := by
  unfold readOut
  split
  · simp only [List.length_take, List.length_drop, List.getD_eq_getElem?_getD]
    cases hx : im[v.toNat]? with
    | none => simp
    | some x => have := h x (List.mem_of_getElem? hx); simp only [Option.getD_some]; omega
  · simp
theorem cal7 {im : Img} {v : Int} {e : Exn} : cal env 7 [.list 1 (im.map eSecs), eI v, eExt e] = some [(.bool true, false)] := by
  have e0 := cal11 (im := im)
  have e3 := calAwake
  by_cases hf : few7 im = true
  · obtain ⟨hl, hr⟩ := few7_lim hf
    have e1 := cal28 (v := v) (e := e) hl hr
    have e2 := cal29 (v := v) (e := e) hl hr
    have e4 := cal30 (l := readOut im v e) (m := readOut im v e) (readOut_len hr)
    rw [hf] at e0
    simp only [eSecs, eI, eExt, decide_true, eq_self] at e0 e1 e2 e4 ⊢
    rw [cal_code env7 rfl]; simp only [fn7]; simp only [start, z_map_cons, z_map_nil, z_len_cons, z_len_nil, z_repl_zero, z_repl_succ, z_cons_app, z_nil_app, Nat.reduceAdd, Nat.reduceSub]
    simp only [e0, e1, e2, e3, e4, beq_self_eq_true, val_pvs, frozen_pvs, msnoc_len, msnoc_get, msnoc_set, msnoc_take, Int.le_refl, take_map_all, Nat.le_refl, St.freezeRows, BV.frozen, List.take_length, List.take_append_drop, z_repl_zero, Int.toNat_zero, true_and, and_true, and_self, eq_self, z_take_zero, List.drop_nil, List.take_nil, vAll, List.foldl_nil, List.foldl_cons, resultsOf, resultList, resultOf, zBV, splice, PV.remade, St.freezeAt, St.freezeBox, PV.single, plain, act, dstOf, if_true, if_false, reduceCtorEq, St.get, St.put, St.pvOf, St.putRow, St.consume, St.freeze, St.row, St.elems, St.grab, St.takeRow, St.setRow, St.place, St.optPv, St.setCell, St.setCellRow, binPV, intBin, unPV, BV.val, Nat.reduceEqDiff, bound, consumeAll, buildParts, capsOf, capOf, List.append_nil, Nat.reduceAdd, Nat.reduceLT, Nat.reduceLeDiff, beq_self_eq_true, List.length_map, Nat.beq, dcall, dcallP, List.mapM_cons, St.snapFn, St.snap, St.layAll, St.lay, St.freezeArg, St.freezeArg1]
    try simp only [bcase_bind, bcase_map, tail_bcase]
  · have hf : few7 im = false := by simpa using hf
    rw [hf] at e0
    simp only [eI, eExt] at *
    rw [cal_code env7 rfl]; simp only [fn7]; simp only [start, z_map_cons, z_map_nil, z_len_cons, z_len_nil, z_repl_zero, z_repl_succ, z_cons_app, z_nil_app, Nat.reduceAdd, Nat.reduceSub]
    simp only [e0, e3, val_pvs, frozen_pvs, msnoc_len, msnoc_get, msnoc_set, msnoc_take, Int.le_refl, take_map_all, Nat.le_refl, St.freezeRows, BV.frozen, List.take_length, List.take_append_drop, z_repl_zero, Int.toNat_zero, true_and, and_true, and_self, eq_self, z_take_zero, List.drop_nil, List.take_nil, vAll, List.foldl_nil, List.foldl_cons, resultsOf, resultList, resultOf, zBV, splice, PV.remade, St.freezeAt, St.freezeBox, PV.single, plain, act, dstOf, if_true, if_false, reduceCtorEq, St.get, St.put, St.pvOf, St.putRow, St.consume, St.freeze, St.row, St.elems, St.grab, St.takeRow, St.setRow, St.place, St.optPv, St.setCell, St.setCellRow, binPV, intBin, unPV, BV.val, Nat.reduceEqDiff, bound, consumeAll, buildParts, capsOf, capOf, List.append_nil, Nat.reduceAdd, Nat.reduceLT, Nat.reduceLeDiff, beq_self_eq_true, List.length_map, Nat.beq, dcall, dcallP, List.mapM_cons, St.snapFn, St.snap, St.layAll, St.lay, St.freezeArg, St.freezeArg1]
end Go.Proofs.Ytldnpgbacakfeaa.V

namespace Go.Proofs.Ytldnpgbacakfeaa.V
set_option linter.all false

theorem cal57 {l m : List Exn} (hl : l.length ≤ lim) : cal env 57 [eExts l, eExts m] = some [(.bool (decide (l = m)), false)] := by
  have e1 := cal42 (m := m) hl
  unfold eExts
  rw [cal_code env57 rfl]; simp only [fn57]; simp only [start, z_map_cons, z_map_nil, z_len_cons, z_len_nil, z_repl_zero, z_repl_succ, z_cons_app, z_nil_app, Nat.reduceAdd, Nat.reduceSub]
  simp only [e1, val_pvs, frozen_pvs, msnoc_len, msnoc_get, msnoc_set, msnoc_take, Int.le_refl, take_map_all, Nat.le_refl, St.freezeRows, BV.frozen, List.take_length, List.take_append_drop, z_repl_zero, Int.toNat_zero, true_and, and_true, and_self, eq_self, z_take_zero, List.drop_nil, List.take_nil, vAll, List.foldl_nil, List.foldl_cons, resultsOf, resultList, resultOf, zBV, splice, PV.remade, St.freezeAt, St.freezeBox, PV.single, plain, act, dstOf, if_true, if_false, reduceCtorEq, St.get, St.put, St.pvOf, St.putRow, St.consume, St.freeze, St.row, St.elems, St.grab, St.takeRow, St.setRow, St.place, St.optPv, St.setCell, St.setCellRow, binPV, intBin, unPV, BV.val, Nat.reduceEqDiff, bound, consumeAll, buildParts, capsOf, capOf, List.append_nil, Nat.reduceAdd, Nat.reduceLT, Nat.reduceLeDiff, beq_self_eq_true, List.length_map, Nat.beq, dcall, dcallP, List.mapM_cons, St.snapFn, St.snap, St.layAll, St.lay, St.freezeArg, St.freezeArg1]
theorem cal27 {l m : List (List Exn)} (hl : l.length ≤ lim) (hr : ∀ x ∈ l, x.length ≤ lim) : cal env 27 [.list 1 (l.map eExts), .list 1 (m.map eExts)] = some [(.bool (decide (l = m)), false)] := by
  have e1 := cal56 (enc := eExts) (enc2 := eExts) (l := l) (m := m) (eq := fun x y => decide (x = y)) (caps := []) (fun x hx y _ => cal57 (hr x hx)) (fun x => rfl) (fun x => rfl) hl
  rw [eqF_eq] at e1
  rw [cal_code env27 rfl]; simp only [fn27]; simp only [start, z_map_cons, z_map_nil, z_len_cons, z_len_nil, z_repl_zero, z_repl_succ, z_cons_app, z_nil_app, Nat.reduceAdd, Nat.reduceSub]
  simp only [e1, val_pvs, frozen_pvs, msnoc_len, msnoc_get, msnoc_set, msnoc_take, Int.le_refl, take_map_all, Nat.le_refl, St.freezeRows, BV.frozen, List.take_length, List.take_append_drop, z_repl_zero, Int.toNat_zero, true_and, and_true, and_self, eq_self, z_take_zero, List.drop_nil, List.take_nil, vAll, List.foldl_nil, List.foldl_cons, resultsOf, resultList, resultOf, zBV, splice, PV.remade, St.freezeAt, St.freezeBox, PV.single, plain, act, dstOf, if_true, if_false, reduceCtorEq, St.get, St.put, St.pvOf, St.putRow, St.consume, St.freeze, St.row, St.elems, St.grab, St.takeRow, St.setRow, St.place, St.optPv, St.setCell, St.setCellRow, binPV, intBin, unPV, BV.val, Nat.reduceEqDiff, bound, consumeAll, buildParts, capsOf, capOf, List.append_nil, Nat.reduceAdd, Nat.reduceLT, Nat.reduceLeDiff, beq_self_eq_true, List.length_map, Nat.beq, dcall, dcallP, List.mapM_cons, St.snapFn, St.snap, St.layAll, St.lay, St.freezeArg, St.freezeArg1]
theorem loop64 {a b : List Sec} (hl : a.length ≤ lim) (hab : a.length = b.length) {st : St} (h : st.head [0, 1, 5] st.boxes.length = some ⟨[.pv (.list 8 (a.map eSec)), .pv (.list 8 (b.map eSec)), .any, .any, .any, .pv (.int .i64 (0 : Nat)), .any, .any, .any, .any, .any, .any, .any, .any, .any, .any, .any, .any, .any, .any, .any, .any, .any, .any, .any, .any], [], [], none⟩) :
   den env fn64_l1 st = if a = b then some (.normal, ⟨[.any, .any, .any, .any, .any, .any, .any, .any, .any, .any, .any, .any, .any, .any, .any, .any, .any, .any, .any, .any, .any, .any, .any, .any, .any, .any], [], [], none⟩) else some (.ret, ⟨[.any, .any, .any, .any, .pv (.bool false), .any, .any, .any, .any, .any, .any, .any, .any, .any, .any, .any, .any, .any, .any, .any, .any, .any, .any, .any, .any, .any], [], [], none⟩) := by
  unfold fn64_l1
  rw [ clean_up (env := env) (a.length) (fun i => ⟨[.pv (.list 8 (a.map eSec)), .pv (.list 8 (b.map eSec)), .any, .any, .any, .pv (.int .i64 i), .any, .any, .any, .any, .any, .any, .any, .any, .any, .any, .any, .any, .any, .any, .any, .any, .any, .any, .any, .any], [], [], none⟩) (fun i => if a.drop i = b.drop i then some (.normal, ⟨[.any, .any, .any, .any, .any, .any, .any, .any, .any, .any, .any, .any, .any, .any, .any, .any, .any, .any, .any, .any, .any, .any, .any, .any, .any, .any], [], [], none⟩) else some (.ret, ⟨[.any, .any, .any, .any, .pv (.bool false), .any, .any, .any, .any, .any, .any, .any, .any, .any, .any, .any, .any, .any, .any, .any, .any, .any, .any, .any, .any, .any], [], [], none⟩)) h (fun _ => rfl) (fun _ => rfl) ?_ ?_]
  · first | rfl | simp only [List.drop_zero, List.take_zero, List.map_nil, Nat.zero_add, List.nil_append, List.foldl_nil]
  · intro i rb hi ih

    have hi1 := i64_next hi hl
    have hj : i < b.length := by omega
    have F1 : ((i : Int) < (a.length : Int)) = True := eq_true (by omega)
    rw [List.drop_eq_getElem_cons hi, List.drop_eq_getElem_cons hj]
    by_cases hd : a[i] = b[i]
    · simp only [fn64_b0, F1, eSec, index_nat hi, index_nat hj, List.getElem?_map, List.getElem?_eq_getElem hi, List.getElem?_eq_getElem hj, part_sec, secPV_length, eqCells_sec, hd, decide_true, val_pvs, frozen_pvs, msnoc_len, msnoc_get, msnoc_set, msnoc_take, Int.le_refl, take_map_all, Nat.le_refl, St.freezeRows, BV.frozen, List.take_length, List.take_append_drop, z_repl_zero, Int.toNat_zero, true_and, and_true, and_self, eq_self, z_take_zero, List.drop_nil, List.take_nil, vAll, List.foldl_nil, List.foldl_cons, resultsOf, resultList, resultOf, zBV, splice, PV.remade, St.freezeAt, St.freezeBox, PV.single, plain, act, dstOf, if_true, if_false, reduceCtorEq, St.get, St.put, St.pvOf, St.putRow, St.consume, St.freeze, St.row, St.elems, St.grab, St.takeRow, St.setRow, St.place, St.optPv, St.setCell, St.setCellRow, binPV, intBin, unPV, BV.val, Nat.reduceEqDiff, bound, consumeAll, buildParts, capsOf, capOf, List.append_nil, Nat.reduceAdd, Nat.reduceLT, Nat.reduceLeDiff, beq_self_eq_true, List.length_map, Nat.beq, dcall, dcallP, List.mapM_cons, St.snapFn, St.snap, St.layAll, St.lay, St.freezeArg, St.freezeArg1]
      rw [ih _ (by simp only [hi1]; rfl)]
      simp only [List.cons.injEq, true_and]
    · have hdf := decide_eq_false hd
      simp only [fn64_b0, F1, eSec, index_nat hi, index_nat hj, List.getElem?_map, List.getElem?_eq_getElem hi, List.getElem?_eq_getElem hj, part_sec, secPV_length, eqCells_sec, hdf, val_pvs, frozen_pvs, msnoc_len, msnoc_get, msnoc_set, msnoc_take, Int.le_refl, take_map_all, Nat.le_refl, St.freezeRows, BV.frozen, List.take_length, List.take_append_drop, z_repl_zero, Int.toNat_zero, true_and, and_true, and_self, eq_self, z_take_zero, List.drop_nil, List.take_nil, vAll, List.foldl_nil, List.foldl_cons, resultsOf, resultList, resultOf, zBV, splice, PV.remade, St.freezeAt, St.freezeBox, PV.single, plain, act, dstOf, if_true, if_false, reduceCtorEq, St.get, St.put, St.pvOf, St.putRow, St.consume, St.freeze, St.row, St.elems, St.grab, St.takeRow, St.setRow, St.place, St.optPv, St.setCell, St.setCellRow, binPV, intBin, unPV, BV.val, Nat.reduceEqDiff, bound, consumeAll, buildParts, capsOf, capOf, List.append_nil, Nat.reduceAdd, Nat.reduceLT, Nat.reduceLeDiff, beq_self_eq_true, List.length_map, Nat.beq, dcall, dcallP, List.mapM_cons, St.snapFn, St.snap, St.layAll, St.lay, St.freezeArg, St.freezeArg1]
      rw [if_neg (fun e => hd (List.cons.inj e).1)]
      rfl
  · intro rb

    simp only [fn64_b0, Int.lt_irrefl,  val_pvs, frozen_pvs, msnoc_len, msnoc_get, msnoc_set, msnoc_take, Int.le_refl, take_map_all, Nat.le_refl, St.freezeRows, BV.frozen, List.take_length, List.take_append_drop, z_repl_zero, Int.toNat_zero, true_and, and_true, and_self, eq_self, z_take_zero, List.drop_nil, List.take_nil, vAll, List.foldl_nil, List.foldl_cons, resultsOf, resultList, resultOf, zBV, splice, PV.remade, St.freezeAt, St.freezeBox, PV.single, plain, act, dstOf, if_true, if_false, reduceCtorEq, St.get, St.put, St.pvOf, St.putRow, St.consume, St.freeze, St.row, St.elems, St.grab, St.takeRow, St.setRow, St.place, St.optPv, St.setCell, St.setCellRow, binPV, intBin, unPV, BV.val, Nat.reduceEqDiff, bound, consumeAll, buildParts, capsOf, capOf, List.append_nil, Nat.reduceAdd, Nat.reduceLT, Nat.reduceLeDiff, beq_self_eq_true, List.length_map, Nat.beq, dcall, dcallP, List.mapM_cons, St.snapFn, St.snap, St.layAll, St.lay, St.freezeArg, St.freezeArg1]
    rw [List.drop_length, hab, List.drop_length, if_pos rfl]
    rfl

theorem cal64 {a b : List Sec} (hl : a.length ≤ lim) : cal env 64 [.list 8 (a.map eSec), .list 8 (b.map eSec)] = some [(.bool (decide (a = b)), false)] := by
  rw [cal_code env64 rfl]; simp only [fn64]; simp only [start, z_map_cons, z_map_nil, z_len_cons, z_len_nil, z_repl_zero, z_repl_succ, z_cons_app, z_nil_app, Nat.reduceAdd, Nat.reduceSub]
  by_cases hab : a.length = b.length
  · have G : (((a.length : Int)) != (b.length : Int)) = false := by simp; omega
    simp only [G, val_pvs, frozen_pvs, msnoc_len, msnoc_get, msnoc_set, msnoc_take, Int.le_refl, take_map_all, Nat.le_refl, St.freezeRows, BV.frozen, List.take_length, List.take_append_drop, z_repl_zero, Int.toNat_zero, true_and, and_true, and_self, eq_self, z_take_zero, List.drop_nil, List.take_nil, vAll, List.foldl_nil, List.foldl_cons, resultsOf, resultList, resultOf, zBV, splice, PV.remade, St.freezeAt, St.freezeBox, PV.single, plain, act, dstOf, if_true, if_false, reduceCtorEq, St.get, St.put, St.pvOf, St.putRow, St.consume, St.freeze, St.row, St.elems, St.grab, St.takeRow, St.setRow, St.place, St.optPv, St.setCell, St.setCellRow, binPV, intBin, unPV, BV.val, Nat.reduceEqDiff, bound, consumeAll, buildParts, capsOf, capOf, List.append_nil, Nat.reduceAdd, Nat.reduceLT, Nat.reduceLeDiff, beq_self_eq_true, List.length_map, Nat.beq, dcall, dcallP, List.mapM_cons, St.snapFn, St.snap, St.layAll, St.lay, St.freezeArg, St.freezeArg1]
    rw [loop64 hl hab]
    rotate_left
    · rfl
    · by_cases e : a = b <;> simp only [e, val_pvs, frozen_pvs, msnoc_len, msnoc_get, msnoc_set, msnoc_take, Int.le_refl, take_map_all, Nat.le_refl, St.freezeRows, BV.frozen, List.take_length, List.take_append_drop, z_repl_zero, Int.toNat_zero, true_and, and_true, and_self, eq_self, z_take_zero, List.drop_nil, List.take_nil, vAll, List.foldl_nil, List.foldl_cons, resultsOf, resultList, resultOf, zBV, splice, PV.remade, St.freezeAt, St.freezeBox, PV.single, plain, act, dstOf, if_true, if_false, reduceCtorEq, St.get, St.put, St.pvOf, St.putRow, St.consume, St.freeze, St.row, St.elems, St.grab, St.takeRow, St.setRow, St.place, St.optPv, St.setCell, St.setCellRow, binPV, intBin, unPV, BV.val, Nat.reduceEqDiff, bound, consumeAll, buildParts, capsOf, capOf, List.append_nil, Nat.reduceAdd, Nat.reduceLT, Nat.reduceLeDiff, beq_self_eq_true, List.length_map, Nat.beq, dcall, dcallP, List.mapM_cons, St.snapFn, St.snap, St.layAll, St.lay, St.freezeArg, St.freezeArg1]
  · have G : (((a.length : Int)) != (b.length : Int)) = true := by simp; omega
    have : a ≠ b := fun e => hab (by rw [e])
    have hdf := decide_eq_false this
    simp only [G, hdf, val_pvs, frozen_pvs, msnoc_len, msnoc_get, msnoc_set, msnoc_take, Int.le_refl, take_map_all, Nat.le_refl, St.freezeRows, BV.frozen, List.take_length, List.take_append_drop, z_repl_zero, Int.toNat_zero, true_and, and_true, and_self, eq_self, z_take_zero, List.drop_nil, List.take_nil, vAll, List.foldl_nil, List.foldl_cons, resultsOf, resultList, resultOf, zBV, splice, PV.remade, St.freezeAt, St.freezeBox, PV.single, plain, act, dstOf, if_true, if_false, reduceCtorEq, St.get, St.put, St.pvOf, St.putRow, St.consume, St.freeze, St.row, St.elems, St.grab, St.takeRow, St.setRow, St.place, St.optPv, St.setCell, St.setCellRow, binPV, intBin, unPV, BV.val, Nat.reduceEqDiff, bound, consumeAll, buildParts, capsOf, capOf, List.append_nil, Nat.reduceAdd, Nat.reduceLT, Nat.reduceLeDiff, beq_self_eq_true, List.length_map, Nat.beq, dcall, dcallP, List.mapM_cons, St.snapFn, St.snap, St.layAll, St.lay, St.freezeArg, St.freezeArg1]
theorem loop35 {a : List Wrt} (hl : a.length ≤ lim) (hd : ∀ x ∈ a, x.data.length ≤ lim) {st : St} (h : st.head [0, 1, 5] st.boxes.length = some ⟨[.pv (.list 3 (a.map eWr)), .pv (.list 3 (a.map eWr)), .any, .any, .any, .pv (.int .i64 (0 : Nat)), .any, .any, .any, .any, .any, .any, .any, .any, .any, .any, .any, .any, .any, .any, .any, .any, .any, .any, .any, .any, .any, .any, .any, .any, .any, .any, .any, .any, .any, .any, .any, .any, .any, .any, .any, .any, .any, .any, .any, .any, .any, .any, .any, .any, .any, .any, .any, .any, .any], [], [], none⟩) :
   den env fn35_l1 st = some (.normal, ⟨[.any, .any, .any, .any, .any, .any, .any, .any, .any, .any, .any, .any, .any, .any, .any, .any, .any, .any, .any, .any, .any, .any, .any, .any, .any, .any, .any, .any, .any, .any, .any, .any, .any, .any, .any, .any, .any, .any, .any, .any, .any, .any, .any, .any, .any, .any, .any, .any, .any, .any, .any, .any, .any, .any, .any], [], [], none⟩) := by
  unfold fn35_l1
  refine clean_up (env := env) (a.length) (fun i => ⟨[.pv (.list 3 (a.map eWr)), .pv (.list 3 (a.map eWr)), .any, .any, .any, .pv (.int .i64 i), .any, .any, .any, .any, .any, .any, .any, .any, .any, .any, .any, .any, .any, .any, .any, .any, .any, .any, .any, .any, .any, .any, .any, .any, .any, .any, .any, .any, .any, .any, .any, .any, .any, .any, .any, .any, .any, .any, .any, .any, .any, .any, .any, .any, .any, .any, .any, .any, .any], [], [], none⟩) (fun i => some (.normal, ⟨[.any, .any, .any, .any, .any, .any, .any, .any, .any, .any, .any, .any, .any, .any, .any, .any, .any, .any, .any, .any, .any, .any, .any, .any, .any, .any, .any, .any, .any, .any, .any, .any, .any, .any, .any, .any, .any, .any, .any, .any, .any, .any, .any, .any, .any, .any, .any, .any, .any, .any, .any, .any, .any, .any, .any], [], [], none⟩)) h (fun _ => rfl) (fun _ => rfl) ?_ ?_
  · intro i rb hi ih

    have hi1 := i64_next hi hl
    have F1 : ((i : Int) < (a.length : Int)) = True := eq_true (by omega)
    have e1 := cal64 (b := a[i].data) (hd _ (List.getElem_mem hi))
    have F2 : ∀ n : Int, (n != n) = false := fun n => by simp
    simp only [fn35_b0, F1, F2, e1, eWr, index_nat hi, List.getElem?_map, List.getElem?_eq_getElem hi, Option.map_some, decide_true, val_pvs, frozen_pvs, msnoc_len, msnoc_get, msnoc_set, msnoc_take, Int.le_refl, take_map_all, Nat.le_refl, St.freezeRows, BV.frozen, List.take_length, List.take_append_drop, z_repl_zero, Int.toNat_zero, true_and, and_true, and_self, eq_self, z_take_zero, List.drop_nil, List.take_nil, vAll, List.foldl_nil, List.foldl_cons, resultsOf, resultList, resultOf, zBV, splice, PV.remade, St.freezeAt, St.freezeBox, PV.single, plain, act, dstOf, if_true, if_false, reduceCtorEq, St.get, St.put, St.pvOf, St.putRow, St.consume, St.freeze, St.row, St.elems, St.grab, St.takeRow, St.setRow, St.place, St.optPv, St.setCell, St.setCellRow, binPV, intBin, unPV, BV.val, Nat.reduceEqDiff, bound, consumeAll, buildParts, capsOf, capOf, List.append_nil, Nat.reduceAdd, Nat.reduceLT, Nat.reduceLeDiff, beq_self_eq_true, List.length_map, Nat.beq, dcall, dcallP, List.mapM_cons, St.snapFn, St.snap, St.layAll, St.lay, St.freezeArg, St.freezeArg1]
    rw [ih _ (by simp only [hi1]; rfl)]
  · intro rb

    simp only [fn35_b0, Int.lt_irrefl,  val_pvs, frozen_pvs, msnoc_len, msnoc_get, msnoc_set, msnoc_take, Int.le_refl, take_map_all, Nat.le_refl, St.freezeRows, BV.frozen, List.take_length, List.take_append_drop, z_repl_zero, Int.toNat_zero, true_and, and_true, and_self, eq_self, z_take_zero, List.drop_nil, List.take_nil, vAll, List.foldl_nil, List.foldl_cons, resultsOf, resultList, resultOf, zBV, splice, PV.remade, St.freezeAt, St.freezeBox, PV.single, plain, act, dstOf, if_true, if_false, reduceCtorEq, St.get, St.put, St.pvOf, St.putRow, St.consume, St.freeze, St.row, St.elems, St.grab, St.takeRow, St.setRow, St.place, St.optPv, St.setCell, St.setCellRow, binPV, intBin, unPV, BV.val, Nat.reduceEqDiff, bound, consumeAll, buildParts, capsOf, capOf, List.append_nil, Nat.reduceAdd, Nat.reduceLT, Nat.reduceLeDiff, beq_self_eq_true, List.length_map, Nat.beq, dcall, dcallP, List.mapM_cons, St.snapFn, St.snap, St.layAll, St.lay, St.freezeArg, St.freezeArg1]
    rfl

theorem cal35 {a : List Wrt} (hl : a.length ≤ lim) (hd : ∀ x ∈ a, x.data.length ≤ lim) : cal env 35 [.list 3 (a.map eWr), .list 3 (a.map eWr)] = some [(.bool true, false)] := by
  have G : (((a.length : Int)) != (a.length : Int)) = false := by simp
  rw [cal_code env35 rfl]; simp only [fn35]; simp only [start, z_map_cons, z_map_nil, z_len_cons, z_len_nil, z_repl_zero, z_repl_succ, z_cons_app, z_nil_app, Nat.reduceAdd, Nat.reduceSub]
  simp only [G, val_pvs, frozen_pvs, msnoc_len, msnoc_get, msnoc_set, msnoc_take, Int.le_refl, take_map_all, Nat.le_refl, St.freezeRows, BV.frozen, List.take_length, List.take_append_drop, z_repl_zero, Int.toNat_zero, true_and, and_true, and_self, eq_self, z_take_zero, List.drop_nil, List.take_nil, vAll, List.foldl_nil, List.foldl_cons, resultsOf, resultList, resultOf, zBV, splice, PV.remade, St.freezeAt, St.freezeBox, PV.single, plain, act, dstOf, if_true, if_false, reduceCtorEq, St.get, St.put, St.pvOf, St.putRow, St.consume, St.freeze, St.row, St.elems, St.grab, St.takeRow, St.setRow, St.place, St.optPv, St.setCell, St.setCellRow, binPV, intBin, unPV, BV.val, Nat.reduceEqDiff, bound, consumeAll, buildParts, capsOf, capOf, List.append_nil, Nat.reduceAdd, Nat.reduceLT, Nat.reduceLeDiff, beq_self_eq_true, List.length_map, Nat.beq, dcall, dcallP, List.mapM_cons, St.snapFn, St.snap, St.layAll, St.lay, St.freezeArg, St.freezeArg1]
  rw [loop35 hl hd]
  rotate_left
  · rfl
  · simp only [val_pvs, frozen_pvs, msnoc_len, msnoc_get, msnoc_set, msnoc_take, Int.le_refl, take_map_all, Nat.le_refl, St.freezeRows, BV.frozen, List.take_length, List.take_append_drop, z_repl_zero, Int.toNat_zero, true_and, and_true, and_self, eq_self, z_take_zero, List.drop_nil, List.take_nil, vAll, List.foldl_nil, List.foldl_cons, resultsOf, resultList, resultOf, zBV, splice, PV.remade, St.freezeAt, St.freezeBox, PV.single, plain, act, dstOf, if_true, if_false, reduceCtorEq, St.get, St.put, St.pvOf, St.putRow, St.consume, St.freeze, St.row, St.elems, St.grab, St.takeRow, St.setRow, St.place, St.optPv, St.setCell, St.setCellRow, binPV, intBin, unPV, BV.val, Nat.reduceEqDiff, bound, consumeAll, buildParts, capsOf, capOf, List.append_nil, Nat.reduceAdd, Nat.reduceLT, Nat.reduceLeDiff, beq_self_eq_true, List.length_map, Nat.beq, dcall, dcallP, List.mapM_cons, St.snapFn, St.snap, St.layAll, St.lay, St.freezeArg, St.freezeArg1]
theorem patchN_few {a b : Img} (hf : ∀ v ∈ a, v.length ≤ 24) : ∀ n, (patchN a b n).length ≤ 24 * n := by
  intro n
  induction n with
  | zero => simp [patchN]
  | succ n ih =>
    rw [patchN_succ, List.length_append]
    have : (patchV n (b.getD n []) (volDiff (a.getD n []) (b.getD n []))).length ≤ 24 := by
      simp only [patchV, List.length_map]
      refine Nat.le_trans (volDiff_len _ _) ?_
      rw [List.getD_eq_getElem?_getD]
      cases h : a[n]? with
      | none => simp
      | some v => exact hf v (List.mem_of_getElem? h)
    omega
theorem patchOut_few {a b : Img} (ha : few7 a = true) (hb : few7 b = true) : (patchOut a b).length ≤ lim ∧ ∀ x ∈ patchOut a b, x.data.length ≤ 24 := by
  obtain ⟨h1, h2⟩ := few7_len ha
  obtain ⟨h3, h4⟩ := few7_len hb
  unfold patchOut
  split
  · refine ⟨?_, fun x hx => ?_⟩
    · have := patchN_few (b := b) h2 a.length
      unfold patchOf lim; omega
    · simp only [patchOf, patchN, List.mem_flatMap, List.mem_range, patchV, List.mem_map] at hx
      obtain ⟨i, hi, y, hy, rfl⟩ := hx
      simp only [List.length_take, List.length_drop, List.getD_eq_getElem?_getD]
      cases h : b[i]? with
      | none => simp
      | some v => have := h4 v (List.mem_of_getElem? h); simp only [Option.getD_some]; omega
  · exact ⟨by simp [lim], by simp⟩
theorem cal8 {a b : Img} : cal env 8 [.list 1 (a.map eSecs), .list 1 (b.map eSecs)] = some [(.bool true, false)] := by
  have e0 := cal11 (im := a)
  have e00 := cal11 (im := b)
  have e3 := calAwake
  by_cases hf : few7 a = true
  · by_cases hg : few7 b = true
    · obtain ⟨hl, hr⟩ := few7_lim hf
      obtain ⟨hl2, hr2⟩ := few7_lim hg
      have hP : pairErr a b = 0 → ∀ n, n ≤ a.length → (patchN a b n).length ≤ lim := fun _ n hn => by
        have := patchN_few (b := b) (few7_len hf).2 n
        have := (few7_len hf).1
        unfold lim; omega
      have hpo := patchOut_few hf hg
      have hdr : ∀ x ∈ differOut a b, x.length ≤ lim := fun x hx => by
        unfold differOut at hx
        split at hx
        · simp only [differ, List.mem_map] at hx
          obtain ⟨q, hq, rfl⟩ := hx
          exact Nat.le_trans (volDiff_len _ _) (hr _ (List.of_mem_zip hq).1)
        · simp at hx
      have hdl : (differOut a b).length ≤ lim := by
        unfold differOut; split
        · simp only [differ, List.length_map, List.length_zip]; omega
        · simp
      have e1 := cal26 hl hl2 hr
      have e2 := cal31 hl hl2 hr
      have e4 := cal32 hl hl2 hr hP
      have e5 := cal33 hl hl2 hr hP
      have e6 := cal34 (b := b) hl hr
      have e7 := cal17 (b := b) hl hr
      have e8 := cal27 (l := differOut a b) (m := differOut a b) hdl hdr
      have e9 := cal35 (a := patchOut a b) hpo.1 (fun x hx => Nat.le_trans (hpo.2 x hx) (by unfold lim; omega))
      rw [hf] at e0
      rw [hg] at e00
      rw [decide_eq_true rfl] at e8
      have G : ∀ x : Bool, (x == x) = true := by simp
      rw [cal_code env8 rfl]; simp only [fn8]; simp only [start, z_map_cons, z_map_nil, z_len_cons, z_len_nil, z_repl_zero, z_repl_succ, z_cons_app, z_nil_app, Nat.reduceAdd, Nat.reduceSub]
      simp only [e0, e00, e1, e2, e3, e4, e5, e6, e7, e8, e9, G, val_pvs, frozen_pvs, msnoc_len, msnoc_get, msnoc_set, msnoc_take, Int.le_refl, take_map_all, Nat.le_refl, St.freezeRows, BV.frozen, List.take_length, List.take_append_drop, z_repl_zero, Int.toNat_zero, true_and, and_true, and_self, eq_self, z_take_zero, List.drop_nil, List.take_nil, vAll, List.foldl_nil, List.foldl_cons, resultsOf, resultList, resultOf, zBV, splice, PV.remade, St.freezeAt, St.freezeBox, PV.single, plain, act, dstOf, if_true, if_false, reduceCtorEq, St.get, St.put, St.pvOf, St.putRow, St.consume, St.freeze, St.row, St.elems, St.grab, St.takeRow, St.setRow, St.place, St.optPv, St.setCell, St.setCellRow, binPV, intBin, unPV, BV.val, Nat.reduceEqDiff, bound, consumeAll, buildParts, capsOf, capOf, List.append_nil, Nat.reduceAdd, Nat.reduceLT, Nat.reduceLeDiff, beq_self_eq_true, List.length_map, Nat.beq, dcall, dcallP, List.mapM_cons, St.snapFn, St.snap, St.layAll, St.lay, St.freezeArg, St.freezeArg1]
      try simp only [bcase_bind, bcase_map, tail_bcase]
    · have hg : few7 b = false := by simpa using hg
      rw [hf] at e0
      rw [hg] at e00
      rw [cal_code env8 rfl]; simp only [fn8]; simp only [start, z_map_cons, z_map_nil, z_len_cons, z_len_nil, z_repl_zero, z_repl_succ, z_cons_app, z_nil_app, Nat.reduceAdd, Nat.reduceSub]
      simp only [e0, e00, e3, val_pvs, frozen_pvs, msnoc_len, msnoc_get, msnoc_set, msnoc_take, Int.le_refl, take_map_all, Nat.le_refl, St.freezeRows, BV.frozen, List.take_length, List.take_append_drop, z_repl_zero, Int.toNat_zero, true_and, and_true, and_self, eq_self, z_take_zero, List.drop_nil, List.take_nil, vAll, List.foldl_nil, List.foldl_cons, resultsOf, resultList, resultOf, zBV, splice, PV.remade, St.freezeAt, St.freezeBox, PV.single, plain, act, dstOf, if_true, if_false, reduceCtorEq, St.get, St.put, St.pvOf, St.putRow, St.consume, St.freeze, St.row, St.elems, St.grab, St.takeRow, St.setRow, St.place, St.optPv, St.setCell, St.setCellRow, binPV, intBin, unPV, BV.val, Nat.reduceEqDiff, bound, consumeAll, buildParts, capsOf, capOf, List.append_nil, Nat.reduceAdd, Nat.reduceLT, Nat.reduceLeDiff, beq_self_eq_true, List.length_map, Nat.beq, dcall, dcallP, List.mapM_cons, St.snapFn, St.snap, St.layAll, St.lay, St.freezeArg, St.freezeArg1]
  · have hf : few7 a = false := by simpa using hf
    rw [hf] at e0
    rw [cal_code env8 rfl]; simp only [fn8]; simp only [start, z_map_cons, z_map_nil, z_len_cons, z_len_nil, z_repl_zero, z_repl_succ, z_cons_app, z_nil_app, Nat.reduceAdd, Nat.reduceSub]
    simp only [e0, e3, val_pvs, frozen_pvs, msnoc_len, msnoc_get, msnoc_set, msnoc_take, Int.le_refl, take_map_all, Nat.le_refl, St.freezeRows, BV.frozen, List.take_length, List.take_append_drop, z_repl_zero, Int.toNat_zero, true_and, and_true, and_self, eq_self, z_take_zero, List.drop_nil, List.take_nil, vAll, List.foldl_nil, List.foldl_cons, resultsOf, resultList, resultOf, zBV, splice, PV.remade, St.freezeAt, St.freezeBox, PV.single, plain, act, dstOf, if_true, if_false, reduceCtorEq, St.get, St.put, St.pvOf, St.putRow, St.consume, St.freeze, St.row, St.elems, St.grab, St.takeRow, St.setRow, St.place, St.optPv, St.setCell, St.setCellRow, binPV, intBin, unPV, BV.val, Nat.reduceEqDiff, bound, consumeAll, buildParts, capsOf, capOf, List.append_nil, Nat.reduceAdd, Nat.reduceLT, Nat.reduceLeDiff, beq_self_eq_true, List.length_map, Nat.beq, dcall, dcallP, List.mapM_cons, St.snapFn, St.snap, St.layAll, St.lay, St.freezeArg, St.freezeArg1]
end Go.Proofs.Ytldnpgbacakfeaa.V

namespace Go.Proofs.Ytldnpgbacakfeaa
open Go.RowKit Go.ChangeShapes Go.WideShapes Go.ChangeAt
set_option linter.all false

theorem resrep_true {T : Tags} {w : World} {b : Bool} {v : Value} (h : ResRep T w [(.bool b, false)] v) : v = .bool b := by
  obtain ⟨arr, h1, h2, h3⟩ := h
  have ha : arr.size = 1 := h1
  have e0 : arr[0]? = some arr[0] := Array.getElem?_eq_getElem (by omega)
  have hv : v = arr[0] := by rw [h2, if_pos ha, Array.getD_eq_getD_getElem?, e0]; rfl
  have hr : PRep (fun b => T b = .ro) w (.bool b) arr[0] := h3 0 (.bool b, false) arr[0] rfl e0
  rw [hv]
  exact hr.bool_inv
theorem calls_true {P : Program} {env : Env} {f : Nat} {args : List PV} {vs : List Value} {w : World} (hE : EnvOk P env) (h : cal env f args = some [(.bool true, false)]) (hl : vs.length = args.length)
    (hr : ∀ (i : Nat) x v, args[i]? = some x → vs[i]? = some v → PRep (fun b => b < w.heap.size) w x v) : Calls P f vs.toArray w (fun e w' => e = .returned (.bool true) ∧ Below w.heap.size w w') := by
  obtain ⟨n, hn⟩ := vmCall_of_cal h
  have hC := (vmCall_ok hE hn).2 (fun b => if b < w.heap.size then .ro else .other) w vs (fun b => by
    by_cases hb : b < w.heap.size
    · exact .inl (if_pos hb)
    · exact .inr (if_neg hb)) (fun b hb => if_neg (by omega)) hl (fun i x v hx hv => (hr i x v hx hv).frame fun b hb _ => ⟨if_pos hb, rfl⟩)
  refine hC.mono ?_
  rintro e w' ⟨v, T', rfl, h1, _, _, h2⟩
  exact ⟨by rw [resrep_true h2], h1⟩

def RepAll (w : World) : List PV → List Value → Prop
  | [], [] => True
  | x :: xs, v :: vs => PRep (fun b => b < w.heap.size) w x v ∧ RepAll w xs vs
  | _, _ => False
theorem RepAll.get {w : World} : ∀ {xs : List PV} {vs : List Value}, RepAll w xs vs → vs.length = xs.length ∧ ∀ (i : Nat) x v, xs[i]? = some x → vs[i]? = some v → PRep (fun b => b < w.heap.size) w x v
  | [], [], _ => ⟨rfl, fun i x v hx => by simp at hx⟩
  | x :: xs, v :: vs, h => by
    obtain ⟨h1, h2⟩ := h
    obtain ⟨k1, k2⟩ := h2.get
    refine ⟨by simp [k1], fun i y u hy hu => ?_⟩
    cases i with
    | zero => cases hy; cases hu; exact h1
    | succ i => exact k2 i y u hy hu
  | [], _ :: _, h => h.elim
  | _ :: _, [], h => h.elim
theorem calls_all {P : Program} {env : Env} {f : Nat} {args : List PV} {vs : List Value} {w : World} (hE : EnvOk P env) (h : cal env f args = some [(.bool true, false)]) (hr : RepAll w args vs) : Calls P f vs.toArray w (fun e w' => e = .returned (.bool true) ∧ Below w.heap.size w w') :=
  calls_true hE h hr.get.1 hr.get.2
def CRep (w : World) (cs : List Value) (ps : List PV) : Prop :=
  cs.length = ps.length ∧ (∀ c ∈ cs, c.oneCell' = true) ∧ ∀ (j : Nat) x v, ps[j]? = some x → cs[j]? = some v → PRep (fun b => b < w.heap.size) w x v
def RdsC (P : Program) (t : TypeId) (n : Nat) (S : List PV → Prop) : Prop :=
  P.cellsOf t = n ∧ ∀ {H : Type} {enc : TypeId × Value → H} {w : World} {fuel : Nat} {cs : List Value} {x : DataW H × List MemPlace}, DataW.trod enc P w 0 (fun _ => true) true fuel t cs = some x → ∃ ps, S ps ∧ ps.length = n ∧ CRep w cs ps
def SInt (k : IntKind) (ps : List PV) : Prop := ∃ n, (Lit.int k n).wf = true ∧ ps = [.int k n]
def SBool (ps : List PV) : Prop := ∃ b, ps = [.bool b]
def SStr (ps : List PV) : Prop := ∃ b, ps = [.str b]
def SArr (n : Nat) (S : List PV → Prop) (ps : List PV) : Prop := ps.length = n ∧ ∀ p ∈ ps, S [p]
def wrS (ps : List PV) : PV := ps.headD .void
def SList (n : Nat) (S : List PV → Prop) (wr : List PV → PV) (ps : List PV) : Prop := ∃ es, ps = [.list n es] ∧ ∀ x ∈ es, ∃ q, S q ∧ x = wr q
def SCat : List (List PV → Prop) → List PV → Prop
  | [], ps => ps = []
  | S :: Ss, ps => ∃ p q, ps = p ++ q ∧ S p ∧ SCat Ss q

section
variable {P : Program} {t e : TypeId} {n m : Nat} {S : List PV → Prop} {k : IntKind}
theorem crep_one {w : World} {c : Value} {p : PV} (hc : c.oneCell' = true) (h : PRep (fun b => b < w.heap.size) w p c) : CRep w [c] [p] :=
  ⟨rfl, fun x hx => by rw [List.mem_singleton.1 hx]; exact hc, fun j x v hx hv => by
    cases j with
    | zero => cases hx; cases hv; exact h
    | succ j => simp at hx⟩
theorem RdsC.int (ht : P.underlying t = some (.int k)) (hc : P.cellsOf t = 1) : RdsC P t 1 (SInt k) := ⟨hc, fun h => by
  obtain ⟨n, rfl, _, hw⟩ := DataW.trod_int ht h
  exact ⟨[.int k n], ⟨n, hw, rfl⟩, rfl, crep_one rfl (.int k n)⟩⟩
theorem RdsC.bool (ht : P.underlying t = some .bool) (hc : P.cellsOf t = 1) : RdsC P t 1 SBool := ⟨hc, fun h => by
  obtain ⟨b, rfl, _⟩ := DataW.trod_bool ht h
  exact ⟨[.bool b], ⟨b, rfl⟩, rfl, crep_one rfl (.bool b)⟩⟩
theorem each_pick {α : Type} {p : Nat → α → Prop} : ∀ n : Nat, (∀ i, i < n → ∃ y, p i y) → ∃ l : List α, l.length = n ∧ ∀ i x, l[i]? = some x → p i x
  | 0, _ => ⟨[], rfl, fun i x h => by simp at h⟩
  | n + 1, h => by
    obtain ⟨l, h1, h2⟩ := each_pick n fun i hi => h i (by omega)
    obtain ⟨y, hy⟩ := h n (by omega)
    refine ⟨l ++ [y], by simp [h1], fun i x hx => ?_⟩
    by_cases hi : i < n
    · rw [List.getElem?_append_left (by omega)] at hx; exact h2 i x hx
    · have := (List.getElem?_eq_some_iff.1 hx).1
      obtain rfl : i = n := by simp at this; omega
      rw [List.getElem?_append_right (by omega), h1, Nat.sub_self] at hx
      cases hx
      exact hy
theorem RdsC.arr (ht : P.underlying t = some (.array n e)) (he : RdsC P e 1 S) (hc : P.cellsOf t = n) : RdsC P t n (SArr n S) := ⟨hc, fun {H enc w fuel cs x} h => by
  obtain ⟨xs, m, _, _, hl, hx, hE⟩ := DataW.trod_array ht h
  rw [hc] at hl
  obtain ⟨l, h1, h2⟩ := each_pick (p := fun i (b : PV) => S [b] ∧ ∃ c, cs[i]? = some c ∧ c.oneCell' = true ∧ PRep (fun b => b < w.heap.size) w b c) n fun i hi => by
    have := hE i hi
    rw [List.getElem?_eq_getElem (by omega), he.1] at this
    obtain ⟨ps, g1, g2, g3, g4, g5⟩ := he.2 this
    match ps, g2 with
    | [p], _ =>
      have hci : cs[i]? = some cs[i] := List.getElem?_eq_getElem (by omega)
      have h0 : ((cs.drop (i * 1)).take 1)[0]? = some cs[i] := by
        rw [List.getElem?_take, if_pos (by decide), List.getElem?_drop]
        simpa using hci
      exact ⟨p, g1, cs[i], hci, g4 _ (List.mem_of_getElem? h0), g5 0 p _ rfl h0⟩
  refine ⟨l, ⟨h1, fun p hp => ?_⟩, h1, by omega, fun c hc => ?_, fun j x v hx hv => ?_⟩
  · obtain ⟨i, hi⟩ := List.mem_iff_getElem?.1 hp
    exact (h2 i p hi).1
  · obtain ⟨i, hi⟩ := List.mem_iff_getElem?.1 hc
    have hil : i < l.length := by
      have := (List.getElem?_eq_some_iff.1 hi).1
      omega
    obtain ⟨_, c', e1, e2, _⟩ := h2 i l[i] (List.getElem?_eq_getElem hil)
    rw [hi] at e1; cases e1; exact e2
  · obtain ⟨_, c', e1, _, e3⟩ := h2 j x hx
    rw [hv] at e1; cases e1; exact e3⟩
theorem cellish_of {w : World} {b off : Nat} {v : Value} (h : w.cell? ⟨b, off, none⟩ = some v) : Cellish w b := by
  unfold World.cell? at h
  split at h
  · rename_i arr E q hb
    exact ⟨arr, E, q, hb⟩
  · cases h
theorem RdsC.list {wr : List PV → PV} (ht : P.underlying t = some (.slice e)) (hc : P.cellsOf t = 1) (hr : RdsC P e n S) (hpos : 0 < n) (hw : ∀ ps, S ps → ps.length = n → (wr ps).cells = ps) : RdsC P t 1 (SList n S wr) := ⟨hc, fun {H enc w fuel cs x} h => by
  rcases DataW.trod_slice ht h with ⟨rfl, _⟩ | ⟨a, len, cap, elems, rest, m, _, rfl, _, _, hl, hm, hel, hE, hR, _⟩
  · exact ⟨[.list n []], ⟨[], rfl, fun x hx => by cases hx⟩, rfl, crep_one rfl (.nil n none)⟩
  · obtain ⟨l, h1, h2⟩ := each_pick (p := fun i (y : List Value × List PV) => w.cells? 0 (a.add (i * n)) n = some y.1 ∧ S y.2 ∧ y.2.length = n ∧ CRep w y.1 y.2) len fun i hi => by
      have := hE i hi
      rw [List.getElem?_eq_getElem (by omega), hr.1, Option.bind_eq_some_iff] at this
      obtain ⟨c, h3, h4⟩ := this
      obtain ⟨ps, g1, g2, g3⟩ := hr.2 h4
      exact ⟨(c, ps), h3, g1, g2, g3⟩
    refine ⟨[.list n (l.map fun y => wr y.2)], ⟨_, rfl, fun x hx => ?_⟩, rfl, crep_one rfl ?_⟩
    · obtain ⟨y, hy, rfl⟩ := List.mem_map.1 hx
      obtain ⟨i, hi⟩ := List.mem_iff_getElem?.1 hy
      exact ⟨y.2, (h2 i y hi).2.1, rfl⟩
    · by_cases hcap : cap = 0
      · have : len = 0 := by omega
        subst hcap; subst this
        have : l = [] := List.eq_nil_of_length_eq_zero h1
        subst this
        exact .nil n (some a)
      · -- there are cells
        have hcell : ∃ off v, w.cell? ⟨a.block, off, none⟩ = some v ∧ a.spot = none := by
          have fromc : ∀ (i : Nat) (c : List Value), w.cells? 0 (a.add (i * n)) n = some c → ∃ off v, w.cell? ⟨a.block, off, none⟩ = some v ∧ a.spot = none := fun i c h3 => by
            obtain ⟨_, hc0, h4⟩ := World.cells?_some h3
            have h5 := h4 0 hpos
            rw [List.getElem?_eq_getElem (by omega)] at h5
            have hs : (a.add (i * n)).spot = none := by simpa [Addr.add] using World.cell?_spot h5
            have hs0 : a.spot = none := by
              unfold Addr.add at hs
              split at hs
              · exact hs
              · rename_i hne
                by_cases h0 : i * n = 0
                · rename_i q; exact absurd h0 (by simpa using hne)
                · rcases Nat.eq_zero_or_pos i with hi0 | hi0
                  · subst hi0; simp at h0
                  · -- the row begins at a: its first cell
                    have : 0 < len ∨ len = 0 := by omega
                    rcases this with hlen | hlen
                    · obtain ⟨y, hy⟩ : ∃ y, l[0]? = some y := ⟨l[0], List.getElem?_eq_getElem (by omega)⟩
                      obtain ⟨_, hc1, h6⟩ := World.cells?_some (h2 0 y hy).1
                      have h7 := h6 0 hpos
                      rw [List.getElem?_eq_getElem (by omega)] at h7
                      simpa [Addr.add] using World.cell?_spot h7
                    · have hrl : 0 < rest.length := by have := (hR rfl).1; omega
                      have := (hR rfl).2 0 (by omega)
                      have h8 : rest[0]? = some rest[0] := List.getElem?_eq_getElem hrl
                      rw [h8, hr.1, hlen, Option.bind_eq_some_iff] at this
                      obtain ⟨c1, h9, _⟩ := this
                      obtain ⟨_, hc1, h6⟩ := World.cells?_some h9
                      have h7 := h6 0 hpos
                      rw [List.getElem?_eq_getElem (by omega)] at h7
                      simpa [Addr.add] using World.cell?_spot h7
            obtain ⟨b, off, spot⟩ := a
            simp only at hs0
            subst hs0
            rw [Addr.add_lit, Addr.add_lit] at h5
            exact ⟨_, _, h5, rfl⟩
          rcases Nat.eq_zero_or_pos len with hlen | hlen
          · have hrl : 0 < rest.length := by have := (hR rfl).1; omega
            have := (hR rfl).2 0 (by omega)
            have h8 : rest[0]? = some rest[0] := List.getElem?_eq_getElem hrl
            rw [h8, hr.1, Option.bind_eq_some_iff] at this
            obtain ⟨c1, h9, _⟩ := this
            exact fromc _ c1 h9
          · obtain ⟨y, hy⟩ : ∃ y, l[0]? = some y := ⟨l[0], List.getElem?_eq_getElem (by omega)⟩
            exact fromc 0 _ (h2 0 y hy).1
        obtain ⟨off0, v0, hv0, hspot⟩ := hcell
        obtain ⟨b, off, spot⟩ := a
        simp only at hspot hv0
        subst hspot
        have hC : Cellish w b := cellish_of hv0
        have hget : ∀ (i : Nat) x, (l.map fun y => wr y.2)[i]? = some x → ∃ y, l[i]? = some y ∧ x = wr y.2 := fun i x hx => by
          rw [List.getElem?_map] at hx
          cases e : l[i]? with
          | none => rw [e] at hx; cases hx
          | some y => rw [e] at hx; exact ⟨y, rfl, (Option.some.inj hx).symm⟩
        have hlen : (l.map fun y => wr y.2).length = len := by simp [h1]
        have := PRep.list (ok := fun b => b < w.heap.size) (w := w) n (l.map fun y => wr y.2) b off cap (fun i j => (((l[i]?).map (·.1)).getD []).getD j default) hC.lt hC (by rw [hlen]; exact hl) hm
          (fun x hx => by
            obtain ⟨i, hi⟩ := List.mem_iff_getElem?.1 hx
            obtain ⟨y, hy, rfl⟩ := hget i x hi
            obtain ⟨_, g1, g2, _⟩ := h2 i y hy
            rw [hw _ g1 g2, g2])
          (fun i x j p hi hj => by
            obtain ⟨y, hy, rfl⟩ := hget i x hi
            obtain ⟨g0, g1, g2, g3, g4, g5⟩ := h2 i y hy
            rw [hw _ g1 g2] at hj
            have hjn : j < n := by have := (List.getElem?_eq_some_iff.1 hj).1; omega
            obtain ⟨_, hc1, h6⟩ := World.cells?_some g0
            have h7 := h6 j hjn
            have hcj : y.1[j]? = some y.1[j] := List.getElem?_eq_getElem (by omega)
            have hd : (((l[i]?).map (·.1)).getD []).getD j default = y.1[j] := by
              rw [hy]; simp [List.getD_eq_getElem?_getD, hcj]
            rw [hd]
            rw [hcj, Addr.add_lit, Addr.add_lit] at h7
            exact ⟨h7, g4 _ (List.mem_of_getElem? hcj)⟩)
          (fun i x j p hi hj => by
            obtain ⟨y, hy, rfl⟩ := hget i x hi
            obtain ⟨g0, g1, g2, g3, g4, g5⟩ := h2 i y hy
            rw [hw _ g1 g2] at hj
            have hjn : j < n := by have := (List.getElem?_eq_some_iff.1 hj).1; omega
            have hcj : y.1[j]? = some y.1[j] := List.getElem?_eq_getElem (by omega)
            have hd : (((l[i]?).map (·.1)).getD []).getD j default = y.1[j] := by
              rw [hy]; simp [List.getD_eq_getElem?_getD, hcj]
            rw [hd]
            exact g5 j p _ hj hcj)
        rw [hlen] at this
        exact this⟩
theorem CRep.append {w : World} {c1 c2 : List Value} {p1 p2 : List PV} (h1 : CRep w c1 p1) (h2 : CRep w c2 p2) : CRep w (c1 ++ c2) (p1 ++ p2) := by
  obtain ⟨a1, a2, a3⟩ := h1
  obtain ⟨b1, b2, b3⟩ := h2
  refine ⟨by simp [a1, b1], fun c hc => ?_, fun j x v hx hv => ?_⟩
  · rcases List.mem_append.1 hc with h | h
    · exact a2 c h
    · exact b2 c h
  · by_cases hj : j < p1.length
    · rw [List.getElem?_append_left hj] at hx
      rw [List.getElem?_append_left (by omega)] at hv
      exact a3 j x v hx hv
    · rw [List.getElem?_append_right (by omega)] at hx
      rw [List.getElem?_append_right (by omega), a1] at hv
      exact b3 _ x v hx hv
inductive Flds (P : Program) : Nat → List Field → List (List PV → Prop) → Nat → Prop
  | nil (o : Nat) : Flds P o [] [] 0
  | cons {o n m : Nat} {f : Field} {fs : List Field} {S : List PV → Prop} {Ss : List (List PV → Prop)} : f.offset = o → RdsC P f.type n S → Flds P (o + n) fs Ss m → Flds P o (f :: fs) (S :: Ss) (n + m)
theorem Flds.read {o : Nat} {fs : List Field} {Ss : List (List PV → Prop)} (h : Flds P o fs Ss m) {H : Type} {enc : TypeId × Value → H} {w : World} {fuel : Nat} {cs : List Value} {xs : List (DataW H × List MemPlace)} (hl : cs.length = o + m)
    (hx : ∀ (i : Nat) (f : Field), fs[i]? = some f → ∃ x, DataW.trod enc P w 0 (fun _ => true) true fuel f.type ((cs.drop f.offset).take (P.cellsOf f.type)) = some x) : ∃ ps, SCat Ss ps ∧ ps.length = m ∧ CRep w (cs.drop o) ps := by
  induction h with
  | nil o => exact ⟨[], rfl, rfl, by rw [List.drop_of_length_le (by omega)]; exact (⟨rfl, fun c hc => (by cases hc), fun j x v hx => (by simp at hx)⟩ : CRep w [] [])⟩
  | @cons o n m f fs S Ss h1 h2 h3 ih =>
    obtain ⟨x, h4⟩ := hx 0 f rfl
    rw [h2.1, h1] at h4
    obtain ⟨p, g1, g2, g3⟩ := h2.2 h4
    obtain ⟨q, k1, k2, k3⟩ := ih (by omega) (fun i f hf => hx (i + 1) f hf)
    refine ⟨p ++ q, ⟨p, q, rfl, g1, k1⟩, by simp [g2, k2], ?_⟩
    have : cs.drop o = (cs.drop o).take n ++ cs.drop (o + n) := by rw [← List.drop_drop, List.take_append_drop]
    rw [this]
    exact g3.append k3
theorem RdsC.struct {fs : Array Field} {Ss : List (List PV → Prop)} (ht : P.underlying t = some (.struct fs)) (hf : Flds P 0 fs.toList Ss n) (hc : P.cellsOf t = n) : RdsC P t n (SCat Ss) := ⟨hc, fun {H enc w fuel cs x} h => by
  obtain ⟨xs, m, _, _, hl, hx, hE⟩ := DataW.trod_struct ht h
  obtain ⟨ps, h1, h2, h3⟩ := hf.read (xs := xs) (enc := enc) (w := w) (fuel := m) (cs := cs) (by omega) (fun i f hi => by
    have hi' : fs[i]? = some f := by simpa using hi
    have := hE i f hi'
    have hil : i < xs.length := by rw [hx]; exact (Array.getElem?_eq_some_iff.1 hi').1
    exact ⟨xs[i], by rw [this, List.getElem?_eq_getElem hil]⟩)
  exact ⟨ps, h1, h2, by simpa using h3⟩⟩

theorem RdsC.struct1 {f0 : Field} {n0 : Nat} {S0 : List PV → Prop} (ht : P.underlying t = some (.struct #[f0])) (h0 : RdsC P f0.type n0 S0) (o0 : f0.offset = 0) (hc : P.cellsOf t = n0 + 0) : RdsC P t (n0 + 0) (SCat [S0]) :=
  RdsC.struct ht (show Flds P 0 [f0] [S0] (n0 + 0) from .cons o0 h0 (.nil _)) hc
theorem RdsC.struct2 {f0 f1 : Field} {n0 n1 : Nat} {S0 S1 : List PV → Prop} (ht : P.underlying t = some (.struct #[f0, f1])) (h0 : RdsC P f0.type n0 S0) (h1 : RdsC P f1.type n1 S1) (o0 : f0.offset = 0) (o1 : f1.offset = 0 + n0) (hc : P.cellsOf t = n0 + (n1 + 0)) : RdsC P t (n0 + (n1 + 0)) (SCat [S0, S1]) :=
  RdsC.struct ht (show Flds P 0 [f0, f1] [S0, S1] (n0 + (n1 + 0)) from .cons o0 h0 (.cons o1 h1 (.nil _))) hc
theorem RdsC.struct3 {f0 f1 f2 : Field} {n0 n1 n2 : Nat} {S0 S1 S2 : List PV → Prop} (ht : P.underlying t = some (.struct #[f0, f1, f2])) (h0 : RdsC P f0.type n0 S0) (h1 : RdsC P f1.type n1 S1) (h2 : RdsC P f2.type n2 S2) (o0 : f0.offset = 0) (o1 : f1.offset = 0 + n0) (o2 : f2.offset = 0 + n0 + n1) (hc : P.cellsOf t = n0 + (n1 + (n2 + 0))) : RdsC P t (n0 + (n1 + (n2 + 0))) (SCat [S0, S1, S2]) :=
  RdsC.struct ht (show Flds P 0 [f0, f1, f2] [S0, S1, S2] (n0 + (n1 + (n2 + 0))) from .cons o0 h0 (.cons o1 h1 (.cons o2 h2 (.nil _)))) hc
theorem RdsC.struct4 {f0 f1 f2 f3 : Field} {n0 n1 n2 n3 : Nat} {S0 S1 S2 S3 : List PV → Prop} (ht : P.underlying t = some (.struct #[f0, f1, f2, f3])) (h0 : RdsC P f0.type n0 S0) (h1 : RdsC P f1.type n1 S1) (h2 : RdsC P f2.type n2 S2) (h3 : RdsC P f3.type n3 S3) (o0 : f0.offset = 0) (o1 : f1.offset = 0 + n0) (o2 : f2.offset = 0 + n0 + n1) (o3 : f3.offset = 0 + n0 + n1 + n2) (hc : P.cellsOf t = n0 + (n1 + (n2 + (n3 + 0)))) : RdsC P t (n0 + (n1 + (n2 + (n3 + 0)))) (SCat [S0, S1, S2, S3]) :=
  RdsC.struct ht (show Flds P 0 [f0, f1, f2, f3] [S0, S1, S2, S3] (n0 + (n1 + (n2 + (n3 + 0)))) from .cons o0 h0 (.cons o1 h1 (.cons o2 h2 (.cons o3 h3 (.nil _))))) hc
theorem RdsC.struct5 {f0 f1 f2 f3 f4 : Field} {n0 n1 n2 n3 n4 : Nat} {S0 S1 S2 S3 S4 : List PV → Prop} (ht : P.underlying t = some (.struct #[f0, f1, f2, f3, f4])) (h0 : RdsC P f0.type n0 S0) (h1 : RdsC P f1.type n1 S1) (h2 : RdsC P f2.type n2 S2) (h3 : RdsC P f3.type n3 S3) (h4 : RdsC P f4.type n4 S4) (o0 : f0.offset = 0) (o1 : f1.offset = 0 + n0) (o2 : f2.offset = 0 + n0 + n1) (o3 : f3.offset = 0 + n0 + n1 + n2) (o4 : f4.offset = 0 + n0 + n1 + n2 + n3) (hc : P.cellsOf t = n0 + (n1 + (n2 + (n3 + (n4 + 0))))) : RdsC P t (n0 + (n1 + (n2 + (n3 + (n4 + 0))))) (SCat [S0, S1, S2, S3, S4]) :=
  RdsC.struct ht (show Flds P 0 [f0, f1, f2, f3, f4] [S0, S1, S2, S3, S4] (n0 + (n1 + (n2 + (n3 + (n4 + 0))))) from .cons o0 h0 (.cons o1 h1 (.cons o2 h2 (.cons o3 h3 (.cons o4 h4 (.nil _)))))) hc
theorem RdsC.struct6 {f0 f1 f2 f3 f4 f5 : Field} {n0 n1 n2 n3 n4 n5 : Nat} {S0 S1 S2 S3 S4 S5 : List PV → Prop} (ht : P.underlying t = some (.struct #[f0, f1, f2, f3, f4, f5])) (h0 : RdsC P f0.type n0 S0) (h1 : RdsC P f1.type n1 S1) (h2 : RdsC P f2.type n2 S2) (h3 : RdsC P f3.type n3 S3) (h4 : RdsC P f4.type n4 S4) (h5 : RdsC P f5.type n5 S5) (o0 : f0.offset = 0) (o1 : f1.offset = 0 + n0) (o2 : f2.offset = 0 + n0 + n1) (o3 : f3.offset = 0 + n0 + n1 + n2) (o4 : f4.offset = 0 + n0 + n1 + n2 + n3) (o5 : f5.offset = 0 + n0 + n1 + n2 + n3 + n4) (hc : P.cellsOf t = n0 + (n1 + (n2 + (n3 + (n4 + (n5 + 0)))))) : RdsC P t (n0 + (n1 + (n2 + (n3 + (n4 + (n5 + 0)))))) (SCat [S0, S1, S2, S3, S4, S5]) :=
  RdsC.struct ht (show Flds P 0 [f0, f1, f2, f3, f4, f5] [S0, S1, S2, S3, S4, S5] (n0 + (n1 + (n2 + (n3 + (n4 + (n5 + 0)))))) from .cons o0 h0 (.cons o1 h1 (.cons o2 h2 (.cons o3 h3 (.cons o4 h4 (.cons o5 h5 (.nil _))))))) hc
theorem RdsC.struct7 {f0 f1 f2 f3 f4 f5 f6 : Field} {n0 n1 n2 n3 n4 n5 n6 : Nat} {S0 S1 S2 S3 S4 S5 S6 : List PV → Prop} (ht : P.underlying t = some (.struct #[f0, f1, f2, f3, f4, f5, f6])) (h0 : RdsC P f0.type n0 S0) (h1 : RdsC P f1.type n1 S1) (h2 : RdsC P f2.type n2 S2) (h3 : RdsC P f3.type n3 S3) (h4 : RdsC P f4.type n4 S4) (h5 : RdsC P f5.type n5 S5) (h6 : RdsC P f6.type n6 S6) (o0 : f0.offset = 0) (o1 : f1.offset = 0 + n0) (o2 : f2.offset = 0 + n0 + n1) (o3 : f3.offset = 0 + n0 + n1 + n2) (o4 : f4.offset = 0 + n0 + n1 + n2 + n3) (o5 : f5.offset = 0 + n0 + n1 + n2 + n3 + n4) (o6 : f6.offset = 0 + n0 + n1 + n2 + n3 + n4 + n5) (hc : P.cellsOf t = n0 + (n1 + (n2 + (n3 + (n4 + (n5 + (n6 + 0))))))) : RdsC P t (n0 + (n1 + (n2 + (n3 + (n4 + (n5 + (n6 + 0))))))) (SCat [S0, S1, S2, S3, S4, S5, S6]) :=
  RdsC.struct ht (show Flds P 0 [f0, f1, f2, f3, f4, f5, f6] [S0, S1, S2, S3, S4, S5, S6] (n0 + (n1 + (n2 + (n3 + (n4 + (n5 + (n6 + 0))))))) from .cons o0 h0 (.cons o1 h1 (.cons o2 h2 (.cons o3 h3 (.cons o4 h4 (.cons o5 h5 (.cons o6 h6 (.nil _)))))))) hc
theorem RdsC.struct8 {f0 f1 f2 f3 f4 f5 f6 f7 : Field} {n0 n1 n2 n3 n4 n5 n6 n7 : Nat} {S0 S1 S2 S3 S4 S5 S6 S7 : List PV → Prop} (ht : P.underlying t = some (.struct #[f0, f1, f2, f3, f4, f5, f6, f7])) (h0 : RdsC P f0.type n0 S0) (h1 : RdsC P f1.type n1 S1) (h2 : RdsC P f2.type n2 S2) (h3 : RdsC P f3.type n3 S3) (h4 : RdsC P f4.type n4 S4) (h5 : RdsC P f5.type n5 S5) (h6 : RdsC P f6.type n6 S6) (h7 : RdsC P f7.type n7 S7) (o0 : f0.offset = 0) (o1 : f1.offset = 0 + n0) (o2 : f2.offset = 0 + n0 + n1) (o3 : f3.offset = 0 + n0 + n1 + n2) (o4 : f4.offset = 0 + n0 + n1 + n2 + n3) (o5 : f5.offset = 0 + n0 + n1 + n2 + n3 + n4) (o6 : f6.offset = 0 + n0 + n1 + n2 + n3 + n4 + n5) (o7 : f7.offset = 0 + n0 + n1 + n2 + n3 + n4 + n5 + n6) (hc : P.cellsOf t = n0 + (n1 + (n2 + (n3 + (n4 + (n5 + (n6 + (n7 + 0)))))))) : RdsC P t (n0 + (n1 + (n2 + (n3 + (n4 + (n5 + (n6 + (n7 + 0)))))))) (SCat [S0, S1, S2, S3, S4, S5, S6, S7]) :=
  RdsC.struct ht (show Flds P 0 [f0, f1, f2, f3, f4, f5, f6, f7] [S0, S1, S2, S3, S4, S5, S6, S7] (n0 + (n1 + (n2 + (n3 + (n4 + (n5 + (n6 + (n7 + 0)))))))) from .cons o0 h0 (.cons o1 h1 (.cons o2 h2 (.cons o3 h3 (.cons o4 h4 (.cons o5 h5 (.cons o6 h6 (.cons o7 h7 (.nil _))))))))) hc
theorem RdsC.struct9 {f0 f1 f2 f3 f4 f5 f6 f7 f8 : Field} {n0 n1 n2 n3 n4 n5 n6 n7 n8 : Nat} {S0 S1 S2 S3 S4 S5 S6 S7 S8 : List PV → Prop} (ht : P.underlying t = some (.struct #[f0, f1, f2, f3, f4, f5, f6, f7, f8])) (h0 : RdsC P f0.type n0 S0) (h1 : RdsC P f1.type n1 S1) (h2 : RdsC P f2.type n2 S2) (h3 : RdsC P f3.type n3 S3) (h4 : RdsC P f4.type n4 S4) (h5 : RdsC P f5.type n5 S5) (h6 : RdsC P f6.type n6 S6) (h7 : RdsC P f7.type n7 S7) (h8 : RdsC P f8.type n8 S8) (o0 : f0.offset = 0) (o1 : f1.offset = 0 + n0) (o2 : f2.offset = 0 + n0 + n1) (o3 : f3.offset = 0 + n0 + n1 + n2) (o4 : f4.offset = 0 + n0 + n1 + n2 + n3) (o5 : f5.offset = 0 + n0 + n1 + n2 + n3 + n4) (o6 : f6.offset = 0 + n0 + n1 + n2 + n3 + n4 + n5) (o7 : f7.offset = 0 + n0 + n1 + n2 + n3 + n4 + n5 + n6) (o8 : f8.offset = 0 + n0 + n1 + n2 + n3 + n4 + n5 + n6 + n7) (hc : P.cellsOf t = n0 + (n1 + (n2 + (n3 + (n4 + (n5 + (n6 + (n7 + (n8 + 0))))))))) : RdsC P t (n0 + (n1 + (n2 + (n3 + (n4 + (n5 + (n6 + (n7 + (n8 + 0))))))))) (SCat [S0, S1, S2, S3, S4, S5, S6, S7, S8]) :=
  RdsC.struct ht (show Flds P 0 [f0, f1, f2, f3, f4, f5, f6, f7, f8] [S0, S1, S2, S3, S4, S5, S6, S7, S8] (n0 + (n1 + (n2 + (n3 + (n4 + (n5 + (n6 + (n7 + (n8 + 0))))))))) from .cons o0 h0 (.cons o1 h1 (.cons o2 h2 (.cons o3 h3 (.cons o4 h4 (.cons o5 h5 (.cons o6 h6 (.cons o7 h7 (.cons o8 h8 (.nil _)))))))))) hc
theorem arg_one {H : Type} {enc : TypeId × Value → H} {w : World} {v : Value} {d : DataW H} {p : List MemPlace} (hr : RdsC P t 1 S) (hone : v.cells.toList = [v]) (h : DataW.Trod enc P w 0 (fun _ => true) true t v d p) :
    ∃ q, S [q] ∧ PRep (fun b => b < w.heap.size) w q v := by
  obtain ⟨fuel, hf⟩ := h
  obtain ⟨ps, h1, h2, h3, h4, h5⟩ := hr.2 hf
  match ps, h2 with
  | [q], _ => exact ⟨q, h1, h5 0 q v rfl (by rw [hone]; rfl)⟩
theorem arg_agg {H : Type} {enc : TypeId × Value → H} {w : World} {arr : Array Value} {d : DataW H} {p : List MemPlace} (hr : RdsC P t n S) (h : DataW.Trod enc P w 0 (fun _ => true) true t (.agg arr) d p) :
    ∃ ps, S ps ∧ PRep (fun b => b < w.heap.size) w (.agg ps) (.agg arr) := by
  obtain ⟨fuel, hf⟩ := h
  obtain ⟨ps, h1, h2, h3, h4, h5⟩ := hr.2 hf
  have hc : (Value.agg arr).cells = arr := rfl
  rw [hc] at h3 h4 h5
  refine ⟨ps, h1, .agg ps arr (by simpa using h3) (fun j v hv => h4 v (List.mem_of_getElem? (i := j) (by simpa using hv))) (fun j x v hx hv => h5 j x v hx (by simpa using hv))⟩
theorem arg_slice {H : Type} {enc : TypeId × Value → H} {w : World} {v : Value} {d : DataW H} {p : List MemPlace} {m : Reach} {base : Nat} (ht : P.underlying t = some (.slice e)) (hr : RdsC P t 1 S) (hv : Value.okWide P w m base t v) (h : DataW.Trod enc P w 0 (fun _ => true) true t v d p) :
    ∃ q, S [q] ∧ PRep (fun b => b < w.heap.size) w q v := by
  obtain ⟨a, l, c, rfl⟩ := okWide_slice ht hv
  exact arg_one hr rfl h
theorem arg_int {H : Type} {enc : TypeId × Value → H} {w : World} {v : Value} {d : DataW H} {p : List MemPlace} {m : Reach} {base : Nat} (ht : P.underlying t = some (.int k)) (hr : RdsC P t 1 S) (hv : Value.okWide P w m base t v) (h : DataW.Trod enc P w 0 (fun _ => true) true t v d p) :
    ∃ q, S [q] ∧ PRep (fun b => b < w.heap.size) w q v := by
  have : v.cells.toList = [v] := by
    simp only [Value.okWide, ht, Cell.okWide] at hv
    cases v <;> simp_all [Cell.ok, Value.cells]
  exact arg_one hr this h
theorem arg_bool {H : Type} {enc : TypeId × Value → H} {w : World} {v : Value} {d : DataW H} {p : List MemPlace} {m : Reach} {base : Nat} (ht : P.underlying t = some .bool) (hr : RdsC P t 1 S) (hv : Value.okWide P w m base t v) (h : DataW.Trod enc P w 0 (fun _ => true) true t v d p) :
    ∃ q, S [q] ∧ PRep (fun b => b < w.heap.size) w q v := by
  have : v.cells.toList = [v] := by
    simp only [Value.okWide, ht, Cell.okWide] at hv
    cases v <;> simp_all [Cell.ok, Value.cells]
  exact arg_one hr this h
theorem arg_struct {H : Type} {enc : TypeId × Value → H} {w : World} {v : Value} {d : DataW H} {p : List MemPlace} {m : Reach} {base : Nat} {fs : Array Field} (ht : P.underlying t = some (.struct fs)) (hr : RdsC P t n S) (hv : Value.okWide P w m base t v) (h : DataW.Trod enc P w 0 (fun _ => true) true t v d p) :
    ∃ ps, S ps ∧ PRep (fun b => b < w.heap.size) w (.agg ps) v := by
  simp only [Value.okWide, ht] at hv
  obtain ⟨cs, rfl, _, _⟩ := hv
  exact arg_agg hr h
theorem arg_arr {H : Type} {enc : TypeId × Value → H} {w : World} {v : Value} {d : DataW H} {p : List MemPlace} {m : Reach} {base : Nat} {c : Nat} (ht : P.underlying t = some (.array c e)) (hr : RdsC P t n S) (hv : Value.okWide P w m base t v) (h : DataW.Trod enc P w 0 (fun _ => true) true t v d p) :
    ∃ ps, S ps ∧ PRep (fun b => b < w.heap.size) w (.agg ps) v := by
  simp only [Value.okWide, ht] at hv
  obtain ⟨cs, rfl, _, _⟩ := hv
  exact arg_agg hr h
end
end Go.Proofs.Ytldnpgbacakfeaa

namespace Go.Proofs.Ytldnpgbacakfeaa
open Go.RowKit V
set_option linter.all false

theorem cellish_at {w : World} {b o : Nat} {u : Value} (h : w.cell? ⟨b, o, none⟩ = some u) : Cellish w b := by
  unfold World.cell? at h
  simp only at h
  split at h
  · rename_i e; exact ⟨_, _, _, e⟩
  · cases h
theorem sl_of_prep {α : Type} {r : Rep α} {enc : α → PV} {ok : Nat → Prop} {w : World} {l : List α} {sz : Nat} {v : Value} (hsz : sz = r.sz) (hc : ∀ x, (enc x).cells.length = r.sz)
    (hr : ∀ x ∈ l, ∀ (cs : List Value), cs.length = r.sz → (∀ (j : Nat) p u, (enc x).cells[j]? = some p → cs[j]? = some u → PRep ok w p u) → r.rd ok w cs x) (h : PRep ok w (.list sz (l.map enc)) v) : ∃ a n c, v = .slice a n c ∧ Sl r ok w a n c l := by
  generalize he : l.map enc = es at h
  cases h with
  | nil _ a =>
    have : l = [] := by simpa using he
    subst this
    exact ⟨a, 0, 0, rfl, ⟨rfl, Nat.le_refl _, Nat.zero_le _, fun _ => rfl, .inl rfl⟩⟩
  | list _ _ b off c cv h1 h2 h3 h4 h6 h7 h8 =>
    subst hsz he
    refine ⟨_, _, c, rfl, ⟨by simp, h3, h4, (fun e => by cases e), .inr ⟨b, off, rfl, h1, h2.lt, fun i x hx => ?_⟩⟩⟩
    have hi : (l.map enc)[i]? = some (enc x) := by simp [hx]
    refine ⟨(List.range r.sz).map (cv i), fun j hj => ?_, hr x (List.mem_of_getElem? hx) _ (by simp) fun j p u hp hu => ?_⟩
    · have hj' : j < (enc x).cells.length := by rw [hc]; exact hj
      rw [(h7 i _ j _ hi (List.getElem?_eq_getElem hj')).1]
      simp [hj]
    · have hj : j < r.sz := by have := (List.getElem?_eq_some_iff.1 hp).1; rw [hc] at this; exact this
      have : u = cv i j := by simp [hj] at hu; exact hu.symm
      rw [this]
      exact h8 i _ j _ hi hp
theorem prep_of_sl {α : Type} {r : Rep α} {enc : α → PV} {ok ok' : Nat → Prop} {w : World} {l : List α} {a : Option Addr} {n c : Nat} (hk : ∀ b, ok b → b < w.heap.size → ok' b) (hp0 : 0 < r.sz) (hc : ∀ x, (enc x).cells.length = r.sz)
    (hr : ∀ x ∈ l, ∀ (cs : List Value), cs.length = r.sz → r.rd ok w cs x → ∀ (j : Nat) p u, (enc x).cells[j]? = some p → cs[j]? = some u → u.oneCell' = true ∧ PRep ok' w p u) (hz : l = [] → c = 0) (h : Sl r ok w a n c l) : PRep ok' w (.list r.sz (l.map enc)) (.slice a n c) := by
  obtain ⟨h1, h2, h3, h4, h5⟩ := h
  by_cases hl : l = []
  · have := hz hl
    subst hl
    have : n = 0 := by simpa using h1.symm
    subst this
    have : c = 0 := by omega
    subst this
    exact .nil _ _
  · rcases h5 with h5 | ⟨b, off, rfl, hb, hlt, h6⟩
    · exact absurd (List.eq_nil_of_length_eq_zero (by omega)) hl
    · have hn : n = (l.map enc).length := by simp [h1]
      rw [hn]
      have key : ∀ (i : Nat) (x : α) (j : Nat) (p : PV), l[i]? = some x → (enc x).cells[j]? = some p → ∃ u, w.cell? ⟨b, off + i * r.sz + j, none⟩ = some u ∧ u.oneCell' = true ∧ PRep ok' w p u := by
        intro i x j p hx hp
        obtain ⟨cs, g1, g2⟩ := h6 i x hx
        have hj : j < r.sz := by have := (List.getElem?_eq_some_iff.1 hp).1; rw [hc] at this; exact this
        have hl2 := r.len g2
        have hu : cs[j]? = some (cs[j]'(by omega)) := List.getElem?_eq_getElem (by omega)
        obtain ⟨k1, k2⟩ := hr x (List.mem_of_getElem? hx) cs hl2 g2 j p _ hp hu
        exact ⟨_, by rw [g1 j hj, hu], k1, k2⟩
      have get : ∀ {i : Nat} {e : PV}, (l.map enc)[i]? = some e → ∃ x, l[i]? = some x ∧ e = enc x := by
        intro i e he
        rw [List.getElem?_map] at he
        cases hx : l[i]? with
        | none => rw [hx] at he; cases he
        | some x => rw [hx] at he; cases he; exact ⟨x, rfl, rfl⟩
      have hce : Cellish w b := by
        cases l with
        | nil => exact absurd rfl hl
        | cons x l =>
          have hj : 0 < (enc x).cells.length := by rw [hc]; exact hp0
          obtain ⟨u, k1, _⟩ := key 0 x 0 _ rfl (List.getElem?_eq_getElem hj)
          exact cellish_at k1
      refine .list _ _ b off c (fun i j => (w.cell? ⟨b, off + i * r.sz + j, none⟩).getD undef) (hk b hb hlt) hce (by simp; omega) h3 (fun e he => ?_) (fun i e j x hi hj => ?_) fun i e j x hi hj => ?_
      · obtain ⟨x, _, rfl⟩ := List.mem_map.1 he; exact hc x
      · obtain ⟨x', hx, rfl⟩ := get hi
        obtain ⟨u, k1, k2, k3⟩ := key i x' j x hx hj
        rw [k1]; exact ⟨rfl, k2⟩
      · obtain ⟨x', hx, rfl⟩ := get hi
        obtain ⟨u, k1, k2, k3⟩ := key i x' j x hx hj
        rw [k1]; exact k3
theorem secs_in {ok : Nat → Prop} {w : World} {l : List Sec} {v : Value} (h : PRep ok w (eSecs l) v) : ∃ a n c, v = .slice a n c ∧ Sl secR ok w a n c l := by
  refine sl_of_prep (r := secR) (enc := eSec) rfl (fun x => secPV_length x) (fun x _ cs hl hcs => ?_) h
  show cs = secCells x
  refine List.ext_getElem? fun j => ?_
  by_cases hj : j < 8
  · have h1 : cs[j]? = some (cs[j]'(by rw [hl]; exact hj)) := List.getElem?_eq_getElem _
    have h2 : (eSec x).cells[j]? = some (.int .u8 ((x.toList[j]'(by simpa using hj)).toNat : Int)) := by
      show (secPV x)[j]? = _
      have hj' : j < x.toList.length := by simpa using hj
      simp only [secPV, List.getElem?_map, List.getElem?_eq_getElem hj', Option.map_some]
    have := (hcs j _ _ h2 h1).int_inv
    have hj' : j < x.toList.length := by simpa using hj
    rw [h1, this]
    simp only [secCells, List.getElem?_map, List.getElem?_eq_getElem hj', Option.map_some]
  · have e1 : cs.length = 8 := hl
    rw [List.getElem?_eq_none (by omega), List.getElem?_eq_none (by rw [secCells_length]; omega)]
theorem img_in {ok : Nat → Prop} {w : World} {l : List (List Sec)} {v : Value} (h : PRep ok w (.list 1 (l.map eSecs)) v) : ∃ a n c, v = .slice a n c ∧ Sl secsR ok w a n c l := by
  refine sl_of_prep (r := secsR) (enc := eSecs) rfl (fun x => rfl) (fun x _ cs hl hcs => ?_) h
  match cs, hl with
  | [u], _ =>
    obtain ⟨a, n, c, rfl, hs⟩ := secs_in (hcs 0 _ u rfl rfl)
    exact ⟨a, n, c, rfl, hs⟩
theorem wrs_in {ok : Nat → Prop} {w : World} {l : List Wrt} {v : Value} (hok : ∀ x ∈ l, i64b x.volume = true ∧ i64b x.start = true) (h : PRep ok w (.list 3 (l.map eWr)) v) : ∃ a n c, v = .slice a n c ∧ Sl wrR ok w a n c (l.map fun x => (x.volume, x.start, x.data)) := by
  have : ∃ a n c, v = .slice a n c ∧ Sl (α := Wrt) ⟨3, fun ok w cs x => wrR.rd ok w cs (x.volume, x.start, x.data), fun h => wrR.len h, fun hk h => wrR.mono hk h, fun h => wrR.live h, fun hf h => wrR.frame hf h, fun h => wrR.one h⟩ ok w a n c l := by
    refine sl_of_prep rfl (fun x => rfl) (fun x hx cs hl hcs => ?_) h
    match cs, hl with
    | [u, u2, u3], _ =>
      have e1 := (hcs 0 _ u rfl rfl).int_inv
      have e2 := (hcs 1 _ u2 rfl rfl).int_inv
      obtain ⟨a, n, c, rfl, hs⟩ := secs_in (l := x.data) (hcs 2 _ u3 rfl rfl)
      obtain ⟨o1, o2⟩ := hok x hx
      simp only [i64b, Bool.and_eq_true, decide_eq_true_eq] at o1 o2
      exact ⟨[u], [u2, .slice a n c], rfl, ⟨by rw [e1], o1⟩, ⟨[u2], [.slice a n c], rfl, ⟨by rw [e2], o2⟩, a, n, c, rfl, hs⟩⟩
  obtain ⟨a, n, c, rfl, h1, h2, h3, h4, h5⟩ := this
  refine ⟨a, n, c, rfl, ⟨by simpa using h1, h2, h3, h4, h5.imp id fun ⟨b, off, g1, g2, g3, g4⟩ => ⟨b, off, g1, g2, g3, fun i x hx => ?_⟩⟩⟩
  rw [List.getElem?_map] at hx
  cases hx' : l[i]? with
  | none => rw [hx'] at hx; cases hx
  | some y => rw [hx'] at hx; cases hx; exact g4 i y hx'
theorem img_out {ok ok' : Nat → Prop} {w : World} {l : List (List Sec)} {a : Option Addr} {n c : Nat} (hk : ∀ b, ok b → b < w.heap.size → ok' b) (hz : l = [] → c = 0) (hne : ∀ x ∈ l, x ≠ []) (h : Sl secsR ok w a n c l) : PRep ok' w (.list 1 (l.map eSecs)) (.slice a n c) := by
  refine prep_of_sl (r := secsR) (enc := eSecs) hk (by decide) (fun x => rfl) (fun x hx cs hl hrd j p u hp hu => ?_) hz h
  obtain ⟨a, n, c, rfl, hs⟩ := hrd
  match j with
  | j + 1 => simp [eSecs, PV.cells] at hp
  | 0 =>
    cases hp
    cases hu
    refine ⟨rfl, prep_of_sl (r := secR) (enc := eSec) hk (by decide) (fun x => secPV_length x) (fun s _ cs hl hrd j p u hp hu => ?_) (fun e => absurd e (hne x hx)) hs⟩
    have hrd : cs = secCells s := hrd
    subst hrd
    simp only [secCells, List.getElem?_map, Option.map_eq_some_iff] at hu
    have hp : (secPV s)[j]? = some p := hp
    simp only [secPV, List.getElem?_map, Option.map_eq_some_iff] at hp
    obtain ⟨b, h1, rfl⟩ := hu
    obtain ⟨b', h2, rfl⟩ := hp
    rw [h1] at h2
    cases h2
    exact ⟨rfl, .int _ _⟩
theorem szsOf_lens (im : List (List Sec)) : szsOf im = lens im := rfl
theorem wrErr_fit (sz : List Int) (x : Wrt) : wrErr sz x = fitW sz (x.volume, x.start, x.data) := by
  simp only [fitW, fitErr, wrErr]
  repeat' split
  all_goals first | rfl | omega
theorem wrErrs_eq (sz : List Int) : ∀ (l : List Wrt) (i : Nat), wrErrs sz l i = applyErr sz (l.map fun x => (x.volume, x.start, x.data)) i
  | [], _ => rfl
  | x :: l, i => by rw [List.map_cons, wrErrs, applyErr, wrErr_fit, wrErrs_eq sz l (i + 1)]
theorem szErr_eq (im : List (List Sec)) : szErr (szsOf im) = imgErr im := rfl
theorem apE_eq (im : List (List Sec)) (l : List Wrt) : apE im l = applyE im (l.map fun x => (x.volume, x.start, x.data)) := by
  unfold apE applyE; rw [wrErrs_eq]; rfl
theorem apI_eq (im : List (List Sec)) (l : List Wrt) : apI im l = applyIdx im (l.map fun x => (x.volume, x.start, x.data)) := by
  unfold apI applyIdx; rw [wrErrs_eq]; rfl
theorem put1_eq (im : List (List Sec)) (x : Wrt) : put1 im x = putW im (x.volume, x.start, x.data) := rfl
theorem puts_eq : ∀ (l : List Wrt) (im : List (List Sec)), l.foldl put1 im = (l.map fun x => (x.volume, x.start, x.data)).foldl putW im
  | [], _ => rfl
  | x :: l, im => by rw [List.map_cons, List.foldl_cons, List.foldl_cons, put1_eq, puts_eq l]
theorem apO_eq (im : List (List Sec)) (l : List Wrt) : apO im l = applyImg im (l.map fun x => (x.volume, x.start, x.data)) := by
  unfold apO applyImg
  rw [apE_eq, puts_eq]
  unfold applyE orNil
  by_cases h : imgErr im = 0
  · simp [h]
  · simp [h]
theorem wrErr_ok {im : List (List Sec)} {x : Wrt} (h : wrErr (szsOf im) x = 0) : szsOf (put1 im x) = szsOf im := by
  rw [wrErr_fit] at h
  exact lens_put h
theorem wrErrs_shift (sz : List Int) : ∀ (l : List Wrt) (i k : Nat), (wrErrs sz l i).2 = (wrErrs sz l k).2
  | [], _, _ => rfl
  | x :: l, i, k => by
    unfold wrErrs
    split
    · rfl
    · exact wrErrs_shift sz l _ _
theorem puts_sizes : ∀ (l : List Wrt) (im : List (List Sec)) (i : Nat), (wrErrs (szsOf im) l i).2 = 0 → szsOf (l.foldl put1 im) = szsOf im
  | [], _, _, _ => rfl
  | x :: l, im, i, h => by
    unfold wrErrs at h
    split at h
    · rename_i h2; exact absurd h h2
    · rename_i h2
      have h2 : wrErr (szsOf im) x = 0 := by omega
      have e := wrErr_ok h2
      rw [List.foldl_cons, puts_sizes l (put1 im x) (i + 1) (by rw [e]; exact h), e]
theorem apO_sizes {im : List (List Sec)} {l : List Wrt} (h : apE im l = 0) : szsOf (apO im l) = szsOf im := by
  unfold apO
  rw [if_pos h]
  unfold apE at h
  split at h
  · rename_i h2; exact absurd h h2
  · exact puts_sizes l im 0 h
theorem szErr_ne {im : List (List Sec)} (h : szErr (szsOf im) = 0) : im ≠ [] ∧ ∀ v ∈ im, v ≠ [] := by
  unfold szErr at h
  split at h
  · cases h
  · rename_i h1
    split at h
    · cases h
    · rename_i h2
      refine ⟨fun e => by subst e; simp [szsOf] at h1, fun v hv e => ?_⟩
      subst e
      refine h2 (List.any_eq_true.2 ⟨0, ?_, by decide⟩)
      exact List.mem_map.2 ⟨[], hv, rfl⟩
theorem apO_ne {im : List (List Sec)} {l : List Wrt} : (apE im l = 0 → apO im l ≠ []) ∧ ∀ v ∈ apO im l, v ≠ [] := by
  by_cases h : apE im l = 0
  · have h0 : szErr (szsOf im) = 0 := by
      unfold apE at h
      split at h
      · rename_i h2; exact absurd h h2
      · omega
    have := szErr_ne (im := apO im l) (by rw [apO_sizes h]; exact h0)
    exact ⟨fun _ => this.1, this.2⟩
  · exact ⟨fun e => absurd e h, fun v hv => by unfold apO at hv; rw [if_neg h] at hv; cases hv⟩
theorem apply_ok {f : Nat} (hc : callable Try.prog f = true) (hA : ∀ {a : Option Addr} {n c : Nat} {im : List (List Sec)} {ok ok2 : Nat → Prop} {w : World}, Sl secsR ok w a n c im → n ≤ 1000000 → (∀ v ∈ im, v.length ≤ 1000000) →
    ∀ {la : Option Addr} {ln lc : Nat} {l : List Wr}, Sl wrR ok2 w la ln lc l → Calls Try.prog f #[.slice a n c, .slice la ln lc] w (RetApply w im l)) :
    ∀ args rs, applyX args = some rs → callable Try.prog f = true ∧ CallOk Try.prog f args rs := fun args rs h => by
  obtain ⟨im, l, rfl, hw, hn, hv, rfl⟩ := applyX_eq h
  refine ⟨hc, fun T0 w vs h1 h2 h3 h4 => ?_⟩
  match vs, h3 with
  | [v0, v1], _ =>
    obtain ⟨a, n, c, rfl, hs⟩ := img_in (h4 0 _ v0 rfl rfl)
    obtain ⟨la, ln, lc, rfl, hl⟩ := wrs_in hw (h4 1 _ v1 rfl rfl)
    refine (hA hs (by rw [← hs.len]; exact hn) hv hl).mono ?_
    rintro e w' ⟨a', n', c', rfl, hr, hz, hB⟩
    rw [← apI_eq, ← apE_eq]
    rw [← apO_eq] at hr
    rw [← apE_eq] at hz
    refine ⟨_, fun b => if w.heap.size ≤ b ∧ b < w'.heap.size then .ro else T0 b, rfl, hB, fun b hb => if_neg (by omega), fun b hb => ?_, #[_, _, _], rfl, rfl, fun i r u hr' hu => ?_⟩
    · show (if _ then _ else T0 b) = _
      rw [if_neg (by omega)]; exact h2 b (by have := hB.size; omega)
    · match i with
      | 0 =>
        cases hr'; cases hu
        refine img_out (ok := (w.heap.size ≤ ·)) (fun b hb hlt => if_pos ⟨hb, hlt⟩) (fun e => ?_) apO_ne.2 hr
        rcases hz with hz | hz
        · exact hr.nil hz
        · exact absurd e (apO_ne.1 hz)
      | 1 => cases hr'; cases hu; exact .int _ _
      | 2 => cases hr'; cases hu; exact .int _ _
      | i + 3 => simp at hr'
theorem applyI_ok : ∀ args rs, applyX args = some rs → callable Try.prog 23 = true ∧ CallOk Try.prog 23 args rs := apply_ok (by kernel_rfl) fun h hn hv _ _ _ _ hl => applyI_any h hn hv hl
end Go.Proofs.Ytldnpgbacakfeaa

namespace Go.Proofs.Ytldnpgbacakfeaa
open Go.RowKit V
set_option linter.all false

def oneEnv (f : Nat) (fn : VFn) : Env := fun k => if k = f then some (.code fn) else none
theorem oneEnv_ok {P : Program} {f : Nat} {fn : VFn} (h : fnOk P f fn = true) : EnvOk P (oneEnv f fn) := fun k d hk => by
  unfold oneEnv at hk
  split at hk
  · rename_i e; subst e; cases hk; exact h
  · cases hk
theorem sl_nil {ok : Nat → Prop} {w : World} {sz : Nat} {v : Value} (h : PRep ok w (.list sz []) v) : ∃ a c, v = .slice a 0 c ∧ Sl secR (fun _ => True) w a 0 c [] := by
  obtain ⟨l, hl⟩ : ∃ l : List PV, l = [] := ⟨_, rfl⟩
  rw [← hl] at h
  cases h with
  | nil _ a => exact ⟨a, 0, rfl, ⟨rfl, Nat.le_refl _, Nat.zero_le _, fun _ => rfl, .inl rfl⟩⟩
  | list _ _ b off c cv h1 h2 h3 h4 h6 h7 h8 => subst hl; exact ⟨_, c, rfl, ⟨rfl, Nat.zero_le _, h4, (fun e => by cases e), .inl rfl⟩⟩
theorem clone58_fn : fnOk Try.prog 58 fn58 = true := by kernel_rfl
theorem clone58_some {en : Env} (hen : en 58 = some (.code fn58)) {e : PV} {es : List PV} (hl : (e :: es).length ≤ lim) : cal en 58 [.list 8 (e :: es)] = some [(.list 8 (e :: es), true)] := by
  have F1 : (es.length + 1 ≤ lim) = True := eq_true (by simpa using hl)
  rw [cal_code hen rfl]
  simp only [fn58]
  simp only [start, z_map_cons, z_map_nil, z_len_cons, z_len_nil, z_repl_zero, z_repl_succ, z_cons_app, z_nil_app, Nat.reduceAdd, Nat.reduceSub]
  simp only [F1, z_nil_app, val_pvs, frozen_pvs, msnoc_len, msnoc_get, msnoc_set, msnoc_take, Int.le_refl, take_map_all, Nat.le_refl, St.freezeRows, BV.frozen, List.take_length, List.take_append_drop, z_repl_zero, Int.toNat_zero, true_and, and_true, and_self, eq_self, z_take_zero, List.drop_nil, List.take_nil, vAll, List.foldl_nil, List.foldl_cons, resultsOf, resultList, resultOf, zBV, splice, PV.remade, St.freezeAt, St.freezeBox, PV.single, plain, act, dstOf, if_true, if_false, reduceCtorEq, St.get, St.put, St.pvOf, St.putRow, St.consume, St.freeze, St.row, St.elems, St.grab, St.takeRow, St.setRow, St.place, St.optPv, St.setCell, St.setCellRow, binPV, intBin, unPV, BV.val, Nat.reduceEqDiff, bound, consumeAll, buildParts, capsOf, capOf, List.append_nil, Nat.reduceAdd, Nat.reduceLT, Nat.reduceLeDiff, beq_self_eq_true, List.length_map, Nat.beq, dcall, dcallP, List.mapM_cons, St.snapFn, St.snap, St.layAll, St.lay, St.freezeArg, St.freezeArg1]
theorem clone58_ok : ∀ args rs, cloneX 8 args = some rs → callable Try.prog 58 = true ∧ CallOk Try.prog 58 args rs := fun args rs h => by
  unfold cloneX at h
  split at h
  case h_2 => cases h
  rename_i sz es
  split at h
  case isFalse => cases h
  rename_i hc
  obtain ⟨rfl, hl⟩ := hc
  cases h
  cases es with
  | cons e es =>
    obtain ⟨n, hn⟩ := vmCall_of_cal (clone58_some (en := oneEnv 58 fn58) (if_pos rfl) hl)
    exact vmCall_ok (oneEnv_ok clone58_fn) hn
  | nil =>
    refine ⟨by kernel_rfl, fun T0 w vs h1 h2 h3 h4 => ?_⟩
    match vs, h3 with
    | [v], _ =>
      have hv := h4 0 _ v rfl rfl
      obtain ⟨a, c, rfl, hsl⟩ := sl_nil hv
      refine (clone_sec (ok := fun _ => True) hsl (by omega)).mono ?_
      rintro e w' ⟨a', n', c', rfl, hrd, hB⟩
      obtain ⟨v, hv, hb, ⟨xs, hown, _⟩, hnil⟩ := hrd
      obtain rfl : Value.slice a' n' c' = v := by simpa using hv
      rcases hown.2 with ⟨e1, _⟩ | ⟨g, cap, cur, e1, _, hg, _, hm, hs, _⟩
      · refine ⟨_, T0, rfl, hB, fun _ _ => rfl, fun b hb => h2 b (by have := hB.size; omega), #[_], rfl, rfl, fun i r u hr hu => ?_⟩
        cases i with
        | zero => cases hr; cases hu; exact .inl ⟨rfl, none, e1⟩
        | succ i => simp at hr
      · have hg0 : w.heap.size ≤ g := hb g (by rw [e1]; rfl)
        have hgl : g < w'.heap.size := (Array.getElem?_eq_some_iff.1 hg).1
        refine ⟨_, fun b => if b = g then .row (.part 0 0) else T0 b, rfl, hB, fun b hb => if_neg (by omega), fun b hb => ?_, #[_], rfl, rfl, fun i r u hr hu => ?_⟩
        · show (if b = g then _ else T0 b) = _
          rw [if_neg (by omega)]; exact h2 b (by have := hB.size; omega)
        · cases i with
          | zero =>
            cases hr; cases hu
            exact .inr ⟨g, cap, cur, _, e1, if_pos rfl, hg, hs, Nat.zero_le _, hm, (fun e he => by cases he), fun i e j x hi => by simp at hi⟩
          | succ i => simp at hr
end Go.Proofs.Ytldnpgbacakfeaa

namespace Go.Proofs.Ytldnpgbacakfeaa
set_option linter.all false

def Ok1 (P : Program) (f : Nat) : VDef → Prop
  | .code fn => fnOk P f fn = true
  | .ext g => ∀ args rs, g args = some rs → callable P f = true ∧ CallOk P f args rs
theorem ok3 : Ok1 Try.prog 3 (.code fn3) := (by kernel_rfl : fnOk Try.prog 3 fn3 = true)
theorem ok4 : Ok1 Try.prog 4 (.code fn4) := (by kernel_rfl : fnOk Try.prog 4 fn4 = true)
theorem ok5 : Ok1 Try.prog 5 (.code fn5) := (by kernel_rfl : fnOk Try.prog 5 fn5 = true)
theorem ok6 : Ok1 Try.prog 6 (.code fn6) := (by kernel_rfl : fnOk Try.prog 6 fn6 = true)
theorem ok7 : Ok1 Try.prog 7 (.code fn7) := (by kernel_rfl : fnOk Try.prog 7 fn7 = true)
theorem ok8 : Ok1 Try.prog 8 (.code fn8) := (by kernel_rfl : fnOk Try.prog 8 fn8 = true)
theorem ok9 : Ok1 Try.prog 9 (.code fn9) := (by kernel_rfl : fnOk Try.prog 9 fn9 = true)
theorem ok10 : Ok1 Try.prog 10 (.code fn10) := (by kernel_rfl : fnOk Try.prog 10 fn10 = true)
theorem ok11 : Ok1 Try.prog 11 (.code fn11) := (by kernel_rfl : fnOk Try.prog 11 fn11 = true)
theorem ok12 : Ok1 Try.prog 12 (.code fn12) := (by kernel_rfl : fnOk Try.prog 12 fn12 = true)
theorem ok13 : Ok1 Try.prog 13 (.code fn13) := (by kernel_rfl : fnOk Try.prog 13 fn13 = true)
theorem ok14 : Ok1 Try.prog 14 (.code fn14) := (by kernel_rfl : fnOk Try.prog 14 fn14 = true)
theorem ok15 : Ok1 Try.prog 15 (.code fn15) := (by kernel_rfl : fnOk Try.prog 15 fn15 = true)
theorem ok16 : Ok1 Try.prog 16 (.code fn16) := (by kernel_rfl : fnOk Try.prog 16 fn16 = true)
theorem ok17 : Ok1 Try.prog 17 (.code fn17) := (by kernel_rfl : fnOk Try.prog 17 fn17 = true)
theorem ok18 : Ok1 Try.prog 18 (.code fn18) := (by kernel_rfl : fnOk Try.prog 18 fn18 = true)
theorem ok19 : Ok1 Try.prog 19 (.code fn19) := (by kernel_rfl : fnOk Try.prog 19 fn19 = true)
theorem ok20 : Ok1 Try.prog 20 (.code fn20) := (by kernel_rfl : fnOk Try.prog 20 fn20 = true)
theorem ok21 : Ok1 Try.prog 21 (.code fn21) := (by kernel_rfl : fnOk Try.prog 21 fn21 = true)
theorem ok22 : Ok1 Try.prog 22 (.code fn22) := (by kernel_rfl : fnOk Try.prog 22 fn22 = true)
theorem ok23 : Ok1 Try.prog 23 (.ext applyX) := applyI_ok
theorem ok24 : Ok1 Try.prog 24 (.code fn24) := (by kernel_rfl : fnOk Try.prog 24 fn24 = true)
theorem ok25 : Ok1 Try.prog 25 (.code fn25) := (by kernel_rfl : fnOk Try.prog 25 fn25 = true)
theorem ok26 : Ok1 Try.prog 26 (.code fn26) := (by kernel_rfl : fnOk Try.prog 26 fn26 = true)
theorem ok27 : Ok1 Try.prog 27 (.code fn27) := (by kernel_rfl : fnOk Try.prog 27 fn27 = true)
theorem ok28 : Ok1 Try.prog 28 (.code fn28) := (by kernel_rfl : fnOk Try.prog 28 fn28 = true)
theorem ok29 : Ok1 Try.prog 29 (.code fn29) := (by kernel_rfl : fnOk Try.prog 29 fn29 = true)
theorem ok30 : Ok1 Try.prog 30 (.code fn30) := (by kernel_rfl : fnOk Try.prog 30 fn30 = true)
theorem ok31 : Ok1 Try.prog 31 (.code fn31) := (by kernel_rfl : fnOk Try.prog 31 fn31 = true)
theorem ok32 : Ok1 Try.prog 32 (.code fn32) := (by kernel_rfl : fnOk Try.prog 32 fn32 = true)
theorem ok33 : Ok1 Try.prog 33 (.code fn33) := (by kernel_rfl : fnOk Try.prog 33 fn33 = true)
theorem ok34 : Ok1 Try.prog 34 (.code fn34) := (by kernel_rfl : fnOk Try.prog 34 fn34 = true)
theorem ok35 : Ok1 Try.prog 35 (.code fn35) := (by kernel_rfl : fnOk Try.prog 35 fn35 = true)
theorem ok36 : Ok1 Try.prog 36 (.code fn36) := (by kernel_rfl : fnOk Try.prog 36 fn36 = true)
theorem ok37 : Ok1 Try.prog 37 (.code fn37) := (by kernel_rfl : fnOk Try.prog 37 fn37 = true)
theorem ok38 : Ok1 Try.prog 38 (.code fn38) := (by kernel_rfl : fnOk Try.prog 38 fn38 = true)
theorem ok39 : Ok1 Try.prog 39 (.code fn39) := (by kernel_rfl : fnOk Try.prog 39 fn39 = true)
theorem ok40 : Ok1 Try.prog 40 (.code fn40) := (by kernel_rfl : fnOk Try.prog 40 fn40 = true)
theorem ok41 : Ok1 Try.prog 41 (.code fn41) := (by kernel_rfl : fnOk Try.prog 41 fn41 = true)
theorem ok42 : Ok1 Try.prog 42 (.code fn42) := (by kernel_rfl : fnOk Try.prog 42 fn42 = true)
theorem ok43 : Ok1 Try.prog 43 (.code fn43) := (by kernel_rfl : fnOk Try.prog 43 fn43 = true)
theorem ok44 : Ok1 Try.prog 44 (.code fn44) := (by kernel_rfl : fnOk Try.prog 44 fn44 = true)
theorem ok45 : Ok1 Try.prog 45 (.code fn45) := (by kernel_rfl : fnOk Try.prog 45 fn45 = true)
theorem ok46 : Ok1 Try.prog 46 (.code fn46) := (by kernel_rfl : fnOk Try.prog 46 fn46 = true)
theorem ok47 : Ok1 Try.prog 47 (.code fn47) := (by kernel_rfl : fnOk Try.prog 47 fn47 = true)
theorem ok48 : Ok1 Try.prog 48 (.code fn48) := (by kernel_rfl : fnOk Try.prog 48 fn48 = true)
theorem ok49 : Ok1 Try.prog 49 (.code fn49) := (by kernel_rfl : fnOk Try.prog 49 fn49 = true)
theorem ok50 : Ok1 Try.prog 50 (.code fn50) := (by kernel_rfl : fnOk Try.prog 50 fn50 = true)
theorem ok51 : Ok1 Try.prog 51 (.code fn51) := (by kernel_rfl : fnOk Try.prog 51 fn51 = true)
theorem ok52 : Ok1 Try.prog 52 (.code fn52) := (by kernel_rfl : fnOk Try.prog 52 fn52 = true)
theorem ok53 : Ok1 Try.prog 53 (.code fn53) := (by kernel_rfl : fnOk Try.prog 53 fn53 = true)
theorem ok54 : Ok1 Try.prog 54 (.code fn54) := (by kernel_rfl : fnOk Try.prog 54 fn54 = true)
theorem ok55 : Ok1 Try.prog 55 (.code fn55) := (by kernel_rfl : fnOk Try.prog 55 fn55 = true)
theorem ok56 : Ok1 Try.prog 56 (.code fn56) := (by kernel_rfl : fnOk Try.prog 56 fn56 = true)
theorem ok57 : Ok1 Try.prog 57 (.code fn57) := (by kernel_rfl : fnOk Try.prog 57 fn57 = true)
theorem ok58 : Ok1 Try.prog 58 (.ext (cloneX 8)) := clone58_ok
theorem ok59 : Ok1 Try.prog 59 (.code fn59) := (by kernel_rfl : fnOk Try.prog 59 fn59 = true)
theorem ok60 : Ok1 Try.prog 60 (.code fn60) := (by kernel_rfl : fnOk Try.prog 60 fn60 = true)
theorem ok61 : Ok1 Try.prog 61 (.code fn61) := (by kernel_rfl : fnOk Try.prog 61 fn61 = true)
theorem ok62 : Ok1 Try.prog 62 (.code fn62) := (by kernel_rfl : fnOk Try.prog 62 fn62 = true)
theorem ok63 : Ok1 Try.prog 63 (.code fn63) := (by kernel_rfl : fnOk Try.prog 63 fn63 = true)
theorem ok64 : Ok1 Try.prog 64 (.code fn64) := (by kernel_rfl : fnOk Try.prog 64 fn64 = true)
theorem ok65 : Ok1 Try.prog 65 (.code fn65) := (by kernel_rfl : fnOk Try.prog 65 fn65 = true)
theorem ok66 : Ok1 Try.prog 66 (.code fn66) := (by kernel_rfl : fnOk Try.prog 66 fn66 = true)
theorem ok67 : Ok1 Try.prog 67 (.code fn67) := (by kernel_rfl : fnOk Try.prog 67 fn67 = true)
theorem ok68 : Ok1 Try.prog 68 (.code fn68) := (by kernel_rfl : fnOk Try.prog 68 fn68 = true)
theorem ok69 : Ok1 Try.prog 69 (.code fn69) := (by kernel_rfl : fnOk Try.prog 69 fn69 = true)
theorem ok70 : Ok1 Try.prog 70 (.code fn70) := (by kernel_rfl : fnOk Try.prog 70 fn70 = true)
theorem ok71 : Ok1 Try.prog 71 (.code fn71) := (by kernel_rfl : fnOk Try.prog 71 fn71 = true)
theorem ok72 : Ok1 Try.prog 72 (.code fn72) := (by kernel_rfl : fnOk Try.prog 72 fn72 = true)
theorem ok73 : Ok1 Try.prog 73 (.code fn73) := (by kernel_rfl : fnOk Try.prog 73 fn73 = true)
theorem ok74 : Ok1 Try.prog 74 (.code fn74) := (by kernel_rfl : fnOk Try.prog 74 fn74 = true)
theorem ok75 : Ok1 Try.prog 75 (.code fn75) := (by kernel_rfl : fnOk Try.prog 75 fn75 = true)
theorem ok76 : Ok1 Try.prog 76 (.code fn76) := (by kernel_rfl : fnOk Try.prog 76 fn76 = true)
theorem ok77 : Ok1 Try.prog 77 (.code fn77) := (by kernel_rfl : fnOk Try.prog 77 fn77 = true)
theorem ok78 : Ok1 Try.prog 78 (.code fn78) := (by kernel_rfl : fnOk Try.prog 78 fn78 = true)
theorem ok79 : Ok1 Try.prog 79 (.code fn79) := (by kernel_rfl : fnOk Try.prog 79 fn79 = true)
theorem ok80 : Ok1 Try.prog 80 (.code fn80) := (by kernel_rfl : fnOk Try.prog 80 fn80 = true)
theorem ok81 : Ok1 Try.prog 81 (.code fn81) := (by kernel_rfl : fnOk Try.prog 81 fn81 = true)
theorem tabOk : ∀ p ∈ tab, Ok1 Try.prog p.1 p.2 := by
  unfold tab
  exact List.forall_mem_cons.2 ⟨ok3, List.forall_mem_cons.2 ⟨ok4, List.forall_mem_cons.2 ⟨ok5, List.forall_mem_cons.2 ⟨ok6, List.forall_mem_cons.2 ⟨ok7, List.forall_mem_cons.2 ⟨ok8, List.forall_mem_cons.2 ⟨ok9, List.forall_mem_cons.2 ⟨ok10, List.forall_mem_cons.2 ⟨ok11, List.forall_mem_cons.2 ⟨ok12, List.forall_mem_cons.2 ⟨ok13, List.forall_mem_cons.2 ⟨ok14, List.forall_mem_cons.2 ⟨ok15, List.forall_mem_cons.2 ⟨ok16, List.forall_mem_cons.2 ⟨ok17, List.forall_mem_cons.2 ⟨ok18, List.forall_mem_cons.2 ⟨ok19, List.forall_mem_cons.2 ⟨ok20, List.forall_mem_cons.2 ⟨ok21, List.forall_mem_cons.2 ⟨ok22, List.forall_mem_cons.2 ⟨ok23, List.forall_mem_cons.2 ⟨ok24, List.forall_mem_cons.2 ⟨ok25, List.forall_mem_cons.2 ⟨ok26, List.forall_mem_cons.2 ⟨ok27, List.forall_mem_cons.2 ⟨ok28, List.forall_mem_cons.2 ⟨ok29, List.forall_mem_cons.2 ⟨ok30, List.forall_mem_cons.2 ⟨ok31, List.forall_mem_cons.2 ⟨ok32, List.forall_mem_cons.2 ⟨ok33, List.forall_mem_cons.2 ⟨ok34, List.forall_mem_cons.2 ⟨ok35, List.forall_mem_cons.2 ⟨ok36, List.forall_mem_cons.2 ⟨ok37, List.forall_mem_cons.2 ⟨ok38, List.forall_mem_cons.2 ⟨ok39, List.forall_mem_cons.2 ⟨ok40, List.forall_mem_cons.2 ⟨ok41, List.forall_mem_cons.2 ⟨ok42, List.forall_mem_cons.2 ⟨ok43, List.forall_mem_cons.2 ⟨ok44, List.forall_mem_cons.2 ⟨ok45, List.forall_mem_cons.2 ⟨ok46, List.forall_mem_cons.2 ⟨ok47, List.forall_mem_cons.2 ⟨ok48, List.forall_mem_cons.2 ⟨ok49, List.forall_mem_cons.2 ⟨ok50, List.forall_mem_cons.2 ⟨ok51, List.forall_mem_cons.2 ⟨ok52, List.forall_mem_cons.2 ⟨ok53, List.forall_mem_cons.2 ⟨ok54, List.forall_mem_cons.2 ⟨ok55, List.forall_mem_cons.2 ⟨ok56, List.forall_mem_cons.2 ⟨ok57, List.forall_mem_cons.2 ⟨ok58, List.forall_mem_cons.2 ⟨ok59, List.forall_mem_cons.2 ⟨ok60, List.forall_mem_cons.2 ⟨ok61, List.forall_mem_cons.2 ⟨ok62, List.forall_mem_cons.2 ⟨ok63, List.forall_mem_cons.2 ⟨ok64, List.forall_mem_cons.2 ⟨ok65, List.forall_mem_cons.2 ⟨ok66, List.forall_mem_cons.2 ⟨ok67, List.forall_mem_cons.2 ⟨ok68, List.forall_mem_cons.2 ⟨ok69, List.forall_mem_cons.2 ⟨ok70, List.forall_mem_cons.2 ⟨ok71, List.forall_mem_cons.2 ⟨ok72, List.forall_mem_cons.2 ⟨ok73, List.forall_mem_cons.2 ⟨ok74, List.forall_mem_cons.2 ⟨ok75, List.forall_mem_cons.2 ⟨ok76, List.forall_mem_cons.2 ⟨ok77, List.forall_mem_cons.2 ⟨ok78, List.forall_mem_cons.2 ⟨ok79, List.forall_mem_cons.2 ⟨ok80, List.forall_mem_cons.2 ⟨ok81, fun p hp => by cases hp⟩⟩⟩⟩⟩⟩⟩⟩⟩⟩⟩⟩⟩⟩⟩⟩⟩⟩⟩⟩⟩⟩⟩⟩⟩⟩⟩⟩⟩⟩⟩⟩⟩⟩⟩⟩⟩⟩⟩⟩⟩⟩⟩⟩⟩⟩⟩⟩⟩⟩⟩⟩⟩⟩⟩⟩⟩⟩⟩⟩⟩⟩⟩⟩⟩⟩⟩⟩⟩⟩⟩⟩⟩⟩⟩⟩⟩⟩⟩
theorem lookup_mem : ∀ {l : List (Nat × VDef)} {f : Nat} {d : VDef}, l.lookup f = some d → (f, d) ∈ l
  | (k, v) :: l, f, d, h => by
    rw [List.lookup_cons] at h
    split at h
    · rename_i e
      have e : f = k := by simpa using e
      cases h; subst e; simp
    · exact List.mem_cons_of_mem _ (lookup_mem h)
theorem envOk : EnvOk Try.prog env := fun f d h => by
  have := tabOk _ (lookup_mem h)
  cases d <;> exact this
end Go.Proofs.Ytldnpgbacakfeaa

namespace Go.Proofs.Ytldnpgbacakfeaa.V
open Go.RowKit Go.ChangeShapes Go.WideShapes Go.ChangeAt
set_option linter.all false

theorem Try.ownKnobV : ownKnob Try.prog.godebug = none := by kernel_rfl
theorem Try.laidOutV : laidOutB Try.prog = true := by kernel_rfl
def okI (n : Int) : Prop := -9223372036854775808 ≤ n ∧ n ≤ 9223372036854775807
theorem sint_i64 {q : PV} (h : SInt .i64 [q]) : ∃ n, okI n ∧ q = eI n := by
  obtain ⟨n, h1, h2⟩ := h
  have h3 : IntKind.i64.min = -9223372036854775808 := rfl
  have h4 : IntKind.i64.max = 9223372036854775807 := rfl
  simp only [Lit.wf, Bool.and_eq_true, decide_eq_true_eq] at h1
  cases h2
  exact ⟨n, ⟨by omega, by omega⟩, rfl⟩
theorem sint_u8 {q : PV} (h : SInt .u8 [q]) : ∃ b : UInt8, q = .int .u8 (b.toNat : Int) := by
  obtain ⟨n, h1, h2⟩ := h
  have h3 : IntKind.u8.min = 0 := rfl
  have h4 : IntKind.u8.max = 255 := rfl
  simp only [Lit.wf, Bool.and_eq_true, decide_eq_true_eq] at h1
  cases h2
  refine ⟨UInt8.ofNat n.toNat, ?_⟩
  rw [UInt8.toNat_ofNat_of_lt' (show n.toNat < 2 ^ 8 by omega)]
  congr 1; omega
theorem sbool {q : PV} (h : SBool [q]) : ∃ b, q = eB b := by
  obtain ⟨b, h2⟩ := h
  cases h2
  exact ⟨b, rfl⟩
def SSec : List PV → Prop := SArr 8 (SInt .u8)
theorem ssec {ps : List PV} (h : SSec ps) : ∃ s : Sec, ps = secPV s := by
  obtain ⟨h1, h2⟩ := h
  have : ∀ l : List PV, (∀ p ∈ l, SInt .u8 [p]) → ∃ m : List UInt8, m.length = l.length ∧ l = m.map fun b => .int .u8 (b.toNat : Int) := by
    intro l
    induction l with
    | nil => exact fun _ => ⟨[], rfl, rfl⟩
    | cons p l ih =>
      intro h
      obtain ⟨b, hb⟩ := sint_u8 (h p (by simp))
      obtain ⟨m, e1, e2⟩ := ih fun q hq => h q (by simp [hq])
      exact ⟨b :: m, by simp [e1], by rw [hb, e2]; rfl⟩
  obtain ⟨m, e1, e2⟩ := this ps h2
  refine ⟨⟨m.toArray, by simp [e1, h1]⟩, ?_⟩
  subst e2
  simp [secPV, Vector.toList]
theorem slist {α : Type} {n : Nat} {S : List PV → Prop} {wr : List PV → PV} {enc : α → PV} {ok : α → Prop} (hS : ∀ ps, S ps → ∃ a, ok a ∧ wr ps = enc a) {q : PV} (h : SList n S wr [q]) : ∃ l : List α, (∀ a ∈ l, ok a) ∧ q = .list n (l.map enc) := by
  obtain ⟨es, h1, h2⟩ := h
  cases h1
  have : ∀ es : List PV, (∀ x ∈ es, ∃ q, S q ∧ x = wr q) → ∃ l : List α, (∀ a ∈ l, ok a) ∧ es = l.map enc := by
    intro es
    induction es with
    | nil => exact fun _ => ⟨[], by simp, rfl⟩
    | cons e es ih =>
      intro h
      obtain ⟨q, h3, h4⟩ := h e (by simp)
      obtain ⟨a, h5, h6⟩ := hS q h3
      obtain ⟨l, h7, h8⟩ := ih fun x hx => h x (by simp [hx])
      exact ⟨a :: l, by simp; exact ⟨h5, h7⟩, by rw [h4, h6, h8]; rfl⟩
  obtain ⟨l, h3, h4⟩ := this es h2
  exact ⟨l, h3, by rw [h4]⟩
theorem wr_int {k : IntKind} {ps : List PV} (h : SInt k ps) : (wrS ps).cells = ps := by
  obtain ⟨n, _, rfl⟩ := h; rfl
theorem wr_list {n : Nat} {S : List PV → Prop} {wr : List PV → PV} {ps : List PV} (h : SList n S wr ps) : (wrS ps).cells = ps := by
  obtain ⟨es, rfl, _⟩ := h; rfl
theorem wr_bool {ps : List PV} (h : SBool ps) : (wrS ps).cells = ps := by
  obtain ⟨b, rfl⟩ := h; rfl
theorem one_of {S : List PV → Prop} {ps : List PV} (h1 : S ps) (h : ∀ ps, S ps → ∃ q, ps = [q]) : ∃ q, ps = [q] ∧ S [q] := by
  obtain ⟨q, rfl⟩ := h ps h1
  exact ⟨q, rfl, h1⟩

def okExt (x : Exn) : Prop := okI x.start ∧ okI x.count
def SExt : List PV → Prop := SCat [SInt .i64, SInt .i64]
theorem sext {ps : List PV} (h : SExt ps) : ∃ x : Exn, okExt x ∧ PV.agg ps = eExt x := by
  obtain ⟨p, q, rfl, ⟨n, h1, rfl⟩, p2, q2, rfl, ⟨m, h2, rfl⟩, rfl⟩ := h
  obtain ⟨a, o1, e1⟩ := sint_i64 ⟨n, h1, rfl⟩
  obtain ⟨b, o2, e2⟩ := sint_i64 ⟨m, h2, rfl⟩
  refine ⟨⟨a, b⟩, ⟨o1, o2⟩, ?_⟩
  rw [e1, e2]; rfl
def SSecs : List PV → Prop := SList 8 SSec .agg
theorem ssecs {q : PV} (h : SSecs [q]) : ∃ l : List Sec, q = eSecs l := by
  obtain ⟨l, _, e⟩ := slist (enc := eSec) (ok := fun _ => True) (fun ps h => by obtain ⟨s, rfl⟩ := ssec h; exact ⟨s, trivial, rfl⟩) h
  exact ⟨l, e⟩
def SImg : List PV → Prop := SList 1 SSecs wrS
theorem simg {q : PV} (h : SImg [q]) : ∃ l : Img, q = .list 1 (l.map eSecs) := by
  obtain ⟨l, _, e⟩ := slist (enc := eSecs) (ok := fun _ => True) (fun ps h => by
    obtain ⟨es, rfl, h2⟩ := h
    obtain ⟨l, e⟩ := ssecs (q := .list 8 es) ⟨es, rfl, h2⟩
    exact ⟨l, trivial, e⟩) h
  exact ⟨l, e⟩
theorem Try.rdInt : RdsC Try.prog 3 1 (SInt .i64) := RdsC.int Try.underlying3 (by kernel_rfl)
theorem Try.rdU8 : RdsC Try.prog 5 1 (SInt .u8) := RdsC.int Try.underlying5 (by kernel_rfl)
theorem Try.rdSec : RdsC Try.prog 52 8 SSec := RdsC.arr Try.underlying52 Try.rdU8 (by kernel_rfl)
theorem Try.rdSecs : RdsC Try.prog 40 1 SSecs := RdsC.list Try.underlying40 (by kernel_rfl) Try.rdSec (by decide) (fun _ _ _ => rfl)
theorem Try.rdImg : RdsC Try.prog 24 1 SImg := RdsC.list Try.underlying24 (by kernel_rfl) Try.rdSecs (by decide) (fun _ h _ => wr_list h)
theorem Try.rdExt : RdsC Try.prog 59 2 SExt := RdsC.struct2 Try.underlying59 Try.rdInt Try.rdInt rfl rfl (by kernel_rfl)
end Go.Proofs.Ytldnpgbacakfeaa.V

namespace Go.Proofs.Ytldnpgbacakfeaa
open Go.RowKit Go.ChangeShapes Go.WideShapes Go.ChangeAt V
set_option linter.all false

set_option maxRecDepth 100000 in
theorem imageDiffers_lifted (os : Os) (started : os.Started) (H : Type) (enc : TypeId × Value → H) :
    ReturnsInHanded {} Try.checked os 8 .any (Rows.imageDiffersSpec.pre6 enc Try.prog Try.f8 Rows.imageDiffersRow.domain false) (Rows.imageDiffersSpec.post enc Try.prog Try.f8 false true false false) := by
  refine returnsInHanded_of_change (C := Try.checked) Try.ownKnobV started (by kernel_rfl) Try.func8
    (ChangeSpec.witness6 (enc := enc) (C := Try.checked) false ⟨#[], #[.slice none 0 0, .slice none 0 0], []⟩ 8 (by kernel_rfl) (by kernel_rfl) (by kernel_rfl) (by kernel_rfl)) ?_
  intro W base args ds gs before hval0 hW _ _
  have hval : ∀ (j : Nat) t v, Try.f8.params[j]? = some t → args[j]? = some v → Value.okWide Try.prog W .any base t v := hval0
  have hW' := hW
  obtain ⟨p, q, hA0, hV, rfl, _, _⟩ := hW
  have hA : DataW.TrodAll enc Try.prog W 0 (fun _ => true) true Try.f8.params.toList args.toList ds p := hA0
  rw [Try.params8] at hA hval
  obtain ⟨v0, v1, d0, d1, p0, p1, rfl, rfl, rfl, h0, h1⟩ := trodAll_two hA
  obtain ⟨rfl, rfl⟩ := trodVars_none hV
  obtain ⟨q0, s0, r0⟩ := arg_slice Try.underlying24 Try.rdImg (hval 0 24 v0 rfl rfl) h0
  obtain ⟨x0, rfl⟩ := simg s0
  obtain ⟨q1, s1, r1⟩ := arg_slice Try.underlying24 Try.rdImg (hval 1 24 v1 rfl rfl) h1
  obtain ⟨x1, rfl⟩ := simg s1
  clear hA0 hval0
  simp only [List.append_nil, List.append_assoc] at hW'
  have hlt : ∀ x ∈ p0 ++ p1, x.block < W.heap.size := fun x hx => by simpa using hW'.lt x hx
  refine (calls_all (vs := [v0, v1]) envOk (cal8 ) ⟨r0, r1, trivial⟩).mono fun e W' ⟨he, hB⟩ => ?_
  subst he
  exact ⟨_, rfl, _, _, _, [], _, [], hW', trodAll_mk1 (shut_bool Try.underlying4 _), trodAll_mk2 (Below.trod Try.laidOutV (by kernel_rfl) (of_decide_eq_true (by kernel_rfl)) h0 hB (fun x hx => hlt x (List.mem_append_left _ hx))) (Below.trod Try.laidOutV (by kernel_rfl) (of_decide_eq_true (by kernel_rfl)) h1 hB (fun x hx => hlt x (List.mem_append_right _ hx))), rfl, hB.frame _, fun h => by cases h⟩

theorem imageDiffers_holds : Rows.ImageDiffersSaid :=
  OpenClaim.holds_of_wide 8 Try.f8 rfl rfl rfl rfl rfl rfl rfl ⟨rfl, rfl, rfl, rfl, rfl⟩ rfl rfl rfl rfl rfl (by kernel_rfl) Try.func8 (by kernel_rfl)
    (of_decide_eq_true (by kernel_rfl)) (by unfold Func.isWrapper; first | (rw [if_pos (by decide +kernel)]; kernel_rfl) | (rw [if_neg (by decide +kernel)]; exact ⟨rfl, rfl⟩))
    (fun os started H enc _ => imageDiffers_lifted os started H enc)
end Go.Proofs.Ytldnpgbacakfeaa

namespace Go.Proofs.Ytldnpgbacakfeaa.V
set_option linter.all false

def hstep (h b : Int) : Int := IntKind.u64.wrap (IntKind.u64.wrap ((BitVec.ofInt IntKind.u64.bits h ^^^ BitVec.ofInt IntKind.u64.bits (IntKind.u64.wrap b)).toNat : Int) * 1099511628211)
def hfin (h : Int) : Int := IntKind.u64.wrap ((BitVec.ofInt IntKind.u64.bits h ^^^ BitVec.ofInt IntKind.u64.bits (h.fdiv (2 ^ (min (Int.toNat 32) IntKind.u64.bits)))).toNat : Int)
def hfold (l : List Int) : Int := l.foldl hstep 14695981039346656037
def hash (l : List Int) : Int := hfin (hfold l)
theorem hfold_snoc (l : List Int) (b : Int) : hfold (l ++ [b]) = hstep (hfold l) b := by simp [hfold]
def yB (l : List Int) : List (List PV) := l.map fun b => [PV.int .u8 b]
def eB8 (b : Int) : PV := .int .u8 b
def secB (x : Sec) : List Int := x.toList.map fun b => (b.toNat : Int)
def secsB (l : List Sec) : List Int := l.flatMap secB
theorem secB_len (x : Sec) : (secB x).length = 8 := by simp [secB]
theorem secPV_secB (x : Sec) : secPV x = (secB x).map eB8 := by simp [secPV, secB, eB8]
theorem take_snoc {α : Type} {l : List α} {i : Nat} (h : i < l.length) : l.take (i + 1) = l.take i ++ [l[i]] := by
  rw [List.take_add_one, List.getElem?_eq_getElem h]; rfl
theorem cal75 {gf : Nat} {caps : List PV} {bs : List Int} (hi : iter env gf caps none = some (yB bs)) : cal env 75 [.func gf caps] = some [(.int .u64 (hash bs), false)] := by
  rw [cal_code env75 rfl]; simp only [fn75]; simp only [start, z_map_cons, z_map_nil, z_len_cons, z_len_nil, z_repl_zero, z_repl_succ, z_cons_app, z_nil_app, Nat.reduceAdd, Nat.reduceSub]
  simp only [ val_pvs, frozen_pvs, msnoc_len, msnoc_get, msnoc_set, msnoc_take, Int.le_refl, take_map_all, Nat.le_refl, St.freezeRows, BV.frozen, List.take_length, List.take_append_drop, z_repl_zero, Int.toNat_zero, true_and, and_true, and_self, eq_self, z_take_zero, List.drop_nil, List.take_nil, vAll, List.foldl_nil, List.foldl_cons, resultsOf, resultList, resultOf, zBV, splice, PV.remade, St.freezeAt, St.freezeBox, PV.single, plain, act, dstOf, if_true, if_false, reduceCtorEq, St.get, St.put, St.pvOf, St.putRow, St.consume, St.freeze, St.row, St.elems, St.grab, St.takeRow, St.setRow, St.place, St.optPv, St.setCell, St.setCellRow, binPV, intBin, unPV, BV.val, Nat.reduceEqDiff, bound, consumeAll, buildParts, capsOf, capOf, List.append_nil, Nat.reduceAdd, Nat.reduceLT, Nat.reduceLeDiff, beq_self_eq_true, List.length_map, Nat.beq, dcall, dcallP, List.mapM_cons, St.snapFn, St.snap, St.layAll, St.lay, St.freezeArg, St.freezeArg1]
  rw [rng_idx (env := env) (fun j => [⟨false, [.pv (.int .u64 (hfold (bs.take j)))]⟩]) (xs := yB bs) rfl hi rfl ?_]
  · have e : bs.take (yB bs).length = bs := by simp [yB]
    have h32 : ((32 : Int) < 0) = False := eq_false (by omega)
    simp only [e, h32, hash, hfin, vRng, val_pvs, frozen_pvs, msnoc_len, msnoc_get, msnoc_set, msnoc_take, Int.le_refl, take_map_all, Nat.le_refl, St.freezeRows, BV.frozen, List.take_length, List.take_append_drop, z_repl_zero, Int.toNat_zero, true_and, and_true, and_self, eq_self, z_take_zero, List.drop_nil, List.take_nil, vAll, List.foldl_nil, List.foldl_cons, resultsOf, resultList, resultOf, zBV, splice, PV.remade, St.freezeAt, St.freezeBox, PV.single, plain, act, dstOf, if_true, if_false, reduceCtorEq, St.get, St.put, St.pvOf, St.putRow, St.consume, St.freeze, St.row, St.elems, St.grab, St.takeRow, St.setRow, St.place, St.optPv, St.setCell, St.setCellRow, binPV, intBin, unPV, BV.val, Nat.reduceEqDiff, bound, consumeAll, buildParts, capsOf, capOf, List.append_nil, Nat.reduceAdd, Nat.reduceLT, Nat.reduceLeDiff, beq_self_eq_true, List.length_map, Nat.beq, dcall, dcallP, List.mapM_cons, St.snapFn, St.snap, St.layAll, St.lay, St.freezeArg, St.freezeArg1]
  · intro j x hx sl0
    simp only [yB, List.getElem?_map, Option.map_eq_some_iff] at hx
    obtain ⟨b, hb, rfl⟩ := hx
    obtain ⟨hj, rfl⟩ := List.getElem?_eq_some_iff.1 hb
    refine ⟨?_, ?_⟩
    rotate_left
    · simp only [take_snoc hj, hfold_snoc, fn75_b0, fn75_b1, hstep, vRng, val_pvs, frozen_pvs, msnoc_len, msnoc_get, msnoc_set, msnoc_take, Int.le_refl, take_map_all, Nat.le_refl, St.freezeRows, BV.frozen, List.take_length, List.take_append_drop, z_repl_zero, Int.toNat_zero, true_and, and_true, and_self, eq_self, z_take_zero, List.drop_nil, List.take_nil, vAll, List.foldl_nil, List.foldl_cons, resultsOf, resultList, resultOf, zBV, splice, PV.remade, St.freezeAt, St.freezeBox, PV.single, plain, act, dstOf, if_true, if_false, reduceCtorEq, St.get, St.put, St.pvOf, St.putRow, St.consume, St.freeze, St.row, St.elems, St.grab, St.takeRow, St.setRow, St.place, St.optPv, St.setCell, St.setCellRow, binPV, intBin, unPV, BV.val, Nat.reduceEqDiff, bound, consumeAll, buildParts, capsOf, capOf, List.append_nil, Nat.reduceAdd, Nat.reduceLT, Nat.reduceLeDiff, beq_self_eq_true, List.length_map, Nat.beq, dcall, dcallP, List.mapM_cons, St.snapFn, St.snap, St.layAll, St.lay, St.freezeArg, St.freezeArg1]
      rfl
theorem iter81 {bs : List Int} (hl : bs.length ≤ lim) : iter env 81 [.iptr [.list 1 (bs.map eB8)] 0] none = some (yB bs) := by
  have loop : ∀ {st : St} (h : st.head [0, 5, 6, 7] st.boxes.length = some ⟨[.yld, .any, .any, .any, .any, .pv (.list 1 (bs.map eB8)), .pv (.int .i64 bs.length), .pv (.int .i64 (0 : Nat)), .any, .any, .any, .any, .any, .any, .any, .any], [], yB (bs.take 0), some none⟩),
     den env fn81_l1 st = some (.normal, ⟨[.any, .any, .any, .any, .any, .any, .any, .any, .any, .any, .any, .any, .any, .any, .any, .any], [], yB bs, some none⟩) := by
    intro st h
    unfold fn81_l1
    refine clean_up (env := env) bs.length (fun i => ⟨[.yld, .any, .any, .any, .any, .pv (.list 1 (bs.map eB8)), .pv (.int .i64 bs.length), .pv (.int .i64 i), .any, .any, .any, .any, .any, .any, .any, .any], [], yB (bs.take i), some none⟩) (fun _ => some (.normal, ⟨[.any, .any, .any, .any, .any, .any, .any, .any, .any, .any, .any, .any, .any, .any, .any, .any], [], yB bs, some none⟩)) h (fun _ => rfl) (fun _ => rfl) ?_ ?_
    · intro i rb hi ih
      have hi1 := i64_next hi hl
      have F1 : ((i : Int) < (bs.length : Int)) = True := eq_true (by omega)
      simp only [fn81_b0, F1, eB8, index_nat hi, List.getElem?_map, List.getElem?_eq_getElem hi, Option.map_some, val_pvs, frozen_pvs, msnoc_len, msnoc_get, msnoc_set, msnoc_take, Int.le_refl, take_map_all, Nat.le_refl, St.freezeRows, BV.frozen, List.take_length, List.take_append_drop, z_repl_zero, Int.toNat_zero, true_and, and_true, and_self, eq_self, z_take_zero, List.drop_nil, List.take_nil, vAll, List.foldl_nil, List.foldl_cons, resultsOf, resultList, resultOf, zBV, splice, PV.remade, St.freezeAt, St.freezeBox, PV.single, plain, act, dstOf, if_true, if_false, reduceCtorEq, St.get, St.put, St.pvOf, St.putRow, St.consume, St.freeze, St.row, St.elems, St.grab, St.takeRow, St.setRow, St.place, St.optPv, St.setCell, St.setCellRow, binPV, intBin, unPV, BV.val, Nat.reduceEqDiff, bound, consumeAll, buildParts, capsOf, capOf, List.append_nil, Nat.reduceAdd, Nat.reduceLT, Nat.reduceLeDiff, beq_self_eq_true, List.length_map, Nat.beq, dcall, dcallP, List.mapM_cons, St.snapFn, St.snap, St.layAll, St.lay, St.freezeArg, St.freezeArg1]
      rw [ih _ (by simp only [hi1]; rw [take_snoc hi]; simp only [yB, List.map_append]; rfl)]
    · intro rb
      simp only [fn81_b0, Int.lt_irrefl, val_pvs, frozen_pvs, msnoc_len, msnoc_get, msnoc_set, msnoc_take, Int.le_refl, take_map_all, Nat.le_refl, St.freezeRows, BV.frozen, List.take_length, List.take_append_drop, z_repl_zero, Int.toNat_zero, true_and, and_true, and_self, eq_self, z_take_zero, List.drop_nil, List.take_nil, vAll, List.foldl_nil, List.foldl_cons, resultsOf, resultList, resultOf, zBV, splice, PV.remade, St.freezeAt, St.freezeBox, PV.single, plain, act, dstOf, if_true, if_false, reduceCtorEq, St.get, St.put, St.pvOf, St.putRow, St.consume, St.freeze, St.row, St.elems, St.grab, St.takeRow, St.setRow, St.place, St.optPv, St.setCell, St.setCellRow, binPV, intBin, unPV, BV.val, Nat.reduceEqDiff, bound, consumeAll, buildParts, capsOf, capOf, List.append_nil, Nat.reduceAdd, Nat.reduceLT, Nat.reduceLeDiff, beq_self_eq_true, List.length_map, Nat.beq, dcall, dcallP, List.mapM_cons, St.snapFn, St.snap, St.layAll, St.lay, St.freezeArg, St.freezeArg1]
      rfl
  rw [iter_code env81 rfl rfl]
  simp only [fn81, ystart, z_map_cons, z_map_nil, z_len_cons, z_len_nil, z_repl_zero, z_repl_succ, z_cons_app, z_nil_app, Nat.reduceAdd, Nat.reduceSub]
  simp only [ val_pvs, frozen_pvs, msnoc_len, msnoc_get, msnoc_set, msnoc_take, Int.le_refl, take_map_all, Nat.le_refl, St.freezeRows, BV.frozen, List.take_length, List.take_append_drop, z_repl_zero, Int.toNat_zero, true_and, and_true, and_self, eq_self, z_take_zero, List.drop_nil, List.take_nil, vAll, List.foldl_nil, List.foldl_cons, resultsOf, resultList, resultOf, zBV, splice, PV.remade, St.freezeAt, St.freezeBox, PV.single, plain, act, dstOf, if_true, if_false, reduceCtorEq, St.get, St.put, St.pvOf, St.putRow, St.consume, St.freeze, St.row, St.elems, St.grab, St.takeRow, St.setRow, St.place, St.optPv, St.setCell, St.setCellRow, binPV, intBin, unPV, BV.val, Nat.reduceEqDiff, bound, consumeAll, buildParts, capsOf, capOf, List.append_nil, Nat.reduceAdd, Nat.reduceLT, Nat.reduceLeDiff, beq_self_eq_true, List.length_map, Nat.beq, dcall, dcallP, List.mapM_cons, St.snapFn, St.snap, St.layAll, St.lay, St.freezeArg, St.freezeArg1]
  rw [loop]
  rotate_left
  · rfl
  · rfl
theorem cal77 {bs : List Int} (hl : bs.length ≤ lim) : cal env 77 [.list 1 (bs.map eB8)] = some [(.int .u64 (hash bs), false)] := by
  have e1 := cal75 (iter81 hl)
  rw [cal_code env77 rfl]; simp only [fn77]; simp only [start, z_map_cons, z_map_nil, z_len_cons, z_len_nil, z_repl_zero, z_repl_succ, z_cons_app, z_nil_app, Nat.reduceAdd, Nat.reduceSub]
  simp only [e1, val_pvs, frozen_pvs, msnoc_len, msnoc_get, msnoc_set, msnoc_take, Int.le_refl, take_map_all, Nat.le_refl, St.freezeRows, BV.frozen, List.take_length, List.take_append_drop, z_repl_zero, Int.toNat_zero, true_and, and_true, and_self, eq_self, z_take_zero, List.drop_nil, List.take_nil, vAll, List.foldl_nil, List.foldl_cons, resultsOf, resultList, resultOf, zBV, splice, PV.remade, St.freezeAt, St.freezeBox, PV.single, plain, act, dstOf, if_true, if_false, reduceCtorEq, St.get, St.put, St.pvOf, St.putRow, St.consume, St.freeze, St.row, St.elems, St.grab, St.takeRow, St.setRow, St.place, St.optPv, St.setCell, St.setCellRow, binPV, intBin, unPV, BV.val, Nat.reduceEqDiff, bound, consumeAll, buildParts, capsOf, capOf, List.append_nil, Nat.reduceAdd, Nat.reduceLT, Nat.reduceLeDiff, beq_self_eq_true, List.length_map, Nat.beq, dcall, dcallP, List.mapM_cons, St.snapFn, St.snap, St.layAll, St.lay, St.freezeArg, St.freezeArg1]
theorem loopi76 {s : Sec} {Y : List Int} {A B C : PV} {bx : Box}
   {st : St} (h : st.head [0, 7, 8, 9, 13, 14] st.boxes.length = some ⟨[.yld, .any, .any, .any, .any, .any, .any, .pv A, .pv B, .pv C, .any, .any, .any, .pv (.agg (secPV s)), .pv (.int .i64 (0 : Nat)), .any, .any, .any, .any, .any, .any, .any, .any], [bx], yB Y, some none⟩) :
   den env fn76_l1 st = some (.normal, ⟨[.yld, .any, .any, .any, .any, .any, .any, .pv A, .pv B, .pv C, .any, .any, .any, .any, .any, .any, .any, .any, .any, .any, .any, .any, .any], [bx], yB (Y ++ secB s), some none⟩) := by
  unfold fn76_l1
  refine clean_up (env := env) 8 (fun i => ⟨[.yld, .any, .any, .any, .any, .any, .any, .pv A, .pv B, .pv C, .any, .any, .any, .pv (.agg (secPV s)), .pv (.int .i64 i), .any, .any, .any, .any, .any, .any, .any, .any], [bx], yB Y ++ yB ((secB s).take i), some none⟩) (fun _ => some (.normal, ⟨[.yld, .any, .any, .any, .any, .any, .any, .pv A, .pv B, .pv C, .any, .any, .any, .any, .any, .any, .any, .any, .any, .any, .any, .any, .any], [bx], yB (Y ++ secB s), some none⟩)) (by rw [h]; simp [yB]) (fun _ => rfl) (fun i => rfl) ?_ ?_
  · intro i rb hi ih
    have hi1 := i64_next (n := 8) hi (by decide)
    have F1 : ((i : Int) < 8) = True := eq_true (by omega)
    have hi8 : i < (secB s).length := by rw [secB_len]; exact hi
    have F2 : part (secPV s) i none = some (.int .u8 (secB s)[i]) := by
      simp only [part, secPV_secB, List.getElem?_map, List.getElem?_eq_getElem hi8]; rfl
    simp only [fn76_b0, F1, F2, index_nat hi, Nat.mul_one, val_pvs, frozen_pvs, msnoc_len, msnoc_get, msnoc_set, msnoc_take, Int.le_refl, take_map_all, Nat.le_refl, St.freezeRows, BV.frozen, List.take_length, List.take_append_drop, z_repl_zero, Int.toNat_zero, true_and, and_true, and_self, eq_self, z_take_zero, List.drop_nil, List.take_nil, vAll, List.foldl_nil, List.foldl_cons, resultsOf, resultList, resultOf, zBV, splice, PV.remade, St.freezeAt, St.freezeBox, PV.single, plain, act, dstOf, if_true, if_false, reduceCtorEq, St.get, St.put, St.pvOf, St.putRow, St.consume, St.freeze, St.row, St.elems, St.grab, St.takeRow, St.setRow, St.place, St.optPv, St.setCell, St.setCellRow, binPV, intBin, unPV, BV.val, Nat.reduceEqDiff, bound, consumeAll, buildParts, capsOf, capOf, List.append_nil, Nat.reduceAdd, Nat.reduceLT, Nat.reduceLeDiff, beq_self_eq_true, List.length_map, Nat.beq, dcall, dcallP, List.mapM_cons, St.snapFn, St.snap, St.layAll, St.lay, St.freezeArg, St.freezeArg1]
    rw [ih _ (by simp only [hi1]; rw [take_snoc hi8]; simp only [yB, List.map_append, ← List.append_assoc]; rfl)]
  · intro rb
    have F1 : (((8 : Nat) : Int) < 8) = False := eq_false (by omega)
    have e8 : (secB s).take 8 = secB s := List.take_of_length_le (by rw [secB_len]; exact Nat.le_refl _)
    simp only [fn76_b0, F1, e8, val_pvs, frozen_pvs, msnoc_len, msnoc_get, msnoc_set, msnoc_take, Int.le_refl, take_map_all, Nat.le_refl, St.freezeRows, BV.frozen, List.take_length, List.take_append_drop, z_repl_zero, Int.toNat_zero, true_and, and_true, and_self, eq_self, z_take_zero, List.drop_nil, List.take_nil, vAll, List.foldl_nil, List.foldl_cons, resultsOf, resultList, resultOf, zBV, splice, PV.remade, St.freezeAt, St.freezeBox, PV.single, plain, act, dstOf, if_true, if_false, reduceCtorEq, St.get, St.put, St.pvOf, St.putRow, St.consume, St.freeze, St.row, St.elems, St.grab, St.takeRow, St.setRow, St.place, St.optPv, St.setCell, St.setCellRow, binPV, intBin, unPV, BV.val, Nat.reduceEqDiff, bound, consumeAll, buildParts, capsOf, capOf, List.append_nil, Nat.reduceAdd, Nat.reduceLT, Nat.reduceLeDiff, beq_self_eq_true, List.length_map, Nat.beq, dcall, dcallP, List.mapM_cons, St.snapFn, St.snap, St.layAll, St.lay, St.freezeArg, St.freezeArg1]
    simp only [yB, ← List.map_append]
    rfl
theorem secsB_take {l : List Sec} {i : Nat} (h : i < l.length) : secsB (l.take (i + 1)) = secsB (l.take i) ++ secB l[i] := by
  rw [take_snoc h]; simp only [secsB, List.flatMap_append, List.flatMap_cons, List.flatMap_nil, List.append_nil]
theorem iter76 {l : List Sec} (hl : l.length ≤ lim) : iter env 76 [.iptr [.list 8 (l.map eSec)] 0] none = some (yB (secsB l)) := by
  have loop : ∀ {st : St} (h : st.head [0, 7, 8, 9] st.boxes.length = some ⟨[.yld, .any, .any, .any, .any, .any, .any, .pv (.list 8 (l.map eSec)), .pv (.int .i64 l.length), .pv (.int .i64 (0 : Nat)), .any, .any, .any, .any, .any, .any, .any, .any, .any, .any, .any, .any, .any], [], yB (secsB (l.take 0)), some none⟩),
     den env fn76_l3 st = some (.normal, ⟨[.any, .any, .any, .any, .any, .any, .any, .any, .any, .any, .any, .any, .any, .any, .any, .any, .any, .any, .any, .any, .any, .any, .any], [], yB (secsB l), some none⟩) := by
    intro st h
    unfold fn76_l3
    refine clean_up (env := env) l.length (fun i => ⟨[.yld, .any, .any, .any, .any, .any, .any, .pv (.list 8 (l.map eSec)), .pv (.int .i64 l.length), .pv (.int .i64 i), .any, .any, .any, .any, .any, .any, .any, .any, .any, .any, .any, .any, .any], [], yB (secsB (l.take i)), some none⟩) (fun _ => some (.normal, ⟨[.any, .any, .any, .any, .any, .any, .any, .any, .any, .any, .any, .any, .any, .any, .any, .any, .any, .any, .any, .any, .any, .any, .any], [], yB (secsB l), some none⟩)) h (fun _ => rfl) (fun _ => rfl) ?_ ?_
    · intro i rb hi ih
      have hi1 := i64_next hi hl
      have F1 : ((i : Int) < (l.length : Int)) = True := eq_true (by omega)
      simp only [fn76_b2, F1, eSec, index_nat hi, List.getElem?_map, List.getElem?_eq_getElem hi, Option.map_some, part_sec, secPV_length, val_pvs, frozen_pvs, msnoc_len, msnoc_get, msnoc_set, msnoc_take, Int.le_refl, take_map_all, Nat.le_refl, St.freezeRows, BV.frozen, List.take_length, List.take_append_drop, z_repl_zero, Int.toNat_zero, true_and, and_true, and_self, eq_self, z_take_zero, List.drop_nil, List.take_nil, vAll, List.foldl_nil, List.foldl_cons, resultsOf, resultList, resultOf, zBV, splice, PV.remade, St.freezeAt, St.freezeBox, PV.single, plain, act, dstOf, if_true, if_false, reduceCtorEq, St.get, St.put, St.pvOf, St.putRow, St.consume, St.freeze, St.row, St.elems, St.grab, St.takeRow, St.setRow, St.place, St.optPv, St.setCell, St.setCellRow, binPV, intBin, unPV, BV.val, Nat.reduceEqDiff, bound, consumeAll, buildParts, capsOf, capOf, List.append_nil, Nat.reduceAdd, Nat.reduceLT, Nat.reduceLeDiff, beq_self_eq_true, List.length_map, Nat.beq, dcall, dcallP, List.mapM_cons, St.snapFn, St.snap, St.layAll, St.lay, St.freezeArg, St.freezeArg1]
      rw [loopi76 (s := l[i]) (Y := secsB (l.take i)) (A := .list 8 (l.map eSec)) (B := .int .i64 l.length) (C := .int .i64 i)]
      rotate_left
      · rfl
      · simp only [val_pvs, frozen_pvs, msnoc_len, msnoc_get, msnoc_set, msnoc_take, Int.le_refl, take_map_all, Nat.le_refl, St.freezeRows, BV.frozen, List.take_length, List.take_append_drop, z_repl_zero, Int.toNat_zero, true_and, and_true, and_self, eq_self, z_take_zero, List.drop_nil, List.take_nil, vAll, List.foldl_nil, List.foldl_cons, resultsOf, resultList, resultOf, zBV, splice, PV.remade, St.freezeAt, St.freezeBox, PV.single, plain, act, dstOf, if_true, if_false, reduceCtorEq, St.get, St.put, St.pvOf, St.putRow, St.consume, St.freeze, St.row, St.elems, St.grab, St.takeRow, St.setRow, St.place, St.optPv, St.setCell, St.setCellRow, binPV, intBin, unPV, BV.val, Nat.reduceEqDiff, bound, consumeAll, buildParts, capsOf, capOf, List.append_nil, Nat.reduceAdd, Nat.reduceLT, Nat.reduceLeDiff, beq_self_eq_true, List.length_map, Nat.beq, dcall, dcallP, List.mapM_cons, St.snapFn, St.snap, St.layAll, St.lay, St.freezeArg, St.freezeArg1]
        rw [ih _ (by simp only [hi1]; rw [secsB_take hi]; rfl)]
    · intro rb
      simp only [fn76_b2, Int.lt_irrefl, List.take_length, val_pvs, frozen_pvs, msnoc_len, msnoc_get, msnoc_set, msnoc_take, Int.le_refl, take_map_all, Nat.le_refl, St.freezeRows, BV.frozen, List.take_length, List.take_append_drop, z_repl_zero, Int.toNat_zero, true_and, and_true, and_self, eq_self, z_take_zero, List.drop_nil, List.take_nil, vAll, List.foldl_nil, List.foldl_cons, resultsOf, resultList, resultOf, zBV, splice, PV.remade, St.freezeAt, St.freezeBox, PV.single, plain, act, dstOf, if_true, if_false, reduceCtorEq, St.get, St.put, St.pvOf, St.putRow, St.consume, St.freeze, St.row, St.elems, St.grab, St.takeRow, St.setRow, St.place, St.optPv, St.setCell, St.setCellRow, binPV, intBin, unPV, BV.val, Nat.reduceEqDiff, bound, consumeAll, buildParts, capsOf, capOf, List.append_nil, Nat.reduceAdd, Nat.reduceLT, Nat.reduceLeDiff, beq_self_eq_true, List.length_map, Nat.beq, dcall, dcallP, List.mapM_cons, St.snapFn, St.snap, St.layAll, St.lay, St.freezeArg, St.freezeArg1]
      rfl
  rw [iter_code env76 rfl rfl]
  simp only [fn76, ystart, z_map_cons, z_map_nil, z_len_cons, z_len_nil, z_repl_zero, z_repl_succ, z_cons_app, z_nil_app, Nat.reduceAdd, Nat.reduceSub]
  simp only [ val_pvs, frozen_pvs, msnoc_len, msnoc_get, msnoc_set, msnoc_take, Int.le_refl, take_map_all, Nat.le_refl, St.freezeRows, BV.frozen, List.take_length, List.take_append_drop, z_repl_zero, Int.toNat_zero, true_and, and_true, and_self, eq_self, z_take_zero, List.drop_nil, List.take_nil, vAll, List.foldl_nil, List.foldl_cons, resultsOf, resultList, resultOf, zBV, splice, PV.remade, St.freezeAt, St.freezeBox, PV.single, plain, act, dstOf, if_true, if_false, reduceCtorEq, St.get, St.put, St.pvOf, St.putRow, St.consume, St.freeze, St.row, St.elems, St.grab, St.takeRow, St.setRow, St.place, St.optPv, St.setCell, St.setCellRow, binPV, intBin, unPV, BV.val, Nat.reduceEqDiff, bound, consumeAll, buildParts, capsOf, capOf, List.append_nil, Nat.reduceAdd, Nat.reduceLT, Nat.reduceLeDiff, beq_self_eq_true, List.length_map, Nat.beq, dcall, dcallP, List.mapM_cons, St.snapFn, St.snap, St.layAll, St.lay, St.freezeArg, St.freezeArg1]
  rw [loop]
  rotate_left
  · rfl
  · rfl
theorem cal65 {l : List Sec} (hl : l.length ≤ lim) : cal env 65 [.list 8 (l.map eSec)] = some [(.int .u64 (hash (secsB l)), false)] := by
  have e1 := cal75 (iter76 hl)
  rw [cal_code env65 rfl]; simp only [fn65]; simp only [start, z_map_cons, z_map_nil, z_len_cons, z_len_nil, z_repl_zero, z_repl_succ, z_cons_app, z_nil_app, Nat.reduceAdd, Nat.reduceSub]
  simp only [e1, val_pvs, frozen_pvs, msnoc_len, msnoc_get, msnoc_set, msnoc_take, Int.le_refl, take_map_all, Nat.le_refl, St.freezeRows, BV.frozen, List.take_length, List.take_append_drop, z_repl_zero, Int.toNat_zero, true_and, and_true, and_self, eq_self, z_take_zero, List.drop_nil, List.take_nil, vAll, List.foldl_nil, List.foldl_cons, resultsOf, resultList, resultOf, zBV, splice, PV.remade, St.freezeAt, St.freezeBox, PV.single, plain, act, dstOf, if_true, if_false, reduceCtorEq, St.get, St.put, St.pvOf, St.putRow, St.consume, St.freeze, St.row, St.elems, St.grab, St.takeRow, St.setRow, St.place, St.optPv, St.setCell, St.setCellRow, binPV, intBin, unPV, BV.val, Nat.reduceEqDiff, bound, consumeAll, buildParts, capsOf, capOf, List.append_nil, Nat.reduceAdd, Nat.reduceLT, Nat.reduceLeDiff, beq_self_eq_true, List.length_map, Nat.beq, dcall, dcallP, List.mapM_cons, St.snapFn, St.snap, St.layAll, St.lay, St.freezeArg, St.freezeArg1]
theorem loop78 {bs : List Int} (hl : bs.length ≤ lim) {st : St} (h : st.head [0, 3, 4] st.boxes.length = some ⟨[.pv (.list 1 (bs.map eB8)), .any, .any, .pv (.int .u64 (hfold (bs.take (0 : Nat)))), .pv (.int .i64 (0 : Nat)), .any, .any, .any, .any, .any, .any, .any, .any, .any, .any, .any, .any, .any, .any, .any, .any, .any, .any], [], [], none⟩) :
   den env fn78_l1 st = some (.normal, ⟨[.any, .any, .any, .pv (.int .u64 (hfold bs)), .any, .any, .any, .any, .any, .any, .any, .any, .any, .any, .any, .any, .any, .any, .any, .any, .any, .any, .any], [], [], none⟩) := by
  unfold fn78_l1
  refine clean_up (env := env) (bs.length) (fun i => ⟨[.pv (.list 1 (bs.map eB8)), .any, .any, .pv (.int .u64 (hfold (bs.take i))), .pv (.int .i64 i), .any, .any, .any, .any, .any, .any, .any, .any, .any, .any, .any, .any, .any, .any, .any, .any, .any, .any], [], [], none⟩) (fun i => some (.normal, ⟨[.any, .any, .any, .pv (.int .u64 (hfold bs)), .any, .any, .any, .any, .any, .any, .any, .any, .any, .any, .any, .any, .any, .any, .any, .any, .any, .any, .any], [], [], none⟩)) h (fun _ => rfl) (fun _ => rfl) ?_ ?_
  · intro i rb hi ih

    have hi1 := i64_next hi hl
    have F1 : ((i : Int) < (bs.length : Int)) = True := eq_true (by omega)
    simp only [fn78_b0, F1, eB8, index_nat hi, List.getElem?_map, List.getElem?_eq_getElem hi, Option.map_some, val_pvs, frozen_pvs, msnoc_len, msnoc_get, msnoc_set, msnoc_take, Int.le_refl, take_map_all, Nat.le_refl, St.freezeRows, BV.frozen, List.take_length, List.take_append_drop, z_repl_zero, Int.toNat_zero, true_and, and_true, and_self, eq_self, z_take_zero, List.drop_nil, List.take_nil, vAll, List.foldl_nil, List.foldl_cons, resultsOf, resultList, resultOf, zBV, splice, PV.remade, St.freezeAt, St.freezeBox, PV.single, plain, act, dstOf, if_true, if_false, reduceCtorEq, St.get, St.put, St.pvOf, St.putRow, St.consume, St.freeze, St.row, St.elems, St.grab, St.takeRow, St.setRow, St.place, St.optPv, St.setCell, St.setCellRow, binPV, intBin, unPV, BV.val, Nat.reduceEqDiff, bound, consumeAll, buildParts, capsOf, capOf, List.append_nil, Nat.reduceAdd, Nat.reduceLT, Nat.reduceLeDiff, beq_self_eq_true, List.length_map, Nat.beq, dcall, dcallP, List.mapM_cons, St.snapFn, St.snap, St.layAll, St.lay, St.freezeArg, St.freezeArg1]
    rw [ih _ (by simp only [hi1]; rw [take_snoc hi, hfold_snoc, hstep]; rfl)]
  · intro rb

    simp only [fn78_b0, Int.lt_irrefl, List.take_length, val_pvs, frozen_pvs, msnoc_len, msnoc_get, msnoc_set, msnoc_take, Int.le_refl, take_map_all, Nat.le_refl, St.freezeRows, BV.frozen, List.take_length, List.take_append_drop, z_repl_zero, Int.toNat_zero, true_and, and_true, and_self, eq_self, z_take_zero, List.drop_nil, List.take_nil, vAll, List.foldl_nil, List.foldl_cons, resultsOf, resultList, resultOf, zBV, splice, PV.remade, St.freezeAt, St.freezeBox, PV.single, plain, act, dstOf, if_true, if_false, reduceCtorEq, St.get, St.put, St.pvOf, St.putRow, St.consume, St.freeze, St.row, St.elems, St.grab, St.takeRow, St.setRow, St.place, St.optPv, St.setCell, St.setCellRow, binPV, intBin, unPV, BV.val, Nat.reduceEqDiff, bound, consumeAll, buildParts, capsOf, capOf, List.append_nil, Nat.reduceAdd, Nat.reduceLT, Nat.reduceLeDiff, beq_self_eq_true, List.length_map, Nat.beq, dcall, dcallP, List.mapM_cons, St.snapFn, St.snap, St.layAll, St.lay, St.freezeArg, St.freezeArg1]
    rfl

theorem cal78 {bs : List Int} (hl : bs.length ≤ lim) : cal env 78 [.list 1 (bs.map eB8)] = some [(.int .u64 (hash bs), false)] := by
  have h32 : ((32 : Int) < 0) = False := eq_false (by omega)
  rw [cal_code env78 rfl]; simp only [fn78]; simp only [start, z_map_cons, z_map_nil, z_len_cons, z_len_nil, z_repl_zero, z_repl_succ, z_cons_app, z_nil_app, Nat.reduceAdd, Nat.reduceSub]
  simp only [ val_pvs, frozen_pvs, msnoc_len, msnoc_get, msnoc_set, msnoc_take, Int.le_refl, take_map_all, Nat.le_refl, St.freezeRows, BV.frozen, List.take_length, List.take_append_drop, z_repl_zero, Int.toNat_zero, true_and, and_true, and_self, eq_self, z_take_zero, List.drop_nil, List.take_nil, vAll, List.foldl_nil, List.foldl_cons, resultsOf, resultList, resultOf, zBV, splice, PV.remade, St.freezeAt, St.freezeBox, PV.single, plain, act, dstOf, if_true, if_false, reduceCtorEq, St.get, St.put, St.pvOf, St.putRow, St.consume, St.freeze, St.row, St.elems, St.grab, St.takeRow, St.setRow, St.place, St.optPv, St.setCell, St.setCellRow, binPV, intBin, unPV, BV.val, Nat.reduceEqDiff, bound, consumeAll, buildParts, capsOf, capOf, List.append_nil, Nat.reduceAdd, Nat.reduceLT, Nat.reduceLeDiff, beq_self_eq_true, List.length_map, Nat.beq, dcall, dcallP, List.mapM_cons, St.snapFn, St.snap, St.layAll, St.lay, St.freezeArg, St.freezeArg1]
  rw [loop78 hl]
  rotate_left
  · rfl
  · simp only [h32, hash, hfin, val_pvs, frozen_pvs, msnoc_len, msnoc_get, msnoc_set, msnoc_take, Int.le_refl, take_map_all, Nat.le_refl, St.freezeRows, BV.frozen, List.take_length, List.take_append_drop, z_repl_zero, Int.toNat_zero, true_and, and_true, and_self, eq_self, z_take_zero, List.drop_nil, List.take_nil, vAll, List.foldl_nil, List.foldl_cons, resultsOf, resultList, resultOf, zBV, splice, PV.remade, St.freezeAt, St.freezeBox, PV.single, plain, act, dstOf, if_true, if_false, reduceCtorEq, St.get, St.put, St.pvOf, St.putRow, St.consume, St.freeze, St.row, St.elems, St.grab, St.takeRow, St.setRow, St.place, St.optPv, St.setCell, St.setCellRow, binPV, intBin, unPV, BV.val, Nat.reduceEqDiff, bound, consumeAll, buildParts, capsOf, capOf, List.append_nil, Nat.reduceAdd, Nat.reduceLT, Nat.reduceLeDiff, beq_self_eq_true, List.length_map, Nat.beq, dcall, dcallP, List.mapM_cons, St.snapFn, St.snap, St.layAll, St.lay, St.freezeArg, St.freezeArg1]
theorem loopi79 {l : List Sec} {i : Nat} {out : List Int} (hi0 : i < l.length) (ho : out.length + 8 ≤ lim)
   {st : St} (h : st.head [0, 3, 4, 5, 24] st.boxes.length = some ⟨[.pv (.list 8 (l.map eSec)), .any, .any, .row 1 (out.map eB8), .pv (.int .i64 (i : Int)), .pv (.int .i64 (0 : Nat)), .any, .any, .any, .any, .any, .any, .any, .any, .any, .any, .any, .any, .any, .any, .any, .any, .any, .any, .any, .any], [], [], none⟩) :
   den env fn79_l1 st = some (.normal, ⟨[.pv (.list 8 (l.map eSec)), .any, .any, .row 1 ((out ++ secB l[i]).map eB8), .pv (.int .i64 (i : Int)), .any, .any, .any, .any, .any, .any, .any, .any, .any, .any, .any, .any, .any, .any, .any, .any, .any, .any, .any, .any, .any], [], [], none⟩) := by
  unfold fn79_l1
  refine clean_up (env := env) 8 (fun k => ⟨[.pv (.list 8 (l.map eSec)), .any, .any, .row 1 (out.map eB8 ++ ((secB l[i]).take k).map eB8), .pv (.int .i64 (i : Int)), .pv (.int .i64 k), .any, .any, .any, .any, .any, .any, .any, .any, .any, .any, .any, .any, .any, .any, .any, .any, .any, .any, .any, .any], [], [], none⟩) (fun _ => some (.normal, ⟨[.pv (.list 8 (l.map eSec)), .any, .any, .row 1 ((out ++ secB l[i]).map eB8), .pv (.int .i64 (i : Int)), .any, .any, .any, .any, .any, .any, .any, .any, .any, .any, .any, .any, .any, .any, .any, .any, .any, .any, .any, .any, .any], [], [], none⟩)) (by rw [h]; simp) (fun _ => rfl) (fun _ => rfl) ?_ ?_
  · intro k rb hi ih
    have hi1 := i64_next (n := 8) hi (by decide)
    have F1 : ((k : Int) < 8) = True := eq_true (by omega)
    have hi8 : k < (secB l[i]).length := by rw [secB_len]; exact hi
    have F2 : part (secPV l[i]) k none = some (.int .u8 (secB l[i])[k]) := by
      simp only [part, secPV_secB, List.getElem?_map, List.getElem?_eq_getElem hi8]; rfl
    have F3 : ((out.map eB8 ++ ((secB l[i]).take k).map eB8).length + 1 ≤ lim) = True := eq_true (by simp; omega)
    simp only [fn79_b0, F1, F2, F3, eSec, index_nat hi, index_nat hi0, List.getElem?_map, List.getElem?_eq_getElem hi0, Option.map_some, Nat.mul_one, Nat.zero_add, val_pvs, frozen_pvs, msnoc_len, msnoc_get, msnoc_set, msnoc_take, Int.le_refl, take_map_all, Nat.le_refl, St.freezeRows, BV.frozen, List.take_length, List.take_append_drop, z_repl_zero, Int.toNat_zero, true_and, and_true, and_self, eq_self, z_take_zero, List.drop_nil, List.take_nil, vAll, List.foldl_nil, List.foldl_cons, resultsOf, resultList, resultOf, zBV, splice, PV.remade, St.freezeAt, St.freezeBox, PV.single, plain, act, dstOf, if_true, if_false, reduceCtorEq, St.get, St.put, St.pvOf, St.putRow, St.consume, St.freeze, St.row, St.elems, St.grab, St.takeRow, St.setRow, St.place, St.optPv, St.setCell, St.setCellRow, binPV, intBin, unPV, BV.val, Nat.reduceEqDiff, bound, consumeAll, buildParts, capsOf, capOf, List.append_nil, Nat.reduceAdd, Nat.reduceLT, Nat.reduceLeDiff, beq_self_eq_true, List.length_map, Nat.beq, dcall, dcallP, List.mapM_cons, St.snapFn, St.snap, St.layAll, St.lay, St.freezeArg, St.freezeArg1]
    rw [ih _ (by simp only [hi1]; rw [take_snoc hi8]; simp only [List.map_append, ← List.append_assoc]; rfl)]
  · intro rb
    have F1 : (((8 : Nat) : Int) < 8) = False := eq_false (by omega)
    have e8 : (secB l[i]).take 8 = secB l[i] := List.take_of_length_le (by rw [secB_len]; exact Nat.le_refl _)
    simp only [fn79_b0, F1, e8, val_pvs, frozen_pvs, msnoc_len, msnoc_get, msnoc_set, msnoc_take, Int.le_refl, take_map_all, Nat.le_refl, St.freezeRows, BV.frozen, List.take_length, List.take_append_drop, z_repl_zero, Int.toNat_zero, true_and, and_true, and_self, eq_self, z_take_zero, List.drop_nil, List.take_nil, vAll, List.foldl_nil, List.foldl_cons, resultsOf, resultList, resultOf, zBV, splice, PV.remade, St.freezeAt, St.freezeBox, PV.single, plain, act, dstOf, if_true, if_false, reduceCtorEq, St.get, St.put, St.pvOf, St.putRow, St.consume, St.freeze, St.row, St.elems, St.grab, St.takeRow, St.setRow, St.place, St.optPv, St.setCell, St.setCellRow, binPV, intBin, unPV, BV.val, Nat.reduceEqDiff, bound, consumeAll, buildParts, capsOf, capOf, List.append_nil, Nat.reduceAdd, Nat.reduceLT, Nat.reduceLeDiff, beq_self_eq_true, List.length_map, Nat.beq, dcall, dcallP, List.mapM_cons, St.snapFn, St.snap, St.layAll, St.lay, St.freezeArg, St.freezeArg1]
    rw [List.map_append]
    rfl
theorem secsB_len (l : List Sec) : (secsB l).length = 8 * l.length := by
  induction l with
  | nil => rfl
  | cons x l ih => simp only [secsB, List.flatMap_cons, List.length_append, secB_len, List.length_cons] at *; omega
theorem loop79l3 {l : List Sec} (hl : 8 * l.length ≤ lim) {st : St} (h : st.head [0, 3, 4, 24] st.boxes.length = some ⟨[.pv (.list 8 (l.map eSec)), .any, .any, .row 1 ((secsB (l.take (0 : Nat))).map eB8), .pv (.int .i64 (0 : Nat)), .any, .any, .any, .any, .any, .any, .any, .any, .any, .any, .any, .any, .any, .any, .any, .any, .any, .any, .any, .any, .any], [], [], none⟩) :
   den env fn79_l3 st = some (.normal, ⟨[.any, .any, .any, .row 1 ((secsB l).map eB8), .any, .any, .any, .any, .any, .any, .any, .any, .any, .any, .any, .any, .any, .any, .any, .any, .any, .any, .any, .any, .any, .any], [], [], none⟩) := by
  unfold fn79_l3
  refine clean_up (env := env) (l.length) (fun i => ⟨[.pv (.list 8 (l.map eSec)), .any, .any, .row 1 ((secsB (l.take i)).map eB8), .pv (.int .i64 i), .any, .any, .any, .any, .any, .any, .any, .any, .any, .any, .any, .any, .any, .any, .any, .any, .any, .any, .any, .any, .any], [], [], none⟩) (fun i => some (.normal, ⟨[.any, .any, .any, .row 1 ((secsB l).map eB8), .any, .any, .any, .any, .any, .any, .any, .any, .any, .any, .any, .any, .any, .any, .any, .any, .any, .any, .any, .any, .any, .any], [], [], none⟩)) h (fun _ => rfl) (fun _ => rfl) ?_ ?_
  · intro i rb hi ih

    have hi1 := i64_next hi (by omega)
    have F1 : ((i : Int) < (l.length : Int)) = True := eq_true (by omega)
    simp only [fn79_b2, F1, val_pvs, frozen_pvs, msnoc_len, msnoc_get, msnoc_set, msnoc_take, Int.le_refl, take_map_all, Nat.le_refl, St.freezeRows, BV.frozen, List.take_length, List.take_append_drop, z_repl_zero, Int.toNat_zero, true_and, and_true, and_self, eq_self, z_take_zero, List.drop_nil, List.take_nil, vAll, List.foldl_nil, List.foldl_cons, resultsOf, resultList, resultOf, zBV, splice, PV.remade, St.freezeAt, St.freezeBox, PV.single, plain, act, dstOf, if_true, if_false, reduceCtorEq, St.get, St.put, St.pvOf, St.putRow, St.consume, St.freeze, St.row, St.elems, St.grab, St.takeRow, St.setRow, St.place, St.optPv, St.setCell, St.setCellRow, binPV, intBin, unPV, BV.val, Nat.reduceEqDiff, bound, consumeAll, buildParts, capsOf, capOf, List.append_nil, Nat.reduceAdd, Nat.reduceLT, Nat.reduceLeDiff, beq_self_eq_true, List.length_map, Nat.beq, dcall, dcallP, List.mapM_cons, St.snapFn, St.snap, St.layAll, St.lay, St.freezeArg, St.freezeArg1]
    rw [loopi79 hi (out := secsB (l.take i)) (by rw [secsB_len, List.length_take]; omega)]
    rotate_left
    · rfl
    · simp only [val_pvs, frozen_pvs, msnoc_len, msnoc_get, msnoc_set, msnoc_take, Int.le_refl, take_map_all, Nat.le_refl, St.freezeRows, BV.frozen, List.take_length, List.take_append_drop, z_repl_zero, Int.toNat_zero, true_and, and_true, and_self, eq_self, z_take_zero, List.drop_nil, List.take_nil, vAll, List.foldl_nil, List.foldl_cons, resultsOf, resultList, resultOf, zBV, splice, PV.remade, St.freezeAt, St.freezeBox, PV.single, plain, act, dstOf, if_true, if_false, reduceCtorEq, St.get, St.put, St.pvOf, St.putRow, St.consume, St.freeze, St.row, St.elems, St.grab, St.takeRow, St.setRow, St.place, St.optPv, St.setCell, St.setCellRow, binPV, intBin, unPV, BV.val, Nat.reduceEqDiff, bound, consumeAll, buildParts, capsOf, capOf, List.append_nil, Nat.reduceAdd, Nat.reduceLT, Nat.reduceLeDiff, beq_self_eq_true, List.length_map, Nat.beq, dcall, dcallP, List.mapM_cons, St.snapFn, St.snap, St.layAll, St.lay, St.freezeArg, St.freezeArg1]
      rw [ih _ (by simp only [hi1]; rw [secsB_take hi]; rfl)]
  · intro rb

    simp only [fn79_b2, Int.lt_irrefl, List.take_length, val_pvs, frozen_pvs, msnoc_len, msnoc_get, msnoc_set, msnoc_take, Int.le_refl, take_map_all, Nat.le_refl, St.freezeRows, BV.frozen, List.take_length, List.take_append_drop, z_repl_zero, Int.toNat_zero, true_and, and_true, and_self, eq_self, z_take_zero, List.drop_nil, List.take_nil, vAll, List.foldl_nil, List.foldl_cons, resultsOf, resultList, resultOf, zBV, splice, PV.remade, St.freezeAt, St.freezeBox, PV.single, plain, act, dstOf, if_true, if_false, reduceCtorEq, St.get, St.put, St.pvOf, St.putRow, St.consume, St.freeze, St.row, St.elems, St.grab, St.takeRow, St.setRow, St.place, St.optPv, St.setCell, St.setCellRow, binPV, intBin, unPV, BV.val, Nat.reduceEqDiff, bound, consumeAll, buildParts, capsOf, capOf, List.append_nil, Nat.reduceAdd, Nat.reduceLT, Nat.reduceLeDiff, beq_self_eq_true, List.length_map, Nat.beq, dcall, dcallP, List.mapM_cons, St.snapFn, St.snap, St.layAll, St.lay, St.freezeArg, St.freezeArg1]
    rfl

theorem cal79 {l : List Sec} (hl : 8 * l.length ≤ lim) : cal env 79 [.list 8 (l.map eSec)] = some [(.list 1 ((secsB l).map eB8), true)] := by
  rw [cal_code env79 rfl]; simp only [fn79]; simp only [start, z_map_cons, z_map_nil, z_len_cons, z_len_nil, z_repl_zero, z_repl_succ, z_cons_app, z_nil_app, Nat.reduceAdd, Nat.reduceSub]
  simp only [ val_pvs, frozen_pvs, msnoc_len, msnoc_get, msnoc_set, msnoc_take, Int.le_refl, take_map_all, Nat.le_refl, St.freezeRows, BV.frozen, List.take_length, List.take_append_drop, z_repl_zero, Int.toNat_zero, true_and, and_true, and_self, eq_self, z_take_zero, List.drop_nil, List.take_nil, vAll, List.foldl_nil, List.foldl_cons, resultsOf, resultList, resultOf, zBV, splice, PV.remade, St.freezeAt, St.freezeBox, PV.single, plain, act, dstOf, if_true, if_false, reduceCtorEq, St.get, St.put, St.pvOf, St.putRow, St.consume, St.freeze, St.row, St.elems, St.grab, St.takeRow, St.setRow, St.place, St.optPv, St.setCell, St.setCellRow, binPV, intBin, unPV, BV.val, Nat.reduceEqDiff, bound, consumeAll, buildParts, capsOf, capOf, List.append_nil, Nat.reduceAdd, Nat.reduceLT, Nat.reduceLeDiff, beq_self_eq_true, List.length_map, Nat.beq, dcall, dcallP, List.mapM_cons, St.snapFn, St.snap, St.layAll, St.lay, St.freezeArg, St.freezeArg1]
  rw [loop79l3 hl]
  rotate_left
  · rfl
  · simp only [ val_pvs, frozen_pvs, msnoc_len, msnoc_get, msnoc_set, msnoc_take, Int.le_refl, take_map_all, Nat.le_refl, St.freezeRows, BV.frozen, List.take_length, List.take_append_drop, z_repl_zero, Int.toNat_zero, true_and, and_true, and_self, eq_self, z_take_zero, List.drop_nil, List.take_nil, vAll, List.foldl_nil, List.foldl_cons, resultsOf, resultList, resultOf, zBV, splice, PV.remade, St.freezeAt, St.freezeBox, PV.single, plain, act, dstOf, if_true, if_false, reduceCtorEq, St.get, St.put, St.pvOf, St.putRow, St.consume, St.freeze, St.row, St.elems, St.grab, St.takeRow, St.setRow, St.place, St.optPv, St.setCell, St.setCellRow, binPV, intBin, unPV, BV.val, Nat.reduceEqDiff, bound, consumeAll, buildParts, capsOf, capOf, List.append_nil, Nat.reduceAdd, Nat.reduceLT, Nat.reduceLeDiff, beq_self_eq_true, List.length_map, Nat.beq, dcall, dcallP, List.mapM_cons, St.snapFn, St.snap, St.layAll, St.lay, St.freezeArg, St.freezeArg1]
theorem cal67 {l : List Sec} (hl : 8 * l.length ≤ lim) : cal env 67 [.list 8 (l.map eSec)] = some [(.int .u64 (hash (secsB l)), false)] := by
  have e1 := cal79 hl
  have e2 := cal78 (bs := secsB l) (by rw [secsB_len]; exact hl)
  rw [cal_code env67 rfl]; simp only [fn67]; simp only [start, z_map_cons, z_map_nil, z_len_cons, z_len_nil, z_repl_zero, z_repl_succ, z_cons_app, z_nil_app, Nat.reduceAdd, Nat.reduceSub]
  simp only [e1, e2, val_pvs, frozen_pvs, msnoc_len, msnoc_get, msnoc_set, msnoc_take, Int.le_refl, take_map_all, Nat.le_refl, St.freezeRows, BV.frozen, List.take_length, List.take_append_drop, z_repl_zero, Int.toNat_zero, true_and, and_true, and_self, eq_self, z_take_zero, List.drop_nil, List.take_nil, vAll, List.foldl_nil, List.foldl_cons, resultsOf, resultList, resultOf, zBV, splice, PV.remade, St.freezeAt, St.freezeBox, PV.single, plain, act, dstOf, if_true, if_false, reduceCtorEq, St.get, St.put, St.pvOf, St.putRow, St.consume, St.freeze, St.row, St.elems, St.grab, St.takeRow, St.setRow, St.place, St.optPv, St.setCell, St.setCellRow, binPV, intBin, unPV, BV.val, Nat.reduceEqDiff, bound, consumeAll, buildParts, capsOf, capOf, List.append_nil, Nat.reduceAdd, Nat.reduceLT, Nat.reduceLeDiff, beq_self_eq_true, List.length_map, Nat.beq, dcall, dcallP, List.mapM_cons, St.snapFn, St.snap, St.layAll, St.lay, St.freezeArg, St.freezeArg1]
end Go.Proofs.Ytldnpgbacakfeaa.V

namespace Go.Proofs.Ytldnpgbacakfeaa.V
set_option linter.all false

def byteOf (a : Int) (k : Nat) : Int := IntKind.u8.wrap (a.fdiv (2 ^ (min (Int.toNat (8 * (k : Int))) IntKind.u64.bits)))
def pairB (a b : Int) : List Int := (List.range 8).map (byteOf a) ++ (List.range 8).map (byteOf b)
theorem range_snoc {α : Type} (f : Nat → α) (i : Nat) : (List.range (i + 1)).map f = (List.range i).map f ++ [f i] := by simp [List.range_succ]
theorem pairB_map (a b : Int) : (pairB a b).map eB8 = (List.range 8).map (fun k => eB8 (byteOf a k)) ++ (List.range 8).map (fun k => eB8 (byteOf b k)) := by
  simp [pairB, List.map_append, Function.comp_def]
theorem loop68 {a b : Int} {st : St} (h : st.head [0, 1, 5, 6, 19, 31] st.boxes.length = some ⟨[.pv (.int .u64 a), .pv (.int .u64 b), .any, .any, .any, .row 1 ((List.range (0 : Nat)).map (fun k => eB8 (byteOf a k))), .pv (.int .i64 (0 : Nat)), .any, .any, .any, .any, .any, .any, .any, .any, .any, .any, .any, .any, .any, .any, .any, .any, .any, .any, .any, .any, .any, .any, .any, .any, .any, .any, .any], [], [], none⟩) :
   den env fn68_l1 st = some (.normal, ⟨[.any, .pv (.int .u64 b), .any, .any, .any, .row 1 ((List.range 8).map (fun k => eB8 (byteOf a k))), .any, .any, .any, .any, .any, .any, .any, .any, .any, .any, .any, .any, .any, .any, .any, .any, .any, .any, .any, .any, .any, .any, .any, .any, .any, .any, .any, .any], [], [], none⟩) := by
  unfold fn68_l1
  refine clean_up (env := env) (8) (fun i => ⟨[.pv (.int .u64 a), .pv (.int .u64 b), .any, .any, .any, .row 1 ((List.range i).map (fun k => eB8 (byteOf a k))), .pv (.int .i64 i), .any, .any, .any, .any, .any, .any, .any, .any, .any, .any, .any, .any, .any, .any, .any, .any, .any, .any, .any, .any, .any, .any, .any, .any, .any, .any, .any], [], [], none⟩) (fun i => some (.normal, ⟨[.any, .pv (.int .u64 b), .any, .any, .any, .row 1 ((List.range 8).map (fun k => eB8 (byteOf a k))), .any, .any, .any, .any, .any, .any, .any, .any, .any, .any, .any, .any, .any, .any, .any, .any, .any, .any, .any, .any, .any, .any, .any, .any, .any, .any, .any, .any], [], [], none⟩)) h (fun _ => rfl) (fun _ => rfl) ?_ ?_
  · intro i rb hi ih

    have hi1 := i64_next (n := 8) hi (by decide)
    have F1 : ((i : Int) < 8) = True := eq_true (by omega)
    have F2 : IntKind.i64.wrap (8 * (i : Int)) = 8 * (i : Int) := i64_fits (by omega)
    have F3 : (8 * (i : Int) < 0) = False := eq_false (by omega)
    have F4 : ((List.range i).length + 1 ≤ lim) = True := eq_true (by simp [lim]; omega)
    simp only [fn68_b0, F1, F2, F3, F4, val_pvs, frozen_pvs, msnoc_len, msnoc_get, msnoc_set, msnoc_take, Int.le_refl, take_map_all, Nat.le_refl, St.freezeRows, BV.frozen, List.take_length, List.take_append_drop, z_repl_zero, Int.toNat_zero, true_and, and_true, and_self, eq_self, z_take_zero, List.drop_nil, List.take_nil, vAll, List.foldl_nil, List.foldl_cons, resultsOf, resultList, resultOf, zBV, splice, PV.remade, St.freezeAt, St.freezeBox, PV.single, plain, act, dstOf, if_true, if_false, reduceCtorEq, St.get, St.put, St.pvOf, St.putRow, St.consume, St.freeze, St.row, St.elems, St.grab, St.takeRow, St.setRow, St.place, St.optPv, St.setCell, St.setCellRow, binPV, intBin, unPV, BV.val, Nat.reduceEqDiff, bound, consumeAll, buildParts, capsOf, capOf, List.append_nil, Nat.reduceAdd, Nat.reduceLT, Nat.reduceLeDiff, beq_self_eq_true, List.length_map, Nat.beq, dcall, dcallP, List.mapM_cons, St.snapFn, St.snap, St.layAll, St.lay, St.freezeArg, St.freezeArg1]
    rw [ih _ (by simp only [hi1]; rw [range_snoc (fun k => eB8 (byteOf a k)) i]; rfl)]
  · intro rb

    have F1 : (((8 : Nat) : Int) < 8) = False := eq_false (by omega)
    simp only [fn68_b0, F1, val_pvs, frozen_pvs, msnoc_len, msnoc_get, msnoc_set, msnoc_take, Int.le_refl, take_map_all, Nat.le_refl, St.freezeRows, BV.frozen, List.take_length, List.take_append_drop, z_repl_zero, Int.toNat_zero, true_and, and_true, and_self, eq_self, z_take_zero, List.drop_nil, List.take_nil, vAll, List.foldl_nil, List.foldl_cons, resultsOf, resultList, resultOf, zBV, splice, PV.remade, St.freezeAt, St.freezeBox, PV.single, plain, act, dstOf, if_true, if_false, reduceCtorEq, St.get, St.put, St.pvOf, St.putRow, St.consume, St.freeze, St.row, St.elems, St.grab, St.takeRow, St.setRow, St.place, St.optPv, St.setCell, St.setCellRow, binPV, intBin, unPV, BV.val, Nat.reduceEqDiff, bound, consumeAll, buildParts, capsOf, capOf, List.append_nil, Nat.reduceAdd, Nat.reduceLT, Nat.reduceLeDiff, beq_self_eq_true, List.length_map, Nat.beq, dcall, dcallP, List.mapM_cons, St.snapFn, St.snap, St.layAll, St.lay, St.freezeArg, St.freezeArg1]
    rfl

theorem loop68l3 {a b : Int} {st : St} (h : st.head [1, 5, 7, 19, 31] st.boxes.length = some ⟨[.any, .pv (.int .u64 b), .any, .any, .any, .row 1 ((List.range 8).map (fun k => eB8 (byteOf a k)) ++ (List.range (0 : Nat)).map (fun k => eB8 (byteOf b k))), .any, .pv (.int .i64 (0 : Nat)), .any, .any, .any, .any, .any, .any, .any, .any, .any, .any, .any, .any, .any, .any, .any, .any, .any, .any, .any, .any, .any, .any, .any, .any, .any, .any], [], [], none⟩) :
   den env fn68_l3 st = some (.normal, ⟨[.any, .any, .any, .any, .any, .row 1 ((pairB a b).map eB8), .any, .any, .any, .any, .any, .any, .any, .any, .any, .any, .any, .any, .any, .any, .any, .any, .any, .any, .any, .any, .any, .any, .any, .any, .any, .any, .any, .any], [], [], none⟩) := by
  unfold fn68_l3
  refine clean_up (env := env) (8) (fun i => ⟨[.any, .pv (.int .u64 b), .any, .any, .any, .row 1 ((List.range 8).map (fun k => eB8 (byteOf a k)) ++ (List.range i).map (fun k => eB8 (byteOf b k))), .any, .pv (.int .i64 i), .any, .any, .any, .any, .any, .any, .any, .any, .any, .any, .any, .any, .any, .any, .any, .any, .any, .any, .any, .any, .any, .any, .any, .any, .any, .any], [], [], none⟩) (fun i => some (.normal, ⟨[.any, .any, .any, .any, .any, .row 1 ((pairB a b).map eB8), .any, .any, .any, .any, .any, .any, .any, .any, .any, .any, .any, .any, .any, .any, .any, .any, .any, .any, .any, .any, .any, .any, .any, .any, .any, .any, .any, .any], [], [], none⟩)) h (fun _ => rfl) (fun _ => rfl) ?_ ?_
  · intro i rb hi ih

    have hi1 := i64_next (n := 8) hi (by decide)
    have F1 : ((i : Int) < 8) = True := eq_true (by omega)
    have F2 : IntKind.i64.wrap (8 * (i : Int)) = 8 * (i : Int) := i64_fits (by omega)
    have F3 : (8 * (i : Int) < 0) = False := eq_false (by omega)
    have F4 : (((List.range 8).map (fun k => eB8 (byteOf a k)) ++ (List.range i).map (fun k => eB8 (byteOf b k))).length + 1 ≤ lim) = True := eq_true (by simp [lim]; omega)
    simp only [fn68_b2, F1, F2, F3, F4, val_pvs, frozen_pvs, msnoc_len, msnoc_get, msnoc_set, msnoc_take, Int.le_refl, take_map_all, Nat.le_refl, St.freezeRows, BV.frozen, List.take_length, List.take_append_drop, z_repl_zero, Int.toNat_zero, true_and, and_true, and_self, eq_self, z_take_zero, List.drop_nil, List.take_nil, vAll, List.foldl_nil, List.foldl_cons, resultsOf, resultList, resultOf, zBV, splice, PV.remade, St.freezeAt, St.freezeBox, PV.single, plain, act, dstOf, if_true, if_false, reduceCtorEq, St.get, St.put, St.pvOf, St.putRow, St.consume, St.freeze, St.row, St.elems, St.grab, St.takeRow, St.setRow, St.place, St.optPv, St.setCell, St.setCellRow, binPV, intBin, unPV, BV.val, Nat.reduceEqDiff, bound, consumeAll, buildParts, capsOf, capOf, List.append_nil, Nat.reduceAdd, Nat.reduceLT, Nat.reduceLeDiff, beq_self_eq_true, List.length_map, Nat.beq, dcall, dcallP, List.mapM_cons, St.snapFn, St.snap, St.layAll, St.lay, St.freezeArg, St.freezeArg1]
    rw [ih _ (by simp only [hi1]; rw [range_snoc (fun k => eB8 (byteOf b k)) i, ← List.append_assoc]; rfl)]
  · intro rb

    have F1 : (((8 : Nat) : Int) < 8) = False := eq_false (by omega)
    simp only [fn68_b2, F1, val_pvs, frozen_pvs, msnoc_len, msnoc_get, msnoc_set, msnoc_take, Int.le_refl, take_map_all, Nat.le_refl, St.freezeRows, BV.frozen, List.take_length, List.take_append_drop, z_repl_zero, Int.toNat_zero, true_and, and_true, and_self, eq_self, z_take_zero, List.drop_nil, List.take_nil, vAll, List.foldl_nil, List.foldl_cons, resultsOf, resultList, resultOf, zBV, splice, PV.remade, St.freezeAt, St.freezeBox, PV.single, plain, act, dstOf, if_true, if_false, reduceCtorEq, St.get, St.put, St.pvOf, St.putRow, St.consume, St.freeze, St.row, St.elems, St.grab, St.takeRow, St.setRow, St.place, St.optPv, St.setCell, St.setCellRow, binPV, intBin, unPV, BV.val, Nat.reduceEqDiff, bound, consumeAll, buildParts, capsOf, capOf, List.append_nil, Nat.reduceAdd, Nat.reduceLT, Nat.reduceLeDiff, beq_self_eq_true, List.length_map, Nat.beq, dcall, dcallP, List.mapM_cons, St.snapFn, St.snap, St.layAll, St.lay, St.freezeArg, St.freezeArg1]
    rw [pairB_map]
    rfl

theorem pairB_len (a b : Int) : (pairB a b).length = 16 := by simp [pairB]
theorem cal68 {a b : Int} : cal env 68 [.int .u64 a, .int .u64 b] = some [(.int .u64 (hash (pairB a b)), false)] := by
  have e1 := cal78 (bs := pairB a b) (by rw [pairB_len]; decide)
  rw [cal_code env68 rfl]; simp only [fn68]; simp only [start, z_map_cons, z_map_nil, z_len_cons, z_len_nil, z_repl_zero, z_repl_succ, z_cons_app, z_nil_app, Nat.reduceAdd, Nat.reduceSub]
  simp only [e1, val_pvs, frozen_pvs, msnoc_len, msnoc_get, msnoc_set, msnoc_take, Int.le_refl, take_map_all, Nat.le_refl, St.freezeRows, BV.frozen, List.take_length, List.take_append_drop, z_repl_zero, Int.toNat_zero, true_and, and_true, and_self, eq_self, z_take_zero, List.drop_nil, List.take_nil, vAll, List.foldl_nil, List.foldl_cons, resultsOf, resultList, resultOf, zBV, splice, PV.remade, St.freezeAt, St.freezeBox, PV.single, plain, act, dstOf, if_true, if_false, reduceCtorEq, St.get, St.put, St.pvOf, St.putRow, St.consume, St.freeze, St.row, St.elems, St.grab, St.takeRow, St.setRow, St.place, St.optPv, St.setCell, St.setCellRow, binPV, intBin, unPV, BV.val, Nat.reduceEqDiff, bound, consumeAll, buildParts, capsOf, capOf, List.append_nil, Nat.reduceAdd, Nat.reduceLT, Nat.reduceLeDiff, beq_self_eq_true, List.length_map, Nat.beq, dcall, dcallP, List.mapM_cons, St.snapFn, St.snap, St.layAll, St.lay, St.freezeArg, St.freezeArg1]
  rw [loop68]
  rotate_left
  · rfl
  · simp only [e1, val_pvs, frozen_pvs, msnoc_len, msnoc_get, msnoc_set, msnoc_take, Int.le_refl, take_map_all, Nat.le_refl, St.freezeRows, BV.frozen, List.take_length, List.take_append_drop, z_repl_zero, Int.toNat_zero, true_and, and_true, and_self, eq_self, z_take_zero, List.drop_nil, List.take_nil, vAll, List.foldl_nil, List.foldl_cons, resultsOf, resultList, resultOf, zBV, splice, PV.remade, St.freezeAt, St.freezeBox, PV.single, plain, act, dstOf, if_true, if_false, reduceCtorEq, St.get, St.put, St.pvOf, St.putRow, St.consume, St.freeze, St.row, St.elems, St.grab, St.takeRow, St.setRow, St.place, St.optPv, St.setCell, St.setCellRow, binPV, intBin, unPV, BV.val, Nat.reduceEqDiff, bound, consumeAll, buildParts, capsOf, capOf, List.append_nil, Nat.reduceAdd, Nat.reduceLT, Nat.reduceLeDiff, beq_self_eq_true, List.length_map, Nat.beq, dcall, dcallP, List.mapM_cons, St.snapFn, St.snap, St.layAll, St.lay, St.freezeArg, St.freezeArg1]
    rw [loop68l3 (a := a)]
    rotate_left
    · rfl
    · simp only [e1, val_pvs, frozen_pvs, msnoc_len, msnoc_get, msnoc_set, msnoc_take, Int.le_refl, take_map_all, Nat.le_refl, St.freezeRows, BV.frozen, List.take_length, List.take_append_drop, z_repl_zero, Int.toNat_zero, true_and, and_true, and_self, eq_self, z_take_zero, List.drop_nil, List.take_nil, vAll, List.foldl_nil, List.foldl_cons, resultsOf, resultList, resultOf, zBV, splice, PV.remade, St.freezeAt, St.freezeBox, PV.single, plain, act, dstOf, if_true, if_false, reduceCtorEq, St.get, St.put, St.pvOf, St.putRow, St.consume, St.freeze, St.row, St.elems, St.grab, St.takeRow, St.setRow, St.place, St.optPv, St.setCell, St.setCellRow, binPV, intBin, unPV, BV.val, Nat.reduceEqDiff, bound, consumeAll, buildParts, capsOf, capOf, List.append_nil, Nat.reduceAdd, Nat.reduceLT, Nat.reduceLeDiff, beq_self_eq_true, List.length_map, Nat.beq, dcall, dcallP, List.mapM_cons, St.snapFn, St.snap, St.layAll, St.lay, St.freezeArg, St.freezeArg1]
def pairC (a b : Int) (i : Nat) : List Int := (List.range 8).map (fun k => if k < i then byteOf a k else 0) ++ (List.range 8).map (fun k => if k < i then byteOf b k else 0)
theorem pairC_len (a b : Int) (i : Nat) : (pairC a b i).length = 16 := by simp [pairC]
theorem pairC_8 (a b : Int) : pairC a b 8 = pairB a b := rfl
def bxC (l : List Int) : List BV := l.map fun n => BV.pv (.int .u8 n)
theorem pairC_step (a b : Int) {i : Nat} (h : i < 8) : List.take (8 + i) (List.take i (bxC (pairC a b i)) ++ [BV.pv (.int .u8 (byteOf a i))] ++ List.drop (i + 1) (bxC (pairC a b i))) ++ [BV.pv (.int .u8 (byteOf b i))] ++ List.drop (8 + i + 1) (List.take i (bxC (pairC a b i)) ++ [BV.pv (.int .u8 (byteOf a i))] ++ List.drop (i + 1) (bxC (pairC a b i))) = bxC (pairC a b (i + 1)) := by
  have : i = 0 ∨ i = 1 ∨ i = 2 ∨ i = 3 ∨ i = 4 ∨ i = 5 ∨ i = 6 ∨ i = 7 := by omega
  rcases this with rfl | rfl | rfl | rfl | rfl | rfl | rfl | rfl <;> rfl
theorem loop66 {a b : Int} {st : St} (h : st.head [0, 1, 5, 7] st.boxes.length = some ⟨[.pv (.int .u64 a), .pv (.int .u64 b), .any, .any, .any, .pbox 0 0, .any, .pv (.int .i64 (0 : Nat)), .any, .any, .any, .any, .any, .any, .any, .any, .any, .any, .any, .any, .any, .any, .any, .any, .any, .any, .any, .any], [⟨false, bxC (pairC a b 0)⟩], [], none⟩) :
   den env fn66_l1 st = some (.normal, ⟨[.any, .any, .any, .any, .any, .pbox 0 0, .any, .any, .any, .any, .any, .any, .any, .any, .any, .any, .any, .any, .any, .any, .any, .any, .any, .any, .any, .any, .any, .any], [⟨false, bxC (pairB a b)⟩], [], none⟩) := by
  unfold fn66_l1
  refine clean_up (env := env) 8 (fun i => ⟨[.pv (.int .u64 a), .pv (.int .u64 b), .any, .any, .any, .pbox 0 0, .any, .pv (.int .i64 i), .any, .any, .any, .any, .any, .any, .any, .any, .any, .any, .any, .any, .any, .any, .any, .any, .any, .any, .any, .any], [⟨false, bxC (pairC a b i)⟩], [], none⟩) (fun _ => some (.normal, ⟨[.any, .any, .any, .any, .any, .pbox 0 0, .any, .any, .any, .any, .any, .any, .any, .any, .any, .any, .any, .any, .any, .any, .any, .any, .any, .any, .any, .any, .any, .any], [⟨false, bxC (pairB a b)⟩], [], none⟩)) h (fun _ => rfl) (fun _ => rfl) ?_ ?_
  · intro i rb hi ih
    have hi1 := i64_next (n := 8) hi (by decide)
    have F1 : ((i : Int) < 8) = True := eq_true (by omega)
    have F2 : IntKind.i64.wrap (8 * (i : Int)) = 8 * (i : Int) := i64_fits (by omega)
    have F3 : (8 * (i : Int) < 0) = False := eq_false (by omega)
    have F4 : IntKind.i64.wrap (8 + (i : Int)) = ((8 + i : Nat) : Int) := by rw [i64_fits (by omega)]; omega
    have F5 : index (.int .i64 (i : Int)) 16 = some i := index_nat (by omega)
    have F6 : index (.int .i64 ((8 + i : Nat) : Int)) 16 = some (8 + i) := index_nat (by omega)
    have hl : (bxC (pairC a b i)).length = 16 := by simp [bxC, pairC_len]
    have F7 : (i + 1 ≤ (bxC (pairC a b i)).length) = True := eq_true (by omega)
    have F8 : (8 + i + 1 ≤ (List.take i (bxC (pairC a b i)) ++ [BV.pv (.int .u8 (byteOf a i))] ++ List.drop (i + 1) (bxC (pairC a b i))).length) = True := eq_true (by simp [hl]; omega)
    have F9 := pairC_step a b hi
    simp only [byteOf] at F8 F9
    simp only [fn66_b0, F1, F2, F3, F4, F5, F6, F7, F8, F9, Nat.mul_one, Nat.zero_add, val_pvs, frozen_pvs, msnoc_len, msnoc_get, msnoc_set, msnoc_take, Int.le_refl, take_map_all, Nat.le_refl, St.freezeRows, BV.frozen, List.take_length, List.take_append_drop, z_repl_zero, Int.toNat_zero, true_and, and_true, and_self, eq_self, z_take_zero, List.drop_nil, List.take_nil, vAll, List.foldl_nil, List.foldl_cons, resultsOf, resultList, resultOf, zBV, splice, PV.remade, St.freezeAt, St.freezeBox, PV.single, plain, act, dstOf, if_true, if_false, reduceCtorEq, St.get, St.put, St.pvOf, St.putRow, St.consume, St.freeze, St.row, St.elems, St.grab, St.takeRow, St.setRow, St.place, St.optPv, St.setCell, St.setCellRow, binPV, intBin, unPV, BV.val, Nat.reduceEqDiff, bound, consumeAll, buildParts, capsOf, capOf, List.append_nil, Nat.reduceAdd, Nat.reduceLT, Nat.reduceLeDiff, beq_self_eq_true, List.length_map, Nat.beq, dcall, dcallP, List.mapM_cons, St.snapFn, St.snap, St.layAll, St.lay, St.freezeArg, St.freezeArg1]
    rw [ih _ (by simp only [hi1]; rfl)]
  · intro rb
    have F1 : (((8 : Nat) : Int) < 8) = False := eq_false (by omega)
    simp only [fn66_b0, F1, pairC_8, val_pvs, frozen_pvs, msnoc_len, msnoc_get, msnoc_set, msnoc_take, Int.le_refl, take_map_all, Nat.le_refl, St.freezeRows, BV.frozen, List.take_length, List.take_append_drop, z_repl_zero, Int.toNat_zero, true_and, and_true, and_self, eq_self, z_take_zero, List.drop_nil, List.take_nil, vAll, List.foldl_nil, List.foldl_cons, resultsOf, resultList, resultOf, zBV, splice, PV.remade, St.freezeAt, St.freezeBox, PV.single, plain, act, dstOf, if_true, if_false, reduceCtorEq, St.get, St.put, St.pvOf, St.putRow, St.consume, St.freeze, St.row, St.elems, St.grab, St.takeRow, St.setRow, St.place, St.optPv, St.setCell, St.setCellRow, binPV, intBin, unPV, BV.val, Nat.reduceEqDiff, bound, consumeAll, buildParts, capsOf, capOf, List.append_nil, Nat.reduceAdd, Nat.reduceLT, Nat.reduceLeDiff, beq_self_eq_true, List.length_map, Nat.beq, dcall, dcallP, List.mapM_cons, St.snapFn, St.snap, St.layAll, St.lay, St.freezeArg, St.freezeArg1]
    rfl
theorem cal66 {a b : Int} : cal env 66 [.int .u64 a, .int .u64 b] = some [(.int .u64 (hash (pairB a b)), false)] := by
  have e1 := cal77 (bs := pairB a b) (by rw [pairB_len]; decide)
  have e2 : (bxC (pairB a b)).map BV.val = (pairB a b).map eB8 := by simp [bxC, eB8, BV.val]
  have e3 : (bxC (pairB a b)).map BV.frozen = bxC (pairB a b) := by simp [bxC, BV.frozen]
  have e4 : ((pairB a b).map eB8).all PV.single = true := by simp [eB8, PV.single]
  have e5 : (bxC (pairB a b)).length = 16 := by simp [bxC, pairB_len]
  have e6 : (16 ≤ lim) = True := eq_true (by decide)
  rw [cal_code env66 rfl]; simp only [fn66]; simp only [start, z_map_cons, z_map_nil, z_len_cons, z_len_nil, z_repl_zero, z_repl_succ, z_cons_app, z_nil_app, Nat.reduceAdd, Nat.reduceSub]
  simp only [e1, e2, e3, e4, e5, e6, val_pvs, frozen_pvs, msnoc_len, msnoc_get, msnoc_set, msnoc_take, Int.le_refl, take_map_all, Nat.le_refl, St.freezeRows, BV.frozen, List.take_length, List.take_append_drop, z_repl_zero, Int.toNat_zero, true_and, and_true, and_self, eq_self, z_take_zero, List.drop_nil, List.take_nil, vAll, List.foldl_nil, List.foldl_cons, resultsOf, resultList, resultOf, zBV, splice, PV.remade, St.freezeAt, St.freezeBox, PV.single, plain, act, dstOf, if_true, if_false, reduceCtorEq, St.get, St.put, St.pvOf, St.putRow, St.consume, St.freeze, St.row, St.elems, St.grab, St.takeRow, St.setRow, St.place, St.optPv, St.setCell, St.setCellRow, binPV, intBin, unPV, BV.val, Nat.reduceEqDiff, bound, consumeAll, buildParts, capsOf, capOf, List.append_nil, Nat.reduceAdd, Nat.reduceLT, Nat.reduceLeDiff, beq_self_eq_true, List.length_map, Nat.beq, dcall, dcallP, List.mapM_cons, St.snapFn, St.snap, St.layAll, St.lay, St.freezeArg, St.freezeArg1]
  rw [loop66 (a := a) (b := b)]
  rotate_left
  · rfl
  · simp only [e1, e2, e3, e4, e5, e6, val_pvs, frozen_pvs, msnoc_len, msnoc_get, msnoc_set, msnoc_take, Int.le_refl, take_map_all, Nat.le_refl, St.freezeRows, BV.frozen, List.take_length, List.take_append_drop, z_repl_zero, Int.toNat_zero, true_and, and_true, and_self, eq_self, z_take_zero, List.drop_nil, List.take_nil, vAll, List.foldl_nil, List.foldl_cons, resultsOf, resultList, resultOf, zBV, splice, PV.remade, St.freezeAt, St.freezeBox, PV.single, plain, act, dstOf, if_true, if_false, reduceCtorEq, St.get, St.put, St.pvOf, St.putRow, St.consume, St.freeze, St.row, St.elems, St.grab, St.takeRow, St.setRow, St.place, St.optPv, St.setCell, St.setCellRow, binPV, intBin, unPV, BV.val, Nat.reduceEqDiff, bound, consumeAll, buildParts, capsOf, capOf, List.append_nil, Nat.reduceAdd, Nat.reduceLT, Nat.reduceLeDiff, beq_self_eq_true, List.length_map, Nat.beq, dcall, dcallP, List.mapM_cons, St.snapFn, St.snap, St.layAll, St.lay, St.freezeArg, St.freezeArg1]
def imHash (im : Img) : Int := im.foldl (fun d v => hash (pairB d (hash (secsB v)))) (hash [])
theorem imHash_snoc (l : Img) (v : List Sec) : imHash (l ++ [v]) = hash (pairB (imHash l) (hash (secsB v))) := by simp [imHash]
theorem loop38 {im : Img} (hl : im.length ≤ lim) (hr : ∀ v ∈ im, 8 * v.length ≤ lim) {st : St} (h : st.head [0, 3, 7, 8, 9] st.boxes.length = some ⟨[.pv (.list 1 (im.map eSecs)), .any, .any, .pv (.int .u64 (imHash (im.take 0))), .any, .any, .any, .pv (.list 1 (im.map eSecs)), .pv (.int .i64 im.length), .pv (.int .i64 (0 : Nat)), .any, .any, .any, .any, .any, .any, .any, .any, .any], [], [], none⟩) :
   den env fn38_l1 st = some (.normal, ⟨[.any, .any, .any, .pv (.int .u64 (imHash im)), .any, .any, .any, .any, .any, .any, .any, .any, .any, .any, .any, .any, .any, .any, .any], [], [], none⟩) := by
  unfold fn38_l1
  refine clean_up (env := env) im.length (fun i => ⟨[.pv (.list 1 (im.map eSecs)), .any, .any, .pv (.int .u64 (imHash (im.take i))), .any, .any, .any, .pv (.list 1 (im.map eSecs)), .pv (.int .i64 im.length), .pv (.int .i64 i), .any, .any, .any, .any, .any, .any, .any, .any, .any], [], [], none⟩) (fun _ => some (.normal, ⟨[.any, .any, .any, .pv (.int .u64 (imHash im)), .any, .any, .any, .any, .any, .any, .any, .any, .any, .any, .any, .any, .any, .any, .any], [], [], none⟩)) h (fun _ => rfl) (fun _ => rfl) ?_ ?_
  · intro i rb hi ih
    have hi1 := i64_next hi hl
    have F1 : ((i : Int) < (im.length : Int)) = True := eq_true (by omega)
    have hv := hr _ (List.getElem_mem hi)
    have e1 := cal65 (l := im[i]) (by omega)
    have e2 := cal66 (a := imHash (im.take i)) (b := hash (secsB im[i]))
    simp only [fn38_b0, F1, e1, e2, eSecs, index_nat hi, List.getElem?_map, List.getElem?_eq_getElem hi, Option.map_some, val_pvs, frozen_pvs, msnoc_len, msnoc_get, msnoc_set, msnoc_take, Int.le_refl, take_map_all, Nat.le_refl, St.freezeRows, BV.frozen, List.take_length, List.take_append_drop, z_repl_zero, Int.toNat_zero, true_and, and_true, and_self, eq_self, z_take_zero, List.drop_nil, List.take_nil, vAll, List.foldl_nil, List.foldl_cons, resultsOf, resultList, resultOf, zBV, splice, PV.remade, St.freezeAt, St.freezeBox, PV.single, plain, act, dstOf, if_true, if_false, reduceCtorEq, St.get, St.put, St.pvOf, St.putRow, St.consume, St.freeze, St.row, St.elems, St.grab, St.takeRow, St.setRow, St.place, St.optPv, St.setCell, St.setCellRow, binPV, intBin, unPV, BV.val, Nat.reduceEqDiff, bound, consumeAll, buildParts, capsOf, capOf, List.append_nil, Nat.reduceAdd, Nat.reduceLT, Nat.reduceLeDiff, beq_self_eq_true, List.length_map, Nat.beq, dcall, dcallP, List.mapM_cons, St.snapFn, St.snap, St.layAll, St.lay, St.freezeArg, St.freezeArg1]
    rw [ih _ (by simp only [hi1]; rw [take_snoc hi, imHash_snoc]; rfl)]
  · intro rb
    simp only [fn38_b0, Int.lt_irrefl, List.take_length, val_pvs, frozen_pvs, msnoc_len, msnoc_get, msnoc_set, msnoc_take, Int.le_refl, take_map_all, Nat.le_refl, St.freezeRows, BV.frozen, List.take_length, List.take_append_drop, z_repl_zero, Int.toNat_zero, true_and, and_true, and_self, eq_self, z_take_zero, List.drop_nil, List.take_nil, vAll, List.foldl_nil, List.foldl_cons, resultsOf, resultList, resultOf, zBV, splice, PV.remade, St.freezeAt, St.freezeBox, PV.single, plain, act, dstOf, if_true, if_false, reduceCtorEq, St.get, St.put, St.pvOf, St.putRow, St.consume, St.freeze, St.row, St.elems, St.grab, St.takeRow, St.setRow, St.place, St.optPv, St.setCell, St.setCellRow, binPV, intBin, unPV, BV.val, Nat.reduceEqDiff, bound, consumeAll, buildParts, capsOf, capOf, List.append_nil, Nat.reduceAdd, Nat.reduceLT, Nat.reduceLeDiff, beq_self_eq_true, List.length_map, Nat.beq, dcall, dcallP, List.mapM_cons, St.snapFn, St.snap, St.layAll, St.lay, St.freezeArg, St.freezeArg1]
    rfl
theorem cal38 {im : Img} (hl : im.length ≤ lim) (hr : ∀ v ∈ im, 8 * v.length ≤ lim) : cal env 38 [.list 1 (im.map eSecs)] = some [(.int .u64 (imHash im), false)] := by
  have e1 := cal65 (l := []) (by decide)
  simp only [List.map_nil] at e1
  rw [cal_code env38 rfl]; simp only [fn38]; simp only [start, z_map_cons, z_map_nil, z_len_cons, z_len_nil, z_repl_zero, z_repl_succ, z_cons_app, z_nil_app, Nat.reduceAdd, Nat.reduceSub]
  simp only [e1, val_pvs, frozen_pvs, msnoc_len, msnoc_get, msnoc_set, msnoc_take, Int.le_refl, take_map_all, Nat.le_refl, St.freezeRows, BV.frozen, List.take_length, List.take_append_drop, z_repl_zero, Int.toNat_zero, true_and, and_true, and_self, eq_self, z_take_zero, List.drop_nil, List.take_nil, vAll, List.foldl_nil, List.foldl_cons, resultsOf, resultList, resultOf, zBV, splice, PV.remade, St.freezeAt, St.freezeBox, PV.single, plain, act, dstOf, if_true, if_false, reduceCtorEq, St.get, St.put, St.pvOf, St.putRow, St.consume, St.freeze, St.row, St.elems, St.grab, St.takeRow, St.setRow, St.place, St.optPv, St.setCell, St.setCellRow, binPV, intBin, unPV, BV.val, Nat.reduceEqDiff, bound, consumeAll, buildParts, capsOf, capOf, List.append_nil, Nat.reduceAdd, Nat.reduceLT, Nat.reduceLeDiff, beq_self_eq_true, List.length_map, Nat.beq, dcall, dcallP, List.mapM_cons, St.snapFn, St.snap, St.layAll, St.lay, St.freezeArg, St.freezeArg1]
  rw [loop38 hl hr]
  rotate_left
  · rfl
  · simp only [val_pvs, frozen_pvs, msnoc_len, msnoc_get, msnoc_set, msnoc_take, Int.le_refl, take_map_all, Nat.le_refl, St.freezeRows, BV.frozen, List.take_length, List.take_append_drop, z_repl_zero, Int.toNat_zero, true_and, and_true, and_self, eq_self, z_take_zero, List.drop_nil, List.take_nil, vAll, List.foldl_nil, List.foldl_cons, resultsOf, resultList, resultOf, zBV, splice, PV.remade, St.freezeAt, St.freezeBox, PV.single, plain, act, dstOf, if_true, if_false, reduceCtorEq, St.get, St.put, St.pvOf, St.putRow, St.consume, St.freeze, St.row, St.elems, St.grab, St.takeRow, St.setRow, St.place, St.optPv, St.setCell, St.setCellRow, binPV, intBin, unPV, BV.val, Nat.reduceEqDiff, bound, consumeAll, buildParts, capsOf, capOf, List.append_nil, Nat.reduceAdd, Nat.reduceLT, Nat.reduceLeDiff, beq_self_eq_true, List.length_map, Nat.beq, dcall, dcallP, List.mapM_cons, St.snapFn, St.snap, St.layAll, St.lay, St.freezeArg, St.freezeArg1]
theorem loop39 {im : Img} (hl : im.length ≤ lim) (hr : ∀ v ∈ im, 8 * v.length ≤ lim) {st : St} (h : st.head [0, 3, 4] st.boxes.length = some ⟨[.pv (.list 1 (im.map eSecs)), .any, .any, .pv (.int .u64 (imHash (im.take 0))), .pv (.int .i64 (0 : Nat)), .any, .any, .any, .any, .any, .any, .any, .any, .any, .any, .any, .any, .any, .any, .any], [], [], none⟩) :
   den env fn39_l1 st = some (.normal, ⟨[.any, .any, .any, .pv (.int .u64 (imHash im)), .any, .any, .any, .any, .any, .any, .any, .any, .any, .any, .any, .any, .any, .any, .any, .any], [], [], none⟩) := by
  unfold fn39_l1
  refine clean_up (env := env) im.length (fun i => ⟨[.pv (.list 1 (im.map eSecs)), .any, .any, .pv (.int .u64 (imHash (im.take i))), .pv (.int .i64 i), .any, .any, .any, .any, .any, .any, .any, .any, .any, .any, .any, .any, .any, .any, .any], [], [], none⟩) (fun _ => some (.normal, ⟨[.any, .any, .any, .pv (.int .u64 (imHash im)), .any, .any, .any, .any, .any, .any, .any, .any, .any, .any, .any, .any, .any, .any, .any, .any], [], [], none⟩)) h (fun _ => rfl) (fun _ => rfl) ?_ ?_
  · intro i rb hi ih
    have hi1 := i64_next hi hl
    have F1 : ((i : Int) < (im.length : Int)) = True := eq_true (by omega)
    have hv := hr _ (List.getElem_mem hi)
    have e1 := cal67 (l := im[i]) (by omega)
    have e2 := cal68 (a := imHash (im.take i)) (b := hash (secsB im[i]))
    simp only [fn39_b0, F1, e1, e2, eSecs, index_nat hi, List.getElem?_map, List.getElem?_eq_getElem hi, Option.map_some, val_pvs, frozen_pvs, msnoc_len, msnoc_get, msnoc_set, msnoc_take, Int.le_refl, take_map_all, Nat.le_refl, St.freezeRows, BV.frozen, List.take_length, List.take_append_drop, z_repl_zero, Int.toNat_zero, true_and, and_true, and_self, eq_self, z_take_zero, List.drop_nil, List.take_nil, vAll, List.foldl_nil, List.foldl_cons, resultsOf, resultList, resultOf, zBV, splice, PV.remade, St.freezeAt, St.freezeBox, PV.single, plain, act, dstOf, if_true, if_false, reduceCtorEq, St.get, St.put, St.pvOf, St.putRow, St.consume, St.freeze, St.row, St.elems, St.grab, St.takeRow, St.setRow, St.place, St.optPv, St.setCell, St.setCellRow, binPV, intBin, unPV, BV.val, Nat.reduceEqDiff, bound, consumeAll, buildParts, capsOf, capOf, List.append_nil, Nat.reduceAdd, Nat.reduceLT, Nat.reduceLeDiff, beq_self_eq_true, List.length_map, Nat.beq, dcall, dcallP, List.mapM_cons, St.snapFn, St.snap, St.layAll, St.lay, St.freezeArg, St.freezeArg1]
    rw [ih _ (by simp only [hi1]; rw [take_snoc hi, imHash_snoc]; rfl)]
  · intro rb
    simp only [fn39_b0, Int.lt_irrefl, List.take_length, val_pvs, frozen_pvs, msnoc_len, msnoc_get, msnoc_set, msnoc_take, Int.le_refl, take_map_all, Nat.le_refl, St.freezeRows, BV.frozen, List.take_length, List.take_append_drop, z_repl_zero, Int.toNat_zero, true_and, and_true, and_self, eq_self, z_take_zero, List.drop_nil, List.take_nil, vAll, List.foldl_nil, List.foldl_cons, resultsOf, resultList, resultOf, zBV, splice, PV.remade, St.freezeAt, St.freezeBox, PV.single, plain, act, dstOf, if_true, if_false, reduceCtorEq, St.get, St.put, St.pvOf, St.putRow, St.consume, St.freeze, St.row, St.elems, St.grab, St.takeRow, St.setRow, St.place, St.optPv, St.setCell, St.setCellRow, binPV, intBin, unPV, BV.val, Nat.reduceEqDiff, bound, consumeAll, buildParts, capsOf, capOf, List.append_nil, Nat.reduceAdd, Nat.reduceLT, Nat.reduceLeDiff, beq_self_eq_true, List.length_map, Nat.beq, dcall, dcallP, List.mapM_cons, St.snapFn, St.snap, St.layAll, St.lay, St.freezeArg, St.freezeArg1]
    rfl
theorem cal39 {im : Img} (hl : im.length ≤ lim) (hr : ∀ v ∈ im, 8 * v.length ≤ lim) : cal env 39 [.list 1 (im.map eSecs)] = some [(.int .u64 (imHash im), false)] := by
  have e1 := cal67 (l := []) (by decide)
  simp only [List.map_nil] at e1
  rw [cal_code env39 rfl]; simp only [fn39]; simp only [start, z_map_cons, z_map_nil, z_len_cons, z_len_nil, z_repl_zero, z_repl_succ, z_cons_app, z_nil_app, Nat.reduceAdd, Nat.reduceSub]
  simp only [e1, val_pvs, frozen_pvs, msnoc_len, msnoc_get, msnoc_set, msnoc_take, Int.le_refl, take_map_all, Nat.le_refl, St.freezeRows, BV.frozen, List.take_length, List.take_append_drop, z_repl_zero, Int.toNat_zero, true_and, and_true, and_self, eq_self, z_take_zero, List.drop_nil, List.take_nil, vAll, List.foldl_nil, List.foldl_cons, resultsOf, resultList, resultOf, zBV, splice, PV.remade, St.freezeAt, St.freezeBox, PV.single, plain, act, dstOf, if_true, if_false, reduceCtorEq, St.get, St.put, St.pvOf, St.putRow, St.consume, St.freeze, St.row, St.elems, St.grab, St.takeRow, St.setRow, St.place, St.optPv, St.setCell, St.setCellRow, binPV, intBin, unPV, BV.val, Nat.reduceEqDiff, bound, consumeAll, buildParts, capsOf, capOf, List.append_nil, Nat.reduceAdd, Nat.reduceLT, Nat.reduceLeDiff, beq_self_eq_true, List.length_map, Nat.beq, dcall, dcallP, List.mapM_cons, St.snapFn, St.snap, St.layAll, St.lay, St.freezeArg, St.freezeArg1]
  rw [loop39 hl hr]
  rotate_left
  · rfl
  · simp only [val_pvs, frozen_pvs, msnoc_len, msnoc_get, msnoc_set, msnoc_take, Int.le_refl, take_map_all, Nat.le_refl, St.freezeRows, BV.frozen, List.take_length, List.take_append_drop, z_repl_zero, Int.toNat_zero, true_and, and_true, and_self, eq_self, z_take_zero, List.drop_nil, List.take_nil, vAll, List.foldl_nil, List.foldl_cons, resultsOf, resultList, resultOf, zBV, splice, PV.remade, St.freezeAt, St.freezeBox, PV.single, plain, act, dstOf, if_true, if_false, reduceCtorEq, St.get, St.put, St.pvOf, St.putRow, St.consume, St.freeze, St.row, St.elems, St.grab, St.takeRow, St.setRow, St.place, St.optPv, St.setCell, St.setCellRow, binPV, intBin, unPV, BV.val, Nat.reduceEqDiff, bound, consumeAll, buildParts, capsOf, capOf, List.append_nil, Nat.reduceAdd, Nat.reduceLT, Nat.reduceLeDiff, beq_self_eq_true, List.length_map, Nat.beq, dcall, dcallP, List.mapM_cons, St.snapFn, St.snap, St.layAll, St.lay, St.freezeArg, St.freezeArg1]
theorem cal10 {im : Img} : cal env 10 [.list 1 (im.map eSecs)] = some [(.bool true, false)] := by
  have e0 := cal11 (im := im)
  have e3 := calAwake
  by_cases hf : few7 im = true
  · obtain ⟨hl, hr⟩ := few7_len hf
    have hr' : ∀ v ∈ im, 8 * v.length ≤ lim := fun v hv => by have := hr v hv; unfold lim; omega
    have hl' : im.length ≤ lim := by unfold lim; omega
    have e1 := cal38 hl' hr'
    have e2 := cal39 hl' hr'
    rw [hf] at e0
    have G : ∀ x : Int, (x == x) = true := by simp
    rw [cal_code env10 rfl]; simp only [fn10]; simp only [start, z_map_cons, z_map_nil, z_len_cons, z_len_nil, z_repl_zero, z_repl_succ, z_cons_app, z_nil_app, Nat.reduceAdd, Nat.reduceSub]
    simp only [e0, e1, e2, e3, G, val_pvs, frozen_pvs, msnoc_len, msnoc_get, msnoc_set, msnoc_take, Int.le_refl, take_map_all, Nat.le_refl, St.freezeRows, BV.frozen, List.take_length, List.take_append_drop, z_repl_zero, Int.toNat_zero, true_and, and_true, and_self, eq_self, z_take_zero, List.drop_nil, List.take_nil, vAll, List.foldl_nil, List.foldl_cons, resultsOf, resultList, resultOf, zBV, splice, PV.remade, St.freezeAt, St.freezeBox, PV.single, plain, act, dstOf, if_true, if_false, reduceCtorEq, St.get, St.put, St.pvOf, St.putRow, St.consume, St.freeze, St.row, St.elems, St.grab, St.takeRow, St.setRow, St.place, St.optPv, St.setCell, St.setCellRow, binPV, intBin, unPV, BV.val, Nat.reduceEqDiff, bound, consumeAll, buildParts, capsOf, capOf, List.append_nil, Nat.reduceAdd, Nat.reduceLT, Nat.reduceLeDiff, beq_self_eq_true, List.length_map, Nat.beq, dcall, dcallP, List.mapM_cons, St.snapFn, St.snap, St.layAll, St.lay, St.freezeArg, St.freezeArg1]
  · have hf : few7 im = false := by simpa using hf
    rw [hf] at e0
    rw [cal_code env10 rfl]; simp only [fn10]; simp only [start, z_map_cons, z_map_nil, z_len_cons, z_len_nil, z_repl_zero, z_repl_succ, z_cons_app, z_nil_app, Nat.reduceAdd, Nat.reduceSub]
    simp only [e0, e3, val_pvs, frozen_pvs, msnoc_len, msnoc_get, msnoc_set, msnoc_take, Int.le_refl, take_map_all, Nat.le_refl, St.freezeRows, BV.frozen, List.take_length, List.take_append_drop, z_repl_zero, Int.toNat_zero, true_and, and_true, and_self, eq_self, z_take_zero, List.drop_nil, List.take_nil, vAll, List.foldl_nil, List.foldl_cons, resultsOf, resultList, resultOf, zBV, splice, PV.remade, St.freezeAt, St.freezeBox, PV.single, plain, act, dstOf, if_true, if_false, reduceCtorEq, St.get, St.put, St.pvOf, St.putRow, St.consume, St.freeze, St.row, St.elems, St.grab, St.takeRow, St.setRow, St.place, St.optPv, St.setCell, St.setCellRow, binPV, intBin, unPV, BV.val, Nat.reduceEqDiff, bound, consumeAll, buildParts, capsOf, capOf, List.append_nil, Nat.reduceAdd, Nat.reduceLT, Nat.reduceLeDiff, beq_self_eq_true, List.length_map, Nat.beq, dcall, dcallP, List.mapM_cons, St.snapFn, St.snap, St.layAll, St.lay, St.freezeArg, St.freezeArg1]
end Go.Proofs.Ytldnpgbacakfeaa.V

namespace Go.Proofs.Ytldnpgbacakfeaa
open Go.RowKit Go.ChangeShapes Go.WideShapes Go.ChangeAt V
set_option linter.all false

set_option maxRecDepth 100000 in
theorem imageDigests_lifted (os : Os) (started : os.Started) (H : Type) (enc : TypeId × Value → H) :
    ReturnsInHanded {} Try.checked os 10 .any (Rows.imageDigestsSpec.pre6 enc Try.prog Try.f10 Rows.imageDigestsRow.domain false) (Rows.imageDigestsSpec.post enc Try.prog Try.f10 false true false false) := by
  refine returnsInHanded_of_change (C := Try.checked) Try.ownKnobV started (by kernel_rfl) Try.func10
    (ChangeSpec.witness6 (enc := enc) (C := Try.checked) false ⟨#[], #[.slice none 0 0], []⟩ 8 (by kernel_rfl) (by kernel_rfl) (by kernel_rfl) (by kernel_rfl)) ?_
  intro W base args ds gs before hval0 hW _ _
  have hval : ∀ (j : Nat) t v, Try.f10.params[j]? = some t → args[j]? = some v → Value.okWide Try.prog W .any base t v := hval0
  have hW' := hW
  obtain ⟨p, q, hA0, hV, rfl, _, _⟩ := hW
  have hA : DataW.TrodAll enc Try.prog W 0 (fun _ => true) true Try.f10.params.toList args.toList ds p := hA0
  rw [Try.params10] at hA hval
  obtain ⟨v0, d0, rfl, rfl, h0⟩ := trodAll_one hA
  obtain ⟨rfl, rfl⟩ := trodVars_none hV
  obtain ⟨q0, s0, r0⟩ := arg_slice Try.underlying24 Try.rdImg (hval 0 24 v0 rfl rfl) h0
  obtain ⟨x0, rfl⟩ := simg s0
  clear hA0 hval0
  simp only [List.append_nil, List.append_assoc] at hW'
  have hlt : ∀ x ∈ p, x.block < W.heap.size := fun x hx => by simpa using hW'.lt x hx
  refine (calls_all (vs := [v0]) envOk (cal10 ) ⟨r0, trivial⟩).mono fun e W' ⟨he, hB⟩ => ?_
  subst he
  exact ⟨_, rfl, _, _, _, [], _, [], hW', trodAll_mk1 (shut_bool Try.underlying4 _), trodAll_mk1 (Below.trod Try.laidOutV (by kernel_rfl) (of_decide_eq_true (by kernel_rfl)) h0 hB (fun x hx => hlt x hx)), rfl, hB.frame _, fun h => by cases h⟩

theorem imageDigests_holds : Rows.ImageDigestsSaid :=
  OpenClaim.holds_of_wide 10 Try.f10 rfl rfl rfl rfl rfl rfl rfl ⟨rfl, rfl, rfl, rfl, rfl⟩ rfl rfl rfl rfl rfl (by kernel_rfl) Try.func10 (by kernel_rfl)
    (of_decide_eq_true (by kernel_rfl)) (by unfold Func.isWrapper; first | (rw [if_pos (by decide +kernel)]; kernel_rfl) | (rw [if_neg (by decide +kernel)]; exact ⟨rfl, rfl⟩))
    (fun os started H enc _ => imageDigests_lifted os started H enc)
end Go.Proofs.Ytldnpgbacakfeaa

namespace Go.Proofs.Ytldnpgbacakfeaa
end Go.Proofs.Ytldnpgbacakfeaa
