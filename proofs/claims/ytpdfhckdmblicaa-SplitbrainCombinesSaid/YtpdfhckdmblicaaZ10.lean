/-
  Part 10 of the texts that the statement stands on.
-/
import Derived.Test.YtpdfhckdmblicaaZ9
set_option linter.all false
namespace Go.Proofs.Ytpdfhckdmblicaa.V
set_option linter.all false
set_option maxRecDepth 20000 in
set_option maxHeartbeats 4000000 in
theorem loop7 {a b z : Img} {mP lP oP nP pP : List PV} {v : Nat} {X Y W M O : List Sec} {L : List Exn} {bx : Box} (hX : a[v]? = some X) (hY : b[v]? = some Y) (hW : z[v]? = some W) (hM : mP[v]? = some (eSecs M)) (hO : oP[v]? = some (eSecs O)) (hL : lP[v]? = some (eExts L)) (lX : X.length = W.length) (lY : Y.length = W.length) (lM : M.length = W.length) (lO : O.length = W.length) (hl : W.length ≤ lim) (hLl : L.length ≤ lim) (h0 : ∀ x ∈ L, 0 ≤ x.start)
   (hk : ∀ k (k1 : k < X.length) (k2 : k < Y.length) (k3 : k < W.length) (k4 : k < M.length) (k5 : k < O.length), M[k] = gMerge X[k] Y[k] W[k] ∧ O[k] = gMerge Y[k] X[k] W[k] ∧ L.any (covP k) = confP X[k] Y[k] W[k]) {st : St} (h : st.head [0, 5, 8, 11, 12, 14, 18, 21, 23, 49, 57, 72, 73, 80, 89, 97, 153, 154, 215, 216] st.boxes.length = some ⟨sl 381 [(0, .pv (.list 1 (z.map eSecs))), (5, .pv (.list 1 (a.map eSecs))), (8, .pv (.list 1 (b.map eSecs))), (11, .row 1 mP), (12, .row 1 lP), (14, .row 1 oP), (18, .row 1 nP), (21, .row 1 pP), (23, .pv (.int .i64 v)), (49, .pv (.list 1 (a.map eSecs))), (57, .pv (.list 1 (b.map eSecs))), (72, .any), (73, .any), (80, .any), (89, .any), (97, .any), (153, .pv (.int .i64 z.length)), (154, .pv (.int .i64 v)), (215, .pv (.int .i64 W.length)), (216, .pv (.int .i64 (0 : Nat)))], [bx], [], none⟩) :
   den env fn7_l1 st = some (.normal, ⟨sl 381 [(0, .pv (.list 1 (z.map eSecs))), (4, .any), (5, .pv (.list 1 (a.map eSecs))), (8, .pv (.list 1 (b.map eSecs))), (11, .row 1 mP), (12, .row 1 lP), (14, .row 1 oP), (18, .row 1 nP), (21, .row 1 pP), (49, .pv (.list 1 (a.map eSecs))), (57, .pv (.list 1 (b.map eSecs))), (72, .any), (73, .any), (80, .any), (89, .any), (97, .any), (153, .pv (.int .i64 z.length)), (154, .pv (.int .i64 v))], [bx], [], none⟩) := by
  unfold fn7_l1
  refine clean_up (env := env) (W.length) (fun i => ⟨sl 381 [(0, .pv (.list 1 (z.map eSecs))), (5, .pv (.list 1 (a.map eSecs))), (8, .pv (.list 1 (b.map eSecs))), (11, .row 1 mP), (12, .row 1 lP), (14, .row 1 oP), (18, .row 1 nP), (21, .row 1 pP), (23, .pv (.int .i64 v)), (49, .pv (.list 1 (a.map eSecs))), (57, .pv (.list 1 (b.map eSecs))), (72, .any), (73, .any), (80, .any), (89, .any), (97, .any), (153, .pv (.int .i64 z.length)), (154, .pv (.int .i64 v)), (215, .pv (.int .i64 W.length)), (216, .pv (.int .i64 i))], [bx], [], none⟩) (fun i => some (.normal, ⟨sl 381 [(0, .pv (.list 1 (z.map eSecs))), (4, .any), (5, .pv (.list 1 (a.map eSecs))), (8, .pv (.list 1 (b.map eSecs))), (11, .row 1 mP), (12, .row 1 lP), (14, .row 1 oP), (18, .row 1 nP), (21, .row 1 pP), (49, .pv (.list 1 (a.map eSecs))), (57, .pv (.list 1 (b.map eSecs))), (72, .any), (73, .any), (80, .any), (89, .any), (97, .any), (153, .pv (.int .i64 z.length)), (154, .pv (.int .i64 v))], [bx], [], none⟩)) h (fun _ => rfl) (fun _ => by simp only [slAll, Nat.reduceBEq, Nat.reduceLT, Nat.reduceLeDiff, Nat.zero_le, List.take_zero, List.take_nil, List.take_succ_cons, List.length_cons, List.length_nil, Nat.le_refl, Nat.reduceAdd, decide_true, Bool.and_self, Bool.true_and]) ?_ ?_
  · intro i rb hi ih

    have hlim : lim = 1073741824 := rfl
    have hi1 := i64_next hi hl
    have F1 : ((i : Int) < (W.length : Int)) = True := eq_true (by omega)
    have k1 : i < X.length := by omega
    have k2 : i < Y.length := by omega
    have k4 : i < M.length := by omega
    have k5 : i < O.length := by omega
    obtain ⟨q1, q2, q3⟩ := hk i k1 k2 hi k4 k5
    have v1 := index_nat (k := .i64) (List.getElem?_eq_some_iff.1 hX).1
    have v2 := index_nat (k := .i64) (List.getElem?_eq_some_iff.1 hY).1
    have v3 := index_nat (k := .i64) (List.getElem?_eq_some_iff.1 hW).1
    have v4 := index_nat (k := .i64) (List.getElem?_eq_some_iff.1 hM).1
    have v5 := index_nat (k := .i64) (List.getElem?_eq_some_iff.1 hO).1
    have v6 := index_nat (k := .i64) (List.getElem?_eq_some_iff.1 hL).1
    have g1 := List.getElem?_eq_getElem k1
    have g2 := List.getElem?_eq_getElem k2
    have g3 := List.getElem?_eq_getElem hi
    have g4 := List.getElem?_eq_getElem k4
    have g5 := List.getElem?_eq_getElem k5
    have e1 := cal35 (enc := eExt) (l := L) (p := covP i) (gf := 36) (caps := [.iptr [.int .i64 i] 0]) (fun x hx => cal36 (h0 x hx) (by omega) (by omega)) (fun _ => rfl) hLl
    rw [q3] at e1
    generalize X[i] = x at *
    generalize Y[i] = y at *
    generalize W[i] = w at *
    generalize M[i] = m at *
    generalize O[i] = o at *
    subst q1
    subst q2
    have C : ∀ u : Sec, decide (u = u) = true := fun u => by simp
    simp only [eSecs] at hM hO
    simp only [eExts] at hL
    by_cases h1 : x = w
    · have m1 : gMerge x y w = y := by unfold gMerge; rw [if_pos h1]
      have c1 : confP x y w = false := by unfold confP; rw [decide_eq_true h1]; rfl
      rw [c1] at e1
      rw [m1] at g4
      have d1 : decide (x = w) = true := decide_eq_true h1
      by_cases h2 : y = w
      · have o1 : gMerge y x w = y := by unfold gMerge; rw [if_pos h2, h1, h2]
        rw [o1] at g5
        have d2 : decide (y = w) = true := decide_eq_true h2
        have d3 : decide (x = y) = true := decide_eq_true (by rw [h1, h2])
        simp only [fn7_b0, F1, e1, v1, v2, v3, v4, v5, v6, g1, g2, g3, g4, g5, hX, hY, hW, hM, hO, hL, d1, d2, d3, C, eSecs, eSec, index_nat hi, index_nat k1, index_nat k2, index_nat k4, index_nat k5, List.getElem?_map, Option.map_some, List.length_map, part_sec, secPV_length, eqCells_sec, slAll, Nat.reduceBEq, Nat.reduceLT, Nat.reduceLeDiff, Nat.zero_le, List.take_zero, List.take_nil, List.take_succ_cons, List.length_cons, List.length_nil, Nat.le_refl, List.isEmpty_nil, val_pvs, frozen_pvs, msnoc_len, msnoc_get, msnoc_set, msnoc_take, Int.le_refl, take_map_all, Nat.le_refl, St.freezeRows, BV.frozen, List.take_length, List.take_append_drop, z_repl_zero, Int.toNat_zero, true_and, and_true, and_self, eq_self, z_take_zero, List.drop_nil, List.take_nil, vAll, List.foldl_nil, List.foldl_cons, resultsOf, resultList, resultOf, zBV, splice, PV.remade, St.freezeAt, St.freezeBox, St.freezeCap, PV.single, plain, act, dstOf, if_true, if_false, reduceCtorEq, St.get, St.put, St.pvOf, St.putRow, St.consume, St.freeze, St.row, St.elems, St.grab, St.takeRow, St.setRow, St.place, St.optPv, St.setCell, St.setCellRow, binPV, intBin, unPV, BV.val, Nat.reduceEqDiff, bound, consumeAll, buildParts, capsOf, capOf, List.append_nil, Nat.reduceAdd, Nat.reduceLT, Nat.reduceLeDiff, beq_self_eq_true, List.length_map, Nat.beq, dcall, dcallP, List.mapM_cons, St.snapFn, St.snap, St.layAll, St.lay, St.freezeArg, St.freezeArg1]
        rw [ih _ (by simp only [hi1, slAll, Nat.reduceBEq, Nat.reduceLT, Nat.reduceLeDiff, Nat.zero_le, List.take_zero, List.take_nil, List.take_succ_cons, List.length_cons, List.length_nil, Nat.le_refl, List.isEmpty_nil, val_pvs, frozen_pvs, msnoc_len, msnoc_get, msnoc_set, msnoc_take, Int.le_refl, take_map_all, Nat.le_refl, St.freezeRows, BV.frozen, List.take_length, List.take_append_drop, z_repl_zero, Int.toNat_zero, true_and, and_true, and_self, eq_self, z_take_zero, List.drop_nil, List.take_nil, vAll, List.foldl_nil, List.foldl_cons, resultsOf, resultList, resultOf, zBV, splice, PV.remade, St.freezeAt, St.freezeBox, St.freezeCap, PV.single, plain, act, dstOf, if_true, if_false, reduceCtorEq, St.get, St.put, St.pvOf, St.putRow, St.consume, St.freeze, St.row, St.elems, St.grab, St.takeRow, St.setRow, St.place, St.optPv, St.setCell, St.setCellRow, binPV, intBin, unPV, BV.val, Nat.reduceEqDiff, bound, consumeAll, buildParts, capsOf, capOf, List.append_nil, Nat.reduceAdd, Nat.reduceLT, Nat.reduceLeDiff, beq_self_eq_true, List.length_map, Nat.beq, dcall, dcallP, List.mapM_cons, St.snapFn, St.snap, St.layAll, St.lay, St.freezeArg, St.freezeArg1] <;> rfl)]
      · have o1 : gMerge y x w = y := by unfold gMerge; rw [if_neg h2]
        rw [o1] at g5
        have d2 : decide (y = w) = false := decide_eq_false h2
        have d3 : decide (x = y) = false := decide_eq_false (fun e => h2 (e ▸ h1))
        simp only [fn7_b0, F1, e1, v1, v2, v3, v4, v5, v6, g1, g2, g3, g4, g5, hX, hY, hW, hM, hO, hL, d1, d2, d3, C, eSecs, eSec, index_nat hi, index_nat k1, index_nat k2, index_nat k4, index_nat k5, List.getElem?_map, Option.map_some, List.length_map, part_sec, secPV_length, eqCells_sec, slAll, Nat.reduceBEq, Nat.reduceLT, Nat.reduceLeDiff, Nat.zero_le, List.take_zero, List.take_nil, List.take_succ_cons, List.length_cons, List.length_nil, Nat.le_refl, List.isEmpty_nil, val_pvs, frozen_pvs, msnoc_len, msnoc_get, msnoc_set, msnoc_take, Int.le_refl, take_map_all, Nat.le_refl, St.freezeRows, BV.frozen, List.take_length, List.take_append_drop, z_repl_zero, Int.toNat_zero, true_and, and_true, and_self, eq_self, z_take_zero, List.drop_nil, List.take_nil, vAll, List.foldl_nil, List.foldl_cons, resultsOf, resultList, resultOf, zBV, splice, PV.remade, St.freezeAt, St.freezeBox, St.freezeCap, PV.single, plain, act, dstOf, if_true, if_false, reduceCtorEq, St.get, St.put, St.pvOf, St.putRow, St.consume, St.freeze, St.row, St.elems, St.grab, St.takeRow, St.setRow, St.place, St.optPv, St.setCell, St.setCellRow, binPV, intBin, unPV, BV.val, Nat.reduceEqDiff, bound, consumeAll, buildParts, capsOf, capOf, List.append_nil, Nat.reduceAdd, Nat.reduceLT, Nat.reduceLeDiff, beq_self_eq_true, List.length_map, Nat.beq, dcall, dcallP, List.mapM_cons, St.snapFn, St.snap, St.layAll, St.lay, St.freezeArg, St.freezeArg1]
        rw [ih _ (by simp only [hi1, slAll, Nat.reduceBEq, Nat.reduceLT, Nat.reduceLeDiff, Nat.zero_le, List.take_zero, List.take_nil, List.take_succ_cons, List.length_cons, List.length_nil, Nat.le_refl, List.isEmpty_nil, val_pvs, frozen_pvs, msnoc_len, msnoc_get, msnoc_set, msnoc_take, Int.le_refl, take_map_all, Nat.le_refl, St.freezeRows, BV.frozen, List.take_length, List.take_append_drop, z_repl_zero, Int.toNat_zero, true_and, and_true, and_self, eq_self, z_take_zero, List.drop_nil, List.take_nil, vAll, List.foldl_nil, List.foldl_cons, resultsOf, resultList, resultOf, zBV, splice, PV.remade, St.freezeAt, St.freezeBox, St.freezeCap, PV.single, plain, act, dstOf, if_true, if_false, reduceCtorEq, St.get, St.put, St.pvOf, St.putRow, St.consume, St.freeze, St.row, St.elems, St.grab, St.takeRow, St.setRow, St.place, St.optPv, St.setCell, St.setCellRow, binPV, intBin, unPV, BV.val, Nat.reduceEqDiff, bound, consumeAll, buildParts, capsOf, capOf, List.append_nil, Nat.reduceAdd, Nat.reduceLT, Nat.reduceLeDiff, beq_self_eq_true, List.length_map, Nat.beq, dcall, dcallP, List.mapM_cons, St.snapFn, St.snap, St.layAll, St.lay, St.freezeArg, St.freezeArg1] <;> rfl)]
    · have m1 : gMerge x y w = x := by unfold gMerge; rw [if_neg h1]
      rw [m1] at g4
      have d1 : decide (x = w) = false := decide_eq_false h1
      by_cases h2 : y = w
      · have o1 : gMerge y x w = x := by unfold gMerge; rw [if_pos h2]
        have c1 : confP x y w = false := by unfold confP; rw [decide_eq_true h2]; simp
        rw [c1] at e1
        rw [o1] at g5
        have d2 : decide (y = w) = true := decide_eq_true h2
        have d3 : decide (x = y) = false := decide_eq_false (fun e => h1 (e ▸ h2))
        simp only [fn7_b0, F1, e1, v1, v2, v3, v4, v5, v6, g1, g2, g3, g4, g5, hX, hY, hW, hM, hO, hL, d1, d2, d3, C, eSecs, eSec, index_nat hi, index_nat k1, index_nat k2, index_nat k4, index_nat k5, List.getElem?_map, Option.map_some, List.length_map, part_sec, secPV_length, eqCells_sec, slAll, Nat.reduceBEq, Nat.reduceLT, Nat.reduceLeDiff, Nat.zero_le, List.take_zero, List.take_nil, List.take_succ_cons, List.length_cons, List.length_nil, Nat.le_refl, List.isEmpty_nil, val_pvs, frozen_pvs, msnoc_len, msnoc_get, msnoc_set, msnoc_take, Int.le_refl, take_map_all, Nat.le_refl, St.freezeRows, BV.frozen, List.take_length, List.take_append_drop, z_repl_zero, Int.toNat_zero, true_and, and_true, and_self, eq_self, z_take_zero, List.drop_nil, List.take_nil, vAll, List.foldl_nil, List.foldl_cons, resultsOf, resultList, resultOf, zBV, splice, PV.remade, St.freezeAt, St.freezeBox, St.freezeCap, PV.single, plain, act, dstOf, if_true, if_false, reduceCtorEq, St.get, St.put, St.pvOf, St.putRow, St.consume, St.freeze, St.row, St.elems, St.grab, St.takeRow, St.setRow, St.place, St.optPv, St.setCell, St.setCellRow, binPV, intBin, unPV, BV.val, Nat.reduceEqDiff, bound, consumeAll, buildParts, capsOf, capOf, List.append_nil, Nat.reduceAdd, Nat.reduceLT, Nat.reduceLeDiff, beq_self_eq_true, List.length_map, Nat.beq, dcall, dcallP, List.mapM_cons, St.snapFn, St.snap, St.layAll, St.lay, St.freezeArg, St.freezeArg1]
        rw [ih _ (by simp only [hi1, slAll, Nat.reduceBEq, Nat.reduceLT, Nat.reduceLeDiff, Nat.zero_le, List.take_zero, List.take_nil, List.take_succ_cons, List.length_cons, List.length_nil, Nat.le_refl, List.isEmpty_nil, val_pvs, frozen_pvs, msnoc_len, msnoc_get, msnoc_set, msnoc_take, Int.le_refl, take_map_all, Nat.le_refl, St.freezeRows, BV.frozen, List.take_length, List.take_append_drop, z_repl_zero, Int.toNat_zero, true_and, and_true, and_self, eq_self, z_take_zero, List.drop_nil, List.take_nil, vAll, List.foldl_nil, List.foldl_cons, resultsOf, resultList, resultOf, zBV, splice, PV.remade, St.freezeAt, St.freezeBox, St.freezeCap, PV.single, plain, act, dstOf, if_true, if_false, reduceCtorEq, St.get, St.put, St.pvOf, St.putRow, St.consume, St.freeze, St.row, St.elems, St.grab, St.takeRow, St.setRow, St.place, St.optPv, St.setCell, St.setCellRow, binPV, intBin, unPV, BV.val, Nat.reduceEqDiff, bound, consumeAll, buildParts, capsOf, capOf, List.append_nil, Nat.reduceAdd, Nat.reduceLT, Nat.reduceLeDiff, beq_self_eq_true, List.length_map, Nat.beq, dcall, dcallP, List.mapM_cons, St.snapFn, St.snap, St.layAll, St.lay, St.freezeArg, St.freezeArg1] <;> rfl)]
      · have o1 : gMerge y x w = y := by unfold gMerge; rw [if_neg h2]
        rw [o1] at g5
        have d2 : decide (y = w) = false := decide_eq_false h2
        by_cases h3 : x = y
        · have c1 : confP x y w = false := by unfold confP; rw [decide_eq_true h3]; simp
          rw [c1] at e1
          have d3 : decide (x = y) = true := decide_eq_true h3
          have d4 : decide (y = x) = true := decide_eq_true h3.symm
          simp only [fn7_b0, F1, e1, v1, v2, v3, v4, v5, v6, g1, g2, g3, g4, g5, hX, hY, hW, hM, hO, hL, d1, d2, d3, d4, C, eSecs, eSec, index_nat hi, index_nat k1, index_nat k2, index_nat k4, index_nat k5, List.getElem?_map, Option.map_some, List.length_map, part_sec, secPV_length, eqCells_sec, slAll, Nat.reduceBEq, Nat.reduceLT, Nat.reduceLeDiff, Nat.zero_le, List.take_zero, List.take_nil, List.take_succ_cons, List.length_cons, List.length_nil, Nat.le_refl, List.isEmpty_nil, val_pvs, frozen_pvs, msnoc_len, msnoc_get, msnoc_set, msnoc_take, Int.le_refl, take_map_all, Nat.le_refl, St.freezeRows, BV.frozen, List.take_length, List.take_append_drop, z_repl_zero, Int.toNat_zero, true_and, and_true, and_self, eq_self, z_take_zero, List.drop_nil, List.take_nil, vAll, List.foldl_nil, List.foldl_cons, resultsOf, resultList, resultOf, zBV, splice, PV.remade, St.freezeAt, St.freezeBox, St.freezeCap, PV.single, plain, act, dstOf, if_true, if_false, reduceCtorEq, St.get, St.put, St.pvOf, St.putRow, St.consume, St.freeze, St.row, St.elems, St.grab, St.takeRow, St.setRow, St.place, St.optPv, St.setCell, St.setCellRow, binPV, intBin, unPV, BV.val, Nat.reduceEqDiff, bound, consumeAll, buildParts, capsOf, capOf, List.append_nil, Nat.reduceAdd, Nat.reduceLT, Nat.reduceLeDiff, beq_self_eq_true, List.length_map, Nat.beq, dcall, dcallP, List.mapM_cons, St.snapFn, St.snap, St.layAll, St.lay, St.freezeArg, St.freezeArg1]
          rw [ih _ (by simp only [hi1, slAll, Nat.reduceBEq, Nat.reduceLT, Nat.reduceLeDiff, Nat.zero_le, List.take_zero, List.take_nil, List.take_succ_cons, List.length_cons, List.length_nil, Nat.le_refl, List.isEmpty_nil, val_pvs, frozen_pvs, msnoc_len, msnoc_get, msnoc_set, msnoc_take, Int.le_refl, take_map_all, Nat.le_refl, St.freezeRows, BV.frozen, List.take_length, List.take_append_drop, z_repl_zero, Int.toNat_zero, true_and, and_true, and_self, eq_self, z_take_zero, List.drop_nil, List.take_nil, vAll, List.foldl_nil, List.foldl_cons, resultsOf, resultList, resultOf, zBV, splice, PV.remade, St.freezeAt, St.freezeBox, St.freezeCap, PV.single, plain, act, dstOf, if_true, if_false, reduceCtorEq, St.get, St.put, St.pvOf, St.putRow, St.consume, St.freeze, St.row, St.elems, St.grab, St.takeRow, St.setRow, St.place, St.optPv, St.setCell, St.setCellRow, binPV, intBin, unPV, BV.val, Nat.reduceEqDiff, bound, consumeAll, buildParts, capsOf, capOf, List.append_nil, Nat.reduceAdd, Nat.reduceLT, Nat.reduceLeDiff, beq_self_eq_true, List.length_map, Nat.beq, dcall, dcallP, List.mapM_cons, St.snapFn, St.snap, St.layAll, St.lay, St.freezeArg, St.freezeArg1] <;> rfl)]
        · have c1 : confP x y w = true := by unfold confP; rw [decide_eq_false h1, decide_eq_false h2, decide_eq_false h3]; rfl
          rw [c1] at e1
          have d3 : decide (x = y) = false := decide_eq_false h3
          simp only [fn7_b0, F1, e1, v1, v2, v3, v4, v5, v6, g1, g2, g3, g4, g5, hX, hY, hW, hM, hO, hL, d1, d2, d3, C, eSecs, eSec, index_nat hi, index_nat k1, index_nat k2, index_nat k4, index_nat k5, List.getElem?_map, Option.map_some, List.length_map, part_sec, secPV_length, eqCells_sec, slAll, Nat.reduceBEq, Nat.reduceLT, Nat.reduceLeDiff, Nat.zero_le, List.take_zero, List.take_nil, List.take_succ_cons, List.length_cons, List.length_nil, Nat.le_refl, List.isEmpty_nil, val_pvs, frozen_pvs, msnoc_len, msnoc_get, msnoc_set, msnoc_take, Int.le_refl, take_map_all, Nat.le_refl, St.freezeRows, BV.frozen, List.take_length, List.take_append_drop, z_repl_zero, Int.toNat_zero, true_and, and_true, and_self, eq_self, z_take_zero, List.drop_nil, List.take_nil, vAll, List.foldl_nil, List.foldl_cons, resultsOf, resultList, resultOf, zBV, splice, PV.remade, St.freezeAt, St.freezeBox, St.freezeCap, PV.single, plain, act, dstOf, if_true, if_false, reduceCtorEq, St.get, St.put, St.pvOf, St.putRow, St.consume, St.freeze, St.row, St.elems, St.grab, St.takeRow, St.setRow, St.place, St.optPv, St.setCell, St.setCellRow, binPV, intBin, unPV, BV.val, Nat.reduceEqDiff, bound, consumeAll, buildParts, capsOf, capOf, List.append_nil, Nat.reduceAdd, Nat.reduceLT, Nat.reduceLeDiff, beq_self_eq_true, List.length_map, Nat.beq, dcall, dcallP, List.mapM_cons, St.snapFn, St.snap, St.layAll, St.lay, St.freezeArg, St.freezeArg1]
          rw [ih _ (by simp only [hi1, slAll, Nat.reduceBEq, Nat.reduceLT, Nat.reduceLeDiff, Nat.zero_le, List.take_zero, List.take_nil, List.take_succ_cons, List.length_cons, List.length_nil, Nat.le_refl, List.isEmpty_nil, val_pvs, frozen_pvs, msnoc_len, msnoc_get, msnoc_set, msnoc_take, Int.le_refl, take_map_all, Nat.le_refl, St.freezeRows, BV.frozen, List.take_length, List.take_append_drop, z_repl_zero, Int.toNat_zero, true_and, and_true, and_self, eq_self, z_take_zero, List.drop_nil, List.take_nil, vAll, List.foldl_nil, List.foldl_cons, resultsOf, resultList, resultOf, zBV, splice, PV.remade, St.freezeAt, St.freezeBox, St.freezeCap, PV.single, plain, act, dstOf, if_true, if_false, reduceCtorEq, St.get, St.put, St.pvOf, St.putRow, St.consume, St.freeze, St.row, St.elems, St.grab, St.takeRow, St.setRow, St.place, St.optPv, St.setCell, St.setCellRow, binPV, intBin, unPV, BV.val, Nat.reduceEqDiff, bound, consumeAll, buildParts, capsOf, capOf, List.append_nil, Nat.reduceAdd, Nat.reduceLT, Nat.reduceLeDiff, beq_self_eq_true, List.length_map, Nat.beq, dcall, dcallP, List.mapM_cons, St.snapFn, St.snap, St.layAll, St.lay, St.freezeArg, St.freezeArg1] <;> rfl)]
  · intro rb

    simp only [fn7_b0, Int.lt_irrefl, slAll, Nat.reduceBEq, Nat.reduceLT, Nat.reduceLeDiff, Nat.zero_le, List.take_zero, List.take_nil, List.take_succ_cons, List.length_cons, List.length_nil, Nat.le_refl, List.isEmpty_nil, val_pvs, frozen_pvs, msnoc_len, msnoc_get, msnoc_set, msnoc_take, Int.le_refl, take_map_all, Nat.le_refl, St.freezeRows, BV.frozen, List.take_length, List.take_append_drop, z_repl_zero, Int.toNat_zero, true_and, and_true, and_self, eq_self, z_take_zero, List.drop_nil, List.take_nil, vAll, List.foldl_nil, List.foldl_cons, resultsOf, resultList, resultOf, zBV, splice, PV.remade, St.freezeAt, St.freezeBox, St.freezeCap, PV.single, plain, act, dstOf, if_true, if_false, reduceCtorEq, St.get, St.put, St.pvOf, St.putRow, St.consume, St.freeze, St.row, St.elems, St.grab, St.takeRow, St.setRow, St.place, St.optPv, St.setCell, St.setCellRow, binPV, intBin, unPV, BV.val, Nat.reduceEqDiff, bound, consumeAll, buildParts, capsOf, capOf, List.append_nil, Nat.reduceAdd, Nat.reduceLT, Nat.reduceLeDiff, beq_self_eq_true, List.length_map, Nat.beq, dcall, dcallP, List.mapM_cons, St.snapFn, St.snap, St.layAll, St.lay, St.freezeArg, St.freezeArg1]

end Go.Proofs.Ytpdfhckdmblicaa.V

namespace Go.Proofs.Ytpdfhckdmblicaa.V
set_option linter.all false

theorem few7_mil {im : Img} (h : few7 im = true) : im.length ≤ 1000000 ∧ ∀ v ∈ im, v.length ≤ 1000000 := by
  obtain ⟨h1, h2⟩ := few7_len h
  exact ⟨by omega, fun v hv => by have := h2 v hv; omega⟩
theorem take_map' {α β : Type} (f : α → β) (l : List α) (n : Nat) : (l.map f).take n = (l.take n).map f := by rw [List.map_take]
theorem drop_map' {α β : Type} (f : α → β) (l : List α) (n : Nat) : (l.map f).drop n = (l.drop n).map f := by rw [List.map_drop]
end Go.Proofs.Ytpdfhckdmblicaa.V
