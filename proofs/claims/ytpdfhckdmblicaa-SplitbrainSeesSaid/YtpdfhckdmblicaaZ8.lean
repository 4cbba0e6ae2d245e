/-
  Part 8 of the texts that the statement stands on.
-/
import Derived.Test.YtpdfhckdmblicaaZ7
set_option linter.all false
namespace Go.Proofs.Ytpdfhckdmblicaa.V
set_option linter.all false

set_option maxHeartbeats 2000000 in
theorem loop43 {l : List Spn} (hl : l.length ≤ lim)
   {st : St} (h : st.head [0, 3] st.boxes.length = some ⟨[.pv (.list 3 (l.map eSpn)), .any, .any, .pv (.int .i64 (0 : Nat)), .any, .any, .any, .any, .any, .any, .any, .any, .any, .any, .any, .any, .any, .any, .any, .any, .any, .any, .any, .any, .any, .any, .any, .any, .any, .any, .any, .any, .any, .any, .any, .any, .any, .any, .any, .any, .any, .any, .any, .any, .any, .any, .any, .any, .any, .any, .any, .any, .any, .any, .any, .any, .any, .any, .any, .any, .any, .any, .any, .any, .any, .any, .any, .any, .any, .any, .any, .any, .any], [], [], none⟩) :
   den env fn43_l1 st = match linRes z0 l with
     | (true, _) => some (.normal, ⟨[.any, .any, .any, .any, .any, .any, .any, .any, .any, .any, .any, .any, .any, .any, .any, .any, .any, .any, .any, .any, .any, .any, .any, .any, .any, .any, .any, .any, .any, .any, .any, .any, .any, .any, .any, .any, .any, .any, .any, .any, .any, .any, .any, .any, .any, .any, .any, .any, .any, .any, .any, .any, .any, .any, .any, .any, .any, .any, .any, .any, .any, .any, .any, .any, .any, .any, .any, .any, .any, .any, .any, .any, .any], [], [], none⟩)
     | (false, _) => some (.ret, ⟨[.any, .any, .pv (.bool false), .any, .any, .any, .any, .any, .any, .any, .any, .any, .any, .any, .any, .any, .any, .any, .any, .any, .any, .any, .any, .any, .any, .any, .any, .any, .any, .any, .any, .any, .any, .any, .any, .any, .any, .any, .any, .any, .any, .any, .any, .any, .any, .any, .any, .any, .any, .any, .any, .any, .any, .any, .any, .any, .any, .any, .any, .any, .any, .any, .any, .any, .any, .any, .any, .any, .any, .any, .any, .any, .any], [], [], none⟩) := by
  unfold fn43_l1
  refine clean_upP (env := env) l.length (fun i => fineS (lastOf l i)) (fun i => ⟨[.pv (.list 3 (l.map eSpn)), .any, .any, .pv (.int .i64 i), .any, .any, .any, .any, .any, .any, .any, .any, .any, .any, .any, .any, .any, .any, .any, .any, .any, .any, .any, .any, .any, .any, .any, .any, .any, .any, .any, .any, .any, .any, .any, .any, .any, .any, .any, .any, .any, .any, .any, .any, .any, .any, .any, .any, .any, .any, .any, .any, .any, .any, .any, .any, .any, .any, .any, .any, .any, .any, .any, .any, .any, .any, .any, .any, .any, .any, .any, .any, .any], [], [], none⟩)
    (fun i => match linRes (lastOf l i) (l.drop i) with
     | (true, _) => some (.normal, ⟨[.any, .any, .any, .any, .any, .any, .any, .any, .any, .any, .any, .any, .any, .any, .any, .any, .any, .any, .any, .any, .any, .any, .any, .any, .any, .any, .any, .any, .any, .any, .any, .any, .any, .any, .any, .any, .any, .any, .any, .any, .any, .any, .any, .any, .any, .any, .any, .any, .any, .any, .any, .any, .any, .any, .any, .any, .any, .any, .any, .any, .any, .any, .any, .any, .any, .any, .any, .any, .any, .any, .any, .any, .any], [], [], none⟩)
     | (false, _) => some (.ret, ⟨[.any, .any, .pv (.bool false), .any, .any, .any, .any, .any, .any, .any, .any, .any, .any, .any, .any, .any, .any, .any, .any, .any, .any, .any, .any, .any, .any, .any, .any, .any, .any, .any, .any, .any, .any, .any, .any, .any, .any, .any, .any, .any, .any, .any, .any, .any, .any, .any, .any, .any, .any, .any, .any, .any, .any, .any, .any, .any, .any, .any, .any, .any, .any, .any, .any, .any, .any, .any, .any, .any, .any, .any, .any, .any, .any], [], [], none⟩)) h (by simp [lastOf, fineS, z0]) (fun _ => rfl) (fun _ => rfl) ?_ ?_
  · intro i rb hi hf ih
    have hi1 := i64_next hi hl
    have F1 : ((i : Int) < (l.length : Int)) = True := eq_true (by omega)
    have hk : l[i]? = some l[i] := List.getElem?_eq_getElem hi
    rw [lastOf_succ hi] at ih
    rw [List.drop_eq_getElem_cons hi]
    unfold linRes
    have hprev : (i = 0 ∧ lastOf l i = z0) ∨ (∃ k, i = k + 1 ∧ l[k]? = some (lastOf l i)) := by
      cases i with
      | zero => exact .inl ⟨rfl, rfl⟩
      | succ k => exact .inr ⟨k, rfl, by rw [lastOf_succ (by omega)]; exact List.getElem?_eq_getElem (by omega)⟩
    generalize lastOf l i = p at *
    generalize l[i] = x at *
    obtain ⟨pe, pf, pt⟩ := p
    obtain ⟨xe, xf, xt⟩ := x
    have hf' := hf
    simp only [fineS] at hf
    have F2 : IntKind.i64.wrap (pt + 1) = pt + 1 := i64_fits (by omega)
    have F3 : IntKind.i64.wrap (pe + 1) = pe + 1 := i64_fits (by omega)
    rcases hprev with ⟨rfl, hz⟩ | ⟨k, rfl, hkp⟩
    · cases hz
      have F4 : ((((0 : Nat) : Int)) > 0) = False := eq_false (by omega)
      by_cases c1 : xf = 1
      rotate_left
      · have G1 : (xf != 1) = true := by simpa using c1
        have hn : okNext ⟨0, 0, 0⟩ ⟨xe, xf, xt⟩ = false := by simp [okNext, c1]
        simp only [G1, fn43_b0, F1, F4, hk, eSpn, index_nat hi, List.getElem?_map, Option.map_some, List.isEmpty_nil, val_pvs, frozen_pvs, msnoc_len, msnoc_get, msnoc_set, msnoc_take, Int.le_refl, take_map_all, Nat.le_refl, St.freezeRows, BV.frozen, List.take_length, List.take_append_drop, z_repl_zero, Int.toNat_zero, true_and, and_true, and_self, eq_self, z_take_zero, List.drop_nil, List.take_nil, vAll, List.foldl_nil, List.foldl_cons, resultsOf, resultList, resultOf, zBV, splice, PV.remade, St.freezeAt, St.freezeBox, St.freezeCap, PV.single, plain, act, dstOf, if_true, if_false, reduceCtorEq, St.get, St.put, St.pvOf, St.putRow, St.consume, St.freeze, St.row, St.elems, St.grab, St.takeRow, St.setRow, St.place, St.optPv, St.setCell, St.setCellRow, binPV, intBin, unPV, BV.val, Nat.reduceEqDiff, bound, consumeAll, buildParts, capsOf, capOf, List.append_nil, Nat.reduceAdd, Nat.reduceLT, Nat.reduceLeDiff, beq_self_eq_true, List.length_map, Nat.beq, dcall, dcallP, List.mapM_cons, St.snapFn, St.snap, St.layAll, St.lay, St.freezeArg, St.freezeArg1]
        simp only [hn]
        rfl
      have G1 : (xf != 1) = false := by simpa using c1
      by_cases c2 : xt < xf
      · have G2 : (xt < xf) = True := eq_true c2
        have hn : okNext ⟨0, 0, 0⟩ ⟨xe, xf, xt⟩ = false := by simp [okNext]; omega
        simp only [G1, G2, fn43_b0, F1, F4, hk, eSpn, index_nat hi, List.getElem?_map, Option.map_some, List.isEmpty_nil, val_pvs, frozen_pvs, msnoc_len, msnoc_get, msnoc_set, msnoc_take, Int.le_refl, take_map_all, Nat.le_refl, St.freezeRows, BV.frozen, List.take_length, List.take_append_drop, z_repl_zero, Int.toNat_zero, true_and, and_true, and_self, eq_self, z_take_zero, List.drop_nil, List.take_nil, vAll, List.foldl_nil, List.foldl_cons, resultsOf, resultList, resultOf, zBV, splice, PV.remade, St.freezeAt, St.freezeBox, St.freezeCap, PV.single, plain, act, dstOf, if_true, if_false, reduceCtorEq, St.get, St.put, St.pvOf, St.putRow, St.consume, St.freeze, St.row, St.elems, St.grab, St.takeRow, St.setRow, St.place, St.optPv, St.setCell, St.setCellRow, binPV, intBin, unPV, BV.val, Nat.reduceEqDiff, bound, consumeAll, buildParts, capsOf, capOf, List.append_nil, Nat.reduceAdd, Nat.reduceLT, Nat.reduceLeDiff, beq_self_eq_true, List.length_map, Nat.beq, dcall, dcallP, List.mapM_cons, St.snapFn, St.snap, St.layAll, St.lay, St.freezeArg, St.freezeArg1]
        simp only [hn]
        rfl
      have G2 : (xt < xf) = False := eq_false c2
      by_cases c3 : xt > 1073741824
      · have G3 : (xt > 1073741824) = True := eq_true c3
        have hn : okNext ⟨0, 0, 0⟩ ⟨xe, xf, xt⟩ = false := by simp [okNext]; omega
        simp only [G1, G2, G3, fn43_b0, F1, F4, hk, eSpn, index_nat hi, List.getElem?_map, Option.map_some, List.isEmpty_nil, val_pvs, frozen_pvs, msnoc_len, msnoc_get, msnoc_set, msnoc_take, Int.le_refl, take_map_all, Nat.le_refl, St.freezeRows, BV.frozen, List.take_length, List.take_append_drop, z_repl_zero, Int.toNat_zero, true_and, and_true, and_self, eq_self, z_take_zero, List.drop_nil, List.take_nil, vAll, List.foldl_nil, List.foldl_cons, resultsOf, resultList, resultOf, zBV, splice, PV.remade, St.freezeAt, St.freezeBox, St.freezeCap, PV.single, plain, act, dstOf, if_true, if_false, reduceCtorEq, St.get, St.put, St.pvOf, St.putRow, St.consume, St.freeze, St.row, St.elems, St.grab, St.takeRow, St.setRow, St.place, St.optPv, St.setCell, St.setCellRow, binPV, intBin, unPV, BV.val, Nat.reduceEqDiff, bound, consumeAll, buildParts, capsOf, capOf, List.append_nil, Nat.reduceAdd, Nat.reduceLT, Nat.reduceLeDiff, beq_self_eq_true, List.length_map, Nat.beq, dcall, dcallP, List.mapM_cons, St.snapFn, St.snap, St.layAll, St.lay, St.freezeArg, St.freezeArg1]
        simp only [hn]
        rfl
      have G3 : (xt > 1073741824) = False := eq_false c3
      by_cases c4 : xe < 1
      · have G4 : (xe < 1) = True := eq_true c4
        have hn : okNext ⟨0, 0, 0⟩ ⟨xe, xf, xt⟩ = false := by simp [okNext]; omega
        simp only [G1, G2, G3, G4, fn43_b0, F1, F4, hk, eSpn, index_nat hi, List.getElem?_map, Option.map_some, List.isEmpty_nil, val_pvs, frozen_pvs, msnoc_len, msnoc_get, msnoc_set, msnoc_take, Int.le_refl, take_map_all, Nat.le_refl, St.freezeRows, BV.frozen, List.take_length, List.take_append_drop, z_repl_zero, Int.toNat_zero, true_and, and_true, and_self, eq_self, z_take_zero, List.drop_nil, List.take_nil, vAll, List.foldl_nil, List.foldl_cons, resultsOf, resultList, resultOf, zBV, splice, PV.remade, St.freezeAt, St.freezeBox, St.freezeCap, PV.single, plain, act, dstOf, if_true, if_false, reduceCtorEq, St.get, St.put, St.pvOf, St.putRow, St.consume, St.freeze, St.row, St.elems, St.grab, St.takeRow, St.setRow, St.place, St.optPv, St.setCell, St.setCellRow, binPV, intBin, unPV, BV.val, Nat.reduceEqDiff, bound, consumeAll, buildParts, capsOf, capOf, List.append_nil, Nat.reduceAdd, Nat.reduceLT, Nat.reduceLeDiff, beq_self_eq_true, List.length_map, Nat.beq, dcall, dcallP, List.mapM_cons, St.snapFn, St.snap, St.layAll, St.lay, St.freezeArg, St.freezeArg1]
        simp only [hn]
        rfl
      have G4 : (xe < 1) = False := eq_false c4
      by_cases c5 : xe > 1073741824
      · have G5 : (xe > 1073741824) = True := eq_true c5
        have hn : okNext ⟨0, 0, 0⟩ ⟨xe, xf, xt⟩ = false := by simp [okNext]; omega
        simp only [G1, G2, G3, G4, G5, fn43_b0, F1, F4, hk, eSpn, index_nat hi, List.getElem?_map, Option.map_some, List.isEmpty_nil, val_pvs, frozen_pvs, msnoc_len, msnoc_get, msnoc_set, msnoc_take, Int.le_refl, take_map_all, Nat.le_refl, St.freezeRows, BV.frozen, List.take_length, List.take_append_drop, z_repl_zero, Int.toNat_zero, true_and, and_true, and_self, eq_self, z_take_zero, List.drop_nil, List.take_nil, vAll, List.foldl_nil, List.foldl_cons, resultsOf, resultList, resultOf, zBV, splice, PV.remade, St.freezeAt, St.freezeBox, St.freezeCap, PV.single, plain, act, dstOf, if_true, if_false, reduceCtorEq, St.get, St.put, St.pvOf, St.putRow, St.consume, St.freeze, St.row, St.elems, St.grab, St.takeRow, St.setRow, St.place, St.optPv, St.setCell, St.setCellRow, binPV, intBin, unPV, BV.val, Nat.reduceEqDiff, bound, consumeAll, buildParts, capsOf, capOf, List.append_nil, Nat.reduceAdd, Nat.reduceLT, Nat.reduceLeDiff, beq_self_eq_true, List.length_map, Nat.beq, dcall, dcallP, List.mapM_cons, St.snapFn, St.snap, St.layAll, St.lay, St.freezeArg, St.freezeArg1]
        simp only [hn]
        rfl
      have G5 : (xe > 1073741824) = False := eq_false c5
      have hn : okNext ⟨0, 0, 0⟩ ⟨xe, xf, xt⟩ = true := by simp [okNext]; omega
      have hfx := (okNext_fine hn hf').1
      simp only [G1, G2, G3, G4, G5, fn43_b0, F1, F4, hk, eSpn, index_nat hi, List.getElem?_map, Option.map_some, List.isEmpty_nil, val_pvs, frozen_pvs, msnoc_len, msnoc_get, msnoc_set, msnoc_take, Int.le_refl, take_map_all, Nat.le_refl, St.freezeRows, BV.frozen, List.take_length, List.take_append_drop, z_repl_zero, Int.toNat_zero, true_and, and_true, and_self, eq_self, z_take_zero, List.drop_nil, List.take_nil, vAll, List.foldl_nil, List.foldl_cons, resultsOf, resultList, resultOf, zBV, splice, PV.remade, St.freezeAt, St.freezeBox, St.freezeCap, PV.single, plain, act, dstOf, if_true, if_false, reduceCtorEq, St.get, St.put, St.pvOf, St.putRow, St.consume, St.freeze, St.row, St.elems, St.grab, St.takeRow, St.setRow, St.place, St.optPv, St.setCell, St.setCellRow, binPV, intBin, unPV, BV.val, Nat.reduceEqDiff, bound, consumeAll, buildParts, capsOf, capOf, List.append_nil, Nat.reduceAdd, Nat.reduceLT, Nat.reduceLeDiff, beq_self_eq_true, List.length_map, Nat.beq, dcall, dcallP, List.mapM_cons, St.snapFn, St.snap, St.layAll, St.lay, St.freezeArg, St.freezeArg1]
      rw [ih hfx _ (by simp only [hi1]; rfl)]
      simp only [hn, if_true] <;> rfl
    · have hkl : k < l.length := by omega
      have F4 : ((((k + 1 : Nat) : Int)) > 0) = True := eq_true (by omega)
      have F5 : IntKind.i64.wrap (((k + 1 : Nat) : Int) - 1) = (k : Int) := by
        have hl' := hl
        unfold lim at hl'
        rw [i64_fits (by omega)]; omega
      by_cases c1 : xf = pt + 1
      rotate_left
      · have G1 : (xf != pt + 1) = true := by simpa using c1
        have hn : okNext ⟨pe, pf, pt⟩ ⟨xe, xf, xt⟩ = false := by simp [okNext, c1]
        simp only [G1, fn43_b0, F1, F2, F3, F4, F5, hk, hkp, eSpn, index_nat hi, index_nat hkl, List.getElem?_map, Option.map_some, List.isEmpty_nil, val_pvs, frozen_pvs, msnoc_len, msnoc_get, msnoc_set, msnoc_take, Int.le_refl, take_map_all, Nat.le_refl, St.freezeRows, BV.frozen, List.take_length, List.take_append_drop, z_repl_zero, Int.toNat_zero, true_and, and_true, and_self, eq_self, z_take_zero, List.drop_nil, List.take_nil, vAll, List.foldl_nil, List.foldl_cons, resultsOf, resultList, resultOf, zBV, splice, PV.remade, St.freezeAt, St.freezeBox, St.freezeCap, PV.single, plain, act, dstOf, if_true, if_false, reduceCtorEq, St.get, St.put, St.pvOf, St.putRow, St.consume, St.freeze, St.row, St.elems, St.grab, St.takeRow, St.setRow, St.place, St.optPv, St.setCell, St.setCellRow, binPV, intBin, unPV, BV.val, Nat.reduceEqDiff, bound, consumeAll, buildParts, capsOf, capOf, List.append_nil, Nat.reduceAdd, Nat.reduceLT, Nat.reduceLeDiff, beq_self_eq_true, List.length_map, Nat.beq, dcall, dcallP, List.mapM_cons, St.snapFn, St.snap, St.layAll, St.lay, St.freezeArg, St.freezeArg1]
        simp only [hn]
        rfl
      have G1 : (xf != pt + 1) = false := by simpa using c1
      by_cases c2 : xt < xf
      · have G2 : (xt < xf) = True := eq_true c2
        have hn : okNext ⟨pe, pf, pt⟩ ⟨xe, xf, xt⟩ = false := by simp [okNext]; omega
        simp only [G1, G2, fn43_b0, F1, F2, F3, F4, F5, hk, hkp, eSpn, index_nat hi, index_nat hkl, List.getElem?_map, Option.map_some, List.isEmpty_nil, val_pvs, frozen_pvs, msnoc_len, msnoc_get, msnoc_set, msnoc_take, Int.le_refl, take_map_all, Nat.le_refl, St.freezeRows, BV.frozen, List.take_length, List.take_append_drop, z_repl_zero, Int.toNat_zero, true_and, and_true, and_self, eq_self, z_take_zero, List.drop_nil, List.take_nil, vAll, List.foldl_nil, List.foldl_cons, resultsOf, resultList, resultOf, zBV, splice, PV.remade, St.freezeAt, St.freezeBox, St.freezeCap, PV.single, plain, act, dstOf, if_true, if_false, reduceCtorEq, St.get, St.put, St.pvOf, St.putRow, St.consume, St.freeze, St.row, St.elems, St.grab, St.takeRow, St.setRow, St.place, St.optPv, St.setCell, St.setCellRow, binPV, intBin, unPV, BV.val, Nat.reduceEqDiff, bound, consumeAll, buildParts, capsOf, capOf, List.append_nil, Nat.reduceAdd, Nat.reduceLT, Nat.reduceLeDiff, beq_self_eq_true, List.length_map, Nat.beq, dcall, dcallP, List.mapM_cons, St.snapFn, St.snap, St.layAll, St.lay, St.freezeArg, St.freezeArg1]
        simp only [hn]
        rfl
      have G2 : (xt < xf) = False := eq_false c2
      by_cases c3 : xt > 1073741824
      · have G3 : (xt > 1073741824) = True := eq_true c3
        have hn : okNext ⟨pe, pf, pt⟩ ⟨xe, xf, xt⟩ = false := by simp [okNext]; omega
        simp only [G1, G2, G3, fn43_b0, F1, F2, F3, F4, F5, hk, hkp, eSpn, index_nat hi, index_nat hkl, List.getElem?_map, Option.map_some, List.isEmpty_nil, val_pvs, frozen_pvs, msnoc_len, msnoc_get, msnoc_set, msnoc_take, Int.le_refl, take_map_all, Nat.le_refl, St.freezeRows, BV.frozen, List.take_length, List.take_append_drop, z_repl_zero, Int.toNat_zero, true_and, and_true, and_self, eq_self, z_take_zero, List.drop_nil, List.take_nil, vAll, List.foldl_nil, List.foldl_cons, resultsOf, resultList, resultOf, zBV, splice, PV.remade, St.freezeAt, St.freezeBox, St.freezeCap, PV.single, plain, act, dstOf, if_true, if_false, reduceCtorEq, St.get, St.put, St.pvOf, St.putRow, St.consume, St.freeze, St.row, St.elems, St.grab, St.takeRow, St.setRow, St.place, St.optPv, St.setCell, St.setCellRow, binPV, intBin, unPV, BV.val, Nat.reduceEqDiff, bound, consumeAll, buildParts, capsOf, capOf, List.append_nil, Nat.reduceAdd, Nat.reduceLT, Nat.reduceLeDiff, beq_self_eq_true, List.length_map, Nat.beq, dcall, dcallP, List.mapM_cons, St.snapFn, St.snap, St.layAll, St.lay, St.freezeArg, St.freezeArg1]
        simp only [hn]
        rfl
      have G3 : (xt > 1073741824) = False := eq_false c3
      by_cases c4 : xe < pe + 1
      · have G4 : (xe < pe + 1) = True := eq_true c4
        have hn : okNext ⟨pe, pf, pt⟩ ⟨xe, xf, xt⟩ = false := by simp [okNext]; omega
        simp only [G1, G2, G3, G4, fn43_b0, F1, F2, F3, F4, F5, hk, hkp, eSpn, index_nat hi, index_nat hkl, List.getElem?_map, Option.map_some, List.isEmpty_nil, val_pvs, frozen_pvs, msnoc_len, msnoc_get, msnoc_set, msnoc_take, Int.le_refl, take_map_all, Nat.le_refl, St.freezeRows, BV.frozen, List.take_length, List.take_append_drop, z_repl_zero, Int.toNat_zero, true_and, and_true, and_self, eq_self, z_take_zero, List.drop_nil, List.take_nil, vAll, List.foldl_nil, List.foldl_cons, resultsOf, resultList, resultOf, zBV, splice, PV.remade, St.freezeAt, St.freezeBox, St.freezeCap, PV.single, plain, act, dstOf, if_true, if_false, reduceCtorEq, St.get, St.put, St.pvOf, St.putRow, St.consume, St.freeze, St.row, St.elems, St.grab, St.takeRow, St.setRow, St.place, St.optPv, St.setCell, St.setCellRow, binPV, intBin, unPV, BV.val, Nat.reduceEqDiff, bound, consumeAll, buildParts, capsOf, capOf, List.append_nil, Nat.reduceAdd, Nat.reduceLT, Nat.reduceLeDiff, beq_self_eq_true, List.length_map, Nat.beq, dcall, dcallP, List.mapM_cons, St.snapFn, St.snap, St.layAll, St.lay, St.freezeArg, St.freezeArg1]
        simp only [hn]
        rfl
      have G4 : (xe < pe + 1) = False := eq_false c4
      by_cases c5 : xe > 1073741824
      · have G5 : (xe > 1073741824) = True := eq_true c5
        have hn : okNext ⟨pe, pf, pt⟩ ⟨xe, xf, xt⟩ = false := by simp [okNext]; omega
        simp only [G1, G2, G3, G4, G5, fn43_b0, F1, F2, F3, F4, F5, hk, hkp, eSpn, index_nat hi, index_nat hkl, List.getElem?_map, Option.map_some, List.isEmpty_nil, val_pvs, frozen_pvs, msnoc_len, msnoc_get, msnoc_set, msnoc_take, Int.le_refl, take_map_all, Nat.le_refl, St.freezeRows, BV.frozen, List.take_length, List.take_append_drop, z_repl_zero, Int.toNat_zero, true_and, and_true, and_self, eq_self, z_take_zero, List.drop_nil, List.take_nil, vAll, List.foldl_nil, List.foldl_cons, resultsOf, resultList, resultOf, zBV, splice, PV.remade, St.freezeAt, St.freezeBox, St.freezeCap, PV.single, plain, act, dstOf, if_true, if_false, reduceCtorEq, St.get, St.put, St.pvOf, St.putRow, St.consume, St.freeze, St.row, St.elems, St.grab, St.takeRow, St.setRow, St.place, St.optPv, St.setCell, St.setCellRow, binPV, intBin, unPV, BV.val, Nat.reduceEqDiff, bound, consumeAll, buildParts, capsOf, capOf, List.append_nil, Nat.reduceAdd, Nat.reduceLT, Nat.reduceLeDiff, beq_self_eq_true, List.length_map, Nat.beq, dcall, dcallP, List.mapM_cons, St.snapFn, St.snap, St.layAll, St.lay, St.freezeArg, St.freezeArg1]
        simp only [hn]
        rfl
      have G5 : (xe > 1073741824) = False := eq_false c5
      have hn : okNext ⟨pe, pf, pt⟩ ⟨xe, xf, xt⟩ = true := by simp [okNext]; omega
      have hfx := (okNext_fine hn hf').1
      simp only [G1, G2, G3, G4, G5, fn43_b0, F1, F2, F3, F4, F5, hk, hkp, eSpn, index_nat hi, index_nat hkl, List.getElem?_map, Option.map_some, List.isEmpty_nil, val_pvs, frozen_pvs, msnoc_len, msnoc_get, msnoc_set, msnoc_take, Int.le_refl, take_map_all, Nat.le_refl, St.freezeRows, BV.frozen, List.take_length, List.take_append_drop, z_repl_zero, Int.toNat_zero, true_and, and_true, and_self, eq_self, z_take_zero, List.drop_nil, List.take_nil, vAll, List.foldl_nil, List.foldl_cons, resultsOf, resultList, resultOf, zBV, splice, PV.remade, St.freezeAt, St.freezeBox, St.freezeCap, PV.single, plain, act, dstOf, if_true, if_false, reduceCtorEq, St.get, St.put, St.pvOf, St.putRow, St.consume, St.freeze, St.row, St.elems, St.grab, St.takeRow, St.setRow, St.place, St.optPv, St.setCell, St.setCellRow, binPV, intBin, unPV, BV.val, Nat.reduceEqDiff, bound, consumeAll, buildParts, capsOf, capOf, List.append_nil, Nat.reduceAdd, Nat.reduceLT, Nat.reduceLeDiff, beq_self_eq_true, List.length_map, Nat.beq, dcall, dcallP, List.mapM_cons, St.snapFn, St.snap, St.layAll, St.lay, St.freezeArg, St.freezeArg1]
      rw [ih hfx _ (by simp only [hi1]; rfl)]
      simp only [hn, if_true] <;> rfl
  · intro rb hf
    simp only [fn43_b0, Int.lt_irrefl, List.isEmpty_nil, val_pvs, frozen_pvs, msnoc_len, msnoc_get, msnoc_set, msnoc_take, Int.le_refl, take_map_all, Nat.le_refl, St.freezeRows, BV.frozen, List.take_length, List.take_append_drop, z_repl_zero, Int.toNat_zero, true_and, and_true, and_self, eq_self, z_take_zero, List.drop_nil, List.take_nil, vAll, List.foldl_nil, List.foldl_cons, resultsOf, resultList, resultOf, zBV, splice, PV.remade, St.freezeAt, St.freezeBox, St.freezeCap, PV.single, plain, act, dstOf, if_true, if_false, reduceCtorEq, St.get, St.put, St.pvOf, St.putRow, St.consume, St.freeze, St.row, St.elems, St.grab, St.takeRow, St.setRow, St.place, St.optPv, St.setCell, St.setCellRow, binPV, intBin, unPV, BV.val, Nat.reduceEqDiff, bound, consumeAll, buildParts, capsOf, capOf, List.append_nil, Nat.reduceAdd, Nat.reduceLT, Nat.reduceLeDiff, beq_self_eq_true, List.length_map, Nat.beq, dcall, dcallP, List.mapM_cons, St.snapFn, St.snap, St.layAll, St.lay, St.freezeArg, St.freezeArg1]
    rw [List.drop_length]
    rfl
end Go.Proofs.Ytpdfhckdmblicaa.V

namespace Go.Proofs.Ytpdfhckdmblicaa.V
set_option linter.all false

theorem cal43 {l : List Spn} (hl : l.length ≤ lim) : cal env 43 [.list 3 (l.map eSpn)] = some [(.bool (linOk l), false)] := by
  rw [cal_code env43 rfl]; simp only [fn43]; simp only [start, z_map_cons, z_map_nil, z_len_cons, z_len_nil, z_repl_zero, z_repl_succ, z_cons_app, z_nil_app, Nat.reduceAdd, Nat.reduceSub]
  simp only [ List.isEmpty_nil, val_pvs, frozen_pvs, msnoc_len, msnoc_get, msnoc_set, msnoc_take, Int.le_refl, take_map_all, Nat.le_refl, St.freezeRows, BV.frozen, List.take_length, List.take_append_drop, z_repl_zero, Int.toNat_zero, true_and, and_true, and_self, eq_self, z_take_zero, List.drop_nil, List.take_nil, vAll, List.foldl_nil, List.foldl_cons, resultsOf, resultList, resultOf, zBV, splice, PV.remade, St.freezeAt, St.freezeBox, St.freezeCap, PV.single, plain, act, dstOf, if_true, if_false, reduceCtorEq, St.get, St.put, St.pvOf, St.putRow, St.consume, St.freeze, St.row, St.elems, St.grab, St.takeRow, St.setRow, St.place, St.optPv, St.setCell, St.setCellRow, binPV, intBin, unPV, BV.val, Nat.reduceEqDiff, bound, consumeAll, buildParts, capsOf, capOf, List.append_nil, Nat.reduceAdd, Nat.reduceLT, Nat.reduceLeDiff, beq_self_eq_true, List.length_map, Nat.beq, dcall, dcallP, List.mapM_cons, St.snapFn, St.snap, St.layAll, St.lay, St.freezeArg, St.freezeArg1]
  rw [loop43 hl]
  rotate_left
  · rfl
  · have := linRes_go l z0
    cases h : linRes z0 l with
    | mk t p =>
      rw [h] at this
      cases t with
      | true => simp only [linOk, ← this, List.isEmpty_nil, val_pvs, frozen_pvs, msnoc_len, msnoc_get, msnoc_set, msnoc_take, Int.le_refl, take_map_all, Nat.le_refl, St.freezeRows, BV.frozen, List.take_length, List.take_append_drop, z_repl_zero, Int.toNat_zero, true_and, and_true, and_self, eq_self, z_take_zero, List.drop_nil, List.take_nil, vAll, List.foldl_nil, List.foldl_cons, resultsOf, resultList, resultOf, zBV, splice, PV.remade, St.freezeAt, St.freezeBox, St.freezeCap, PV.single, plain, act, dstOf, if_true, if_false, reduceCtorEq, St.get, St.put, St.pvOf, St.putRow, St.consume, St.freeze, St.row, St.elems, St.grab, St.takeRow, St.setRow, St.place, St.optPv, St.setCell, St.setCellRow, binPV, intBin, unPV, BV.val, Nat.reduceEqDiff, bound, consumeAll, buildParts, capsOf, capOf, List.append_nil, Nat.reduceAdd, Nat.reduceLT, Nat.reduceLeDiff, beq_self_eq_true, List.length_map, Nat.beq, dcall, dcallP, List.mapM_cons, St.snapFn, St.snap, St.layAll, St.lay, St.freezeArg, St.freezeArg1]
      | false => simp only [linOk, ← this, List.isEmpty_nil, val_pvs, frozen_pvs, msnoc_len, msnoc_get, msnoc_set, msnoc_take, Int.le_refl, take_map_all, Nat.le_refl, St.freezeRows, BV.frozen, List.take_length, List.take_append_drop, z_repl_zero, Int.toNat_zero, true_and, and_true, and_self, eq_self, z_take_zero, List.drop_nil, List.take_nil, vAll, List.foldl_nil, List.foldl_cons, resultsOf, resultList, resultOf, zBV, splice, PV.remade, St.freezeAt, St.freezeBox, St.freezeCap, PV.single, plain, act, dstOf, if_true, if_false, reduceCtorEq, St.get, St.put, St.pvOf, St.putRow, St.consume, St.freeze, St.row, St.elems, St.grab, St.takeRow, St.setRow, St.place, St.optPv, St.setCell, St.setCellRow, binPV, intBin, unPV, BV.val, Nat.reduceEqDiff, bound, consumeAll, buildParts, capsOf, capOf, List.append_nil, Nat.reduceAdd, Nat.reduceLT, Nat.reduceLeDiff, beq_self_eq_true, List.length_map, Nat.beq, dcall, dcallP, List.mapM_cons, St.snapFn, St.snap, St.layAll, St.lay, St.freezeArg, St.freezeArg1]
def endOf (l : List Spn) : Int := (lastOf l l.length).to
end Go.Proofs.Ytpdfhckdmblicaa.V

namespace Go.Proofs.Ytpdfhckdmblicaa.V
set_option linter.all false
theorem clean_from {α β : Type} {keep post : List Nat} {id nb : Nat} {b : VCode} {l : List α} (i0 : Nat) (S : Nat → β → St) (R : Nat → List α → β → Option (Ex × St)) (P : Nat → β → Prop) (b0 : β) {st : St} (h : st.head keep st.boxes.length = some (S i0 b0)) (hl : l.length ≤ lim) (hi0 : i0 ≤ l.length) (hP : P i0 b0)
    (hS : ∀ i c, (S i c).boxes.length = nb) (hh : ∀ i c, (S i c).head keep nb = some (S i c))
    (step : ∀ i x r c rb, i < l.length → l[i]? = some x → l.drop (i + 1) = r → ((i : Int) < (l.length : Int)) = True → IntKind.i64.wrap ((i : Int) + 1) = ((i + 1 : Nat) : Int) → P i c →
      (∀ c' s, P (i + 1) c' → s.head keep nb = some (S (i + 1) c') → tailOf env id post nb (den env rb s) = R (i + 1) r c') → tailOf env id post nb ((den env b (S i c)).bind (next env rb)) = R i (x :: r) c)
    (last : ∀ c rb, P l.length c → tailOf env id post nb ((den env b (S l.length c)).bind (next env rb)) = R l.length [] c) :
    den env (.clean keep post (.block id (.loop keep b))) st = R i0 (l.drop i0) b0 := by
  refine clean_rec (fun p : Nat × β => S p.1 p.2) (fun p => R p.1 (l.drop p.1) p.2) (fun p => p.1 ≤ l.length ∧ P p.1 p.2) (fun p => l.length - p.1) (i0, b0) h ⟨hi0, hP⟩ (fun p => hS p.1 p.2) (fun p => hh p.1 p.2) ?_
  rintro ⟨i, c⟩ rb ⟨hi, hp⟩ ih
  by_cases hn : i = l.length
  · subst hn
    simp only [List.drop_length]
    exact last c rb hp
  · have hlt : i < l.length := by simp only at hi; omega
    simp only
    rw [List.drop_eq_getElem_cons hlt]
    refine step i _ _ c rb hlt (List.getElem?_eq_getElem hlt) rfl (eq_true (by omega)) (i64_next hlt hl) hp fun c' s hp' hs => ?_
    exact ih (i + 1, c') (by simp only; omega) ⟨by simp only; omega, hp'⟩ s hs
theorem clean_list {α β : Type} {keep post : List Nat} {id nb : Nat} {b : VCode} {l : List α} (S : Nat → β → St) (R : Nat → List α → β → Option (Ex × St)) (P : Nat → β → Prop) (b0 : β) {st : St} (h : st.head keep st.boxes.length = some (S 0 b0)) (hl : l.length ≤ lim) (hP : P 0 b0)
    (hS : ∀ i c, (S i c).boxes.length = nb) (hh : ∀ i c, (S i c).head keep nb = some (S i c))
    (step : ∀ i x r c rb, i < l.length → l[i]? = some x → l.drop (i + 1) = r → ((i : Int) < (l.length : Int)) = True → IntKind.i64.wrap ((i : Int) + 1) = ((i + 1 : Nat) : Int) → P i c →
      (∀ c' s, P (i + 1) c' → s.head keep nb = some (S (i + 1) c') → tailOf env id post nb (den env rb s) = R (i + 1) r c') → tailOf env id post nb ((den env b (S i c)).bind (next env rb)) = R i (x :: r) c)
    (last : ∀ c rb, P l.length c → tailOf env id post nb ((den env b (S l.length c)).bind (next env rb)) = R l.length [] c) :
    den env (.clean keep post (.block id (.loop keep b))) st = R 0 l b0 := by
  have := clean_from (l := l) 0 S R P b0 h hl (Nat.zero_le _) hP hS hh step last
  rwa [List.drop_zero] at this
theorem rng_foldP {β : Type} (B : β → List Box) (F : β → List PV → β) (P : Nat → β → Prop) (b0 : β) {g : Opd} {ps : List Nat} {assign body : VCode} {st : St} {f : Nat} {caps : List PV} {xs : List (List PV)} (hg : st.pvOf g = some (.func f caps)) (hi : iter env f caps none = some xs)
    (hB : st.boxes = B b0) (hP : P 0 b0)
    (h : ∀ j b x, P j b → xs[j]? = some x → ∀ sl0, P (j + 1) (F b x) ∧ ∃ sl1, round1 env (st.slots.map AV.froze) ps assign body st.boxes.length x ⟨sl0, B b, st.ys, st.stop⟩ = some (.normal, ⟨sl1, B (F b x), st.ys, st.stop⟩)) :
    den env (.rng g ps assign body) st = some (.normal, ⟨st.slots.map AV.froze, B (xs.foldl F b0), st.ys, st.stop⟩) := by
  have hsn : ∀ j x, xs[j]? = some x → xs.take (j + 1) = xs.take j ++ [x] := by
    intro j x hx
    rw [List.take_add_one, hx]; rfl
  have key : ∀ j, j ≤ xs.length → P j ((xs.take j).foldl F b0) := by
    intro j
    induction j with
    | zero => intro _; simpa using hP
    | succ j ih =>
      intro hj
      have hx := List.getElem?_eq_getElem (l := xs) (i := j) (by omega)
      rw [hsn _ _ hx, List.foldl_append]
      exact (h j _ _ (ih (by omega)) hx []).1
  have := rng_idx (env := env) (fun j => B ((xs.take j).foldl F b0)) hg hi (by simpa using hB) (ps := ps) (assign := assign) (body := body) ?_
  · rw [this, List.take_length]
  · intro j x hx sl0
    have hj := (List.getElem?_eq_some_iff.1 hx).1
    rw [hsn _ _ hx, List.foldl_append]
    exact (h j _ _ (key j (by omega)) hx sl0).2
end Go.Proofs.Ytpdfhckdmblicaa.V

namespace Go.Proofs.Ytpdfhckdmblicaa.V
set_option linter.all false
def eRule (r : Nat × List PV × Int) : PV := .agg [.func r.1 r.2.1, .int .i64 r.2.2]
theorem loop96 {rs : List (Nat × List PV × Int)} (hok : ∀ r ∈ rs, cal env r.1 r.2.1 = some [(.bool true, false)]) (hl : rs.length ≤ lim)
   {st : St} (h : st.head [0, 5, 6, 7] st.boxes.length = some ⟨[.pv (.list 2 (rs.map eRule)), .any, .any, .any, .any, .pv (.list 2 (rs.map eRule)), .pv (.int .i64 rs.length), .pv (.int .i64 (0 : Nat)), .any, .any, .any, .any, .any, .any, .any, .any, .any, .any], [], [], none⟩) :
   den env fn96_l1 st = some (.normal, ⟨[.any, .any, .any, .any, .any, .any, .any, .any, .any, .any, .any, .any, .any, .any, .any, .any, .any, .any], [], [], none⟩) := by
  unfold fn96_l1
  refine clean_list (l := rs) (fun i (_ : Unit) => ⟨[.pv (.list 2 (rs.map eRule)), .any, .any, .any, .any, .pv (.list 2 (rs.map eRule)), .pv (.int .i64 rs.length), .pv (.int .i64 i), .any, .any, .any, .any, .any, .any, .any, .any, .any, .any], [], [], none⟩) (fun _ _ _ => some (.normal, ⟨[.any, .any, .any, .any, .any, .any, .any, .any, .any, .any, .any, .any, .any, .any, .any, .any, .any, .any], [], [], none⟩)) (fun _ _ => True) () h hl trivial (fun _ _ => rfl) (fun _ _ => rfl) ?_ ?_
  · intro i x r c rb hi hx hr F1 F2 _ ih
    have e1 := hok x (List.mem_of_getElem? hx)
    obtain ⟨f, caps, e⟩ := x
    simp only at e1
    simp only [fn96_b0, F1, F2, hx, e1, eRule, index_nat hi, List.getElem?_map, Option.map_some, z_nil_app, List.isEmpty_nil, val_pvs, frozen_pvs, msnoc_len, msnoc_get, msnoc_set, msnoc_take, Int.le_refl, take_map_all, Nat.le_refl, St.freezeRows, BV.frozen, List.take_length, List.take_append_drop, z_repl_zero, Int.toNat_zero, true_and, and_true, and_self, eq_self, z_take_zero, List.drop_nil, List.take_nil, vAll, List.foldl_nil, List.foldl_cons, resultsOf, resultList, resultOf, zBV, splice, PV.remade, St.freezeAt, St.freezeBox, St.freezeCap, PV.single, plain, act, dstOf, if_true, if_false, reduceCtorEq, St.get, St.put, St.pvOf, St.putRow, St.consume, St.freeze, St.row, St.elems, St.grab, St.takeRow, St.setRow, St.place, St.optPv, St.setCell, St.setCellRow, binPV, intBin, unPV, BV.val, Nat.reduceEqDiff, bound, consumeAll, buildParts, capsOf, capOf, List.append_nil, Nat.reduceAdd, Nat.reduceLT, Nat.reduceLeDiff, beq_self_eq_true, List.length_map, Nat.beq, dcall, dcallP, List.mapM_cons, St.snapFn, St.snap, St.layAll, St.lay, St.freezeArg, St.freezeArg1]
    exact ih () _ trivial rfl
  · intro c rb hp
    simp only [fn96_b0, Int.lt_irrefl, List.isEmpty_nil, val_pvs, frozen_pvs, msnoc_len, msnoc_get, msnoc_set, msnoc_take, Int.le_refl, take_map_all, Nat.le_refl, St.freezeRows, BV.frozen, List.take_length, List.take_append_drop, z_repl_zero, Int.toNat_zero, true_and, and_true, and_self, eq_self, z_take_zero, List.drop_nil, List.take_nil, vAll, List.foldl_nil, List.foldl_cons, resultsOf, resultList, resultOf, zBV, splice, PV.remade, St.freezeAt, St.freezeBox, St.freezeCap, PV.single, plain, act, dstOf, if_true, if_false, reduceCtorEq, St.get, St.put, St.pvOf, St.putRow, St.consume, St.freeze, St.row, St.elems, St.grab, St.takeRow, St.setRow, St.place, St.optPv, St.setCell, St.setCellRow, binPV, intBin, unPV, BV.val, Nat.reduceEqDiff, bound, consumeAll, buildParts, capsOf, capOf, List.append_nil, Nat.reduceAdd, Nat.reduceLT, Nat.reduceLeDiff, beq_self_eq_true, List.length_map, Nat.beq, dcall, dcallP, List.mapM_cons, St.snapFn, St.snap, St.layAll, St.lay, St.freezeArg, St.freezeArg1]
    rfl
theorem cal96 {rs : List (Nat × List PV × Int)} (hok : ∀ r ∈ rs, cal env r.1 r.2.1 = some [(.bool true, false)]) (hl : rs.length ≤ lim) : cal env 96 [.list 2 (rs.map eRule)] = some [(.int .i64 0, false)] := by
  rw [cal_code env96 rfl]; simp only [fn96]; simp only [start, z_map_cons, z_map_nil, z_len_cons, z_len_nil, z_repl_zero, z_repl_succ, z_cons_app, z_nil_app, Nat.reduceAdd, Nat.reduceSub]
  simp only [ List.isEmpty_nil, val_pvs, frozen_pvs, msnoc_len, msnoc_get, msnoc_set, msnoc_take, Int.le_refl, take_map_all, Nat.le_refl, St.freezeRows, BV.frozen, List.take_length, List.take_append_drop, z_repl_zero, Int.toNat_zero, true_and, and_true, and_self, eq_self, z_take_zero, List.drop_nil, List.take_nil, vAll, List.foldl_nil, List.foldl_cons, resultsOf, resultList, resultOf, zBV, splice, PV.remade, St.freezeAt, St.freezeBox, St.freezeCap, PV.single, plain, act, dstOf, if_true, if_false, reduceCtorEq, St.get, St.put, St.pvOf, St.putRow, St.consume, St.freeze, St.row, St.elems, St.grab, St.takeRow, St.setRow, St.place, St.optPv, St.setCell, St.setCellRow, binPV, intBin, unPV, BV.val, Nat.reduceEqDiff, bound, consumeAll, buildParts, capsOf, capOf, List.append_nil, Nat.reduceAdd, Nat.reduceLT, Nat.reduceLeDiff, beq_self_eq_true, List.length_map, Nat.beq, dcall, dcallP, List.mapM_cons, St.snapFn, St.snap, St.layAll, St.lay, St.freezeArg, St.freezeArg1]
  rw [loop96 hok hl]
  rotate_left
  · rfl
  simp only [ List.isEmpty_nil, val_pvs, frozen_pvs, msnoc_len, msnoc_get, msnoc_set, msnoc_take, Int.le_refl, take_map_all, Nat.le_refl, St.freezeRows, BV.frozen, List.take_length, List.take_append_drop, z_repl_zero, Int.toNat_zero, true_and, and_true, and_self, eq_self, z_take_zero, List.drop_nil, List.take_nil, vAll, List.foldl_nil, List.foldl_cons, resultsOf, resultList, resultOf, zBV, splice, PV.remade, St.freezeAt, St.freezeBox, St.freezeCap, PV.single, plain, act, dstOf, if_true, if_false, reduceCtorEq, St.get, St.put, St.pvOf, St.putRow, St.consume, St.freeze, St.row, St.elems, St.grab, St.takeRow, St.setRow, St.place, St.optPv, St.setCell, St.setCellRow, binPV, intBin, unPV, BV.val, Nat.reduceEqDiff, bound, consumeAll, buildParts, capsOf, capOf, List.append_nil, Nat.reduceAdd, Nat.reduceLT, Nat.reduceLeDiff, beq_self_eq_true, List.length_map, Nat.beq, dcall, dcallP, List.mapM_cons, St.snapFn, St.snap, St.layAll, St.lay, St.freezeArg, St.freezeArg1]
theorem cal98 {n low : Int} (h1 : low ≤ n) (h2 : n ≤ 1073741824) : cal env 98 [.int .i64 n, .int .i64 low] = some [(.bool true, false)] := by
  have G1 : (n ≥ low) = True := eq_true h1
  have G2 : (n ≤ 1073741824) = True := eq_true h2
  rw [cal_code env98 rfl]; simp only [fn98]; simp only [start, z_map_cons, z_map_nil, z_len_cons, z_len_nil, z_repl_zero, z_repl_succ, z_cons_app, z_nil_app, Nat.reduceAdd, Nat.reduceSub]
  simp only [G1, G2, List.isEmpty_nil, val_pvs, frozen_pvs, msnoc_len, msnoc_get, msnoc_set, msnoc_take, Int.le_refl, take_map_all, Nat.le_refl, St.freezeRows, BV.frozen, List.take_length, List.take_append_drop, z_repl_zero, Int.toNat_zero, true_and, and_true, and_self, eq_self, z_take_zero, List.drop_nil, List.take_nil, vAll, List.foldl_nil, List.foldl_cons, resultsOf, resultList, resultOf, zBV, splice, PV.remade, St.freezeAt, St.freezeBox, St.freezeCap, PV.single, plain, act, dstOf, if_true, if_false, reduceCtorEq, St.get, St.put, St.pvOf, St.putRow, St.consume, St.freeze, St.row, St.elems, St.grab, St.takeRow, St.setRow, St.place, St.optPv, St.setCell, St.setCellRow, binPV, intBin, unPV, BV.val, Nat.reduceEqDiff, bound, consumeAll, buildParts, capsOf, capOf, List.append_nil, Nat.reduceAdd, Nat.reduceLT, Nat.reduceLeDiff, beq_self_eq_true, List.length_map, Nat.beq, dcall, dcallP, List.mapM_cons, St.snapFn, St.snap, St.layAll, St.lay, St.freezeArg, St.freezeArg1]
def pSpn (x : Spn) : PV := .iptr [.int .i64 x.epoch, .int .i64 x.fr, .int .i64 x.to] 0
def inM (n : Int) : Prop := 1 ≤ n ∧ n ≤ 1073741824
theorem cal101 {x : Spn} (h1 : inM x.epoch) (h2 : inM x.fr) (h3 : inM x.to) : cal env 101 [pSpn x] = some [(.bool true, false)] := by
  have e1 := cal98 h1.1 h1.2
  have e2 := cal98 h2.1 h2.2
  have e3 := cal98 h3.1 h3.2
  rw [cal_code env101 rfl]; simp only [fn101]; simp only [start, z_map_cons, z_map_nil, z_len_cons, z_len_nil, z_repl_zero, z_repl_succ, z_cons_app, z_nil_app, Nat.reduceAdd, Nat.reduceSub]
  simp only [e1, e2, e3, pSpn, List.isEmpty_nil, val_pvs, frozen_pvs, msnoc_len, msnoc_get, msnoc_set, msnoc_take, Int.le_refl, take_map_all, Nat.le_refl, St.freezeRows, BV.frozen, List.take_length, List.take_append_drop, z_repl_zero, Int.toNat_zero, true_and, and_true, and_self, eq_self, z_take_zero, List.drop_nil, List.take_nil, vAll, List.foldl_nil, List.foldl_cons, resultsOf, resultList, resultOf, zBV, splice, PV.remade, St.freezeAt, St.freezeBox, St.freezeCap, PV.single, plain, act, dstOf, if_true, if_false, reduceCtorEq, St.get, St.put, St.pvOf, St.putRow, St.consume, St.freeze, St.row, St.elems, St.grab, St.takeRow, St.setRow, St.place, St.optPv, St.setCell, St.setCellRow, binPV, intBin, unPV, BV.val, Nat.reduceEqDiff, bound, consumeAll, buildParts, capsOf, capOf, List.append_nil, Nat.reduceAdd, Nat.reduceLT, Nat.reduceLeDiff, beq_self_eq_true, List.length_map, Nat.beq, dcall, dcallP, List.mapM_cons, St.snapFn, St.snap, St.layAll, St.lay, St.freezeArg, St.freezeArg1]
theorem cal102 {x : Spn} (h : x.fr ≤ x.to) : cal env 102 [pSpn x] = some [(.bool true, false)] := by
  have G1 : (x.fr ≤ x.to) = True := eq_true h
  rw [cal_code env102 rfl]; simp only [fn102]; simp only [start, z_map_cons, z_map_nil, z_len_cons, z_len_nil, z_repl_zero, z_repl_succ, z_cons_app, z_nil_app, Nat.reduceAdd, Nat.reduceSub]
  simp only [G1, pSpn, List.isEmpty_nil, val_pvs, frozen_pvs, msnoc_len, msnoc_get, msnoc_set, msnoc_take, Int.le_refl, take_map_all, Nat.le_refl, St.freezeRows, BV.frozen, List.take_length, List.take_append_drop, z_repl_zero, Int.toNat_zero, true_and, and_true, and_self, eq_self, z_take_zero, List.drop_nil, List.take_nil, vAll, List.foldl_nil, List.foldl_cons, resultsOf, resultList, resultOf, zBV, splice, PV.remade, St.freezeAt, St.freezeBox, St.freezeCap, PV.single, plain, act, dstOf, if_true, if_false, reduceCtorEq, St.get, St.put, St.pvOf, St.putRow, St.consume, St.freeze, St.row, St.elems, St.grab, St.takeRow, St.setRow, St.place, St.optPv, St.setCell, St.setCellRow, binPV, intBin, unPV, BV.val, Nat.reduceEqDiff, bound, consumeAll, buildParts, capsOf, capOf, List.append_nil, Nat.reduceAdd, Nat.reduceLT, Nat.reduceLeDiff, beq_self_eq_true, List.length_map, Nat.beq, dcall, dcallP, List.mapM_cons, St.snapFn, St.snap, St.layAll, St.lay, St.freezeArg, St.freezeArg1]
theorem cal103 {p x : Spn} (hp : fineS p) (h : x.fr = p.to + 1) : cal env 103 [pSpn x, pSpn p] = some [(.bool true, false)] := by
  have G1 : IntKind.i64.wrap (p.to + 1) = p.to + 1 := i64_fits (by unfold fineS at hp; omega)
  rw [cal_code env103 rfl]; simp only [fn103]; simp only [start, z_map_cons, z_map_nil, z_len_cons, z_len_nil, z_repl_zero, z_repl_succ, z_cons_app, z_nil_app, Nat.reduceAdd, Nat.reduceSub]
  simp only [G1, h, pSpn, List.isEmpty_nil, val_pvs, frozen_pvs, msnoc_len, msnoc_get, msnoc_set, msnoc_take, Int.le_refl, take_map_all, Nat.le_refl, St.freezeRows, BV.frozen, List.take_length, List.take_append_drop, z_repl_zero, Int.toNat_zero, true_and, and_true, and_self, eq_self, z_take_zero, List.drop_nil, List.take_nil, vAll, List.foldl_nil, List.foldl_cons, resultsOf, resultList, resultOf, zBV, splice, PV.remade, St.freezeAt, St.freezeBox, St.freezeCap, PV.single, plain, act, dstOf, if_true, if_false, reduceCtorEq, St.get, St.put, St.pvOf, St.putRow, St.consume, St.freeze, St.row, St.elems, St.grab, St.takeRow, St.setRow, St.place, St.optPv, St.setCell, St.setCellRow, binPV, intBin, unPV, BV.val, Nat.reduceEqDiff, bound, consumeAll, buildParts, capsOf, capOf, List.append_nil, Nat.reduceAdd, Nat.reduceLT, Nat.reduceLeDiff, beq_self_eq_true, List.length_map, Nat.beq, dcall, dcallP, List.mapM_cons, St.snapFn, St.snap, St.layAll, St.lay, St.freezeArg, St.freezeArg1]
theorem cal104 {p x : Spn} (h : p.epoch < x.epoch) : cal env 104 [pSpn x, pSpn p] = some [(.bool true, false)] := by
  have G1 : (x.epoch > p.epoch) = True := eq_true h
  rw [cal_code env104 rfl]; simp only [fn104]; simp only [start, z_map_cons, z_map_nil, z_len_cons, z_len_nil, z_repl_zero, z_repl_succ, z_cons_app, z_nil_app, Nat.reduceAdd, Nat.reduceSub]
  simp only [G1, pSpn, List.isEmpty_nil, val_pvs, frozen_pvs, msnoc_len, msnoc_get, msnoc_set, msnoc_take, Int.le_refl, take_map_all, Nat.le_refl, St.freezeRows, BV.frozen, List.take_length, List.take_append_drop, z_repl_zero, Int.toNat_zero, true_and, and_true, and_self, eq_self, z_take_zero, List.drop_nil, List.take_nil, vAll, List.foldl_nil, List.foldl_cons, resultsOf, resultList, resultOf, zBV, splice, PV.remade, St.freezeAt, St.freezeBox, St.freezeCap, PV.single, plain, act, dstOf, if_true, if_false, reduceCtorEq, St.get, St.put, St.pvOf, St.putRow, St.consume, St.freeze, St.row, St.elems, St.grab, St.takeRow, St.setRow, St.place, St.optPv, St.setCell, St.setCellRow, binPV, intBin, unPV, BV.val, Nat.reduceEqDiff, bound, consumeAll, buildParts, capsOf, capOf, List.append_nil, Nat.reduceAdd, Nat.reduceLT, Nat.reduceLeDiff, beq_self_eq_true, List.length_map, Nat.beq, dcall, dcallP, List.mapM_cons, St.snapFn, St.snap, St.layAll, St.lay, St.freezeArg, St.freezeArg1]
def begI (p : Spn) : List Spn → List (List PV)
  | [] => []
  | x :: l => [eSpn p, eSpn x] :: begI x l
theorem loop105 {l : List Spn} (hl : l.length ≤ lim)
   {st : St} (h : st.head [0, 3, 7, 8, 9] st.boxes.length = some ⟨[.yld, .any, .any, .pbox 0 0, .any, .any, .any, .pv (.list 3 (l.map eSpn)), .pv (.int .i64 l.length), .pv (.int .i64 (0 : Nat)), .any, .any, .any, .any, .any, .any, .any, .any, .any, .any], [⟨false, bSpn z0⟩], [], some none⟩) :
   ∃ p, den env fn105_l1 st = some (.normal, ⟨[.any, .any, .any, .any, .any, .any, .any, .any, .any, .any, .any, .any, .any, .any, .any, .any, .any, .any, .any, .any], [⟨false, bSpn p⟩], begI z0 l, some none⟩) := by
  unfold fn105_l1
  refine ⟨lastOf l l.length, ?_⟩
  have := clean_list (l := l) (fun i (c : Spn × List (List PV)) => ⟨[.yld, .any, .any, .pbox 0 0, .any, .any, .any, .pv (.list 3 (l.map eSpn)), .pv (.int .i64 l.length), .pv (.int .i64 i), .any, .any, .any, .any, .any, .any, .any, .any, .any, .any], [⟨false, bSpn c.1⟩], c.2, some none⟩)
    (fun i r c => some (.normal, ⟨[.any, .any, .any, .any, .any, .any, .any, .any, .any, .any, .any, .any, .any, .any, .any, .any, .any, .any, .any, .any], [⟨false, bSpn (lastOf (c.1 :: r) (r.length + 1))⟩], c.2 ++ begI c.1 r, some none⟩)) (fun _ _ => True) (z0, []) h hl trivial (nb := 1) (id := 0) (post := []) (b := fn105_b0) (fun _ _ => rfl) (fun _ _ => rfl) ?_ ?_
  · rw [this]
    have e : lastOf (z0 :: l) (l.length + 1) = lastOf l l.length := by
      unfold lastOf
      cases l with
      | nil => rfl
      | cons x l => simp
    simp only [e, List.nil_append]
  · rintro i x r ⟨p, ys⟩ rb hi hx hr F1 F2 _ ih
    have e : lastOf (p :: x :: r) (r.length + 1 + 1) = lastOf (x :: r) (r.length + 1) := by simp [lastOf]
    simp only [List.length_cons, e]
    obtain ⟨x1, x2, x3⟩ := x
    simp only [fn105_b0, F1, F2, hx, eSpn, bSpn, index_nat hi, List.getElem?_map, Option.map_some, List.isEmpty_nil, val_pvs, frozen_pvs, msnoc_len, msnoc_get, msnoc_set, msnoc_take, Int.le_refl, take_map_all, Nat.le_refl, St.freezeRows, BV.frozen, List.take_length, List.take_append_drop, z_repl_zero, Int.toNat_zero, true_and, and_true, and_self, eq_self, z_take_zero, List.drop_nil, List.take_nil, vAll, List.foldl_nil, List.foldl_cons, resultsOf, resultList, resultOf, zBV, splice, PV.remade, St.freezeAt, St.freezeBox, St.freezeCap, PV.single, plain, act, dstOf, if_true, if_false, reduceCtorEq, St.get, St.put, St.pvOf, St.putRow, St.consume, St.freeze, St.row, St.elems, St.grab, St.takeRow, St.setRow, St.place, St.optPv, St.setCell, St.setCellRow, binPV, intBin, unPV, BV.val, Nat.reduceEqDiff, bound, consumeAll, buildParts, capsOf, capOf, List.append_nil, Nat.reduceAdd, Nat.reduceLT, Nat.reduceLeDiff, beq_self_eq_true, List.length_map, Nat.beq, dcall, dcallP, List.mapM_cons, St.snapFn, St.snap, St.layAll, St.lay, St.freezeArg, St.freezeArg1]
    rw [ih (⟨x1, x2, x3⟩, ys ++ [[eSpn p, eSpn ⟨x1, x2, x3⟩]]) _ trivial (by rfl)]
    simp only [begI, List.append_assoc, List.cons_append, List.nil_append]
    rfl
  · rintro ⟨p, ys⟩ rb hp
    simp only [fn105_b0, Int.lt_irrefl, List.isEmpty_nil, val_pvs, frozen_pvs, msnoc_len, msnoc_get, msnoc_set, msnoc_take, Int.le_refl, take_map_all, Nat.le_refl, St.freezeRows, BV.frozen, List.take_length, List.take_append_drop, z_repl_zero, Int.toNat_zero, true_and, and_true, and_self, eq_self, z_take_zero, List.drop_nil, List.take_nil, vAll, List.foldl_nil, List.foldl_cons, resultsOf, resultList, resultOf, zBV, splice, PV.remade, St.freezeAt, St.freezeBox, St.freezeCap, PV.single, plain, act, dstOf, if_true, if_false, reduceCtorEq, St.get, St.put, St.pvOf, St.putRow, St.consume, St.freeze, St.row, St.elems, St.grab, St.takeRow, St.setRow, St.place, St.optPv, St.setCell, St.setCellRow, binPV, intBin, unPV, BV.val, Nat.reduceEqDiff, bound, consumeAll, buildParts, capsOf, capOf, List.append_nil, Nat.reduceAdd, Nat.reduceLT, Nat.reduceLeDiff, beq_self_eq_true, List.length_map, Nat.beq, dcall, dcallP, List.mapM_cons, St.snapFn, St.snap, St.layAll, St.lay, St.freezeArg, St.freezeArg1]
    simp only [begI, List.append_nil]
    rfl
theorem iter105 {l : List Spn} (hl : l.length ≤ lim) : iter env 105 [.iptr [.list 3 (l.map eSpn)] 0] none = some (begI z0 l) := by
  rw [iter_code env105 rfl rfl]
  simp only [fn105, ystart, z_map_cons, z_map_nil, z_len_cons, z_len_nil, z_repl_zero, z_repl_succ, z_cons_app, z_nil_app, Nat.reduceAdd, Nat.reduceSub]
  simp only [ List.isEmpty_nil, val_pvs, frozen_pvs, msnoc_len, msnoc_get, msnoc_set, msnoc_take, Int.le_refl, take_map_all, Nat.le_refl, St.freezeRows, BV.frozen, List.take_length, List.take_append_drop, z_repl_zero, Int.toNat_zero, true_and, and_true, and_self, eq_self, z_take_zero, List.drop_nil, List.take_nil, vAll, List.foldl_nil, List.foldl_cons, resultsOf, resultList, resultOf, zBV, splice, PV.remade, St.freezeAt, St.freezeBox, St.freezeCap, PV.single, plain, act, dstOf, if_true, if_false, reduceCtorEq, St.get, St.put, St.pvOf, St.putRow, St.consume, St.freeze, St.row, St.elems, St.grab, St.takeRow, St.setRow, St.place, St.optPv, St.setCell, St.setCellRow, binPV, intBin, unPV, BV.val, Nat.reduceEqDiff, bound, consumeAll, buildParts, capsOf, capOf, List.append_nil, Nat.reduceAdd, Nat.reduceLT, Nat.reduceLeDiff, beq_self_eq_true, List.length_map, Nat.beq, dcall, dcallP, List.mapM_cons, St.snapFn, St.snap, St.layAll, St.lay, St.freezeArg, St.freezeArg1]
  have : ∀ st : St, st.head [0, 3, 7, 8, 9] st.boxes.length = some ⟨[.yld, .any, .any, .pbox 0 0, .any, .any, .any, .pv (.list 3 (l.map eSpn)), .pv (.int .i64 l.length), .pv (.int .i64 (0 : Nat)), .any, .any, .any, .any, .any, .any, .any, .any, .any, .any], [⟨false, bSpn z0⟩], [], some none⟩ → (den env fn105_l1 st).bind yfin = some (begI z0 l) := by
    intro st h
    obtain ⟨p, e⟩ := loop105 hl h
    rw [e]
    rfl
  exact this _ rfl
theorem cal82 {l : List Spn} : cal env 82 [.list 3 (l.map eSpn)] = some [(.func 105 [.iptr [.list 3 (l.map eSpn)] 0], false)] := by
  rw [cal_code env82 rfl]; simp only [fn82]; simp only [start, z_map_cons, z_map_nil, z_len_cons, z_len_nil, z_repl_zero, z_repl_succ, z_cons_app, z_nil_app, Nat.reduceAdd, Nat.reduceSub]
  simp only [ List.isEmpty_nil, val_pvs, frozen_pvs, msnoc_len, msnoc_get, msnoc_set, msnoc_take, Int.le_refl, take_map_all, Nat.le_refl, St.freezeRows, BV.frozen, List.take_length, List.take_append_drop, z_repl_zero, Int.toNat_zero, true_and, and_true, and_self, eq_self, z_take_zero, List.drop_nil, List.take_nil, vAll, List.foldl_nil, List.foldl_cons, resultsOf, resultList, resultOf, zBV, splice, PV.remade, St.freezeAt, St.freezeBox, St.freezeCap, PV.single, plain, act, dstOf, if_true, if_false, reduceCtorEq, St.get, St.put, St.pvOf, St.putRow, St.consume, St.freeze, St.row, St.elems, St.grab, St.takeRow, St.setRow, St.place, St.optPv, St.setCell, St.setCellRow, binPV, intBin, unPV, BV.val, Nat.reduceEqDiff, bound, consumeAll, buildParts, capsOf, capOf, List.append_nil, Nat.reduceAdd, Nat.reduceLT, Nat.reduceLeDiff, beq_self_eq_true, List.length_map, Nat.beq, dcall, dcallP, List.mapM_cons, St.snapFn, St.snap, St.layAll, St.lay, St.freezeArg, St.freezeArg1]
theorem begI_get : ∀ (l : List Spn) (p : Spn) (j : Nat) (x : List PV), fineS p → linGo p l = true → (begI p l)[j]? = some x → ∃ q y, x = [eSpn q, eSpn y] ∧ fineS q ∧ okNext q y = true
  | [], p, j, x, _, _, h => by simp [begI] at h
  | y :: l, p, 0, x, hp, hg, h => by
    simp only [begI, List.getElem?_cons_zero, Option.some.injEq] at h
    simp only [linGo, Bool.and_eq_true] at hg
    exact ⟨p, y, h.symm, hp, hg.1⟩
  | y :: l, p, j + 1, x, hp, hg, h => by
    simp only [begI, List.getElem?_cons_succ] at h
    simp only [linGo, Bool.and_eq_true] at hg
    exact begI_get l y j x (okNext_fine hg.1 hp).1 hg.2 h
theorem cal81 {l : List Spn} (hl : l.length ≤ lim) (hok : linOk l = true) : cal env 81 [.list 3 (l.map eSpn)] = some [(.int .i64 0, false)] := by
  have e1 := cal82 (l := l)
  rw [cal_code env81 rfl]; simp only [fn81]; simp only [start, z_map_cons, z_map_nil, z_len_cons, z_len_nil, z_repl_zero, z_repl_succ, z_cons_app, z_nil_app, Nat.reduceAdd, Nat.reduceSub]
  simp only [e1, List.isEmpty_nil, val_pvs, frozen_pvs, msnoc_len, msnoc_get, msnoc_set, msnoc_take, Int.le_refl, take_map_all, Nat.le_refl, St.freezeRows, BV.frozen, List.take_length, List.take_append_drop, z_repl_zero, Int.toNat_zero, true_and, and_true, and_self, eq_self, z_take_zero, List.drop_nil, List.take_nil, vAll, List.foldl_nil, List.foldl_cons, resultsOf, resultList, resultOf, zBV, splice, PV.remade, St.freezeAt, St.freezeBox, St.freezeCap, PV.single, plain, act, dstOf, if_true, if_false, reduceCtorEq, St.get, St.put, St.pvOf, St.putRow, St.consume, St.freeze, St.row, St.elems, St.grab, St.takeRow, St.setRow, St.place, St.optPv, St.setCell, St.setCellRow, binPV, intBin, unPV, BV.val, Nat.reduceEqDiff, bound, consumeAll, buildParts, capsOf, capOf, List.append_nil, Nat.reduceAdd, Nat.reduceLT, Nat.reduceLeDiff, beq_self_eq_true, List.length_map, Nat.beq, dcall, dcallP, List.mapM_cons, St.snapFn, St.snap, St.layAll, St.lay, St.freezeArg, St.freezeArg1]
  rw [rng_foldP (fun _ => [⟨false, [.pv (.int .i64 0)]⟩]) (fun (_ : Unit) _ => ()) (fun _ _ => True) () rfl (iter105 hl) rfl trivial ?_]
  · simp only [vRng, List.isEmpty_nil, val_pvs, frozen_pvs, msnoc_len, msnoc_get, msnoc_set, msnoc_take, Int.le_refl, take_map_all, Nat.le_refl, St.freezeRows, BV.frozen, List.take_length, List.take_append_drop, z_repl_zero, Int.toNat_zero, true_and, and_true, and_self, eq_self, z_take_zero, List.drop_nil, List.take_nil, vAll, List.foldl_nil, List.foldl_cons, resultsOf, resultList, resultOf, zBV, splice, PV.remade, St.freezeAt, St.freezeBox, St.freezeCap, PV.single, plain, act, dstOf, if_true, if_false, reduceCtorEq, St.get, St.put, St.pvOf, St.putRow, St.consume, St.freeze, St.row, St.elems, St.grab, St.takeRow, St.setRow, St.place, St.optPv, St.setCell, St.setCellRow, binPV, intBin, unPV, BV.val, Nat.reduceEqDiff, bound, consumeAll, buildParts, capsOf, capOf, List.append_nil, Nat.reduceAdd, Nat.reduceLT, Nat.reduceLeDiff, beq_self_eq_true, List.length_map, Nat.beq, dcall, dcallP, List.mapM_cons, St.snapFn, St.snap, St.layAll, St.lay, St.freezeArg, St.freezeArg1]
  · intro j b x _ hx sl0
    obtain ⟨p, y, rfl, hp, hn⟩ := begI_get l z0 j x (by unfold fineS z0; simp) hok hx
    obtain ⟨q1, q2, q3, q4⟩ := okNext_fine hn hp
    have hy : inM y.epoch ∧ inM y.fr ∧ inM y.to := by
      unfold fineS at *; unfold inM; omega
    have e2 := cal96 (rs := [(101, [pSpn y], 2), (102, [pSpn y], 3), (103, [pSpn y, pSpn p], 15), (104, [pSpn y, pSpn p], 13)]) (by
      intro r hr
      simp only [List.mem_cons, List.not_mem_nil, or_false] at hr
      rcases hr with rfl | rfl | rfl | rfl
      · exact cal101 hy.1 hy.2.1 hy.2.2
      · exact cal102 q3
      · exact cal103 hp q2
      · exact cal104 q4) (by unfold lim; simp)
    simp only [List.map_cons, List.map_nil, eRule, pSpn] at e2
    have B1 : ((0 : Int) != 0) = false := rfl
    refine ⟨trivial, ?_⟩
    refine ⟨?_, ?_⟩
    rotate_left
    · simp only [fn81_b0, fn81_b1, eSpn, e2, B1, vRng, List.isEmpty_nil, val_pvs, frozen_pvs, msnoc_len, msnoc_get, msnoc_set, msnoc_take, Int.le_refl, take_map_all, Nat.le_refl, St.freezeRows, BV.frozen, List.take_length, List.take_append_drop, z_repl_zero, Int.toNat_zero, true_and, and_true, and_self, eq_self, z_take_zero, List.drop_nil, List.take_nil, vAll, List.foldl_nil, List.foldl_cons, resultsOf, resultList, resultOf, zBV, splice, PV.remade, St.freezeAt, St.freezeBox, St.freezeCap, PV.single, plain, act, dstOf, if_true, if_false, reduceCtorEq, St.get, St.put, St.pvOf, St.putRow, St.consume, St.freeze, St.row, St.elems, St.grab, St.takeRow, St.setRow, St.place, St.optPv, St.setCell, St.setCellRow, binPV, intBin, unPV, BV.val, Nat.reduceEqDiff, bound, consumeAll, buildParts, capsOf, capOf, List.append_nil, Nat.reduceAdd, Nat.reduceLT, Nat.reduceLeDiff, beq_self_eq_true, List.length_map, Nat.beq, dcall, dcallP, List.mapM_cons, St.snapFn, St.snap, St.layAll, St.lay, St.freezeArg, St.freezeArg1]
      rfl
end Go.Proofs.Ytpdfhckdmblicaa.V

namespace Go.Proofs.Ytpdfhckdmblicaa.V
set_option linter.all false

theorem cal45 {l : List Spn} (hl : l.length ≤ lim) : cal env 45 [.list 3 (l.map eSpn)] = some [(.int .i64 (endOf l), false)] := by
  by_cases h0 : l.length = 0
  · obtain rfl := List.eq_nil_of_length_eq_zero h0
    have F1 : (((0 : Nat) : Int) == 0) = true := rfl
    rw [cal_code env45 rfl]; simp only [fn45]; simp only [start, z_map_cons, z_map_nil, z_len_cons, z_len_nil, z_repl_zero, z_repl_succ, z_cons_app, z_nil_app, Nat.reduceAdd, Nat.reduceSub]
    simp only [F1, List.length_nil, List.map_nil, List.isEmpty_nil, val_pvs, frozen_pvs, msnoc_len, msnoc_get, msnoc_set, msnoc_take, Int.le_refl, take_map_all, Nat.le_refl, St.freezeRows, BV.frozen, List.take_length, List.take_append_drop, z_repl_zero, Int.toNat_zero, true_and, and_true, and_self, eq_self, z_take_zero, List.drop_nil, List.take_nil, vAll, List.foldl_nil, List.foldl_cons, resultsOf, resultList, resultOf, zBV, splice, PV.remade, St.freezeAt, St.freezeBox, St.freezeCap, PV.single, plain, act, dstOf, if_true, if_false, reduceCtorEq, St.get, St.put, St.pvOf, St.putRow, St.consume, St.freeze, St.row, St.elems, St.grab, St.takeRow, St.setRow, St.place, St.optPv, St.setCell, St.setCellRow, binPV, intBin, unPV, BV.val, Nat.reduceEqDiff, bound, consumeAll, buildParts, capsOf, capOf, List.append_nil, Nat.reduceAdd, Nat.reduceLT, Nat.reduceLeDiff, beq_self_eq_true, List.length_map, Nat.beq, dcall, dcallP, List.mapM_cons, St.snapFn, St.snap, St.layAll, St.lay, St.freezeArg, St.freezeArg1]
    rfl
  · obtain ⟨k, hk⟩ : ∃ k, l.length = k + 1 := ⟨l.length - 1, by omega⟩
    have hkl : k < l.length := by omega
    have hx : l[k]? = some l[k] := List.getElem?_eq_getElem hkl
    have he : endOf l = l[k].to := by rw [endOf, hk, lastOf_succ hkl]
    have hl' := hl
    unfold lim at hl'
    have F1 : ((l.length : Int) == 0) = false := by simpa using h0
    have F2 : IntKind.i64.wrap ((l.length : Int) - 1) = (k : Int) := by rw [i64_fits (by omega)]; omega
    rw [he]
    generalize l[k] = x at *
    obtain ⟨xe, xf, xt⟩ := x
    rw [cal_code env45 rfl]; simp only [fn45]; simp only [start, z_map_cons, z_map_nil, z_len_cons, z_len_nil, z_repl_zero, z_repl_succ, z_cons_app, z_nil_app, Nat.reduceAdd, Nat.reduceSub]
    simp only [F1, F2, hx, eSpn, index_nat hkl, List.getElem?_map, Option.map_some, List.isEmpty_nil, val_pvs, frozen_pvs, msnoc_len, msnoc_get, msnoc_set, msnoc_take, Int.le_refl, take_map_all, Nat.le_refl, St.freezeRows, BV.frozen, List.take_length, List.take_append_drop, z_repl_zero, Int.toNat_zero, true_and, and_true, and_self, eq_self, z_take_zero, List.drop_nil, List.take_nil, vAll, List.foldl_nil, List.foldl_cons, resultsOf, resultList, resultOf, zBV, splice, PV.remade, St.freezeAt, St.freezeBox, St.freezeCap, PV.single, plain, act, dstOf, if_true, if_false, reduceCtorEq, St.get, St.put, St.pvOf, St.putRow, St.consume, St.freeze, St.row, St.elems, St.grab, St.takeRow, St.setRow, St.place, St.optPv, St.setCell, St.setCellRow, binPV, intBin, unPV, BV.val, Nat.reduceEqDiff, bound, consumeAll, buildParts, capsOf, capOf, List.append_nil, Nat.reduceAdd, Nat.reduceLT, Nat.reduceLeDiff, beq_self_eq_true, List.length_map, Nat.beq, dcall, dcallP, List.mapM_cons, St.snapFn, St.snap, St.layAll, St.lay, St.freezeArg, St.freezeArg1]
end Go.Proofs.Ytpdfhckdmblicaa.V
