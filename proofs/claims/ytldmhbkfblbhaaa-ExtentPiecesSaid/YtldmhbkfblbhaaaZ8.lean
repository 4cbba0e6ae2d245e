/-
  Part 8 of the texts that the statement stands on.
-/
import Derived.Test.YtldmhbkfblbhaaaZ7
set_option linter.all false
namespace Go.Proofs.Ytldmhbkfblbhaaa.V
set_option linter.all false
theorem inS_add {l : List Exn} {n : Nat} (h : ∀ x ∈ l, 0 ≤ x.start ∧ 1 ≤ x.count ∧ x.start + x.count ≤ (n : Int)) (s : Nat) : inS (addAt l n) s = (inS l s || decide (s = n)) := by
  rcases snoc_cases l with e | ⟨pre, y, e⟩
  · subst e
    show inS [⟨(n : Int), 1⟩] s = _
    rw [Bool.eq_iff_iff]
    simp [inS, inE]; omega
  · subst e
    have hy := h y (by simp)
    rw [addAt_snoc]
    split
    · rw [inS_snoc, inS_snoc, Bool.or_assoc]
      congr 1
      rw [Bool.eq_iff_iff]
      simp [inE]; omega
    · rw [inS_snoc (pre ++ [y])]
      congr 1
      rw [Bool.eq_iff_iff]
      simp [inE]; omega
theorem inS_ext (p : Nat → Bool) (s : Nat) : ∀ n, inS (ext p n) s = (decide (s < n) && p s)
  | 0 => by simp [ext_zero, inS]
  | n + 1 => by
    rw [ext_succ]
    by_cases h : p n = true
    · rw [if_pos h, inS_add (ext_in p n), inS_ext p s n]
      by_cases h2 : s = n
      · subst h2; rw [h]; simp
      · rw [decide_eq_false h2, Bool.or_false]
        congr 1
        rw [Bool.eq_iff_iff]; simp; omega
    · rw [if_neg h, inS_ext p s n]
      by_cases h2 : s = n
      · subst h2; simp [h]
      · congr 1
        rw [Bool.eq_iff_iff]; simp; omega
theorem has_ext (p : Nat → Bool) (s : Int) : hasX (ext p 4096) s = (decide (0 ≤ s) && (decide (s < 4096) && p s.toNat)) := by
  unfold hasX
  rw [inS_ext]
  by_cases h1 : 0 ≤ s
  · by_cases h2 : s < 4096
    · rw [decide_eq_true (show s.toNat < 4096 by omega), Bool.true_and]
    · rw [decide_eq_false h2]; simp
  · rw [decide_eq_false h1]; simp
theorem has_compl (l : List Exn) (s : Int) : hasX (compl l 4096) s = ((decide (0 ≤ s) && decide (s < 4096)) && !hasX l s) := by
  have : compl l 4096 = ext (fun s => !inS l s) 4096 := rfl
  rw [this, has_ext]
  unfold hasX
  cases decide (0 ≤ s) <;> cases decide (s < 4096) <;> cases inS l s.toNat <;> rfl
theorem has_or (a b : List Exn) (s : Int) : hasX (setOf orB a b) s = (hasX a s || hasX b s) := by
  unfold setOf
  rw [has_ext]
  unfold hasX orB
  cases decide (0 ≤ s) <;> cases decide (s < 4096) <;> cases inS a s.toNat <;> cases inS b s.toNat <;> rfl
theorem has_and (a b : List Exn) (s : Int) : hasX (setOf andB a b) s = (hasX a s && hasX b s) := by
  unfold setOf
  rw [has_ext]
  unfold hasX andB
  cases decide (0 ≤ s) <;> cases decide (s < 4096) <;> cases inS a s.toNat <;> cases inS b s.toNat <;> rfl
theorem has_sub (a b : List Exn) (s : Int) : hasX (setOf subB a b) s = (hasX a s && !hasX b s) := by
  unfold setOf
  rw [has_ext]
  unfold hasX subB
  cases decide (0 ≤ s) <;> cases decide (s < 4096) <;> cases inS a s.toNat <;> cases inS b s.toNat <;> rfl
theorem okEs_ext (p : Nat → Bool) {n : Nat} (hn : n ≤ 4096) : okEs (ext p n) := fun x hx => by
  have := ext_in p n x hx
  exact ⟨by omega, by omega⟩
theorem ext_l4 (p : Nat → Bool) {n : Nat} (hn : n ≤ 4096) : (ext p n).length ≤ 10000 := by
  have := ext_len p n; omega
set_option maxRecDepth 20000 in
theorem cal9 {a b : List Exn} {s : Int} (ha : okEs a) (hb : okEs b) : cal env 9 [.list 2 (a.map eExt), .list 2 (b.map eExt), .int .i64 s] = some [(.bool true, false)] := by
  have e0 := cal12 (a := a) (b := b)
  have e3 := calAwake
  cases hf : few1 a b with
  | false =>
    rw [hf] at e0
    rw [cal_code env9 rfl]; simp only [fn9, slAll, Nat.reduceBEq, Nat.reduceLeDiff, Nat.reduceAdd, List.length_cons, List.length_nil]
    simp only [e0, e3, slAll, Nat.reduceMul, Nat.reduceBEq, Nat.reduceLT, Nat.reduceLeDiff, Nat.zero_le, List.take_zero, List.take_nil, List.take_succ_cons, List.length_cons, List.length_nil, Nat.le_refl, List.isEmpty_nil, val_pvs, frozen_pvs, msnoc_len, msnoc_get, msnoc_set, msnoc_take, Int.le_refl, take_map_all, Nat.le_refl, St.freezeRows, BV.frozen, List.take_length, List.take_append_drop, z_repl_zero, Int.toNat_zero, true_and, and_true, and_self, eq_self, z_take_zero, List.drop_nil, List.take_nil, vAll, List.foldl_nil, List.foldl_cons, resultsOf, resultList, resultOf, zBV, splice, PV.remade, St.freezeAt, St.freezeBox, St.freezeCap, PV.single, plain, act, dstOf, if_true, if_false, reduceCtorEq, St.get, St.put, St.pvOf, St.putRow, St.consume, St.freeze, St.row, St.elems, St.grab, St.takeRow, St.setRow, St.place, St.optPv, St.setCell, St.setCellRow, binPV, intBin, unPV, BV.val, Nat.reduceEqDiff, bound, consumeAll, buildParts, capsOf, capOf, List.append_nil, Nat.reduceAdd, Nat.reduceLT, Nat.reduceLeDiff, beq_self_eq_true, List.length_map, Nat.beq, dcall, dcallP, List.mapM_cons, St.snapFn, St.snap, St.layAll, St.lay, St.freezeArg, St.freezeArg1]
  | true =>
    rw [hf] at e0
    have hl := few1_len hf
    have x1 := cal21 (s := s) ha (by omega)
    have x2 := cal21 (s := s) hb (by omega)
    have k1 := cal25 ha hb (by omega) (by omega)
    have k2 := cal27 ha hb (by omega) (by omega)
    have k3 := cal29 ha hb (by omega) (by omega)
    have k4 := cal19 (size := 4096) ha (by omega) (by decide)
    have g1 := cal21 (l := setOf orB a b) (s := s) (okEs_ext _ (by decide)) (ext_l4 _ (by decide))
    have g2 := cal21 (l := setOf andB a b) (s := s) (okEs_ext _ (by decide)) (ext_l4 _ (by decide))
    have g3 := cal21 (l := setOf subB a b) (s := s) (okEs_ext _ (by decide)) (ext_l4 _ (by decide))
    have g4 := cal21 (l := compl a 4096) (s := s) (okEs_ext _ (by decide)) (ext_l4 _ (by decide))
    rw [has_or] at g1
    rw [has_and] at g2
    rw [has_sub] at g3
    rw [has_compl] at g4
    generalize hasX a s = p at *
    generalize hasX b s = q at *
    by_cases h1 : 0 ≤ s
    · have G1 : (s ≥ 0) = True := eq_true h1
      by_cases h2 : s < 4096
      · rw [decide_eq_true h1, decide_eq_true h2] at g4
        cases p <;> cases q <;> simp only [Bool.and_true, Bool.true_and, Bool.and_false, Bool.false_and, Bool.or_false, Bool.or_true, Bool.false_or, Bool.true_or, Bool.not_true, Bool.not_false] at g1 g2 g3 g4
        · rw [cal_code env9 rfl]; simp only [fn9, slAll, Nat.reduceBEq, Nat.reduceLeDiff, Nat.reduceAdd, List.length_cons, List.length_nil]
          simp only [e0, e3, x1, x2, k1, k2, k3, k4, g1, g2, g3, g4, G1, h2, slAll, Nat.reduceMul, Nat.reduceBEq, Nat.reduceLT, Nat.reduceLeDiff, Nat.zero_le, List.take_zero, List.take_nil, List.take_succ_cons, List.length_cons, List.length_nil, Nat.le_refl, List.isEmpty_nil, val_pvs, frozen_pvs, msnoc_len, msnoc_get, msnoc_set, msnoc_take, Int.le_refl, take_map_all, Nat.le_refl, St.freezeRows, BV.frozen, List.take_length, List.take_append_drop, z_repl_zero, Int.toNat_zero, true_and, and_true, and_self, eq_self, z_take_zero, List.drop_nil, List.take_nil, vAll, List.foldl_nil, List.foldl_cons, resultsOf, resultList, resultOf, zBV, splice, PV.remade, St.freezeAt, St.freezeBox, St.freezeCap, PV.single, plain, act, dstOf, if_true, if_false, reduceCtorEq, St.get, St.put, St.pvOf, St.putRow, St.consume, St.freeze, St.row, St.elems, St.grab, St.takeRow, St.setRow, St.place, St.optPv, St.setCell, St.setCellRow, binPV, intBin, unPV, BV.val, Nat.reduceEqDiff, bound, consumeAll, buildParts, capsOf, capOf, List.append_nil, Nat.reduceAdd, Nat.reduceLT, Nat.reduceLeDiff, beq_self_eq_true, List.length_map, Nat.beq, dcall, dcallP, List.mapM_cons, St.snapFn, St.snap, St.layAll, St.lay, St.freezeArg, St.freezeArg1]
        · rw [cal_code env9 rfl]; simp only [fn9, slAll, Nat.reduceBEq, Nat.reduceLeDiff, Nat.reduceAdd, List.length_cons, List.length_nil]
          simp only [e0, e3, x1, x2, k1, k2, k3, k4, g1, g2, g3, g4, G1, h2, slAll, Nat.reduceMul, Nat.reduceBEq, Nat.reduceLT, Nat.reduceLeDiff, Nat.zero_le, List.take_zero, List.take_nil, List.take_succ_cons, List.length_cons, List.length_nil, Nat.le_refl, List.isEmpty_nil, val_pvs, frozen_pvs, msnoc_len, msnoc_get, msnoc_set, msnoc_take, Int.le_refl, take_map_all, Nat.le_refl, St.freezeRows, BV.frozen, List.take_length, List.take_append_drop, z_repl_zero, Int.toNat_zero, true_and, and_true, and_self, eq_self, z_take_zero, List.drop_nil, List.take_nil, vAll, List.foldl_nil, List.foldl_cons, resultsOf, resultList, resultOf, zBV, splice, PV.remade, St.freezeAt, St.freezeBox, St.freezeCap, PV.single, plain, act, dstOf, if_true, if_false, reduceCtorEq, St.get, St.put, St.pvOf, St.putRow, St.consume, St.freeze, St.row, St.elems, St.grab, St.takeRow, St.setRow, St.place, St.optPv, St.setCell, St.setCellRow, binPV, intBin, unPV, BV.val, Nat.reduceEqDiff, bound, consumeAll, buildParts, capsOf, capOf, List.append_nil, Nat.reduceAdd, Nat.reduceLT, Nat.reduceLeDiff, beq_self_eq_true, List.length_map, Nat.beq, dcall, dcallP, List.mapM_cons, St.snapFn, St.snap, St.layAll, St.lay, St.freezeArg, St.freezeArg1]
        · rw [cal_code env9 rfl]; simp only [fn9, slAll, Nat.reduceBEq, Nat.reduceLeDiff, Nat.reduceAdd, List.length_cons, List.length_nil]
          simp only [e0, e3, x1, x2, k1, k2, k3, k4, g1, g2, g3, g4, G1, h2, slAll, Nat.reduceMul, Nat.reduceBEq, Nat.reduceLT, Nat.reduceLeDiff, Nat.zero_le, List.take_zero, List.take_nil, List.take_succ_cons, List.length_cons, List.length_nil, Nat.le_refl, List.isEmpty_nil, val_pvs, frozen_pvs, msnoc_len, msnoc_get, msnoc_set, msnoc_take, Int.le_refl, take_map_all, Nat.le_refl, St.freezeRows, BV.frozen, List.take_length, List.take_append_drop, z_repl_zero, Int.toNat_zero, true_and, and_true, and_self, eq_self, z_take_zero, List.drop_nil, List.take_nil, vAll, List.foldl_nil, List.foldl_cons, resultsOf, resultList, resultOf, zBV, splice, PV.remade, St.freezeAt, St.freezeBox, St.freezeCap, PV.single, plain, act, dstOf, if_true, if_false, reduceCtorEq, St.get, St.put, St.pvOf, St.putRow, St.consume, St.freeze, St.row, St.elems, St.grab, St.takeRow, St.setRow, St.place, St.optPv, St.setCell, St.setCellRow, binPV, intBin, unPV, BV.val, Nat.reduceEqDiff, bound, consumeAll, buildParts, capsOf, capOf, List.append_nil, Nat.reduceAdd, Nat.reduceLT, Nat.reduceLeDiff, beq_self_eq_true, List.length_map, Nat.beq, dcall, dcallP, List.mapM_cons, St.snapFn, St.snap, St.layAll, St.lay, St.freezeArg, St.freezeArg1]
        · rw [cal_code env9 rfl]; simp only [fn9, slAll, Nat.reduceBEq, Nat.reduceLeDiff, Nat.reduceAdd, List.length_cons, List.length_nil]
          simp only [e0, e3, x1, x2, k1, k2, k3, k4, g1, g2, g3, g4, G1, h2, slAll, Nat.reduceMul, Nat.reduceBEq, Nat.reduceLT, Nat.reduceLeDiff, Nat.zero_le, List.take_zero, List.take_nil, List.take_succ_cons, List.length_cons, List.length_nil, Nat.le_refl, List.isEmpty_nil, val_pvs, frozen_pvs, msnoc_len, msnoc_get, msnoc_set, msnoc_take, Int.le_refl, take_map_all, Nat.le_refl, St.freezeRows, BV.frozen, List.take_length, List.take_append_drop, z_repl_zero, Int.toNat_zero, true_and, and_true, and_self, eq_self, z_take_zero, List.drop_nil, List.take_nil, vAll, List.foldl_nil, List.foldl_cons, resultsOf, resultList, resultOf, zBV, splice, PV.remade, St.freezeAt, St.freezeBox, St.freezeCap, PV.single, plain, act, dstOf, if_true, if_false, reduceCtorEq, St.get, St.put, St.pvOf, St.putRow, St.consume, St.freeze, St.row, St.elems, St.grab, St.takeRow, St.setRow, St.place, St.optPv, St.setCell, St.setCellRow, binPV, intBin, unPV, BV.val, Nat.reduceEqDiff, bound, consumeAll, buildParts, capsOf, capOf, List.append_nil, Nat.reduceAdd, Nat.reduceLT, Nat.reduceLeDiff, beq_self_eq_true, List.length_map, Nat.beq, dcall, dcallP, List.mapM_cons, St.snapFn, St.snap, St.layAll, St.lay, St.freezeArg, St.freezeArg1]
      · rw [decide_eq_false h2, Bool.and_false, Bool.false_and] at g4
        cases p <;> cases q <;> simp only [Bool.and_true, Bool.true_and, Bool.and_false, Bool.false_and, Bool.or_false, Bool.or_true, Bool.false_or, Bool.true_or, Bool.not_true, Bool.not_false] at g1 g2 g3 g4
        · rw [cal_code env9 rfl]; simp only [fn9, slAll, Nat.reduceBEq, Nat.reduceLeDiff, Nat.reduceAdd, List.length_cons, List.length_nil]
          simp only [e0, e3, x1, x2, k1, k2, k3, k4, g1, g2, g3, g4, G1, h2, slAll, Nat.reduceMul, Nat.reduceBEq, Nat.reduceLT, Nat.reduceLeDiff, Nat.zero_le, List.take_zero, List.take_nil, List.take_succ_cons, List.length_cons, List.length_nil, Nat.le_refl, List.isEmpty_nil, val_pvs, frozen_pvs, msnoc_len, msnoc_get, msnoc_set, msnoc_take, Int.le_refl, take_map_all, Nat.le_refl, St.freezeRows, BV.frozen, List.take_length, List.take_append_drop, z_repl_zero, Int.toNat_zero, true_and, and_true, and_self, eq_self, z_take_zero, List.drop_nil, List.take_nil, vAll, List.foldl_nil, List.foldl_cons, resultsOf, resultList, resultOf, zBV, splice, PV.remade, St.freezeAt, St.freezeBox, St.freezeCap, PV.single, plain, act, dstOf, if_true, if_false, reduceCtorEq, St.get, St.put, St.pvOf, St.putRow, St.consume, St.freeze, St.row, St.elems, St.grab, St.takeRow, St.setRow, St.place, St.optPv, St.setCell, St.setCellRow, binPV, intBin, unPV, BV.val, Nat.reduceEqDiff, bound, consumeAll, buildParts, capsOf, capOf, List.append_nil, Nat.reduceAdd, Nat.reduceLT, Nat.reduceLeDiff, beq_self_eq_true, List.length_map, Nat.beq, dcall, dcallP, List.mapM_cons, St.snapFn, St.snap, St.layAll, St.lay, St.freezeArg, St.freezeArg1]
        · rw [cal_code env9 rfl]; simp only [fn9, slAll, Nat.reduceBEq, Nat.reduceLeDiff, Nat.reduceAdd, List.length_cons, List.length_nil]
          simp only [e0, e3, x1, x2, k1, k2, k3, k4, g1, g2, g3, g4, G1, h2, slAll, Nat.reduceMul, Nat.reduceBEq, Nat.reduceLT, Nat.reduceLeDiff, Nat.zero_le, List.take_zero, List.take_nil, List.take_succ_cons, List.length_cons, List.length_nil, Nat.le_refl, List.isEmpty_nil, val_pvs, frozen_pvs, msnoc_len, msnoc_get, msnoc_set, msnoc_take, Int.le_refl, take_map_all, Nat.le_refl, St.freezeRows, BV.frozen, List.take_length, List.take_append_drop, z_repl_zero, Int.toNat_zero, true_and, and_true, and_self, eq_self, z_take_zero, List.drop_nil, List.take_nil, vAll, List.foldl_nil, List.foldl_cons, resultsOf, resultList, resultOf, zBV, splice, PV.remade, St.freezeAt, St.freezeBox, St.freezeCap, PV.single, plain, act, dstOf, if_true, if_false, reduceCtorEq, St.get, St.put, St.pvOf, St.putRow, St.consume, St.freeze, St.row, St.elems, St.grab, St.takeRow, St.setRow, St.place, St.optPv, St.setCell, St.setCellRow, binPV, intBin, unPV, BV.val, Nat.reduceEqDiff, bound, consumeAll, buildParts, capsOf, capOf, List.append_nil, Nat.reduceAdd, Nat.reduceLT, Nat.reduceLeDiff, beq_self_eq_true, List.length_map, Nat.beq, dcall, dcallP, List.mapM_cons, St.snapFn, St.snap, St.layAll, St.lay, St.freezeArg, St.freezeArg1]
        · rw [cal_code env9 rfl]; simp only [fn9, slAll, Nat.reduceBEq, Nat.reduceLeDiff, Nat.reduceAdd, List.length_cons, List.length_nil]
          simp only [e0, e3, x1, x2, k1, k2, k3, k4, g1, g2, g3, g4, G1, h2, slAll, Nat.reduceMul, Nat.reduceBEq, Nat.reduceLT, Nat.reduceLeDiff, Nat.zero_le, List.take_zero, List.take_nil, List.take_succ_cons, List.length_cons, List.length_nil, Nat.le_refl, List.isEmpty_nil, val_pvs, frozen_pvs, msnoc_len, msnoc_get, msnoc_set, msnoc_take, Int.le_refl, take_map_all, Nat.le_refl, St.freezeRows, BV.frozen, List.take_length, List.take_append_drop, z_repl_zero, Int.toNat_zero, true_and, and_true, and_self, eq_self, z_take_zero, List.drop_nil, List.take_nil, vAll, List.foldl_nil, List.foldl_cons, resultsOf, resultList, resultOf, zBV, splice, PV.remade, St.freezeAt, St.freezeBox, St.freezeCap, PV.single, plain, act, dstOf, if_true, if_false, reduceCtorEq, St.get, St.put, St.pvOf, St.putRow, St.consume, St.freeze, St.row, St.elems, St.grab, St.takeRow, St.setRow, St.place, St.optPv, St.setCell, St.setCellRow, binPV, intBin, unPV, BV.val, Nat.reduceEqDiff, bound, consumeAll, buildParts, capsOf, capOf, List.append_nil, Nat.reduceAdd, Nat.reduceLT, Nat.reduceLeDiff, beq_self_eq_true, List.length_map, Nat.beq, dcall, dcallP, List.mapM_cons, St.snapFn, St.snap, St.layAll, St.lay, St.freezeArg, St.freezeArg1]
        · rw [cal_code env9 rfl]; simp only [fn9, slAll, Nat.reduceBEq, Nat.reduceLeDiff, Nat.reduceAdd, List.length_cons, List.length_nil]
          simp only [e0, e3, x1, x2, k1, k2, k3, k4, g1, g2, g3, g4, G1, h2, slAll, Nat.reduceMul, Nat.reduceBEq, Nat.reduceLT, Nat.reduceLeDiff, Nat.zero_le, List.take_zero, List.take_nil, List.take_succ_cons, List.length_cons, List.length_nil, Nat.le_refl, List.isEmpty_nil, val_pvs, frozen_pvs, msnoc_len, msnoc_get, msnoc_set, msnoc_take, Int.le_refl, take_map_all, Nat.le_refl, St.freezeRows, BV.frozen, List.take_length, List.take_append_drop, z_repl_zero, Int.toNat_zero, true_and, and_true, and_self, eq_self, z_take_zero, List.drop_nil, List.take_nil, vAll, List.foldl_nil, List.foldl_cons, resultsOf, resultList, resultOf, zBV, splice, PV.remade, St.freezeAt, St.freezeBox, St.freezeCap, PV.single, plain, act, dstOf, if_true, if_false, reduceCtorEq, St.get, St.put, St.pvOf, St.putRow, St.consume, St.freeze, St.row, St.elems, St.grab, St.takeRow, St.setRow, St.place, St.optPv, St.setCell, St.setCellRow, binPV, intBin, unPV, BV.val, Nat.reduceEqDiff, bound, consumeAll, buildParts, capsOf, capOf, List.append_nil, Nat.reduceAdd, Nat.reduceLT, Nat.reduceLeDiff, beq_self_eq_true, List.length_map, Nat.beq, dcall, dcallP, List.mapM_cons, St.snapFn, St.snap, St.layAll, St.lay, St.freezeArg, St.freezeArg1]
    · have G1 : (s ≥ 0) = False := eq_false h1
      rw [decide_eq_false h1, Bool.false_and, Bool.false_and] at g4
      cases p <;> cases q <;> simp only [Bool.and_true, Bool.true_and, Bool.and_false, Bool.false_and, Bool.or_false, Bool.or_true, Bool.false_or, Bool.true_or, Bool.not_true, Bool.not_false] at g1 g2 g3 g4
      · rw [cal_code env9 rfl]; simp only [fn9, slAll, Nat.reduceBEq, Nat.reduceLeDiff, Nat.reduceAdd, List.length_cons, List.length_nil]
        simp only [e0, e3, x1, x2, k1, k2, k3, k4, g1, g2, g3, g4, G1, slAll, Nat.reduceMul, Nat.reduceBEq, Nat.reduceLT, Nat.reduceLeDiff, Nat.zero_le, List.take_zero, List.take_nil, List.take_succ_cons, List.length_cons, List.length_nil, Nat.le_refl, List.isEmpty_nil, val_pvs, frozen_pvs, msnoc_len, msnoc_get, msnoc_set, msnoc_take, Int.le_refl, take_map_all, Nat.le_refl, St.freezeRows, BV.frozen, List.take_length, List.take_append_drop, z_repl_zero, Int.toNat_zero, true_and, and_true, and_self, eq_self, z_take_zero, List.drop_nil, List.take_nil, vAll, List.foldl_nil, List.foldl_cons, resultsOf, resultList, resultOf, zBV, splice, PV.remade, St.freezeAt, St.freezeBox, St.freezeCap, PV.single, plain, act, dstOf, if_true, if_false, reduceCtorEq, St.get, St.put, St.pvOf, St.putRow, St.consume, St.freeze, St.row, St.elems, St.grab, St.takeRow, St.setRow, St.place, St.optPv, St.setCell, St.setCellRow, binPV, intBin, unPV, BV.val, Nat.reduceEqDiff, bound, consumeAll, buildParts, capsOf, capOf, List.append_nil, Nat.reduceAdd, Nat.reduceLT, Nat.reduceLeDiff, beq_self_eq_true, List.length_map, Nat.beq, dcall, dcallP, List.mapM_cons, St.snapFn, St.snap, St.layAll, St.lay, St.freezeArg, St.freezeArg1]
      · rw [cal_code env9 rfl]; simp only [fn9, slAll, Nat.reduceBEq, Nat.reduceLeDiff, Nat.reduceAdd, List.length_cons, List.length_nil]
        simp only [e0, e3, x1, x2, k1, k2, k3, k4, g1, g2, g3, g4, G1, slAll, Nat.reduceMul, Nat.reduceBEq, Nat.reduceLT, Nat.reduceLeDiff, Nat.zero_le, List.take_zero, List.take_nil, List.take_succ_cons, List.length_cons, List.length_nil, Nat.le_refl, List.isEmpty_nil, val_pvs, frozen_pvs, msnoc_len, msnoc_get, msnoc_set, msnoc_take, Int.le_refl, take_map_all, Nat.le_refl, St.freezeRows, BV.frozen, List.take_length, List.take_append_drop, z_repl_zero, Int.toNat_zero, true_and, and_true, and_self, eq_self, z_take_zero, List.drop_nil, List.take_nil, vAll, List.foldl_nil, List.foldl_cons, resultsOf, resultList, resultOf, zBV, splice, PV.remade, St.freezeAt, St.freezeBox, St.freezeCap, PV.single, plain, act, dstOf, if_true, if_false, reduceCtorEq, St.get, St.put, St.pvOf, St.putRow, St.consume, St.freeze, St.row, St.elems, St.grab, St.takeRow, St.setRow, St.place, St.optPv, St.setCell, St.setCellRow, binPV, intBin, unPV, BV.val, Nat.reduceEqDiff, bound, consumeAll, buildParts, capsOf, capOf, List.append_nil, Nat.reduceAdd, Nat.reduceLT, Nat.reduceLeDiff, beq_self_eq_true, List.length_map, Nat.beq, dcall, dcallP, List.mapM_cons, St.snapFn, St.snap, St.layAll, St.lay, St.freezeArg, St.freezeArg1]
      · rw [cal_code env9 rfl]; simp only [fn9, slAll, Nat.reduceBEq, Nat.reduceLeDiff, Nat.reduceAdd, List.length_cons, List.length_nil]
        simp only [e0, e3, x1, x2, k1, k2, k3, k4, g1, g2, g3, g4, G1, slAll, Nat.reduceMul, Nat.reduceBEq, Nat.reduceLT, Nat.reduceLeDiff, Nat.zero_le, List.take_zero, List.take_nil, List.take_succ_cons, List.length_cons, List.length_nil, Nat.le_refl, List.isEmpty_nil, val_pvs, frozen_pvs, msnoc_len, msnoc_get, msnoc_set, msnoc_take, Int.le_refl, take_map_all, Nat.le_refl, St.freezeRows, BV.frozen, List.take_length, List.take_append_drop, z_repl_zero, Int.toNat_zero, true_and, and_true, and_self, eq_self, z_take_zero, List.drop_nil, List.take_nil, vAll, List.foldl_nil, List.foldl_cons, resultsOf, resultList, resultOf, zBV, splice, PV.remade, St.freezeAt, St.freezeBox, St.freezeCap, PV.single, plain, act, dstOf, if_true, if_false, reduceCtorEq, St.get, St.put, St.pvOf, St.putRow, St.consume, St.freeze, St.row, St.elems, St.grab, St.takeRow, St.setRow, St.place, St.optPv, St.setCell, St.setCellRow, binPV, intBin, unPV, BV.val, Nat.reduceEqDiff, bound, consumeAll, buildParts, capsOf, capOf, List.append_nil, Nat.reduceAdd, Nat.reduceLT, Nat.reduceLeDiff, beq_self_eq_true, List.length_map, Nat.beq, dcall, dcallP, List.mapM_cons, St.snapFn, St.snap, St.layAll, St.lay, St.freezeArg, St.freezeArg1]
      · rw [cal_code env9 rfl]; simp only [fn9, slAll, Nat.reduceBEq, Nat.reduceLeDiff, Nat.reduceAdd, List.length_cons, List.length_nil]
        simp only [e0, e3, x1, x2, k1, k2, k3, k4, g1, g2, g3, g4, G1, slAll, Nat.reduceMul, Nat.reduceBEq, Nat.reduceLT, Nat.reduceLeDiff, Nat.zero_le, List.take_zero, List.take_nil, List.take_succ_cons, List.length_cons, List.length_nil, Nat.le_refl, List.isEmpty_nil, val_pvs, frozen_pvs, msnoc_len, msnoc_get, msnoc_set, msnoc_take, Int.le_refl, take_map_all, Nat.le_refl, St.freezeRows, BV.frozen, List.take_length, List.take_append_drop, z_repl_zero, Int.toNat_zero, true_and, and_true, and_self, eq_self, z_take_zero, List.drop_nil, List.take_nil, vAll, List.foldl_nil, List.foldl_cons, resultsOf, resultList, resultOf, zBV, splice, PV.remade, St.freezeAt, St.freezeBox, St.freezeCap, PV.single, plain, act, dstOf, if_true, if_false, reduceCtorEq, St.get, St.put, St.pvOf, St.putRow, St.consume, St.freeze, St.row, St.elems, St.grab, St.takeRow, St.setRow, St.place, St.optPv, St.setCell, St.setCellRow, binPV, intBin, unPV, BV.val, Nat.reduceEqDiff, bound, consumeAll, buildParts, capsOf, capOf, List.append_nil, Nat.reduceAdd, Nat.reduceLT, Nat.reduceLeDiff, beq_self_eq_true, List.length_map, Nat.beq, dcall, dcallP, List.mapM_cons, St.snapFn, St.snap, St.layAll, St.lay, St.freezeArg, St.freezeArg1]
end Go.Proofs.Ytldmhbkfblbhaaa.V
