/-
  Part 18 of the texts that the statement stands on.
-/
import Derived.Test.YtldnpgbacakfeaaZ17
set_option linter.all false
namespace Go.Proofs.Ytldnpgbacakfeaa.V
set_option linter.all false
theorem lk9 {a b : Img} {P : List PV} {i N : Nat} {D : PV} (ha : i < a.length) (hb : i < b.length) (hab : a[i].length = b[i].length) (h24 : a[i].length ≤ 1000) (hN : N ≤ 1000000)
   {st : St} (h : st.head [0, 1, 5, 10, 11, 12, 43, 79, 80, 81, 87, 88] st.boxes.length = some ⟨[.pv (.list 1 (a.map eSecs)), .pv (.list 1 (b.map eSecs)), .any, .any, .any, .pv (.list 3 P), .any, .any, .any, .any, .pv (.int .i64 (N : Int)), .pv (.int .i64 0), .pv (.int .i64 (i : Int)), .any, .any, .any, .any, .any, .any, .any, .any, .any, .any, .any, .any, .any, .any, .any, .any, .any, .any, .any, .any, .any, .any, .any, .any, .any, .any, .any, .any, .any, .any, .any, .any, .any, .any, .any, .any, .any, .any, .any, .any, .any, .any, .any, .any, .any, .any, .any, .any, .any, .any, .any, .any, .any, .any, .any, .any, .any, .any, .any, .any, .any, .any, .any, .any, .any, .any, .pv (.list 1 (a.map eSecs)), .pv D, .pv (.int .i64 (i : Int)), .any, .any, .any, .any, .any, .pv (.int .i64 (a[i].length : Int)), .pv (.int .i64 (0 : Nat)), .any, .any, .any, .any, .any, .any, .any, .any, .any, .any, .any, .any, .any, .any, .any, .any, .any, .any, .any, .any, .any, .any, .any, .any, .any, .any, .any, .any, .any, .any, .any, .any, .any, .any, .any, .any, .any, .any, .any], [], [], none⟩) :
   den env fn9_l1 st = some (.normal, ⟨[.pv (.list 1 (a.map eSecs)), .pv (.list 1 (b.map eSecs)), .any, .any, .any, .pv (.list 3 P), .any, .any, .any, .any, .pv (.int .i64 ((N + (difs a[i] b[i]).length : Nat) : Int)), .pv (.int .i64 0), .any, .any, .any, .any, .any, .any, .any, .any, .any, .any, .any, .any, .any, .any, .any, .any, .any, .any, .any, .any, .any, .any, .any, .any, .any, .any, .any, .any, .any, .any, .any, .any, .any, .any, .any, .any, .any, .any, .any, .any, .any, .any, .any, .any, .any, .any, .any, .any, .any, .any, .any, .any, .any, .any, .any, .any, .any, .any, .any, .any, .any, .any, .any, .any, .any, .any, .any, .pv (.list 1 (a.map eSecs)), .pv D, .pv (.int .i64 (i : Int)), .any, .any, .any, .any, .any, .any, .any, .any, .any, .any, .any, .any, .any, .any, .any, .any, .any, .any, .any, .any, .any, .any, .any, .any, .any, .any, .any, .any, .any, .any, .any, .any, .any, .any, .any, .any, .any, .any, .any, .any, .any, .any, .any, .any, .any, .any], [], [], none⟩) := by
  unfold fn9_l1
  have hlim : lim = 1073741824 := rfl
  refine clean_up (env := env) a[i].length (fun k => ⟨[.pv (.list 1 (a.map eSecs)), .pv (.list 1 (b.map eSecs)), .any, .any, .any, .pv (.list 3 P), .any, .any, .any, .any, .pv (.int .i64 ((N + (difN a[i] b[i] k).length : Nat) : Int)), .pv (.int .i64 0), .pv (.int .i64 (i : Int)), .any, .any, .any, .any, .any, .any, .any, .any, .any, .any, .any, .any, .any, .any, .any, .any, .any, .any, .any, .any, .any, .any, .any, .any, .any, .any, .any, .any, .any, .any, .any, .any, .any, .any, .any, .any, .any, .any, .any, .any, .any, .any, .any, .any, .any, .any, .any, .any, .any, .any, .any, .any, .any, .any, .any, .any, .any, .any, .any, .any, .any, .any, .any, .any, .any, .any, .pv (.list 1 (a.map eSecs)), .pv D, .pv (.int .i64 (i : Int)), .any, .any, .any, .any, .any, .pv (.int .i64 (a[i].length : Int)), .pv (.int .i64 k), .any, .any, .any, .any, .any, .any, .any, .any, .any, .any, .any, .any, .any, .any, .any, .any, .any, .any, .any, .any, .any, .any, .any, .any, .any, .any, .any, .any, .any, .any, .any, .any, .any, .any, .any, .any, .any, .any, .any], [], [], none⟩)
    (fun _ => some (.normal, ⟨[.pv (.list 1 (a.map eSecs)), .pv (.list 1 (b.map eSecs)), .any, .any, .any, .pv (.list 3 P), .any, .any, .any, .any, .pv (.int .i64 ((N + (difs a[i] b[i]).length : Nat) : Int)), .pv (.int .i64 0), .any, .any, .any, .any, .any, .any, .any, .any, .any, .any, .any, .any, .any, .any, .any, .any, .any, .any, .any, .any, .any, .any, .any, .any, .any, .any, .any, .any, .any, .any, .any, .any, .any, .any, .any, .any, .any, .any, .any, .any, .any, .any, .any, .any, .any, .any, .any, .any, .any, .any, .any, .any, .any, .any, .any, .any, .any, .any, .any, .any, .any, .any, .any, .any, .any, .any, .any, .pv (.list 1 (a.map eSecs)), .pv D, .pv (.int .i64 (i : Int)), .any, .any, .any, .any, .any, .any, .any, .any, .any, .any, .any, .any, .any, .any, .any, .any, .any, .any, .any, .any, .any, .any, .any, .any, .any, .any, .any, .any, .any, .any, .any, .any, .any, .any, .any, .any, .any, .any, .any, .any, .any, .any, .any, .any, .any, .any], [], [], none⟩)) h (fun _ => rfl) (fun _ => rfl) ?_ ?_
  · intro k rb hi ih
    have hi1 := i64_next hi (by omega)
    have F1 : ((k : Int) < (a[i].length : Int)) = True := eq_true (by omega)
    have hkb : k < b[i].length := by omega
    have hva : a[i]? = some a[i] := List.getElem?_eq_getElem ha
    have hvb : b[i]? = some b[i] := List.getElem?_eq_getElem hb
    have hsa : a[i][k]? = some a[i][k] := List.getElem?_eq_getElem hi
    have hsb : b[i][k]? = some b[i][k] := List.getElem?_eq_getElem hkb
    have hdl := difN_len a[i] b[i] k
    have hs := difN_succ a[i] b[i] k
    by_cases hd : a[i][k] = b[i][k]
    · have hdf := decide_eq_true hd
      rw [if_neg (by simp [dif, hsa, hsb, hd])] at hs
      simp only [fn9_b0, F1, eSecs, eSec, index_nat ha, index_nat hb, index_nat hi, index_nat hkb, hva, hvb, hsa, hsb, List.getElem?_map, Option.map_some, part_sec, secPV_length, eqCells_sec, hdf, val_pvs, frozen_pvs, msnoc_len, msnoc_get, msnoc_set, msnoc_take, Int.le_refl, take_map_all, Nat.le_refl, St.freezeRows, BV.frozen, List.take_length, List.take_append_drop, z_repl_zero, Int.toNat_zero, true_and, and_true, and_self, eq_self, z_take_zero, List.drop_nil, List.take_nil, vAll, List.foldl_nil, List.foldl_cons, resultsOf, resultList, resultOf, zBV, splice, PV.remade, St.freezeAt, St.freezeBox, PV.single, plain, act, dstOf, if_true, if_false, reduceCtorEq, St.get, St.put, St.pvOf, St.putRow, St.consume, St.freeze, St.row, St.elems, St.grab, St.takeRow, St.setRow, St.place, St.optPv, St.setCell, St.setCellRow, binPV, intBin, unPV, BV.val, Nat.reduceEqDiff, bound, consumeAll, buildParts, capsOf, capOf, List.append_nil, Nat.reduceAdd, Nat.reduceLT, Nat.reduceLeDiff, beq_self_eq_true, List.length_map, Nat.beq, dcall, dcallP, List.mapM_cons, St.snapFn, St.snap, St.layAll, St.lay, St.freezeArg, St.freezeArg1]
      rw [ih _ (by simp only [hi1]; rw [hs]; rfl)]
    · have hdf := decide_eq_false hd
      rw [if_pos (by simp [dif, hsa, hsb, hd])] at hs
      have F2 : IntKind.i64.wrap (((N + (difN a[i] b[i] k).length : Nat) : Int) + 1) = ((N + (difN a[i] b[i] (k + 1)).length : Nat) : Int) := by
        rw [hs, i64_fits (by omega)]; simp; omega
      simp only [fn9_b0, F1, F2, eSecs, eSec, index_nat ha, index_nat hb, index_nat hi, index_nat hkb, hva, hvb, hsa, hsb, List.getElem?_map, Option.map_some, part_sec, secPV_length, eqCells_sec, hdf, val_pvs, frozen_pvs, msnoc_len, msnoc_get, msnoc_set, msnoc_take, Int.le_refl, take_map_all, Nat.le_refl, St.freezeRows, BV.frozen, List.take_length, List.take_append_drop, z_repl_zero, Int.toNat_zero, true_and, and_true, and_self, eq_self, z_take_zero, List.drop_nil, List.take_nil, vAll, List.foldl_nil, List.foldl_cons, resultsOf, resultList, resultOf, zBV, splice, PV.remade, St.freezeAt, St.freezeBox, PV.single, plain, act, dstOf, if_true, if_false, reduceCtorEq, St.get, St.put, St.pvOf, St.putRow, St.consume, St.freeze, St.row, St.elems, St.grab, St.takeRow, St.setRow, St.place, St.optPv, St.setCell, St.setCellRow, binPV, intBin, unPV, BV.val, Nat.reduceEqDiff, bound, consumeAll, buildParts, capsOf, capOf, List.append_nil, Nat.reduceAdd, Nat.reduceLT, Nat.reduceLeDiff, beq_self_eq_true, List.length_map, Nat.beq, dcall, dcallP, List.mapM_cons, St.snapFn, St.snap, St.layAll, St.lay, St.freezeArg, St.freezeArg1]
      rw [ih _ (by simp only [hi1]; rfl)]
  · intro rb
    simp only [fn9_b0, Int.lt_irrefl, val_pvs, frozen_pvs, msnoc_len, msnoc_get, msnoc_set, msnoc_take, Int.le_refl, take_map_all, Nat.le_refl, St.freezeRows, BV.frozen, List.take_length, List.take_append_drop, z_repl_zero, Int.toNat_zero, true_and, and_true, and_self, eq_self, z_take_zero, List.drop_nil, List.take_nil, vAll, List.foldl_nil, List.foldl_cons, resultsOf, resultList, resultOf, zBV, splice, PV.remade, St.freezeAt, St.freezeBox, PV.single, plain, act, dstOf, if_true, if_false, reduceCtorEq, St.get, St.put, St.pvOf, St.putRow, St.consume, St.freeze, St.row, St.elems, St.grab, St.takeRow, St.setRow, St.place, St.optPv, St.setCell, St.setCellRow, binPV, intBin, unPV, BV.val, Nat.reduceEqDiff, bound, consumeAll, buildParts, capsOf, capOf, List.append_nil, Nat.reduceAdd, Nat.reduceLT, Nat.reduceLeDiff, beq_self_eq_true, List.length_map, Nat.beq, dcall, dcallP, List.mapM_cons, St.snapFn, St.snap, St.layAll, St.lay, St.freezeArg, St.freezeArg1]
    rfl
theorem lv9 {a b : Img} {P : List PV} (hl : a.length ≤ 9) (hs : imSizes a = imSizes b) (h24 : ∀ v ∈ a, v.length ≤ 24)
   {st : St} (h : st.head [0, 1, 5, 10, 11, 43, 79, 80, 81] st.boxes.length = some ⟨[.pv (.list 1 (a.map eSecs)), .pv (.list 1 (b.map eSecs)), .any, .any, .any, .pv (.list 3 P), .any, .any, .any, .any, .pv (.int .i64 ((cntA a b 0 : Nat) : Int)), .pv (.int .i64 0), .any, .any, .any, .any, .any, .any, .any, .any, .any, .any, .any, .any, .any, .any, .any, .any, .any, .any, .any, .any, .any, .any, .any, .any, .any, .any, .any, .any, .any, .any, .any, .any, .any, .any, .any, .any, .any, .any, .any, .any, .any, .any, .any, .any, .any, .any, .any, .any, .any, .any, .any, .any, .any, .any, .any, .any, .any, .any, .any, .any, .any, .any, .any, .any, .any, .any, .any, .pv (.list 1 (a.map eSecs)), .pv (.int .i64 (a.length : Int)), .pv (.int .i64 (0 : Nat)), .any, .any, .any, .any, .any, .any, .any, .any, .any, .any, .any, .any, .any, .any, .any, .any, .any, .any, .any, .any, .any, .any, .any, .any, .any, .any, .any, .any, .any, .any, .any, .any, .any, .any, .any, .any, .any, .any, .any, .any, .any, .any, .any, .any, .any, .any], [], [], none⟩) :
   den env fn9_l3 st = some (.normal, ⟨[.any, .any, .any, .any, .any, .pv (.list 3 P), .any, .any, .any, .any, .pv (.int .i64 ((cntA a b a.length : Nat) : Int)), .pv (.int .i64 0), .any, .any, .any, .any, .any, .any, .any, .any, .any, .any, .any, .any, .any, .any, .any, .any, .any, .any, .any, .any, .any, .any, .any, .any, .any, .any, .any, .any, .any, .any, .any, .any, .any, .any, .any, .any, .any, .any, .any, .any, .any, .any, .any, .any, .any, .any, .any, .any, .any, .any, .any, .any, .any, .any, .any, .any, .any, .any, .any, .any, .any, .any, .any, .any, .any, .any, .any, .any, .any, .any, .any, .any, .any, .any, .any, .any, .any, .any, .any, .any, .any, .any, .any, .any, .any, .any, .any, .any, .any, .any, .any, .any, .any, .any, .any, .any, .any, .any, .any, .any, .any, .any, .any, .any, .any, .any, .any, .any, .any, .any, .any, .any, .any, .any, .any, .any], [], [], none⟩) := by
  unfold fn9_l3
  have hlim : lim = 1073741824 := rfl
  obtain ⟨z1, z2⟩ := sizes_inj hs
  have hcnt : ∀ n, n ≤ a.length → cntA a b n ≤ 24 * n := by
    intro n
    induction n with
    | zero => intro _; simp [cntA]
    | succ n ih =>
      intro hn
      have ha : n < a.length := by omega
      rw [cntA_succ, getD_lt ha]
      have h1 := ih (by omega)
      have h2 := difN_len a[n] (b.getD n []) a[n].length
      have h3 := h24 _ (List.getElem_mem ha)
      unfold difs; omega
  refine clean_up (env := env) a.length (fun i => ⟨[.pv (.list 1 (a.map eSecs)), .pv (.list 1 (b.map eSecs)), .any, .any, .any, .pv (.list 3 P), .any, .any, .any, .any, .pv (.int .i64 ((cntA a b i : Nat) : Int)), .pv (.int .i64 0), .any, .any, .any, .any, .any, .any, .any, .any, .any, .any, .any, .any, .any, .any, .any, .any, .any, .any, .any, .any, .any, .any, .any, .any, .any, .any, .any, .any, .any, .any, .any, .any, .any, .any, .any, .any, .any, .any, .any, .any, .any, .any, .any, .any, .any, .any, .any, .any, .any, .any, .any, .any, .any, .any, .any, .any, .any, .any, .any, .any, .any, .any, .any, .any, .any, .any, .any, .pv (.list 1 (a.map eSecs)), .pv (.int .i64 (a.length : Int)), .pv (.int .i64 i), .any, .any, .any, .any, .any, .any, .any, .any, .any, .any, .any, .any, .any, .any, .any, .any, .any, .any, .any, .any, .any, .any, .any, .any, .any, .any, .any, .any, .any, .any, .any, .any, .any, .any, .any, .any, .any, .any, .any, .any, .any, .any, .any, .any, .any, .any], [], [], none⟩)
    (fun _ => some (.normal, ⟨[.any, .any, .any, .any, .any, .pv (.list 3 P), .any, .any, .any, .any, .pv (.int .i64 ((cntA a b a.length : Nat) : Int)), .pv (.int .i64 0), .any, .any, .any, .any, .any, .any, .any, .any, .any, .any, .any, .any, .any, .any, .any, .any, .any, .any, .any, .any, .any, .any, .any, .any, .any, .any, .any, .any, .any, .any, .any, .any, .any, .any, .any, .any, .any, .any, .any, .any, .any, .any, .any, .any, .any, .any, .any, .any, .any, .any, .any, .any, .any, .any, .any, .any, .any, .any, .any, .any, .any, .any, .any, .any, .any, .any, .any, .any, .any, .any, .any, .any, .any, .any, .any, .any, .any, .any, .any, .any, .any, .any, .any, .any, .any, .any, .any, .any, .any, .any, .any, .any, .any, .any, .any, .any, .any, .any, .any, .any, .any, .any, .any, .any, .any, .any, .any, .any, .any, .any, .any, .any, .any, .any, .any, .any], [], [], none⟩)) h (fun _ => rfl) (fun _ => rfl) ?_ ?_
  · intro i rb hi ih
    have hi1 := i64_next hi (by omega)
    have F1 : ((i : Int) < (a.length : Int)) = True := eq_true (by omega)
    have hb : i < b.length := by omega
    have hva : a[i]? = some a[i] := List.getElem?_eq_getElem hi
    have h3 := h24 _ (List.getElem_mem hi)
    simp only [fn9_b2, F1, eSecs, index_nat hi, hva, List.getElem?_map, Option.map_some, val_pvs, frozen_pvs, msnoc_len, msnoc_get, msnoc_set, msnoc_take, Int.le_refl, take_map_all, Nat.le_refl, St.freezeRows, BV.frozen, List.take_length, List.take_append_drop, z_repl_zero, Int.toNat_zero, true_and, and_true, and_self, eq_self, z_take_zero, List.drop_nil, List.take_nil, vAll, List.foldl_nil, List.foldl_cons, resultsOf, resultList, resultOf, zBV, splice, PV.remade, St.freezeAt, St.freezeBox, PV.single, plain, act, dstOf, if_true, if_false, reduceCtorEq, St.get, St.put, St.pvOf, St.putRow, St.consume, St.freeze, St.row, St.elems, St.grab, St.takeRow, St.setRow, St.place, St.optPv, St.setCell, St.setCellRow, binPV, intBin, unPV, BV.val, Nat.reduceEqDiff, bound, consumeAll, buildParts, capsOf, capOf, List.append_nil, Nat.reduceAdd, Nat.reduceLT, Nat.reduceLeDiff, beq_self_eq_true, List.length_map, Nat.beq, dcall, dcallP, List.mapM_cons, St.snapFn, St.snap, St.layAll, St.lay, St.freezeArg, St.freezeArg1]
    rw [lk9 (a := a) (b := b) (P := P) (i := i) (N := cntA a b i) (D := .int .i64 (a.length : Int)) hi hb (z2 i hi hb) (by omega) (by have := hcnt i (by omega); omega)]
    rotate_left
    · rfl
    · simp only [val_pvs, frozen_pvs, msnoc_len, msnoc_get, msnoc_set, msnoc_take, Int.le_refl, take_map_all, Nat.le_refl, St.freezeRows, BV.frozen, List.take_length, List.take_append_drop, z_repl_zero, Int.toNat_zero, true_and, and_true, and_self, eq_self, z_take_zero, List.drop_nil, List.take_nil, vAll, List.foldl_nil, List.foldl_cons, resultsOf, resultList, resultOf, zBV, splice, PV.remade, St.freezeAt, St.freezeBox, PV.single, plain, act, dstOf, if_true, if_false, reduceCtorEq, St.get, St.put, St.pvOf, St.putRow, St.consume, St.freeze, St.row, St.elems, St.grab, St.takeRow, St.setRow, St.place, St.optPv, St.setCell, St.setCellRow, binPV, intBin, unPV, BV.val, Nat.reduceEqDiff, bound, consumeAll, buildParts, capsOf, capOf, List.append_nil, Nat.reduceAdd, Nat.reduceLT, Nat.reduceLeDiff, beq_self_eq_true, List.length_map, Nat.beq, dcall, dcallP, List.mapM_cons, St.snapFn, St.snap, St.layAll, St.lay, St.freezeArg, St.freezeArg1]
      rw [ih _ (by simp only [hi1]; rw [cntA_succ, getD_lt hi, getD_lt hb]; rfl)]
  · intro rb
    simp only [fn9_b2, Int.lt_irrefl, val_pvs, frozen_pvs, msnoc_len, msnoc_get, msnoc_set, msnoc_take, Int.le_refl, take_map_all, Nat.le_refl, St.freezeRows, BV.frozen, List.take_length, List.take_append_drop, z_repl_zero, Int.toNat_zero, true_and, and_true, and_self, eq_self, z_take_zero, List.drop_nil, List.take_nil, vAll, List.foldl_nil, List.foldl_cons, resultsOf, resultList, resultOf, zBV, splice, PV.remade, St.freezeAt, St.freezeBox, PV.single, plain, act, dstOf, if_true, if_false, reduceCtorEq, St.get, St.put, St.pvOf, St.putRow, St.consume, St.freeze, St.row, St.elems, St.grab, St.takeRow, St.setRow, St.place, St.optPv, St.setCell, St.setCellRow, binPV, intBin, unPV, BV.val, Nat.reduceEqDiff, bound, consumeAll, buildParts, capsOf, capOf, List.append_nil, Nat.reduceAdd, Nat.reduceLT, Nat.reduceLeDiff, beq_self_eq_true, List.length_map, Nat.beq, dcall, dcallP, List.mapM_cons, St.snapFn, St.snap, St.layAll, St.lay, St.freezeArg, St.freezeArg1]
    rfl
theorem lm9 {p : List Wrt} {n : Int} (hl : p.length ≤ 1000) (hd : ∀ w ∈ p, w.data.length ≤ 1000)
   {st : St} (h : st.head [5, 10, 11, 43, 110, 111, 112] st.boxes.length = some ⟨[.any, .any, .any, .any, .any, .pv (.list 3 (p.map eWr)), .any, .any, .any, .any, .pv (.int .i64 n), .pv (.int .i64 ((datLen (p.take 0) : Nat) : Int)), .any, .any, .any, .any, .any, .any, .any, .any, .any, .any, .any, .any, .any, .any, .any, .any, .any, .any, .any, .any, .any, .any, .any, .any, .any, .any, .any, .any, .any, .any, .any, .any, .any, .any, .any, .any, .any, .any, .any, .any, .any, .any, .any, .any, .any, .any, .any, .any, .any, .any, .any, .any, .any, .any, .any, .any, .any, .any, .any, .any, .any, .any, .any, .any, .any, .any, .any, .any, .any, .any, .any, .any, .any, .any, .any, .any, .any, .any, .any, .any, .any, .any, .any, .any, .any, .any, .any, .any, .any, .any, .any, .any, .any, .any, .any, .any, .any, .any, .pv (.list 3 (p.map eWr)), .pv (.int .i64 p.length), .pv (.int .i64 (0 : Nat)), .any, .any, .any, .any, .any, .any, .any, .any, .any, .any, .any, .any, .any, .any, .any], [], [], none⟩) :
   den env fn9_l5 st = some (.normal, ⟨[.any, .any, .any, .any, .any, .any, .any, .any, .any, .any, .pv (.int .i64 n), .pv (.int .i64 ((datLen p : Nat) : Int)), .any, .any, .any, .any, .any, .any, .any, .any, .any, .any, .any, .any, .any, .any, .any, .any, .any, .any, .any, .any, .any, .any, .any, .any, .any, .any, .any, .any, .any, .any, .any, .any, .any, .any, .any, .any, .any, .any, .any, .any, .any, .any, .any, .any, .any, .any, .any, .any, .any, .any, .any, .any, .any, .any, .any, .any, .any, .any, .any, .any, .any, .any, .any, .any, .any, .any, .any, .any, .any, .any, .any, .any, .any, .any, .any, .any, .any, .any, .any, .any, .any, .any, .any, .any, .any, .any, .any, .any, .any, .any, .any, .any, .any, .any, .any, .any, .any, .any, .any, .any, .any, .any, .any, .any, .any, .any, .any, .any, .any, .any, .any, .any, .any, .any, .any, .any], [], [], none⟩) := by
  unfold fn9_l5
  have hlim : lim = 1073741824 := rfl
  have hdl : ∀ k, k ≤ p.length → datLen (p.take k) ≤ 1000 * k := by
    intro k
    induction k with
    | zero => intro _; simp [datLen]
    | succ k ih =>
      intro hk
      have hk' : k < p.length := by omega
      rw [take_snoc' hk', datLen_append]
      have := ih (by omega)
      have := hd _ (List.getElem_mem hk')
      simp only [datLen, List.map_cons, List.map_nil, List.sum_cons, List.sum_nil] at *
      omega
  refine clean_up (env := env) p.length (fun k => ⟨[.any, .any, .any, .any, .any, .pv (.list 3 (p.map eWr)), .any, .any, .any, .any, .pv (.int .i64 n), .pv (.int .i64 ((datLen (p.take k) : Nat) : Int)), .any, .any, .any, .any, .any, .any, .any, .any, .any, .any, .any, .any, .any, .any, .any, .any, .any, .any, .any, .any, .any, .any, .any, .any, .any, .any, .any, .any, .any, .any, .any, .any, .any, .any, .any, .any, .any, .any, .any, .any, .any, .any, .any, .any, .any, .any, .any, .any, .any, .any, .any, .any, .any, .any, .any, .any, .any, .any, .any, .any, .any, .any, .any, .any, .any, .any, .any, .any, .any, .any, .any, .any, .any, .any, .any, .any, .any, .any, .any, .any, .any, .any, .any, .any, .any, .any, .any, .any, .any, .any, .any, .any, .any, .any, .any, .any, .any, .any, .pv (.list 3 (p.map eWr)), .pv (.int .i64 p.length), .pv (.int .i64 k), .any, .any, .any, .any, .any, .any, .any, .any, .any, .any, .any, .any, .any, .any, .any], [], [], none⟩)
    (fun _ => some (.normal, ⟨[.any, .any, .any, .any, .any, .any, .any, .any, .any, .any, .pv (.int .i64 n), .pv (.int .i64 ((datLen p : Nat) : Int)), .any, .any, .any, .any, .any, .any, .any, .any, .any, .any, .any, .any, .any, .any, .any, .any, .any, .any, .any, .any, .any, .any, .any, .any, .any, .any, .any, .any, .any, .any, .any, .any, .any, .any, .any, .any, .any, .any, .any, .any, .any, .any, .any, .any, .any, .any, .any, .any, .any, .any, .any, .any, .any, .any, .any, .any, .any, .any, .any, .any, .any, .any, .any, .any, .any, .any, .any, .any, .any, .any, .any, .any, .any, .any, .any, .any, .any, .any, .any, .any, .any, .any, .any, .any, .any, .any, .any, .any, .any, .any, .any, .any, .any, .any, .any, .any, .any, .any, .any, .any, .any, .any, .any, .any, .any, .any, .any, .any, .any, .any, .any, .any, .any, .any, .any, .any], [], [], none⟩)) h (fun _ => rfl) (fun _ => rfl) ?_ ?_
  · intro k rb hi ih
    have hi1 := i64_next hi (by omega)
    have F1 : ((k : Int) < (p.length : Int)) = True := eq_true (by omega)
    have hk : p[k]? = some p[k] := List.getElem?_eq_getElem hi
    have hs : datLen (p.take (k + 1)) = datLen (p.take k) + p[k].data.length := by
      rw [take_snoc' hi, datLen_append]; simp [datLen]
    have F2 : IntKind.i64.wrap (((datLen (p.take k) : Nat) : Int) + (p[k].data.length : Int)) = ((datLen (p.take (k + 1)) : Nat) : Int) := by
      have := hdl k (by omega)
      have := hd _ (List.getElem_mem hi)
      rw [hs, i64_fits (by omega)]; omega
    simp only [fn9_b4, F1, F2, eWr, index_nat hi, hk, List.getElem?_map, Option.map_some, val_pvs, frozen_pvs, msnoc_len, msnoc_get, msnoc_set, msnoc_take, Int.le_refl, take_map_all, Nat.le_refl, St.freezeRows, BV.frozen, List.take_length, List.take_append_drop, z_repl_zero, Int.toNat_zero, true_and, and_true, and_self, eq_self, z_take_zero, List.drop_nil, List.take_nil, vAll, List.foldl_nil, List.foldl_cons, resultsOf, resultList, resultOf, zBV, splice, PV.remade, St.freezeAt, St.freezeBox, PV.single, plain, act, dstOf, if_true, if_false, reduceCtorEq, St.get, St.put, St.pvOf, St.putRow, St.consume, St.freeze, St.row, St.elems, St.grab, St.takeRow, St.setRow, St.place, St.optPv, St.setCell, St.setCellRow, binPV, intBin, unPV, BV.val, Nat.reduceEqDiff, bound, consumeAll, buildParts, capsOf, capOf, List.append_nil, Nat.reduceAdd, Nat.reduceLT, Nat.reduceLeDiff, beq_self_eq_true, List.length_map, Nat.beq, dcall, dcallP, List.mapM_cons, St.snapFn, St.snap, St.layAll, St.lay, St.freezeArg, St.freezeArg1]
    rw [ih _ (by simp only [hi1]; rfl)]
  · intro rb
    simp only [fn9_b4, Int.lt_irrefl, List.take_length, val_pvs, frozen_pvs, msnoc_len, msnoc_get, msnoc_set, msnoc_take, Int.le_refl, take_map_all, Nat.le_refl, St.freezeRows, BV.frozen, List.take_length, List.take_append_drop, z_repl_zero, Int.toNat_zero, true_and, and_true, and_self, eq_self, z_take_zero, List.drop_nil, List.take_nil, vAll, List.foldl_nil, List.foldl_cons, resultsOf, resultList, resultOf, zBV, splice, PV.remade, St.freezeAt, St.freezeBox, PV.single, plain, act, dstOf, if_true, if_false, reduceCtorEq, St.get, St.put, St.pvOf, St.putRow, St.consume, St.freeze, St.row, St.elems, St.grab, St.takeRow, St.setRow, St.place, St.optPv, St.setCell, St.setCellRow, binPV, intBin, unPV, BV.val, Nat.reduceEqDiff, bound, consumeAll, buildParts, capsOf, capOf, List.append_nil, Nat.reduceAdd, Nat.reduceLT, Nat.reduceLeDiff, beq_self_eq_true, List.length_map, Nat.beq, dcall, dcallP, List.mapM_cons, St.snapFn, St.snap, St.layAll, St.lay, St.freezeArg, St.freezeArg1]
    rfl
set_option maxHeartbeats 4000000 in
theorem cal9 {a b : Img} : cal env 9 [.list 1 (a.map eSecs), .list 1 (b.map eSecs)] = some [(.bool true, false)] := by
  have e0 := cal11 (im := a)
  have e00 := cal11 (im := b)
  have e3 := calAwake
  by_cases hf : few7 a = true
  rotate_left
  · have hf : few7 a = false := by simpa using hf
    rw [hf] at e0
    rw [cal_code env9 rfl]; simp only [fn9]; simp only [start, z_map_cons, z_map_nil, z_len_cons, z_len_nil, z_repl_zero, z_repl_succ, z_cons_app, z_nil_app, Nat.reduceAdd, Nat.reduceSub]
    simp only [e0, e3, val_pvs, frozen_pvs, msnoc_len, msnoc_get, msnoc_set, msnoc_take, Int.le_refl, take_map_all, Nat.le_refl, St.freezeRows, BV.frozen, List.take_length, List.take_append_drop, z_repl_zero, Int.toNat_zero, true_and, and_true, and_self, eq_self, z_take_zero, List.drop_nil, List.take_nil, vAll, List.foldl_nil, List.foldl_cons, resultsOf, resultList, resultOf, zBV, splice, PV.remade, St.freezeAt, St.freezeBox, PV.single, plain, act, dstOf, if_true, if_false, reduceCtorEq, St.get, St.put, St.pvOf, St.putRow, St.consume, St.freeze, St.row, St.elems, St.grab, St.takeRow, St.setRow, St.place, St.optPv, St.setCell, St.setCellRow, binPV, intBin, unPV, BV.val, Nat.reduceEqDiff, bound, consumeAll, buildParts, capsOf, capOf, List.append_nil, Nat.reduceAdd, Nat.reduceLT, Nat.reduceLeDiff, beq_self_eq_true, List.length_map, Nat.beq, dcall, dcallP, List.mapM_cons, St.snapFn, St.snap, St.layAll, St.lay, St.freezeArg, St.freezeArg1]
  rw [hf] at e0
  by_cases hg : few7 b = true
  rotate_left
  · have hg : few7 b = false := by simpa using hg
    rw [hg] at e00
    rw [cal_code env9 rfl]; simp only [fn9]; simp only [start, z_map_cons, z_map_nil, z_len_cons, z_len_nil, z_repl_zero, z_repl_succ, z_cons_app, z_nil_app, Nat.reduceAdd, Nat.reduceSub]
    simp only [e0, e00, e3, val_pvs, frozen_pvs, msnoc_len, msnoc_get, msnoc_set, msnoc_take, Int.le_refl, take_map_all, Nat.le_refl, St.freezeRows, BV.frozen, List.take_length, List.take_append_drop, z_repl_zero, Int.toNat_zero, true_and, and_true, and_self, eq_self, z_take_zero, List.drop_nil, List.take_nil, vAll, List.foldl_nil, List.foldl_cons, resultsOf, resultList, resultOf, zBV, splice, PV.remade, St.freezeAt, St.freezeBox, PV.single, plain, act, dstOf, if_true, if_false, reduceCtorEq, St.get, St.put, St.pvOf, St.putRow, St.consume, St.freeze, St.row, St.elems, St.grab, St.takeRow, St.setRow, St.place, St.optPv, St.setCell, St.setCellRow, binPV, intBin, unPV, BV.val, Nat.reduceEqDiff, bound, consumeAll, buildParts, capsOf, capOf, List.append_nil, Nat.reduceAdd, Nat.reduceLT, Nat.reduceLeDiff, beq_self_eq_true, List.length_map, Nat.beq, dcall, dcallP, List.mapM_cons, St.snapFn, St.snap, St.layAll, St.lay, St.freezeArg, St.freezeArg1]
  rw [hg] at e00
  obtain ⟨hl9, hr24⟩ := few7_len hf
  obtain ⟨hl, hr⟩ := few7_lim hf
  obtain ⟨hm, hmr⟩ := few7_mil hf
  obtain ⟨hlb, hrb⟩ := few7_lim hg
  have e1 := cal18 hl
  by_cases hc : imCheck a = 0
  rotate_left
  · have k1 : (imCheck a != 0) = true := by simpa using hc
    rw [cal_code env9 rfl]; simp only [fn9]; simp only [start, z_map_cons, z_map_nil, z_len_cons, z_len_nil, z_repl_zero, z_repl_succ, z_cons_app, z_nil_app, Nat.reduceAdd, Nat.reduceSub]
    simp only [e0, e00, e1, e3, k1, val_pvs, frozen_pvs, msnoc_len, msnoc_get, msnoc_set, msnoc_take, Int.le_refl, take_map_all, Nat.le_refl, St.freezeRows, BV.frozen, List.take_length, List.take_append_drop, z_repl_zero, Int.toNat_zero, true_and, and_true, and_self, eq_self, z_take_zero, List.drop_nil, List.take_nil, vAll, List.foldl_nil, List.foldl_cons, resultsOf, resultList, resultOf, zBV, splice, PV.remade, St.freezeAt, St.freezeBox, PV.single, plain, act, dstOf, if_true, if_false, reduceCtorEq, St.get, St.put, St.pvOf, St.putRow, St.consume, St.freeze, St.row, St.elems, St.grab, St.takeRow, St.setRow, St.place, St.optPv, St.setCell, St.setCellRow, binPV, intBin, unPV, BV.val, Nat.reduceEqDiff, bound, consumeAll, buildParts, capsOf, capOf, List.append_nil, Nat.reduceAdd, Nat.reduceLT, Nat.reduceLeDiff, beq_self_eq_true, List.length_map, Nat.beq, dcall, dcallP, List.mapM_cons, St.snapFn, St.snap, St.layAll, St.lay, St.freezeArg, St.freezeArg1]
  have k1 : (imCheck a != 0) = false := by simpa using hc
  have e4 := cal37 hl
  have e5 := cal37 hlb
  have e6 := cal36 (l := imSizes a) (m := imSizes b) (by simpa [imSizes] using hl)
  by_cases hs : imSizes a = imSizes b
  rotate_left
  · rw [decide_eq_false hs] at e6
    rw [cal_code env9 rfl]; simp only [fn9]; simp only [start, z_map_cons, z_map_nil, z_len_cons, z_len_nil, z_repl_zero, z_repl_succ, z_cons_app, z_nil_app, Nat.reduceAdd, Nat.reduceSub]
    simp only [e0, e00, e1, e3, e4, e5, e6, k1, val_pvs, frozen_pvs, msnoc_len, msnoc_get, msnoc_set, msnoc_take, Int.le_refl, take_map_all, Nat.le_refl, St.freezeRows, BV.frozen, List.take_length, List.take_append_drop, z_repl_zero, Int.toNat_zero, true_and, and_true, and_self, eq_self, z_take_zero, List.drop_nil, List.take_nil, vAll, List.foldl_nil, List.foldl_cons, resultsOf, resultList, resultOf, zBV, splice, PV.remade, St.freezeAt, St.freezeBox, PV.single, plain, act, dstOf, if_true, if_false, reduceCtorEq, St.get, St.put, St.pvOf, St.putRow, St.consume, St.freeze, St.row, St.elems, St.grab, St.takeRow, St.setRow, St.place, St.optPv, St.setCell, St.setCellRow, binPV, intBin, unPV, BV.val, Nat.reduceEqDiff, bound, consumeAll, buildParts, capsOf, capOf, List.append_nil, Nat.reduceAdd, Nat.reduceLT, Nat.reduceLeDiff, beq_self_eq_true, List.length_map, Nat.beq, dcall, dcallP, List.mapM_cons, St.snapFn, St.snap, St.layAll, St.lay, St.freezeArg, St.freezeArg1]
  rw [decide_eq_true hs] at e6
  obtain ⟨z1, z2⟩ := sizes_inj hs
  have hP : pairErr a b = 0 → ∀ n, n ≤ a.length → (patchN a b n).length ≤ lim := fun _ n hn => by
    have := patchN_few (b := b) hr24 n
    unfold lim; omega
  have hcb : imCheck b = 0 := by show sizesErr (imSizes b) = 0; rw [← hs]; exact hc
  have p0 : pairErr a b = 0 := by unfold pairErr; rw [if_neg (by omega), if_neg (by omega), if_pos hs]
  have d1 := cal32 hl hlb hr hP
  unfold patchOut at d1
  rw [p0, if_pos rfl] at d1
  have hpf := patchOut_few hf hg
  unfold patchOut at hpf
  rw [if_pos p0] at hpf
  have hpl : (patchOf a b).length ≤ 1000 := by have := patchN_few (b := b) hr24 a.length; unfold patchOf; omega
  have hok : okW (patchOf a b) := fun w hw => by
    rcases patch_fits hs hw with h | h
    · exact h.2
    · exact absurd ⟨hl, hr⟩ h
  have a1 := cal23 hok hm hmr
  obtain ⟨m1, m2⟩ := patch_makes hs hc hl hr
  rw [m1, m2] at a1
  have b1 := cal34 (a := b) (b := b) hlb hrb
  have b2 := cal17 (a := b) (b := b) hlb hrb
  have b3 := cal34 (a := a) (b := b) hl hr
  rw [decide_eq_true rfl] at b1 b2
  have k2 : ((0 : Int) != 0) = false := rfl
  have k3 : ((((patchOf a b).length : Int) == 0) == decide (a = b)) = true := by
    have := patch_nil hs hc hl hr
    by_cases h : a = b
    · rw [decide_eq_true h, this.2 h]; rfl
    · have h2 : (((patchOf a b).length : Int) == 0) = false := by
        have : (patchOf a b).length ≠ 0 := fun e => h (this.1 e)
        rw [beq_eq_false_iff_ne]; omega
      rw [decide_eq_false h, h2]; rfl
  have hcd : datLen (patchOf a b) = cntA a b a.length := patch_cnt hs a.length (Nat.le_refl _)
  have k4 : ∀ x : Int, (x == x) = true := by simp
  rw [cal_code env9 rfl]; simp only [fn9]; simp only [start, z_map_cons, z_map_nil, z_len_cons, z_len_nil, z_repl_zero, z_repl_succ, z_cons_app, z_nil_app, Nat.reduceAdd, Nat.reduceSub]
  simp only [e0, e00, e1, e3, e4, e5, e6, d1, a1, b1, b2, b3, k1, k2, k3, val_pvs, frozen_pvs, msnoc_len, msnoc_get, msnoc_set, msnoc_take, Int.le_refl, take_map_all, Nat.le_refl, St.freezeRows, BV.frozen, List.take_length, List.take_append_drop, z_repl_zero, Int.toNat_zero, true_and, and_true, and_self, eq_self, z_take_zero, List.drop_nil, List.take_nil, vAll, List.foldl_nil, List.foldl_cons, resultsOf, resultList, resultOf, zBV, splice, PV.remade, St.freezeAt, St.freezeBox, PV.single, plain, act, dstOf, if_true, if_false, reduceCtorEq, St.get, St.put, St.pvOf, St.putRow, St.consume, St.freeze, St.row, St.elems, St.grab, St.takeRow, St.setRow, St.place, St.optPv, St.setCell, St.setCellRow, binPV, intBin, unPV, BV.val, Nat.reduceEqDiff, bound, consumeAll, buildParts, capsOf, capOf, List.append_nil, Nat.reduceAdd, Nat.reduceLT, Nat.reduceLeDiff, beq_self_eq_true, List.length_map, Nat.beq, dcall, dcallP, List.mapM_cons, St.snapFn, St.snap, St.layAll, St.lay, St.freezeArg, St.freezeArg1]
  rw [lv9 (a := a) (b := b) (P := (patchOf a b).map eWr) hl9 hs hr24]
  rotate_left
  · rfl
  · simp only [e0, e00, e1, e3, e4, e5, e6, d1, a1, b1, b2, b3, k1, k2, k3, val_pvs, frozen_pvs, msnoc_len, msnoc_get, msnoc_set, msnoc_take, Int.le_refl, take_map_all, Nat.le_refl, St.freezeRows, BV.frozen, List.take_length, List.take_append_drop, z_repl_zero, Int.toNat_zero, true_and, and_true, and_self, eq_self, z_take_zero, List.drop_nil, List.take_nil, vAll, List.foldl_nil, List.foldl_cons, resultsOf, resultList, resultOf, zBV, splice, PV.remade, St.freezeAt, St.freezeBox, PV.single, plain, act, dstOf, if_true, if_false, reduceCtorEq, St.get, St.put, St.pvOf, St.putRow, St.consume, St.freeze, St.row, St.elems, St.grab, St.takeRow, St.setRow, St.place, St.optPv, St.setCell, St.setCellRow, binPV, intBin, unPV, BV.val, Nat.reduceEqDiff, bound, consumeAll, buildParts, capsOf, capOf, List.append_nil, Nat.reduceAdd, Nat.reduceLT, Nat.reduceLeDiff, beq_self_eq_true, List.length_map, Nat.beq, dcall, dcallP, List.mapM_cons, St.snapFn, St.snap, St.layAll, St.lay, St.freezeArg, St.freezeArg1]
    rw [lm9 (p := patchOf a b) hpl (fun w hw => by have := hpf.2 w hw; omega)]
    rotate_left
    · rfl
    · simp only [hcd, k4, e0, e00, e1, e3, e4, e5, e6, d1, a1, b1, b2, b3, k1, k2, k3, val_pvs, frozen_pvs, msnoc_len, msnoc_get, msnoc_set, msnoc_take, Int.le_refl, take_map_all, Nat.le_refl, St.freezeRows, BV.frozen, List.take_length, List.take_append_drop, z_repl_zero, Int.toNat_zero, true_and, and_true, and_self, eq_self, z_take_zero, List.drop_nil, List.take_nil, vAll, List.foldl_nil, List.foldl_cons, resultsOf, resultList, resultOf, zBV, splice, PV.remade, St.freezeAt, St.freezeBox, PV.single, plain, act, dstOf, if_true, if_false, reduceCtorEq, St.get, St.put, St.pvOf, St.putRow, St.consume, St.freeze, St.row, St.elems, St.grab, St.takeRow, St.setRow, St.place, St.optPv, St.setCell, St.setCellRow, binPV, intBin, unPV, BV.val, Nat.reduceEqDiff, bound, consumeAll, buildParts, capsOf, capOf, List.append_nil, Nat.reduceAdd, Nat.reduceLT, Nat.reduceLeDiff, beq_self_eq_true, List.length_map, Nat.beq, dcall, dcallP, List.mapM_cons, St.snapFn, St.snap, St.layAll, St.lay, St.freezeArg, St.freezeArg1]
end Go.Proofs.Ytldnpgbacakfeaa.V
