/-
  Part 12 of the texts that the statement stands on.
-/
import Derived.Test.YtpdfhckdmblicaaZ11
import Derived.Test.YtpdfhckdmblicaaRows
set_option linter.all false
namespace Go.Proofs.Ytpdfhckdmblicaa.V
set_option linter.all false
theorem cal31 {i : Int} {los : List Int} {q : PV} (hl : los.length ≤ lim) (hi : i ∈ los) : cal env 31 [eI i, .iptr [.list 1 (los.map eI)] 0, .iptr [q] 0] = some [(.bool false, false)] := by
  have e1 := cal28 (v := i) hl
  rw [decide_eq_true hi] at e1
  rw [show eI i = .int .i64 i from rfl]
  rw [cal_code env31 rfl]; simp only [fn31]; simp only [start, z_map_cons, z_map_nil, z_len_cons, z_len_nil, z_repl_zero, z_repl_succ, z_cons_app, z_nil_app, Nat.reduceAdd, Nat.reduceSub]
  simp only [e1, eI, List.isEmpty_nil, val_pvs, frozen_pvs, msnoc_len, msnoc_get, msnoc_set, msnoc_take, Int.le_refl, take_map_all, Nat.le_refl, St.freezeRows, BV.frozen, List.take_length, List.take_append_drop, z_repl_zero, Int.toNat_zero, true_and, and_true, and_self, eq_self, z_take_zero, List.drop_nil, List.take_nil, vAll, List.foldl_nil, List.foldl_cons, resultsOf, resultList, resultOf, zBV, splice, PV.remade, St.freezeAt, St.freezeBox, St.freezeCap, PV.single, plain, act, dstOf, if_true, if_false, reduceCtorEq, St.get, St.put, St.pvOf, St.putRow, St.consume, St.freeze, St.row, St.elems, St.grab, St.takeRow, St.setRow, St.place, St.optPv, St.setCell, St.setCellRow, binPV, intBin, unPV, BV.val, Nat.reduceEqDiff, bound, consumeAll, buildParts, capsOf, capOf, List.append_nil, Nat.reduceAdd, Nat.reduceLT, Nat.reduceLeDiff, beq_self_eq_true, List.length_map, Nat.beq, dcall, dcallP, List.mapM_cons, St.snapFn, St.snap, St.layAll, St.lay, St.freezeArg, St.freezeArg1]
set_option maxHeartbeats 2000000 in
theorem loop6 {l after : List Sit} {los : List Int} {j : Nat} {best : Sit} (hlen : after.length = l.length) (hl : l.length ≤ 8) (hlos : los.length ≤ lim) (hb : after[j]? = some best) (hok : ∀ s ∈ after, s.lin.length ≤ lim)
   (hk : ∀ (k : Nat) x s, l[k]? = some x → after[k]? = some s → siteErr s = 0 ∧ (((k : Int) ∈ los) → s.role = 5 ∧ (k : Int) ≠ (j : Int)) ∧ (¬ ((k : Int) ∈ los) → s = x ∧ ((k : Int) ≠ (j : Int) → s.role ≠ 1 ∧ (s.role ≠ 4 → (forkX s.lin best.lin).2 = false))))
   {st : St} (h : st.head [1, 2, 5, 6, 24, 55, 56, 57] st.boxes.length = some ⟨[.any, .pv (.int .i64 j), .pbox 0 0, .any, .any, .row 8 (after.map eSit), .pbox 1 0, .any, .any, .any, .any, .any, .any, .any, .any, .any, .any, .any, .any, .any, .any, .any, .any, .any, .any, .any, .any, .any, .any, .any, .any, .any, .any, .any, .any, .any, .any, .any, .any, .any, .any, .any, .any, .any, .any, .any, .any, .any, .any, .any, .any, .any, .any, .any, .any, .ref (.slot 5) 0 after.length, .pv (.int .i64 after.length), .pv (.int .i64 (0 : Nat)), .any, .any, .any, .any, .any, .any, .any, .any, .any, .any, .any, .any, .any, .any, .any, .any, .any, .any, .any, .any, .any, .any, .any, .any, .any, .any, .any, .any, .any, .any, .any, .any, .any, .any, .any, .any, .any, .any, .any, .any, .any, .any, .any, .any, .any, .any, .any, .any, .any, .any, .any, .any, .any, .any, .any, .any, .any, .any, .any, .any, .any, .any, .any, .any, .any, .any, .any, .any, .any, .any, .any, .any, .any, .any, .any, .any, .any, .any, .any, .any, .any, .any, .any, .any, .any, .any, .any, .any, .any, .any, .any], [⟨false, [.pv (.list 8 (l.map eSit))]⟩, ⟨false, [.row 1 (los.map eI)]⟩], [], none⟩) :
   den env fn6_l1 st = some (.normal, ⟨[.any, .pv (.int .i64 j), .pbox 0 0, .any, .any, .row 8 (after.map eSit), .pbox 1 0, .any, .any, .any, .any, .any, .any, .any, .any, .any, .any, .any, .any, .any, .any, .any, .any, .any, .any, .any, .any, .any, .any, .any, .any, .any, .any, .any, .any, .any, .any, .any, .any, .any, .any, .any, .any, .any, .any, .any, .any, .any, .any, .any, .any, .any, .any, .any, .any, .any, .any, .any, .any, .any, .any, .any, .any, .any, .any, .any, .any, .any, .any, .any, .any, .any, .any, .any, .any, .any, .any, .any, .any, .any, .any, .any, .any, .any, .any, .any, .any, .any, .any, .any, .any, .any, .any, .any, .any, .any, .any, .any, .any, .any, .any, .any, .any, .any, .any, .any, .any, .any, .any, .any, .any, .any, .any, .any, .any, .any, .any, .any, .any, .any, .any, .any, .any, .any, .any, .any, .any, .any, .any, .any, .any, .any, .any, .any, .any, .any, .any, .any, .any, .any, .any, .any, .any, .any, .any, .any, .any, .any, .any], [⟨false, [.pv (.list 8 (l.map eSit))]⟩, ⟨false, [.row 1 (los.map eI)]⟩], [], none⟩) := by
  unfold fn6_l1
  have hj := (List.getElem?_eq_some_iff.1 hb).1
  refine clean_list (l := after) (fun i (_ : Unit) => ⟨[.any, .pv (.int .i64 j), .pbox 0 0, .any, .any, .row 8 (after.map eSit), .pbox 1 0, .any, .any, .any, .any, .any, .any, .any, .any, .any, .any, .any, .any, .any, .any, .any, .any, .any, .any, .any, .any, .any, .any, .any, .any, .any, .any, .any, .any, .any, .any, .any, .any, .any, .any, .any, .any, .any, .any, .any, .any, .any, .any, .any, .any, .any, .any, .any, .any, .ref (.slot 5) 0 after.length, .pv (.int .i64 after.length), .pv (.int .i64 i), .any, .any, .any, .any, .any, .any, .any, .any, .any, .any, .any, .any, .any, .any, .any, .any, .any, .any, .any, .any, .any, .any, .any, .any, .any, .any, .any, .any, .any, .any, .any, .any, .any, .any, .any, .any, .any, .any, .any, .any, .any, .any, .any, .any, .any, .any, .any, .any, .any, .any, .any, .any, .any, .any, .any, .any, .any, .any, .any, .any, .any, .any, .any, .any, .any, .any, .any, .any, .any, .any, .any, .any, .any, .any, .any, .any, .any, .any, .any, .any, .any, .any, .any, .any, .any, .any, .any, .any, .any, .any, .any], [⟨false, [.pv (.list 8 (l.map eSit))]⟩, ⟨false, [.row 1 (los.map eI)]⟩], [], none⟩)
    (fun _ _ _ => some (.normal, ⟨[.any, .pv (.int .i64 j), .pbox 0 0, .any, .any, .row 8 (after.map eSit), .pbox 1 0, .any, .any, .any, .any, .any, .any, .any, .any, .any, .any, .any, .any, .any, .any, .any, .any, .any, .any, .any, .any, .any, .any, .any, .any, .any, .any, .any, .any, .any, .any, .any, .any, .any, .any, .any, .any, .any, .any, .any, .any, .any, .any, .any, .any, .any, .any, .any, .any, .any, .any, .any, .any, .any, .any, .any, .any, .any, .any, .any, .any, .any, .any, .any, .any, .any, .any, .any, .any, .any, .any, .any, .any, .any, .any, .any, .any, .any, .any, .any, .any, .any, .any, .any, .any, .any, .any, .any, .any, .any, .any, .any, .any, .any, .any, .any, .any, .any, .any, .any, .any, .any, .any, .any, .any, .any, .any, .any, .any, .any, .any, .any, .any, .any, .any, .any, .any, .any, .any, .any, .any, .any, .any, .any, .any, .any, .any, .any, .any, .any, .any, .any, .any, .any, .any, .any, .any, .any, .any, .any, .any, .any, .any], [⟨false, [.pv (.list 8 (l.map eSit))]⟩, ⟨false, [.row 1 (los.map eI)]⟩], [], none⟩)) (fun _ _ => True) () h (by unfold lim; omega) trivial (fun _ _ => rfl) (fun _ _ => rfl) ?_ ?_
  · intro i s r c rb hi hs hr F1 F2 _ ih
    have hi2 : i < l.length := by omega
    have hx : l[i]? = some l[i] := List.getElem?_eq_getElem hi2
    obtain ⟨k1, k2, k3⟩ := hk i _ s hx hs
    have o1 := hok s (List.mem_of_getElem? hs)
    have o2 := hok best (List.mem_of_getElem? hb)
    have e1 := cal28 (v := (i : Int)) hlos
    have e2 := cal29 o1
    have e3 := cal10 o1 o2
    rw [fork_eq] at e3
    rw [k1] at e2
    by_cases c1 : (i : Int) ∈ los
    · obtain ⟨q1, q2⟩ := k2 c1
      have G1 : ((i : Int) != (j : Int)) = true := by simpa using q2
      rw [decide_eq_true c1] at e1
      obtain ⟨a1, a2, a3, a4, a5, a6, a7, a8⟩ := s
      obtain ⟨b1, b2, b3, b4, b5, b6, b7, b8⟩ := best
      simp only at q1 e3
      subst q1
      generalize forkX a5 b5 = fk at *
      simp only [eSit] at e2
      have B1 : ((5 : Int) == 1) = false := rfl
      have B2 : ((5 : Int) != 5) = false := rfl
      simp only [fn6_b0, F1, F2, G1, B1, B2, e1, e2, e3, hs, hb, hx, eSit, index_nat hi, index_nat hi2, index_nat hj, List.getElem?_map, Option.map_some, List.isEmpty_nil, val_pvs, frozen_pvs, msnoc_len, msnoc_get, msnoc_set, msnoc_take, Int.le_refl, take_map_all, Nat.le_refl, St.freezeRows, BV.frozen, List.take_length, List.take_append_drop, z_repl_zero, Int.toNat_zero, true_and, and_true, and_self, eq_self, z_take_zero, List.drop_nil, List.take_nil, vAll, List.foldl_nil, List.foldl_cons, resultsOf, resultList, resultOf, zBV, splice, PV.remade, St.freezeAt, St.freezeBox, St.freezeCap, PV.single, plain, act, dstOf, if_true, if_false, reduceCtorEq, St.get, St.put, St.pvOf, St.putRow, St.consume, St.freeze, St.row, St.elems, St.grab, St.takeRow, St.setRow, St.place, St.optPv, St.setCell, St.setCellRow, binPV, intBin, unPV, BV.val, Nat.reduceEqDiff, bound, consumeAll, buildParts, capsOf, capOf, List.append_nil, Nat.reduceAdd, Nat.reduceLT, Nat.reduceLeDiff, beq_self_eq_true, List.length_map, Nat.beq, dcall, dcallP, List.mapM_cons, St.snapFn, St.snap, St.layAll, St.lay, St.freezeArg, St.freezeArg1]
      exact ih () _ trivial rfl
    · obtain ⟨rfl, q2⟩ := k3 c1
      rw [decide_eq_false c1] at e1
      have e4 := cal19 o1
      by_cases c2 : (i : Int) = (j : Int)
      · have G1 : ((i : Int) != (j : Int)) = false := by simpa using c2
        generalize l[i] = s at *
        obtain ⟨a1, a2, a3, a4, a5, a6, a7, a8⟩ := s
        obtain ⟨b1, b2, b3, b4, b5, b6, b7, b8⟩ := best
        simp only at e3
        generalize forkX a5 b5 = fk at *
        simp only [eSit] at e2 e4
        simp only [fn6_b0, F1, F2, G1, e1, e2, e3, e4, hs, hb, hx, eSit, index_nat hi, index_nat hi2, index_nat hj, List.getElem?_map, Option.map_some, List.isEmpty_nil, val_pvs, frozen_pvs, msnoc_len, msnoc_get, msnoc_set, msnoc_take, Int.le_refl, take_map_all, Nat.le_refl, St.freezeRows, BV.frozen, List.take_length, List.take_append_drop, z_repl_zero, Int.toNat_zero, true_and, and_true, and_self, eq_self, z_take_zero, List.drop_nil, List.take_nil, vAll, List.foldl_nil, List.foldl_cons, resultsOf, resultList, resultOf, zBV, splice, PV.remade, St.freezeAt, St.freezeBox, St.freezeCap, PV.single, plain, act, dstOf, if_true, if_false, reduceCtorEq, St.get, St.put, St.pvOf, St.putRow, St.consume, St.freeze, St.row, St.elems, St.grab, St.takeRow, St.setRow, St.place, St.optPv, St.setCell, St.setCellRow, binPV, intBin, unPV, BV.val, Nat.reduceEqDiff, bound, consumeAll, buildParts, capsOf, capOf, List.append_nil, Nat.reduceAdd, Nat.reduceLT, Nat.reduceLeDiff, beq_self_eq_true, List.length_map, Nat.beq, dcall, dcallP, List.mapM_cons, St.snapFn, St.snap, St.layAll, St.lay, St.freezeArg, St.freezeArg1]
        exact ih () _ trivial rfl
      · have G1 : ((i : Int) != (j : Int)) = true := by simpa using c2
        obtain ⟨q3, q4⟩ := q2 c2
        generalize l[i] = s at *
        obtain ⟨a1, a2, a3, a4, a5, a6, a7, a8⟩ := s
        obtain ⟨b1, b2, b3, b4, b5, b6, b7, b8⟩ := best
        simp only at e3 q3 q4
        have G2 : (a2 == 1) = false := by simpa using q3
        by_cases c3 : a2 = 4
        · subst c3
          have B1 : ((4 : Int) == 1) = false := rfl
          have B2 : ((4 : Int) != 4) = false := rfl
          generalize forkX a5 b5 = fk at *
          simp only [eSit] at e2 e4
          simp only [fn6_b0, F1, F2, G1, B1, B2, e1, e2, e3, e4, hs, hb, hx, eSit, index_nat hi, index_nat hi2, index_nat hj, List.getElem?_map, Option.map_some, List.isEmpty_nil, val_pvs, frozen_pvs, msnoc_len, msnoc_get, msnoc_set, msnoc_take, Int.le_refl, take_map_all, Nat.le_refl, St.freezeRows, BV.frozen, List.take_length, List.take_append_drop, z_repl_zero, Int.toNat_zero, true_and, and_true, and_self, eq_self, z_take_zero, List.drop_nil, List.take_nil, vAll, List.foldl_nil, List.foldl_cons, resultsOf, resultList, resultOf, zBV, splice, PV.remade, St.freezeAt, St.freezeBox, St.freezeCap, PV.single, plain, act, dstOf, if_true, if_false, reduceCtorEq, St.get, St.put, St.pvOf, St.putRow, St.consume, St.freeze, St.row, St.elems, St.grab, St.takeRow, St.setRow, St.place, St.optPv, St.setCell, St.setCellRow, binPV, intBin, unPV, BV.val, Nat.reduceEqDiff, bound, consumeAll, buildParts, capsOf, capOf, List.append_nil, Nat.reduceAdd, Nat.reduceLT, Nat.reduceLeDiff, beq_self_eq_true, List.length_map, Nat.beq, dcall, dcallP, List.mapM_cons, St.snapFn, St.snap, St.layAll, St.lay, St.freezeArg, St.freezeArg1]
          exact ih () _ trivial rfl
        · have G3 : (a2 == 4) = false := by simpa using c3
          have q5 := q4 c3
          generalize forkX a5 b5 = fk at *
          rw [q5] at e3
          simp only [eSit] at e2 e4
          simp only [fn6_b0, F1, F2, G1, G2, G3, e1, e2, e3, e4, hs, hb, hx, eSit, index_nat hi, index_nat hi2, index_nat hj, List.getElem?_map, Option.map_some, List.isEmpty_nil, val_pvs, frozen_pvs, msnoc_len, msnoc_get, msnoc_set, msnoc_take, Int.le_refl, take_map_all, Nat.le_refl, St.freezeRows, BV.frozen, List.take_length, List.take_append_drop, z_repl_zero, Int.toNat_zero, true_and, and_true, and_self, eq_self, z_take_zero, List.drop_nil, List.take_nil, vAll, List.foldl_nil, List.foldl_cons, resultsOf, resultList, resultOf, zBV, splice, PV.remade, St.freezeAt, St.freezeBox, St.freezeCap, PV.single, plain, act, dstOf, if_true, if_false, reduceCtorEq, St.get, St.put, St.pvOf, St.putRow, St.consume, St.freeze, St.row, St.elems, St.grab, St.takeRow, St.setRow, St.place, St.optPv, St.setCell, St.setCellRow, binPV, intBin, unPV, BV.val, Nat.reduceEqDiff, bound, consumeAll, buildParts, capsOf, capOf, List.append_nil, Nat.reduceAdd, Nat.reduceLT, Nat.reduceLeDiff, beq_self_eq_true, List.length_map, Nat.beq, dcall, dcallP, List.mapM_cons, St.snapFn, St.snap, St.layAll, St.lay, St.freezeArg, St.freezeArg1]
          exact ih () _ trivial rfl
  · intro c rb hp
    simp only [fn6_b0, Int.lt_irrefl, List.isEmpty_nil, val_pvs, frozen_pvs, msnoc_len, msnoc_get, msnoc_set, msnoc_take, Int.le_refl, take_map_all, Nat.le_refl, St.freezeRows, BV.frozen, List.take_length, List.take_append_drop, z_repl_zero, Int.toNat_zero, true_and, and_true, and_self, eq_self, z_take_zero, List.drop_nil, List.take_nil, vAll, List.foldl_nil, List.foldl_cons, resultsOf, resultList, resultOf, zBV, splice, PV.remade, St.freezeAt, St.freezeBox, St.freezeCap, PV.single, plain, act, dstOf, if_true, if_false, reduceCtorEq, St.get, St.put, St.pvOf, St.putRow, St.consume, St.freeze, St.row, St.elems, St.grab, St.takeRow, St.setRow, St.place, St.optPv, St.setCell, St.setCellRow, binPV, intBin, unPV, BV.val, Nat.reduceEqDiff, bound, consumeAll, buildParts, capsOf, capOf, List.append_nil, Nat.reduceAdd, Nat.reduceLT, Nat.reduceLeDiff, beq_self_eq_true, List.length_map, Nat.beq, dcall, dcallP, List.mapM_cons, St.snapFn, St.snap, St.layAll, St.lay, St.freezeArg, St.freezeArg1]
    rfl
set_option maxRecDepth 20000 in
set_option maxHeartbeats 2000000 in
theorem cal6 {l : List Sit} {w : Int} : cal env 6 [.list 8 (l.map eSit), .int .i64 w] = some [(.bool true, false)] := by
  have e0 := calAwake
  have e1 := cal12 (l := l)
  cases hf : fewX l with
  | false =>
    rw [hf] at e1
    rw [cal_code env6 rfl]; simp only [fn6]; simp only [start, z_map_cons, z_map_nil, z_len_cons, z_len_nil, z_repl_zero, z_repl_succ, z_cons_app, z_nil_app, Nat.reduceAdd, Nat.reduceSub]
    simp only [e0, e1, List.isEmpty_nil, val_pvs, frozen_pvs, msnoc_len, msnoc_get, msnoc_set, msnoc_take, Int.le_refl, take_map_all, Nat.le_refl, St.freezeRows, BV.frozen, List.take_length, List.take_append_drop, z_repl_zero, Int.toNat_zero, true_and, and_true, and_self, eq_self, z_take_zero, List.drop_nil, List.take_nil, vAll, List.foldl_nil, List.foldl_cons, resultsOf, resultList, resultOf, zBV, splice, PV.remade, St.freezeAt, St.freezeBox, St.freezeCap, PV.single, plain, act, dstOf, if_true, if_false, reduceCtorEq, St.get, St.put, St.pvOf, St.putRow, St.consume, St.freeze, St.row, St.elems, St.grab, St.takeRow, St.setRow, St.place, St.optPv, St.setCell, St.setCellRow, binPV, intBin, unPV, BV.val, Nat.reduceEqDiff, bound, consumeAll, buildParts, capsOf, capOf, List.append_nil, Nat.reduceAdd, Nat.reduceLT, Nat.reduceLeDiff, beq_self_eq_true, List.length_map, Nat.beq, dcall, dcallP, List.mapM_cons, St.snapFn, St.snap, St.layAll, St.lay, St.freezeArg, St.freezeArg1]
  | true =>
  rw [hf] at e1
  obtain ⟨hl, hok⟩ := few_ok hf
  have hlim : lim = 1073741824 := rfl
  have hok' : ∀ x ∈ l, x.lin.length ≤ lim := fun x hx => by have := hok x hx; omega
  have e2 := cal15 (w := w) hok' hl
  rw [(resX_eq l w).1, (resX_eq l w).2] at e2
  cases hw : (winE l w != 0) with
  | true =>
    have h1 : resSites l w = [] := by unfold resSites; rw [hw, if_pos rfl]
    have h2 : resLos l w = [] := by unfold resLos; rw [hw, if_pos rfl]
    rw [h1, h2] at e2
    have B1 : (((0 : Nat) : Int) == 0) = true := rfl
    rw [cal_code env6 rfl]; simp only [fn6]; simp only [start, z_map_cons, z_map_nil, z_len_cons, z_len_nil, z_repl_zero, z_repl_succ, z_cons_app, z_nil_app, Nat.reduceAdd, Nat.reduceSub]
    simp only [e0, e1, e2, hw, B1, List.map_nil, List.length_nil, List.isEmpty_nil, val_pvs, frozen_pvs, msnoc_len, msnoc_get, msnoc_set, msnoc_take, Int.le_refl, take_map_all, Nat.le_refl, St.freezeRows, BV.frozen, List.take_length, List.take_append_drop, z_repl_zero, Int.toNat_zero, true_and, and_true, and_self, eq_self, z_take_zero, List.drop_nil, List.take_nil, vAll, List.foldl_nil, List.foldl_cons, resultsOf, resultList, resultOf, zBV, splice, PV.remade, St.freezeAt, St.freezeBox, St.freezeCap, PV.single, plain, act, dstOf, if_true, if_false, reduceCtorEq, St.get, St.put, St.pvOf, St.putRow, St.consume, St.freeze, St.row, St.elems, St.grab, St.takeRow, St.setRow, St.place, St.optPv, St.setCell, St.setCellRow, binPV, intBin, unPV, BV.val, Nat.reduceEqDiff, bound, consumeAll, buildParts, capsOf, capOf, List.append_nil, Nat.reduceAdd, Nat.reduceLT, Nat.reduceLeDiff, beq_self_eq_true, List.length_map, Nat.beq, dcall, dcallP, List.mapM_cons, St.snapFn, St.snap, St.layAll, St.lay, St.freezeArg, St.freezeArg1]
  | false =>
  obtain ⟨h1, j, rfl, b, h2, h3, h4⟩ := winE_ok hw
  have h0 : winE l j = 0 := by simpa using hw
  have hj := (List.getElem?_eq_some_iff.1 h2).1
  have ha := winE_again hw
  have hb := again_eq hw
  have hset := fun k x s => settled (k := k) (x := x) (s := s) hw
  have hlen : (resSites l j).length = l.length := by unfold resSites; rw [hw, if_neg (by simp), outGo_len]
  have hlos := resLos_len l j
  have hoks : ∀ x ∈ resSites l j, x.lin.length ≤ lim := fun x hx => by obtain ⟨y, q1, q2⟩ := resSites_lin l j x hx; rw [q2]; exact hok' y q1
  have hbest : (resSites l j)[j]? = some b := by
    rw [resSites_get hw, h2, Option.map_some]
    unfold resS
    rw [if_neg]
    unfold losP
    rw [bne_self_eq_false, Bool.false_and]
    simp
  have e3 := cal15 (w := (j : Int)) hoks (by omega)
  rw [(resX_eq _ _).1, (resX_eq _ _).2, ha.1, hb.1] at e3
  have e4 := sites_same (l := resSites l j) (by omega) hoks
  have hnone := hb.2
  have hnl := resLos_len (resSites l j) j
  generalize resLos (resSites l j) j = none at *
  rw [h3] at hset
  generalize resSites l j = after at *
  generalize resLos l j = los at *
  have e5 := cal30 (enc := eI) (l := none) (p := fun _ => false) (gf := 31) (caps := [.iptr [.list 1 (los.map eI)] 0, .iptr [.list 8 (l.map eSit)] 0]) (fun x hx => cal31 (by omega) (hnone x hx)) (fun _ => rfl) (by omega)
  have e6 : none.any (fun _ => false) = false := by simp
  rw [e6] at e5
  have G1 : ((j : Int) < 0) = False := eq_false (by omega)
  have G2 : ((j : Int) ≥ (l.length : Int)) = False := eq_false (by omega)
  have B1 : ((0 : Int) == 0) = true := rfl
  have B2 : ((0 : Int) != 0) = false := rfl
  have B3 : (((l.length : Nat) : Int) != ((l.length : Nat) : Int)) = false := by simp
  have T1 : (after.map eSit).take l.length = after.map eSit := by rw [← hlen]; exact take_map_all _ _
  rw [cal_code env6 rfl]; simp only [fn6]; simp only [start, z_map_cons, z_map_nil, z_len_cons, z_len_nil, z_repl_zero, z_repl_succ, z_cons_app, z_nil_app, Nat.reduceAdd, Nat.reduceSub]
  simp only [e0, e1, e2, e3, e4, e5, h0, hlen, T1, G1, G2, B1, B2, B3, List.isEmpty_nil, val_pvs, frozen_pvs, msnoc_len, msnoc_get, msnoc_set, msnoc_take, Int.le_refl, take_map_all, Nat.le_refl, St.freezeRows, BV.frozen, List.take_length, List.take_append_drop, z_repl_zero, Int.toNat_zero, true_and, and_true, and_self, eq_self, z_take_zero, List.drop_nil, List.take_nil, vAll, List.foldl_nil, List.foldl_cons, resultsOf, resultList, resultOf, zBV, splice, PV.remade, St.freezeAt, St.freezeBox, St.freezeCap, PV.single, plain, act, dstOf, if_true, if_false, reduceCtorEq, St.get, St.put, St.pvOf, St.putRow, St.consume, St.freeze, St.row, St.elems, St.grab, St.takeRow, St.setRow, St.place, St.optPv, St.setCell, St.setCellRow, binPV, intBin, unPV, BV.val, Nat.reduceEqDiff, bound, consumeAll, buildParts, capsOf, capOf, List.append_nil, Nat.reduceAdd, Nat.reduceLT, Nat.reduceLeDiff, beq_self_eq_true, List.length_map, Nat.beq, dcall, dcallP, List.mapM_cons, St.snapFn, St.snap, St.layAll, St.lay, St.freezeArg, St.freezeArg1]
  rw [loop6 (j := j) (l := l) (after := after) (los := los) (best := b) hlen hl (by omega) hbest hoks (fun k x s q1 q2 => by
    obtain ⟨s1, s2, s3, s4⟩ := hset k x s q1 q2
    exact ⟨s1, s3, s4⟩)]
  rotate_left
  · rw [hlen]; rfl
  simp only [e0, e1, e2, e3, e4, e5, h0, hlen, T1, G1, G2, B1, B2, B3, List.isEmpty_nil, val_pvs, frozen_pvs, msnoc_len, msnoc_get, msnoc_set, msnoc_take, Int.le_refl, take_map_all, Nat.le_refl, St.freezeRows, BV.frozen, List.take_length, List.take_append_drop, z_repl_zero, Int.toNat_zero, true_and, and_true, and_self, eq_self, z_take_zero, List.drop_nil, List.take_nil, vAll, List.foldl_nil, List.foldl_cons, resultsOf, resultList, resultOf, zBV, splice, PV.remade, St.freezeAt, St.freezeBox, St.freezeCap, PV.single, plain, act, dstOf, if_true, if_false, reduceCtorEq, St.get, St.put, St.pvOf, St.putRow, St.consume, St.freeze, St.row, St.elems, St.grab, St.takeRow, St.setRow, St.place, St.optPv, St.setCell, St.setCellRow, binPV, intBin, unPV, BV.val, Nat.reduceEqDiff, bound, consumeAll, buildParts, capsOf, capOf, List.append_nil, Nat.reduceAdd, Nat.reduceLT, Nat.reduceLeDiff, beq_self_eq_true, List.length_map, Nat.beq, dcall, dcallP, List.mapM_cons, St.snapFn, St.snap, St.layAll, St.lay, St.freezeArg, St.freezeArg1]
end Go.Proofs.Ytpdfhckdmblicaa.V

namespace Go.Proofs.Ytpdfhckdmblicaa.V
open Go.RowKit Go.ChangeShapes Go.WideShapes Go.ChangeAt
set_option linter.all false

theorem Try.ownKnobV : ownKnob Try.prog.godebug = none := by kernel_rfl
theorem Try.laidOutV : laidOutB Try.prog = true := by kernel_rfl
def okI (n : Int) : Prop := -9223372036854775808 ≤ n ∧ n ≤ 9223372036854775807
theorem sint_i64 {q : PV} (h : SInt .i64 [q]) : ∃ n, okI n ∧ q = eI n := by
  obtain ⟨n, h1, h2⟩ := h
  have h3 : IntKind.i64.min = -9223372036854775808 := rfl
  have h4 : IntKind.i64.max = 9223372036854775807 := rfl
  simp only [Lit.wf, Bool.and_eq_true, decide_eq_true_eq] at h1
  cases h2
  exact ⟨n, ⟨by omega, by omega⟩, rfl⟩
theorem sint_u8 {q : PV} (h : SInt .u8 [q]) : ∃ b : UInt8, q = .int .u8 (b.toNat : Int) := by
  obtain ⟨n, h1, h2⟩ := h
  have h3 : IntKind.u8.min = 0 := rfl
  have h4 : IntKind.u8.max = 255 := rfl
  simp only [Lit.wf, Bool.and_eq_true, decide_eq_true_eq] at h1
  cases h2
  refine ⟨UInt8.ofNat n.toNat, ?_⟩
  rw [UInt8.toNat_ofNat_of_lt' (show n.toNat < 2 ^ 8 by omega)]
  congr 1; omega
theorem sbool {q : PV} (h : SBool [q]) : ∃ b, q = eB b := by
  obtain ⟨b, h2⟩ := h
  cases h2
  exact ⟨b, rfl⟩
def SSec : List PV → Prop := SArr 8 (SInt .u8)
theorem ssec {ps : List PV} (h : SSec ps) : ∃ s : Sec, ps = secPV s := by
  obtain ⟨h1, h2⟩ := h
  have : ∀ l : List PV, (∀ p ∈ l, SInt .u8 [p]) → ∃ m : List UInt8, m.length = l.length ∧ l = m.map fun b => .int .u8 (b.toNat : Int) := by
    intro l
    induction l with
    | nil => exact fun _ => ⟨[], rfl, rfl⟩
    | cons p l ih =>
      intro h
      obtain ⟨b, hb⟩ := sint_u8 (h p (by simp))
      obtain ⟨m, e1, e2⟩ := ih fun q hq => h q (by simp [hq])
      exact ⟨b :: m, by simp [e1], by rw [hb, e2]; rfl⟩
  obtain ⟨m, e1, e2⟩ := this ps h2
  refine ⟨⟨m.toArray, by simp [e1, h1]⟩, ?_⟩
  subst e2
  simp [secPV, Vector.toList]
theorem slist {α : Type} {n : Nat} {S : List PV → Prop} {wr : List PV → PV} {enc : α → PV} {ok : α → Prop} (hS : ∀ ps, S ps → ∃ a, ok a ∧ wr ps = enc a) {q : PV} (h : SList n S wr [q]) : ∃ l : List α, (∀ a ∈ l, ok a) ∧ q = .list n (l.map enc) := by
  obtain ⟨es, h1, h2⟩ := h
  cases h1
  have : ∀ es : List PV, (∀ x ∈ es, ∃ q, S q ∧ x = wr q) → ∃ l : List α, (∀ a ∈ l, ok a) ∧ es = l.map enc := by
    intro es
    induction es with
    | nil => exact fun _ => ⟨[], by simp, rfl⟩
    | cons e es ih =>
      intro h
      obtain ⟨q, h3, h4⟩ := h e (by simp)
      obtain ⟨a, h5, h6⟩ := hS q h3
      obtain ⟨l, h7, h8⟩ := ih fun x hx => h x (by simp [hx])
      exact ⟨a :: l, by simp; exact ⟨h5, h7⟩, by rw [h4, h6, h8]; rfl⟩
  obtain ⟨l, h3, h4⟩ := this es h2
  exact ⟨l, h3, by rw [h4]⟩
theorem wr_int {k : IntKind} {ps : List PV} (h : SInt k ps) : (wrS ps).cells = ps := by
  obtain ⟨n, _, rfl⟩ := h; rfl
theorem wr_list {n : Nat} {S : List PV → Prop} {wr : List PV → PV} {ps : List PV} (h : SList n S wr ps) : (wrS ps).cells = ps := by
  obtain ⟨es, rfl, _⟩ := h; rfl
theorem wr_bool {ps : List PV} (h : SBool ps) : (wrS ps).cells = ps := by
  obtain ⟨b, rfl⟩ := h; rfl
theorem one_of {S : List PV → Prop} {ps : List PV} (h1 : S ps) (h : ∀ ps, S ps → ∃ q, ps = [q]) : ∃ q, ps = [q] ∧ S [q] := by
  obtain ⟨q, rfl⟩ := h ps h1
  exact ⟨q, rfl, h1⟩

def okExt (x : Exn) : Prop := okI x.start ∧ okI x.count
def SExt : List PV → Prop := SCat [SInt .i64, SInt .i64]
theorem sext {ps : List PV} (h : SExt ps) : ∃ x : Exn, okExt x ∧ PV.agg ps = eExt x := by
  obtain ⟨p, q, rfl, ⟨n, h1, rfl⟩, p2, q2, rfl, ⟨m, h2, rfl⟩, rfl⟩ := h
  obtain ⟨a, o1, e1⟩ := sint_i64 ⟨n, h1, rfl⟩
  obtain ⟨b, o2, e2⟩ := sint_i64 ⟨m, h2, rfl⟩
  refine ⟨⟨a, b⟩, ⟨o1, o2⟩, ?_⟩
  rw [e1, e2]; rfl
def SSecs : List PV → Prop := SList 8 SSec .agg
theorem ssecs {q : PV} (h : SSecs [q]) : ∃ l : List Sec, q = eSecs l := by
  obtain ⟨l, _, e⟩ := slist (enc := eSec) (ok := fun _ => True) (fun ps h => by obtain ⟨s, rfl⟩ := ssec h; exact ⟨s, trivial, rfl⟩) h
  exact ⟨l, e⟩
def SImg : List PV → Prop := SList 1 SSecs wrS
theorem simg {q : PV} (h : SImg [q]) : ∃ l : Img, q = .list 1 (l.map eSecs) := by
  obtain ⟨l, _, e⟩ := slist (enc := eSecs) (ok := fun _ => True) (fun ps h => by
    obtain ⟨es, rfl, h2⟩ := h
    obtain ⟨l, e⟩ := ssecs (q := .list 8 es) ⟨es, rfl, h2⟩
    exact ⟨l, trivial, e⟩) h
  exact ⟨l, e⟩
theorem Try.rdInt : RdsC Try.prog 3 1 (SInt .i64) := RdsC.int Try.underlying3 (by kernel_rfl)
theorem Try.rdU8 : RdsC Try.prog 5 1 (SInt .u8) := RdsC.int Try.underlying5 (by kernel_rfl)
theorem Try.rdSec : RdsC Try.prog 79 8 SSec := RdsC.arr Try.underlying79 Try.rdU8 (by kernel_rfl)
theorem Try.rdSecs : RdsC Try.prog 73 1 SSecs := RdsC.list Try.underlying73 (by kernel_rfl) Try.rdSec (by decide) (fun _ _ _ => rfl)
theorem Try.rdImg : RdsC Try.prog 48 1 SImg := RdsC.list Try.underlying48 (by kernel_rfl) Try.rdSecs (by decide) (fun _ h _ => wr_list h)
theorem Try.rdExt : RdsC Try.prog 76 2 SExt := RdsC.struct2 Try.underlying76 Try.rdInt Try.rdInt rfl rfl (by kernel_rfl)
end Go.Proofs.Ytpdfhckdmblicaa.V

namespace Go.Proofs.Ytpdfhckdmblicaa.V
open Go.RowKit Go.ChangeShapes Go.WideShapes Go.ChangeAt
set_option linter.all false
def okSpn (x : Spn) : Prop := okI x.epoch ∧ okI x.fr ∧ okI x.to
def SSpn : List PV → Prop := SCat [SInt .i64, SInt .i64, SInt .i64]
theorem sspn {ps : List PV} (h : SSpn ps) : ∃ x : Spn, okSpn x ∧ PV.agg ps = eSpn x := by
  obtain ⟨p, q, rfl, ⟨n, h1, rfl⟩, p2, q2, rfl, ⟨m, h2, rfl⟩, p3, q3, rfl, ⟨k, h3, rfl⟩, rfl⟩ := h
  obtain ⟨a, o1, e1⟩ := sint_i64 ⟨n, h1, rfl⟩
  obtain ⟨b, o2, e2⟩ := sint_i64 ⟨m, h2, rfl⟩
  obtain ⟨c, o3, e3⟩ := sint_i64 ⟨k, h3, rfl⟩
  refine ⟨⟨a, b, c⟩, ⟨o1, o2, o3⟩, ?_⟩
  rw [e1, e2, e3]; rfl
def SSpns : List PV → Prop := SList 3 SSpn .agg
theorem sspns {q : PV} (h : SSpns [q]) : ∃ l : List Spn, q = .list 3 (l.map eSpn) := by
  obtain ⟨l, _, e⟩ := slist (enc := eSpn) (ok := okSpn) (fun ps h => sspn h) h
  exact ⟨l, e⟩
theorem Try.rdSpn : RdsC Try.prog 86 3 SSpn := RdsC.struct3 Try.underlying86 Try.rdInt Try.rdInt Try.rdInt rfl rfl rfl (by kernel_rfl)
theorem Try.rdSpns : RdsC Try.prog 22 1 SSpns := RdsC.list Try.underlying22 (by kernel_rfl) Try.rdSpn (by decide) (fun _ _ _ => rfl)
end Go.Proofs.Ytpdfhckdmblicaa.V

namespace Go.Proofs.Ytpdfhckdmblicaa.V
open Go.RowKit Go.ChangeShapes Go.WideShapes Go.ChangeAt
set_option linter.all false
def SSit : List PV → Prop := SCat [SInt .i64, SInt .i64, SInt .i64, SInt .i64, SSpns, SInt .i64, SBool, SBool]
theorem ssit {ps : List PV} (h : SSit ps) : ∃ x : Sit, okI x.epoch ∧ PV.agg ps = eSit x := by
  obtain ⟨p0, q0, rfl, ⟨n0, h0, rfl⟩, p1, q1, rfl, ⟨n1, h1, rfl⟩, p2, q2, rfl, ⟨n2, h2, rfl⟩, p3, q3, rfl, ⟨n3, h3, rfl⟩, p4, q4, rfl, h4, p5, q5, rfl, ⟨n5, h5, rfl⟩, p6, q6, rfl, ⟨n6, rfl⟩, p7, q7, rfl, ⟨n7, rfl⟩, rfl⟩ := h
  obtain ⟨a0, o0, e0⟩ := sint_i64 ⟨n0, h0, rfl⟩
  obtain ⟨a1, o1, e1⟩ := sint_i64 ⟨n1, h1, rfl⟩
  obtain ⟨a2, o2, e2⟩ := sint_i64 ⟨n2, h2, rfl⟩
  obtain ⟨a3, o3, e3⟩ := sint_i64 ⟨n3, h3, rfl⟩
  obtain ⟨es, rfl, h6⟩ := h4
  obtain ⟨l, e4⟩ := sspns (q := .list 3 es) ⟨es, rfl, h6⟩
  obtain ⟨a5, o5, e5⟩ := sint_i64 ⟨n5, h5, rfl⟩
  refine ⟨⟨a0, a1, a2, a3, l, a5, n6, n7⟩, o2, ?_⟩
  rw [e0, e1, e2, e3, e4, e5]; rfl
def SSits : List PV → Prop := SList 8 SSit .agg
theorem ssits {q : PV} (h : SSits [q]) : ∃ l : List Sit, q = .list 8 (l.map eSit) := by
  obtain ⟨l, _, e⟩ := slist (enc := eSit) (ok := fun x => okI x.epoch) (fun ps h => ssit h) h
  exact ⟨l, e⟩
theorem Try.rdBool : RdsC Try.prog 4 1 SBool := RdsC.bool Try.underlying4 (by kernel_rfl)
theorem Try.rdSit : RdsC Try.prog 43 8 SSit := RdsC.struct8 Try.underlying43 Try.rdInt Try.rdInt Try.rdInt Try.rdInt Try.rdSpns Try.rdInt Try.rdBool Try.rdBool rfl rfl rfl rfl rfl rfl rfl rfl (by kernel_rfl)
theorem Try.rdSits : RdsC Try.prog 27 1 SSits := RdsC.list Try.underlying27 (by kernel_rfl) Try.rdSit (by decide) (fun _ _ _ => rfl)
theorem sint_eI {q : PV} (h : SInt .i64 [q]) : ∃ n, q = .int .i64 n := by
  obtain ⟨n, _, rfl⟩ := sint_i64 h
  exact ⟨n, rfl⟩
end Go.Proofs.Ytpdfhckdmblicaa.V

namespace Go.Proofs.Ytpdfhckdmblicaa
open Go.RowKit V
set_option linter.all false

def oneEnv (f : Nat) (fn : VFn) : Env := fun k => if k = f then some (.code fn) else none
theorem oneEnv_ok {P : Program} {f : Nat} {fn : VFn} (h : fnOk P f fn = true) : EnvOk P (oneEnv f fn) := fun k d hk => by
  unfold oneEnv at hk
  split at hk
  · rename_i e; subst e; cases hk; exact h
  · cases hk
def emR (n : Nat) : Rep Unit where
  sz := n
  rd _ _ cs _ := cs.length = n ∧ ∀ u ∈ cs, u.oneCell' = true
  len h := h.1
  mono _ h := h
  live h := h
  frame _ h := h
  one h := h.2
theorem Flat.em (n : Nat) : Flat (emR n) := fun h => h
theorem sl_nil {ok : Nat → Prop} {w : World} {sz : Nat} {v : Value} (h : PRep ok w (.list sz []) v) : ∃ a c, v = .slice a 0 c ∧ Sl (emR sz) (fun _ => True) w a 0 c [] := by
  obtain ⟨l, hl⟩ : ∃ l : List PV, l = [] := ⟨_, rfl⟩
  rw [← hl] at h
  cases h with
  | nil _ a => exact ⟨a, 0, rfl, ⟨rfl, Nat.le_refl _, Nat.zero_le _, fun _ => rfl, .inl rfl⟩⟩
  | list _ _ b off c cv h1 h2 h3 h4 h6 h7 h8 => subst hl; exact ⟨_, c, rfl, ⟨rfl, Nat.zero_le _, h4, (fun e => by cases e), .inl rfl⟩⟩
theorem slt94 : SliceT Try.prog 73 79 8 8 (.agg #[.int .u8 0, .int .u8 0, .int .u8 0, .int .u8 0, .int .u8 0, .int .u8 0, .int .u8 0, .int .u8 0]) := ⟨Try.underlying73, by kernel_rfl, rfl, by decide⟩
set_option maxHeartbeats 1000000 in
theorem cempty94 {a : Option Addr} {n c : Nat} {l : List Unit} {ok : Nat → Prop} {w : World} (h : Sl (emR 8) ok w a n c l) (hn : n ≤ 1000000) :
    Calls Try.prog 94 #[.slice a n c] w fun e w' => ∃ a' n' c', e = .returned (.slice a' n' c') ∧ (ownRowR (emR 8) 79).rd (w.heap.size ≤ ·) w' [.slice a' n' c'] l ∧ Below w.heap.size w w' := by
  have heq := fun (a : Option Addr) (n c : Nat) (w : World) => Lib.run_eql_slice_nil (P := Try.prog) w 73 79 a n c 0 0 Try.underlying73
  cases a with
  | none =>
    have h0 : l = [] := List.eq_nil_of_length_eq_zero (by rw [h.len]; have := h.nil rfl; have := h.cap; omega)
    have H0 := Lib.hid h0; clear h0
    go_enter Try.func94, Try.ntmps94
    go_wp2
    go_ret
    refine ⟨_, _, _, rfl, ?_, Below.refl _ _⟩
    rw [H0.out]
    exact ownRowR.mk (Own.nil _ _ _ _ _) (fun _ => .inl rfl)
  | some ad =>
    have hs := h.small
    go_enter Try.func94, Try.ntmps94
    go_wp2_with (at_builtin; refine wpList_app slt94 rfl _ _ rfl rfl (Own.lit0 (emR 8) (ok := fun _ => False) (Nat.le_refl _)) rfl ((Src.of_sl (h.below ((Below.refl _ _).alloc (Nat.le_refl _) _))).flat (Flat.em 8)) ?c1 ?c2 ?c3 ?_)
    case c1 => simp; unfold maxLen; omega
    case c2 => simp; omega
    case c3 => simp
    intro v' w1 hown hgrow hat
    obtain ⟨a', n', c', rfl, _⟩ := hown.sl
    go_wp2
    go_ret
    refine ⟨_, _, _, rfl, ownRowR.mk (by simpa using hown) (fun e => ?_), ((Below.refl _ _).alloc (Nat.le_refl _) _).grown hgrow (by simp) (fun k hk => by cases hk; exact Nat.le_refl _)⟩
    subst e
    obtain ⟨xs, h1, _⟩ := hown
    rcases h1.2 with ⟨hv, _⟩ | ⟨g, cap, cur, hv, _⟩
    · exact .inl hv
    · exact .inr ⟨g, cap, by simpa using hv⟩
theorem clone94_fn : fnOk Try.prog 94 fn94 = true := by kernel_rfl
theorem clone94_some {en : Env} (hen : en 94 = some (.code fn94)) {e : PV} {es : List PV} (hl : (e :: es).length ≤ lim) : cal en 94 [.list 8 (e :: es)] = some [(.list 8 (e :: es), true)] := by
  have F1 : (es.length + 1 ≤ lim) = True := eq_true (by simpa using hl)
  rw [cal_code hen rfl]
  simp only [fn94]
  simp only [start, z_map_cons, z_map_nil, z_len_cons, z_len_nil, z_repl_zero, z_repl_succ, z_cons_app, z_nil_app, Nat.reduceAdd, Nat.reduceSub]
  simp only [F1, z_nil_app, List.isEmpty_nil, val_pvs, frozen_pvs, msnoc_len, msnoc_get, msnoc_set, msnoc_take, Int.le_refl, take_map_all, Nat.le_refl, St.freezeRows, BV.frozen, List.take_length, List.take_append_drop, z_repl_zero, Int.toNat_zero, true_and, and_true, and_self, eq_self, z_take_zero, List.drop_nil, List.take_nil, vAll, List.foldl_nil, List.foldl_cons, resultsOf, resultList, resultOf, zBV, splice, PV.remade, St.freezeAt, St.freezeBox, St.freezeCap, PV.single, plain, act, dstOf, if_true, if_false, reduceCtorEq, St.get, St.put, St.pvOf, St.putRow, St.consume, St.freeze, St.row, St.elems, St.grab, St.takeRow, St.setRow, St.place, St.optPv, St.setCell, St.setCellRow, binPV, intBin, unPV, BV.val, Nat.reduceEqDiff, bound, consumeAll, buildParts, capsOf, capOf, List.append_nil, Nat.reduceAdd, Nat.reduceLT, Nat.reduceLeDiff, beq_self_eq_true, List.length_map, Nat.beq, dcall, dcallP, List.mapM_cons, St.snapFn, St.snap, St.layAll, St.lay, St.freezeArg, St.freezeArg1]
theorem clone94_ok : ∀ args rs, cloneX 8 args = some rs → callable Try.prog 94 = true ∧ CallOk Try.prog 94 args rs := fun args rs h => by
  unfold cloneX at h
  split at h
  case h_2 => cases h
  rename_i sz es
  split at h
  case isFalse => cases h
  rename_i hc
  obtain ⟨rfl, hl⟩ := hc
  cases h
  cases es with
  | cons e es =>
    obtain ⟨n, hn⟩ := vmCall_of_cal (clone94_some (en := oneEnv 94 fn94) (if_pos rfl) hl)
    exact vmCall_ok (oneEnv_ok clone94_fn) hn
  | nil =>
    refine ⟨by kernel_rfl, fun T0 w vs h1 h2 h3 h4 => ?_⟩
    match vs, h3 with
    | [v], _ =>
      have hv := h4 0 _ v rfl rfl
      obtain ⟨a, c, rfl, hsl⟩ := sl_nil hv
      refine (cempty94 (ok := fun _ => True) hsl (by omega)).mono ?_
      rintro e w' ⟨a', n', c', rfl, hrd, hB⟩
      obtain ⟨v, hv, hb, ⟨xs, hown, _⟩, hnil⟩ := hrd
      obtain rfl : Value.slice a' n' c' = v := by simpa using hv
      rcases hown.2 with ⟨e1, _⟩ | ⟨g, cap, cur, e1, _, hg, _, hm, hs, _⟩
      · refine ⟨_, T0, rfl, hB, fun _ _ => rfl, fun b hb => h2 b (by have := hB.size; omega), #[_], rfl, rfl, fun i r u hr hu => ?_⟩
        cases i with
        | zero => cases hr; cases hu; exact .inl ⟨rfl, none, e1⟩
        | succ i => simp at hr
      · have hg0 : w.heap.size ≤ g := hb g (by rw [e1]; rfl)
        have hgl : g < w'.heap.size := (Array.getElem?_eq_some_iff.1 hg).1
        refine ⟨_, fun b => if b = g then .row (.part 0 0) else T0 b, rfl, hB, fun b hb => if_neg (by omega), fun b hb => ?_, #[_], rfl, rfl, fun i r u hr hu => ?_⟩
        · show (if b = g then _ else T0 b) = _
          rw [if_neg (by omega)]; exact h2 b (by have := hB.size; omega)
        · cases i with
          | zero =>
            cases hr; cases hu
            exact .inr ⟨g, cap, cur, _, e1, if_pos rfl, hg, hs, Nat.zero_le _, hm, (fun e he => by cases he), fun i e j x hi => by simp at hi⟩
          | succ i => simp at hr
theorem slt53 : SliceT Try.prog 22 86 3 24 (.agg #[.int .i64 0, .int .i64 0, .int .i64 0]) := ⟨Try.underlying22, by kernel_rfl, rfl, by decide⟩
set_option maxHeartbeats 1000000 in
theorem cempty53 {a : Option Addr} {n c : Nat} {l : List Unit} {ok : Nat → Prop} {w : World} (h : Sl (emR 3) ok w a n c l) (hn : n ≤ 1000000) :
    Calls Try.prog 53 #[.slice a n c] w fun e w' => ∃ a' n' c', e = .returned (.slice a' n' c') ∧ (ownRowR (emR 3) 86).rd (w.heap.size ≤ ·) w' [.slice a' n' c'] l ∧ Below w.heap.size w w' := by
  have heq := fun (a : Option Addr) (n c : Nat) (w : World) => Lib.run_eql_slice_nil (P := Try.prog) w 22 86 a n c 0 0 Try.underlying22
  cases a with
  | none =>
    have h0 : l = [] := List.eq_nil_of_length_eq_zero (by rw [h.len]; have := h.nil rfl; have := h.cap; omega)
    have H0 := Lib.hid h0; clear h0
    go_enter Try.func53, Try.ntmps53
    go_wp2
    go_ret
    refine ⟨_, _, _, rfl, ?_, Below.refl _ _⟩
    rw [H0.out]
    exact ownRowR.mk (Own.nil _ _ _ _ _) (fun _ => .inl rfl)
  | some ad =>
    have hs := h.small
    go_enter Try.func53, Try.ntmps53
    go_wp2_with (at_builtin; refine wpList_app slt53 rfl _ _ rfl rfl (Own.lit0 (emR 3) (ok := fun _ => False) (Nat.le_refl _)) rfl ((Src.of_sl (h.below ((Below.refl _ _).alloc (Nat.le_refl _) _))).flat (Flat.em 3)) ?c1 ?c2 ?c3 ?_)
    case c1 => simp; unfold maxLen; omega
    case c2 => simp; omega
    case c3 => simp
    intro v' w1 hown hgrow hat
    obtain ⟨a', n', c', rfl, _⟩ := hown.sl
    go_wp2
    go_ret
    refine ⟨_, _, _, rfl, ownRowR.mk (by simpa using hown) (fun e => ?_), ((Below.refl _ _).alloc (Nat.le_refl _) _).grown hgrow (by simp) (fun k hk => by cases hk; exact Nat.le_refl _)⟩
    subst e
    obtain ⟨xs, h1, _⟩ := hown
    rcases h1.2 with ⟨hv, _⟩ | ⟨g, cap, cur, hv, _⟩
    · exact .inl hv
    · exact .inr ⟨g, cap, by simpa using hv⟩
theorem clone53_fn : fnOk Try.prog 53 fn53 = true := by kernel_rfl
theorem clone53_some {en : Env} (hen : en 53 = some (.code fn53)) {e : PV} {es : List PV} (hl : (e :: es).length ≤ lim) : cal en 53 [.list 3 (e :: es)] = some [(.list 3 (e :: es), true)] := by
  have F1 : (es.length + 1 ≤ lim) = True := eq_true (by simpa using hl)
  rw [cal_code hen rfl]
  simp only [fn53]
  simp only [start, z_map_cons, z_map_nil, z_len_cons, z_len_nil, z_repl_zero, z_repl_succ, z_cons_app, z_nil_app, Nat.reduceAdd, Nat.reduceSub]
  simp only [F1, z_nil_app, List.isEmpty_nil, val_pvs, frozen_pvs, msnoc_len, msnoc_get, msnoc_set, msnoc_take, Int.le_refl, take_map_all, Nat.le_refl, St.freezeRows, BV.frozen, List.take_length, List.take_append_drop, z_repl_zero, Int.toNat_zero, true_and, and_true, and_self, eq_self, z_take_zero, List.drop_nil, List.take_nil, vAll, List.foldl_nil, List.foldl_cons, resultsOf, resultList, resultOf, zBV, splice, PV.remade, St.freezeAt, St.freezeBox, St.freezeCap, PV.single, plain, act, dstOf, if_true, if_false, reduceCtorEq, St.get, St.put, St.pvOf, St.putRow, St.consume, St.freeze, St.row, St.elems, St.grab, St.takeRow, St.setRow, St.place, St.optPv, St.setCell, St.setCellRow, binPV, intBin, unPV, BV.val, Nat.reduceEqDiff, bound, consumeAll, buildParts, capsOf, capOf, List.append_nil, Nat.reduceAdd, Nat.reduceLT, Nat.reduceLeDiff, beq_self_eq_true, List.length_map, Nat.beq, dcall, dcallP, List.mapM_cons, St.snapFn, St.snap, St.layAll, St.lay, St.freezeArg, St.freezeArg1]
theorem clone53_ok : ∀ args rs, cloneX 3 args = some rs → callable Try.prog 53 = true ∧ CallOk Try.prog 53 args rs := fun args rs h => by
  unfold cloneX at h
  split at h
  case h_2 => cases h
  rename_i sz es
  split at h
  case isFalse => cases h
  rename_i hc
  obtain ⟨rfl, hl⟩ := hc
  cases h
  cases es with
  | cons e es =>
    obtain ⟨n, hn⟩ := vmCall_of_cal (clone53_some (en := oneEnv 53 fn53) (if_pos rfl) hl)
    exact vmCall_ok (oneEnv_ok clone53_fn) hn
  | nil =>
    refine ⟨by kernel_rfl, fun T0 w vs h1 h2 h3 h4 => ?_⟩
    match vs, h3 with
    | [v], _ =>
      have hv := h4 0 _ v rfl rfl
      obtain ⟨a, c, rfl, hsl⟩ := sl_nil hv
      refine (cempty53 (ok := fun _ => True) hsl (by omega)).mono ?_
      rintro e w' ⟨a', n', c', rfl, hrd, hB⟩
      obtain ⟨v, hv, hb, ⟨xs, hown, _⟩, hnil⟩ := hrd
      obtain rfl : Value.slice a' n' c' = v := by simpa using hv
      rcases hown.2 with ⟨e1, _⟩ | ⟨g, cap, cur, e1, _, hg, _, hm, hs, _⟩
      · refine ⟨_, T0, rfl, hB, fun _ _ => rfl, fun b hb => h2 b (by have := hB.size; omega), #[_], rfl, rfl, fun i r u hr hu => ?_⟩
        cases i with
        | zero => cases hr; cases hu; exact .inl ⟨rfl, none, e1⟩
        | succ i => simp at hr
      · have hg0 : w.heap.size ≤ g := hb g (by rw [e1]; rfl)
        have hgl : g < w'.heap.size := (Array.getElem?_eq_some_iff.1 hg).1
        refine ⟨_, fun b => if b = g then .row (.part 0 0) else T0 b, rfl, hB, fun b hb => if_neg (by omega), fun b hb => ?_, #[_], rfl, rfl, fun i r u hr hu => ?_⟩
        · show (if b = g then _ else T0 b) = _
          rw [if_neg (by omega)]; exact h2 b (by have := hB.size; omega)
        · cases i with
          | zero =>
            cases hr; cases hu
            exact .inr ⟨g, cap, cur, _, e1, if_pos rfl, hg, hs, Nat.zero_le _, hm, (fun e he => by cases he), fun i e j x hi => by simp at hi⟩
          | succ i => simp at hr
end Go.Proofs.Ytpdfhckdmblicaa
