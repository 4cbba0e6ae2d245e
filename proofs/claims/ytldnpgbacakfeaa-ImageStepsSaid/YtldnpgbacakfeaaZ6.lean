/-
  Part 6 of the texts that the statement stands on.
-/
import Derived.Test.YtldnpgbacakfeaaZ5
import Derived.Test.YtldnpgbacakfeaaRows
set_option linter.all false
namespace Go.Proofs.Ytldnpgbacakfeaa.V
set_option linter.all false

def eImg (im : Img) : PV := .list 1 (im.map eSecs)
def pairErr (a b : Img) : Int := if imCheck a ≠ 0 then imCheck a else if imCheck b ≠ 0 then imCheck b else if imSizes a = imSizes b then 0 else 22
def differ (a b : Img) : List (List Exn) := (a.zip b).map fun q => volDiff q.1 q.2
def differOut (a b : Img) : List (List Exn) := if pairErr a b = 0 then differ a b else []
theorem sizes_inj {a b : Img} (h : imSizes a = imSizes b) : a.length = b.length ∧ ∀ i (h1 : i < a.length) (h2 : i < b.length), a[i].length = b[i].length := by
  have hl : a.length = b.length := by simpa [imSizes] using congrArg List.length h
  refine ⟨hl, fun i h1 h2 => ?_⟩
  have := congrArg (fun l => l[i]?) h
  simp only [imSizes, List.getElem?_map, List.getElem?_eq_getElem h1, List.getElem?_eq_getElem h2, Option.map_some, Option.some.injEq] at this
  omega
theorem sizes_of {a b : Img} (hl : a.length = b.length) (h : ∀ i (h1 : i < a.length) (h2 : i < b.length), a[i].length = b[i].length) : imSizes a = imSizes b := by
  apply List.ext_getElem
  · simpa [imSizes] using hl
  · intro i h1 h2
    simp only [imSizes, List.length_map] at h1 h2
    simp only [imSizes, List.getElem_map, h i h1 h2]
theorem loop54 {A B : PV} {l : List Img} (hl : l.length ≤ lim) (hi0 : ∀ im ∈ l, im.length ≤ lim) {st : St} (h : st.head [0, 1, 10, 11, 12] st.boxes.length = some ⟨[.pv A, .pv B, .any, .any, .any, .any, .any, .any, .any, .any, .row 1 (l.map eImg), .pv (.int .i64 l.length), .pv (.int .i64 (0 : Nat)), .any, .any, .any, .any, .any, .any, .any, .any, .any, .any, .any, .any, .any, .any, .any], [], [], none⟩) :
   den env fn54_l1 st = match l.find? (fun im => decide (imCheck im ≠ 0)) with | some im => some (.ret, ⟨[.pv A, .pv B, .any, .any, .pv (.int .i64 (imCheck im)), .any, .any, .any, .any, .any, .any, .any, .any, .any, .any, .any, .any, .any, .any, .any, .any, .any, .any, .any, .any, .any, .any, .any], [], [], none⟩) | none => some (.normal, ⟨[.pv A, .pv B, .any, .any, .any, .any, .any, .any, .any, .any, .any, .any, .any, .any, .any, .any, .any, .any, .any, .any, .any, .any, .any, .any, .any, .any, .any, .any], [], [], none⟩) := by
  unfold fn54_l1
  rw [ clean_up (env := env) (l.length) (fun i => ⟨[.pv A, .pv B, .any, .any, .any, .any, .any, .any, .any, .any, .row 1 (l.map eImg), .pv (.int .i64 l.length), .pv (.int .i64 i), .any, .any, .any, .any, .any, .any, .any, .any, .any, .any, .any, .any, .any, .any, .any], [], [], none⟩) (fun i => match (l.drop i).find? (fun im => decide (imCheck im ≠ 0)) with | some im => some (.ret, ⟨[.pv A, .pv B, .any, .any, .pv (.int .i64 (imCheck im)), .any, .any, .any, .any, .any, .any, .any, .any, .any, .any, .any, .any, .any, .any, .any, .any, .any, .any, .any, .any, .any, .any, .any], [], [], none⟩) | none => some (.normal, ⟨[.pv A, .pv B, .any, .any, .any, .any, .any, .any, .any, .any, .any, .any, .any, .any, .any, .any, .any, .any, .any, .any, .any, .any, .any, .any, .any, .any, .any, .any], [], [], none⟩)) h (fun _ => rfl) (fun _ => rfl) ?_ ?_]
  · first | rfl | simp only [List.drop_zero, List.take_zero, List.map_nil, Nat.zero_add, List.nil_append, List.foldl_nil]
  · intro i rb hi ih

    have hi1 := i64_next hi hl
    have F1 : ((i : Int) < (l.length : Int)) = True := eq_true (by omega)
    have e1 := cal18 (hi0 _ (List.getElem_mem hi))
    rw [List.drop_eq_getElem_cons hi, List.find?_cons]
    by_cases hc : imCheck l[i] = 0
    · have F2 : (imCheck l[i] != 0) = false := by simp [hc]
      simp only [fn54_b0, F1, F2, e1, eImg, index_nat hi, List.getElem?_map, List.getElem?_eq_getElem hi, val_pvs, frozen_pvs, msnoc_len, msnoc_get, msnoc_set, msnoc_take, Int.le_refl, take_map_all, Nat.le_refl, St.freezeRows, BV.frozen, List.take_length, List.take_append_drop, z_repl_zero, Int.toNat_zero, true_and, and_true, and_self, eq_self, z_take_zero, List.drop_nil, List.take_nil, vAll, List.foldl_nil, List.foldl_cons, resultsOf, resultList, resultOf, zBV, splice, PV.remade, St.freezeAt, St.freezeBox, PV.single, plain, act, dstOf, if_true, if_false, reduceCtorEq, St.get, St.put, St.pvOf, St.putRow, St.consume, St.freeze, St.row, St.elems, St.grab, St.takeRow, St.setRow, St.place, St.optPv, St.setCell, St.setCellRow, binPV, intBin, unPV, BV.val, Nat.reduceEqDiff, bound, consumeAll, buildParts, capsOf, capOf, List.append_nil, Nat.reduceAdd, Nat.reduceLT, Nat.reduceLeDiff, beq_self_eq_true, List.length_map, Nat.beq, dcall, dcallP, List.mapM_cons, St.snapFn, St.snap, St.layAll, St.lay, St.freezeArg, St.freezeArg1]
      rw [ih _ (by simp only [hi1]; rfl)]
      simp only [hc, ne_eq, not_true, decide_false]
    · have F2 : (imCheck l[i] != 0) = true := by simp [hc]
      simp only [fn54_b0, F1, F2, e1, eImg, index_nat hi, List.getElem?_map, List.getElem?_eq_getElem hi, val_pvs, frozen_pvs, msnoc_len, msnoc_get, msnoc_set, msnoc_take, Int.le_refl, take_map_all, Nat.le_refl, St.freezeRows, BV.frozen, List.take_length, List.take_append_drop, z_repl_zero, Int.toNat_zero, true_and, and_true, and_self, eq_self, z_take_zero, List.drop_nil, List.take_nil, vAll, List.foldl_nil, List.foldl_cons, resultsOf, resultList, resultOf, zBV, splice, PV.remade, St.freezeAt, St.freezeBox, PV.single, plain, act, dstOf, if_true, if_false, reduceCtorEq, St.get, St.put, St.pvOf, St.putRow, St.consume, St.freeze, St.row, St.elems, St.grab, St.takeRow, St.setRow, St.place, St.optPv, St.setCell, St.setCellRow, binPV, intBin, unPV, BV.val, Nat.reduceEqDiff, bound, consumeAll, buildParts, capsOf, capOf, List.append_nil, Nat.reduceAdd, Nat.reduceLT, Nat.reduceLeDiff, beq_self_eq_true, List.length_map, Nat.beq, dcall, dcallP, List.mapM_cons, St.snapFn, St.snap, St.layAll, St.lay, St.freezeArg, St.freezeArg1]
      simp only [hc, ne_eq, not_false_eq_true, decide_true]
      rfl
  · intro rb

    simp only [fn54_b0, Int.lt_irrefl,  val_pvs, frozen_pvs, msnoc_len, msnoc_get, msnoc_set, msnoc_take, Int.le_refl, take_map_all, Nat.le_refl, St.freezeRows, BV.frozen, List.take_length, List.take_append_drop, z_repl_zero, Int.toNat_zero, true_and, and_true, and_self, eq_self, z_take_zero, List.drop_nil, List.take_nil, vAll, List.foldl_nil, List.foldl_cons, resultsOf, resultList, resultOf, zBV, splice, PV.remade, St.freezeAt, St.freezeBox, PV.single, plain, act, dstOf, if_true, if_false, reduceCtorEq, St.get, St.put, St.pvOf, St.putRow, St.consume, St.freeze, St.row, St.elems, St.grab, St.takeRow, St.setRow, St.place, St.optPv, St.setCell, St.setCellRow, binPV, intBin, unPV, BV.val, Nat.reduceEqDiff, bound, consumeAll, buildParts, capsOf, capOf, List.append_nil, Nat.reduceAdd, Nat.reduceLT, Nat.reduceLeDiff, beq_self_eq_true, List.length_map, Nat.beq, dcall, dcallP, List.mapM_cons, St.snapFn, St.snap, St.layAll, St.lay, St.freezeArg, St.freezeArg1]
    rw [List.drop_length]
    rfl

theorem cal54 {a b : Img} (ha : a.length ≤ lim) (hb : b.length ≤ lim) : cal env 54 [.list 1 (a.map eSecs), .list 1 (b.map eSecs)] = some [(.int .i64 (pairErr a b), false)] := by
  have h2 : ∀ im ∈ [a, b], im.length ≤ lim := by simp; exact ⟨ha, hb⟩
  have e1 := cal48 ha
  have e2 := cal48 hb
  have e3 := cal36 (l := imSizes a) (m := imSizes b) (by simpa [imSizes] using ha)
  rw [cal_code env54 rfl]; simp only [fn54]; simp only [start, z_map_cons, z_map_nil, z_len_cons, z_len_nil, z_repl_zero, z_repl_succ, z_cons_app, z_nil_app, Nat.reduceAdd, Nat.reduceSub]
  simp only [e1, e2, e3, val_pvs, frozen_pvs, msnoc_len, msnoc_get, msnoc_set, msnoc_take, Int.le_refl, take_map_all, Nat.le_refl, St.freezeRows, BV.frozen, List.take_length, List.take_append_drop, z_repl_zero, Int.toNat_zero, true_and, and_true, and_self, eq_self, z_take_zero, List.drop_nil, List.take_nil, vAll, List.foldl_nil, List.foldl_cons, resultsOf, resultList, resultOf, zBV, splice, PV.remade, St.freezeAt, St.freezeBox, PV.single, plain, act, dstOf, if_true, if_false, reduceCtorEq, St.get, St.put, St.pvOf, St.putRow, St.consume, St.freeze, St.row, St.elems, St.grab, St.takeRow, St.setRow, St.place, St.optPv, St.setCell, St.setCellRow, binPV, intBin, unPV, BV.val, Nat.reduceEqDiff, bound, consumeAll, buildParts, capsOf, capOf, List.append_nil, Nat.reduceAdd, Nat.reduceLT, Nat.reduceLeDiff, beq_self_eq_true, List.length_map, Nat.beq, dcall, dcallP, List.mapM_cons, St.snapFn, St.snap, St.layAll, St.lay, St.freezeArg, St.freezeArg1]
  rw [loop54 (l := [a, b]) (by simp [lim]) h2]
  rotate_left
  · rfl
  · simp only [List.find?_cons, List.find?_nil, pairErr]
    by_cases c1 : imCheck a = 0
    · by_cases c2 : imCheck b = 0
      · by_cases c4 : imSizes a = imSizes b
        · have hd := decide_eq_true c4
          simp only [c1, c2, hd, ne_eq, not_true, decide_false, e1, e2, e3, val_pvs, frozen_pvs, msnoc_len, msnoc_get, msnoc_set, msnoc_take, Int.le_refl, take_map_all, Nat.le_refl, St.freezeRows, BV.frozen, List.take_length, List.take_append_drop, z_repl_zero, Int.toNat_zero, true_and, and_true, and_self, eq_self, z_take_zero, List.drop_nil, List.take_nil, vAll, List.foldl_nil, List.foldl_cons, resultsOf, resultList, resultOf, zBV, splice, PV.remade, St.freezeAt, St.freezeBox, PV.single, plain, act, dstOf, if_true, if_false, reduceCtorEq, St.get, St.put, St.pvOf, St.putRow, St.consume, St.freeze, St.row, St.elems, St.grab, St.takeRow, St.setRow, St.place, St.optPv, St.setCell, St.setCellRow, binPV, intBin, unPV, BV.val, Nat.reduceEqDiff, bound, consumeAll, buildParts, capsOf, capOf, List.append_nil, Nat.reduceAdd, Nat.reduceLT, Nat.reduceLeDiff, beq_self_eq_true, List.length_map, Nat.beq, dcall, dcallP, List.mapM_cons, St.snapFn, St.snap, St.layAll, St.lay, St.freezeArg, St.freezeArg1]
          rw [if_pos c4]
        · have hd := decide_eq_false c4
          simp only [c1, c2, hd, ne_eq, not_true, decide_false, e1, e2, e3, val_pvs, frozen_pvs, msnoc_len, msnoc_get, msnoc_set, msnoc_take, Int.le_refl, take_map_all, Nat.le_refl, St.freezeRows, BV.frozen, List.take_length, List.take_append_drop, z_repl_zero, Int.toNat_zero, true_and, and_true, and_self, eq_self, z_take_zero, List.drop_nil, List.take_nil, vAll, List.foldl_nil, List.foldl_cons, resultsOf, resultList, resultOf, zBV, splice, PV.remade, St.freezeAt, St.freezeBox, PV.single, plain, act, dstOf, if_true, if_false, reduceCtorEq, St.get, St.put, St.pvOf, St.putRow, St.consume, St.freeze, St.row, St.elems, St.grab, St.takeRow, St.setRow, St.place, St.optPv, St.setCell, St.setCellRow, binPV, intBin, unPV, BV.val, Nat.reduceEqDiff, bound, consumeAll, buildParts, capsOf, capOf, List.append_nil, Nat.reduceAdd, Nat.reduceLT, Nat.reduceLeDiff, beq_self_eq_true, List.length_map, Nat.beq, dcall, dcallP, List.mapM_cons, St.snapFn, St.snap, St.layAll, St.lay, St.freezeArg, St.freezeArg1]
          rw [if_neg c4]
      · simp only [c1, c2, ne_eq, not_true, not_false_eq_true, decide_false, decide_true, if_false, if_true, e1, e2, e3, val_pvs, frozen_pvs, msnoc_len, msnoc_get, msnoc_set, msnoc_take, Int.le_refl, take_map_all, Nat.le_refl, St.freezeRows, BV.frozen, List.take_length, List.take_append_drop, z_repl_zero, Int.toNat_zero, true_and, and_true, and_self, eq_self, z_take_zero, List.drop_nil, List.take_nil, vAll, List.foldl_nil, List.foldl_cons, resultsOf, resultList, resultOf, zBV, splice, PV.remade, St.freezeAt, St.freezeBox, PV.single, plain, act, dstOf, if_true, if_false, reduceCtorEq, St.get, St.put, St.pvOf, St.putRow, St.consume, St.freeze, St.row, St.elems, St.grab, St.takeRow, St.setRow, St.place, St.optPv, St.setCell, St.setCellRow, binPV, intBin, unPV, BV.val, Nat.reduceEqDiff, bound, consumeAll, buildParts, capsOf, capOf, List.append_nil, Nat.reduceAdd, Nat.reduceLT, Nat.reduceLeDiff, beq_self_eq_true, List.length_map, Nat.beq, dcall, dcallP, List.mapM_cons, St.snapFn, St.snap, St.layAll, St.lay, St.freezeArg, St.freezeArg1]
    · simp only [c1, ne_eq, not_true, not_false_eq_true, decide_false, decide_true, if_false, if_true, e1, e2, e3, val_pvs, frozen_pvs, msnoc_len, msnoc_get, msnoc_set, msnoc_take, Int.le_refl, take_map_all, Nat.le_refl, St.freezeRows, BV.frozen, List.take_length, List.take_append_drop, z_repl_zero, Int.toNat_zero, true_and, and_true, and_self, eq_self, z_take_zero, List.drop_nil, List.take_nil, vAll, List.foldl_nil, List.foldl_cons, resultsOf, resultList, resultOf, zBV, splice, PV.remade, St.freezeAt, St.freezeBox, PV.single, plain, act, dstOf, if_true, if_false, reduceCtorEq, St.get, St.put, St.pvOf, St.putRow, St.consume, St.freeze, St.row, St.elems, St.grab, St.takeRow, St.setRow, St.place, St.optPv, St.setCell, St.setCellRow, binPV, intBin, unPV, BV.val, Nat.reduceEqDiff, bound, consumeAll, buildParts, capsOf, capOf, List.append_nil, Nat.reduceAdd, Nat.reduceLT, Nat.reduceLeDiff, beq_self_eq_true, List.length_map, Nat.beq, dcall, dcallP, List.mapM_cons, St.snapFn, St.snap, St.layAll, St.lay, St.freezeArg, St.freezeArg1]
theorem loop59 {a b : Img} (hl : a.length ≤ lim) (hab : a.length = b.length) {st : St} (h : st.head [0, 1, 7] st.boxes.length = some ⟨[.pv (.list 1 (a.map eSecs)), .pv (.list 1 (b.map eSecs)), .any, .any, .any, .any, .any, .pv (.int .i64 (0 : Nat)), .any, .any, .any, .any, .any, .any, .any, .any, .any, .any, .any, .any, .any, .any, .any, .any, .any, .any, .any, .any, .any, .any, .any, .any, .any, .any, .any, .any, .any, .any, .any, .any], [], [], none⟩) :
   den env fn59_l1 st = if imSizes a = imSizes b then some (.normal, ⟨[.any, .any, .any, .any, .any, .any, .any, .any, .any, .any, .any, .any, .any, .any, .any, .any, .any, .any, .any, .any, .any, .any, .any, .any, .any, .any, .any, .any, .any, .any, .any, .any, .any, .any, .any, .any, .any, .any, .any, .any], [], [], none⟩) else some (.ret, ⟨[.any, .any, .any, .any, .pv (.int .i64 22), .any, .any, .any, .any, .any, .any, .any, .any, .any, .any, .any, .any, .any, .any, .any, .any, .any, .any, .any, .any, .any, .any, .any, .any, .any, .any, .any, .any, .any, .any, .any, .any, .any, .any, .any], [], [], none⟩) := by
  unfold fn59_l1
  rw [ clean_up (env := env) (a.length) (fun i => ⟨[.pv (.list 1 (a.map eSecs)), .pv (.list 1 (b.map eSecs)), .any, .any, .any, .any, .any, .pv (.int .i64 i), .any, .any, .any, .any, .any, .any, .any, .any, .any, .any, .any, .any, .any, .any, .any, .any, .any, .any, .any, .any, .any, .any, .any, .any, .any, .any, .any, .any, .any, .any, .any, .any], [], [], none⟩) (fun i => if imSizes (a.drop i) = imSizes (b.drop i) then some (.normal, ⟨[.any, .any, .any, .any, .any, .any, .any, .any, .any, .any, .any, .any, .any, .any, .any, .any, .any, .any, .any, .any, .any, .any, .any, .any, .any, .any, .any, .any, .any, .any, .any, .any, .any, .any, .any, .any, .any, .any, .any, .any], [], [], none⟩) else some (.ret, ⟨[.any, .any, .any, .any, .pv (.int .i64 22), .any, .any, .any, .any, .any, .any, .any, .any, .any, .any, .any, .any, .any, .any, .any, .any, .any, .any, .any, .any, .any, .any, .any, .any, .any, .any, .any, .any, .any, .any, .any, .any, .any, .any, .any], [], [], none⟩)) h (fun _ => rfl) (fun _ => rfl) ?_ ?_]
  · first | rfl | simp only [List.drop_zero, List.take_zero, List.map_nil, Nat.zero_add, List.nil_append, List.foldl_nil]
  · intro i rb hi ih

    have hi1 := i64_next hi hl
    have hj : i < b.length := by omega
    have F1 : ((i : Int) < (a.length : Int)) = True := eq_true (by omega)
    simp only [fn59_b0, F1, eSecs, index_nat hi, index_nat hj, List.getElem?_map, List.getElem?_eq_getElem hi, List.getElem?_eq_getElem hj, val_pvs, frozen_pvs, msnoc_len, msnoc_get, msnoc_set, msnoc_take, Int.le_refl, take_map_all, Nat.le_refl, St.freezeRows, BV.frozen, List.take_length, List.take_append_drop, z_repl_zero, Int.toNat_zero, true_and, and_true, and_self, eq_self, z_take_zero, List.drop_nil, List.take_nil, vAll, List.foldl_nil, List.foldl_cons, resultsOf, resultList, resultOf, zBV, splice, PV.remade, St.freezeAt, St.freezeBox, PV.single, plain, act, dstOf, if_true, if_false, reduceCtorEq, St.get, St.put, St.pvOf, St.putRow, St.consume, St.freeze, St.row, St.elems, St.grab, St.takeRow, St.setRow, St.place, St.optPv, St.setCell, St.setCellRow, binPV, intBin, unPV, BV.val, Nat.reduceEqDiff, bound, consumeAll, buildParts, capsOf, capOf, List.append_nil, Nat.reduceAdd, Nat.reduceLT, Nat.reduceLeDiff, beq_self_eq_true, List.length_map, Nat.beq, dcall, dcallP, List.mapM_cons, St.snapFn, St.snap, St.layAll, St.lay, St.freezeArg, St.freezeArg1]
    rw [List.drop_eq_getElem_cons hi, List.drop_eq_getElem_cons hj]
    (try simp only [bcase_bind, bcase_map, tail_bcase]); refine bcase_split (fun hb => ?_) (fun hb => ?_) <;> try simp only [hb,  val_pvs, frozen_pvs, msnoc_len, msnoc_get, msnoc_set, msnoc_take, Int.le_refl, take_map_all, Nat.le_refl, St.freezeRows, BV.frozen, List.take_length, List.take_append_drop, z_repl_zero, Int.toNat_zero, true_and, and_true, and_self, eq_self, z_take_zero, List.drop_nil, List.take_nil, vAll, List.foldl_nil, List.foldl_cons, resultsOf, resultList, resultOf, zBV, splice, PV.remade, St.freezeAt, St.freezeBox, PV.single, plain, act, dstOf, if_true, if_false, reduceCtorEq, St.get, St.put, St.pvOf, St.putRow, St.consume, St.freeze, St.row, St.elems, St.grab, St.takeRow, St.setRow, St.place, St.optPv, St.setCell, St.setCellRow, binPV, intBin, unPV, BV.val, Nat.reduceEqDiff, bound, consumeAll, buildParts, capsOf, capOf, List.append_nil, Nat.reduceAdd, Nat.reduceLT, Nat.reduceLeDiff, beq_self_eq_true, List.length_map, Nat.beq, dcall, dcallP, List.mapM_cons, St.snapFn, St.snap, St.layAll, St.lay, St.freezeArg, St.freezeArg1]
    · rw [ih _ (by simp only [hi1]; rfl)]
      have : a[i].length = b[i].length := by simp at hb; omega
      have e : (imSizes (a[i] :: List.drop (i + 1) a) = imSizes (b[i] :: List.drop (i + 1) b)) = (imSizes (List.drop (i + 1) a) = imSizes (List.drop (i + 1) b)) := by simp only [imSizes, List.map_cons, List.cons.injEq, this, true_and]
      simp only [e]
    · rw [if_neg (by simp only [imSizes, List.map_cons, List.cons.injEq]; simp at hb; omega)]
      rfl
  · intro rb

    simp only [fn59_b0, Int.lt_irrefl,  val_pvs, frozen_pvs, msnoc_len, msnoc_get, msnoc_set, msnoc_take, Int.le_refl, take_map_all, Nat.le_refl, St.freezeRows, BV.frozen, List.take_length, List.take_append_drop, z_repl_zero, Int.toNat_zero, true_and, and_true, and_self, eq_self, z_take_zero, List.drop_nil, List.take_nil, vAll, List.foldl_nil, List.foldl_cons, resultsOf, resultList, resultOf, zBV, splice, PV.remade, St.freezeAt, St.freezeBox, PV.single, plain, act, dstOf, if_true, if_false, reduceCtorEq, St.get, St.put, St.pvOf, St.putRow, St.consume, St.freeze, St.row, St.elems, St.grab, St.takeRow, St.setRow, St.place, St.optPv, St.setCell, St.setCellRow, binPV, intBin, unPV, BV.val, Nat.reduceEqDiff, bound, consumeAll, buildParts, capsOf, capOf, List.append_nil, Nat.reduceAdd, Nat.reduceLT, Nat.reduceLeDiff, beq_self_eq_true, List.length_map, Nat.beq, dcall, dcallP, List.mapM_cons, St.snapFn, St.snap, St.layAll, St.lay, St.freezeArg, St.freezeArg1]
    rw [List.drop_length, hab, List.drop_length, if_pos rfl]
    rfl

theorem cal59 {a b : Img} (ha : a.length ≤ lim) (hb' : b.length ≤ lim) : cal env 59 [.list 1 (a.map eSecs), .list 1 (b.map eSecs)] = some [(.int .i64 (pairErr a b), false)] := by
  have e1 := cal19 ha
  have e2 := cal19 hb'
  rw [cal_code env59 rfl]; simp only [fn59]; simp only [start, z_map_cons, z_map_nil, z_len_cons, z_len_nil, z_repl_zero, z_repl_succ, z_cons_app, z_nil_app, Nat.reduceAdd, Nat.reduceSub]
  unfold pairErr
  by_cases c1 : imCheck a = 0
  · have G1 : (imCheck a != 0) = false := by simp [c1]
    by_cases c2 : imCheck b = 0
    · have G2 : (imCheck b != 0) = false := by simp [c2]
      by_cases c3 : a.length = b.length
      · have G3 : (((a.length : Int)) != (b.length : Int)) = false := by simp; omega
        simp only [G1, G2, G3, e1, e2, val_pvs, frozen_pvs, msnoc_len, msnoc_get, msnoc_set, msnoc_take, Int.le_refl, take_map_all, Nat.le_refl, St.freezeRows, BV.frozen, List.take_length, List.take_append_drop, z_repl_zero, Int.toNat_zero, true_and, and_true, and_self, eq_self, z_take_zero, List.drop_nil, List.take_nil, vAll, List.foldl_nil, List.foldl_cons, resultsOf, resultList, resultOf, zBV, splice, PV.remade, St.freezeAt, St.freezeBox, PV.single, plain, act, dstOf, if_true, if_false, reduceCtorEq, St.get, St.put, St.pvOf, St.putRow, St.consume, St.freeze, St.row, St.elems, St.grab, St.takeRow, St.setRow, St.place, St.optPv, St.setCell, St.setCellRow, binPV, intBin, unPV, BV.val, Nat.reduceEqDiff, bound, consumeAll, buildParts, capsOf, capOf, List.append_nil, Nat.reduceAdd, Nat.reduceLT, Nat.reduceLeDiff, beq_self_eq_true, List.length_map, Nat.beq, dcall, dcallP, List.mapM_cons, St.snapFn, St.snap, St.layAll, St.lay, St.freezeArg, St.freezeArg1]
        rw [loop59 ha c3]
        rotate_left
        · rfl
        · by_cases c4 : imSizes a = imSizes b <;> simp only [c1, c2, c4, ne_eq, not_true, if_true, if_false, val_pvs, frozen_pvs, msnoc_len, msnoc_get, msnoc_set, msnoc_take, Int.le_refl, take_map_all, Nat.le_refl, St.freezeRows, BV.frozen, List.take_length, List.take_append_drop, z_repl_zero, Int.toNat_zero, true_and, and_true, and_self, eq_self, z_take_zero, List.drop_nil, List.take_nil, vAll, List.foldl_nil, List.foldl_cons, resultsOf, resultList, resultOf, zBV, splice, PV.remade, St.freezeAt, St.freezeBox, PV.single, plain, act, dstOf, if_true, if_false, reduceCtorEq, St.get, St.put, St.pvOf, St.putRow, St.consume, St.freeze, St.row, St.elems, St.grab, St.takeRow, St.setRow, St.place, St.optPv, St.setCell, St.setCellRow, binPV, intBin, unPV, BV.val, Nat.reduceEqDiff, bound, consumeAll, buildParts, capsOf, capOf, List.append_nil, Nat.reduceAdd, Nat.reduceLT, Nat.reduceLeDiff, beq_self_eq_true, List.length_map, Nat.beq, dcall, dcallP, List.mapM_cons, St.snapFn, St.snap, St.layAll, St.lay, St.freezeArg, St.freezeArg1]
      · have G3 : (((a.length : Int)) != (b.length : Int)) = true := by simp; omega
        have c4 : imSizes a ≠ imSizes b := fun h => c3 (sizes_inj h).1
        simp only [G1, G2, G3, e1, e2, val_pvs, frozen_pvs, msnoc_len, msnoc_get, msnoc_set, msnoc_take, Int.le_refl, take_map_all, Nat.le_refl, St.freezeRows, BV.frozen, List.take_length, List.take_append_drop, z_repl_zero, Int.toNat_zero, true_and, and_true, and_self, eq_self, z_take_zero, List.drop_nil, List.take_nil, vAll, List.foldl_nil, List.foldl_cons, resultsOf, resultList, resultOf, zBV, splice, PV.remade, St.freezeAt, St.freezeBox, PV.single, plain, act, dstOf, if_true, if_false, reduceCtorEq, St.get, St.put, St.pvOf, St.putRow, St.consume, St.freeze, St.row, St.elems, St.grab, St.takeRow, St.setRow, St.place, St.optPv, St.setCell, St.setCellRow, binPV, intBin, unPV, BV.val, Nat.reduceEqDiff, bound, consumeAll, buildParts, capsOf, capOf, List.append_nil, Nat.reduceAdd, Nat.reduceLT, Nat.reduceLeDiff, beq_self_eq_true, List.length_map, Nat.beq, dcall, dcallP, List.mapM_cons, St.snapFn, St.snap, St.layAll, St.lay, St.freezeArg, St.freezeArg1]
        simp only [c1, c2, c4, ne_eq, not_true, if_true, if_false]
    · have G2 : (imCheck b != 0) = true := by simp [c2]
      simp only [G1, G2, e1, e2, val_pvs, frozen_pvs, msnoc_len, msnoc_get, msnoc_set, msnoc_take, Int.le_refl, take_map_all, Nat.le_refl, St.freezeRows, BV.frozen, List.take_length, List.take_append_drop, z_repl_zero, Int.toNat_zero, true_and, and_true, and_self, eq_self, z_take_zero, List.drop_nil, List.take_nil, vAll, List.foldl_nil, List.foldl_cons, resultsOf, resultList, resultOf, zBV, splice, PV.remade, St.freezeAt, St.freezeBox, PV.single, plain, act, dstOf, if_true, if_false, reduceCtorEq, St.get, St.put, St.pvOf, St.putRow, St.consume, St.freeze, St.row, St.elems, St.grab, St.takeRow, St.setRow, St.place, St.optPv, St.setCell, St.setCellRow, binPV, intBin, unPV, BV.val, Nat.reduceEqDiff, bound, consumeAll, buildParts, capsOf, capOf, List.append_nil, Nat.reduceAdd, Nat.reduceLT, Nat.reduceLeDiff, beq_self_eq_true, List.length_map, Nat.beq, dcall, dcallP, List.mapM_cons, St.snapFn, St.snap, St.layAll, St.lay, St.freezeArg, St.freezeArg1]
      simp only [c1, c2, ne_eq, not_true, not_false_eq_true, if_true, if_false]
  · have G1 : (imCheck a != 0) = true := by simp [c1]
    simp only [G1, e1, e2, val_pvs, frozen_pvs, msnoc_len, msnoc_get, msnoc_set, msnoc_take, Int.le_refl, take_map_all, Nat.le_refl, St.freezeRows, BV.frozen, List.take_length, List.take_append_drop, z_repl_zero, Int.toNat_zero, true_and, and_true, and_self, eq_self, z_take_zero, List.drop_nil, List.take_nil, vAll, List.foldl_nil, List.foldl_cons, resultsOf, resultList, resultOf, zBV, splice, PV.remade, St.freezeAt, St.freezeBox, PV.single, plain, act, dstOf, if_true, if_false, reduceCtorEq, St.get, St.put, St.pvOf, St.putRow, St.consume, St.freeze, St.row, St.elems, St.grab, St.takeRow, St.setRow, St.place, St.optPv, St.setCell, St.setCellRow, binPV, intBin, unPV, BV.val, Nat.reduceEqDiff, bound, consumeAll, buildParts, capsOf, capOf, List.append_nil, Nat.reduceAdd, Nat.reduceLT, Nat.reduceLeDiff, beq_self_eq_true, List.length_map, Nat.beq, dcall, dcallP, List.mapM_cons, St.snapFn, St.snap, St.layAll, St.lay, St.freezeArg, St.freezeArg1]
    simp only [c1, ne_eq, not_false_eq_true, if_true]
theorem loop26 {a b : Img} (hl : a.length ≤ lim) (hr : ∀ v ∈ a, v.length ≤ lim) (hab : a.length = b.length) (hs : ∀ i (h1 : i < a.length) (h2 : i < b.length), a[i].length = b[i].length)
   {st : St} (h : st.head [0, 1, 7, 16, 17, 31] st.boxes.length = some ⟨[.pv (.list 1 (a.map eSecs)), .pv (.list 1 (b.map eSecs)), .any, .any, .any, .any, .any, .row 1 [], .any, .any, .any, .any, .any, .any, .any, .any, .pv (.int .i64 a.length), .pv (.int .i64 (0 : Nat)), .any, .any, .any, .any, .any, .any, .any, .any, .any, .any, .any, .any, .any, .any, .any, .any], [], [], none⟩) :
   den env fn26_l1 st = some (.normal, ⟨[.any, .any, .any, .any, .any, .any, .any, .row 1 ((differ a b).map eExts), .any, .any, .any, .any, .any, .any, .any, .any, .any, .any, .any, .any, .any, .any, .any, .any, .any, .any, .any, .any, .any, .any, .any, .any, .any, .any], [], [], none⟩) := by
  unfold fn26_l1
  have hz : (a.zip b).length = a.length := by simp; omega
  refine clean_up (env := env) a.length (fun i => ⟨[.pv (.list 1 (a.map eSecs)), .pv (.list 1 (b.map eSecs)), .any, .any, .any, .any, .any, .row 1 (((a.zip b).take i).map fun q => eExts (volDiff q.1 q.2)), .any, .any, .any, .any, .any, .any, .any, .any, .pv (.int .i64 a.length), .pv (.int .i64 i), .any, .any, .any, .any, .any, .any, .any, .any, .any, .any, .any, .any, .any, .any, .any, .any], [], [], none⟩) (fun i => some (.normal, ⟨[.any, .any, .any, .any, .any, .any, .any, .row 1 ((differ a b).map eExts), .any, .any, .any, .any, .any, .any, .any, .any, .any, .any, .any, .any, .any, .any, .any, .any, .any, .any, .any, .any, .any, .any, .any, .any, .any, .any], [], [], none⟩)) h (fun _ => rfl) (fun _ => rfl) ?_ ?_
  · intro i rb hi ih
    have hi1 := i64_next hi hl
    have hj : i < b.length := by omega
    have hiz : i < (a.zip b).length := by omega
    have F1 : ((i : Int) < (a.length : Int)) = True := eq_true (by omega)
    have F2 : (((a.zip b).take i).length + 1 ≤ lim) = True := eq_true (by rw [List.length_take]; omega)
    have e1 := cal55 (hr _ (List.getElem_mem hi)) (hs i hi hj)
    simp only [fn26_b0, F1, F2, e1, eSecs, index_nat hi, index_nat hj, List.getElem?_map, List.getElem?_eq_getElem hi, List.getElem?_eq_getElem hj, val_pvs, frozen_pvs, msnoc_len, msnoc_get, msnoc_set, msnoc_take, Int.le_refl, take_map_all, Nat.le_refl, St.freezeRows, BV.frozen, List.take_length, List.take_append_drop, z_repl_zero, Int.toNat_zero, true_and, and_true, and_self, eq_self, z_take_zero, List.drop_nil, List.take_nil, vAll, List.foldl_nil, List.foldl_cons, resultsOf, resultList, resultOf, zBV, splice, PV.remade, St.freezeAt, St.freezeBox, PV.single, plain, act, dstOf, if_true, if_false, reduceCtorEq, St.get, St.put, St.pvOf, St.putRow, St.consume, St.freeze, St.row, St.elems, St.grab, St.takeRow, St.setRow, St.place, St.optPv, St.setCell, St.setCellRow, binPV, intBin, unPV, BV.val, Nat.reduceEqDiff, bound, consumeAll, buildParts, capsOf, capOf, List.append_nil, Nat.reduceAdd, Nat.reduceLT, Nat.reduceLeDiff, beq_self_eq_true, List.length_map, Nat.beq, dcall, dcallP, List.mapM_cons, St.snapFn, St.snap, St.layAll, St.lay, St.freezeArg, St.freezeArg1]
    rw [ih _ (by simp only [hi1]; rw [← take_map_succ _ hiz, List.getElem_zip]; rfl)]
  · intro rb
    simp only [fn26_b0, Int.lt_irrefl, val_pvs, frozen_pvs, msnoc_len, msnoc_get, msnoc_set, msnoc_take, Int.le_refl, take_map_all, Nat.le_refl, St.freezeRows, BV.frozen, List.take_length, List.take_append_drop, z_repl_zero, Int.toNat_zero, true_and, and_true, and_self, eq_self, z_take_zero, List.drop_nil, List.take_nil, vAll, List.foldl_nil, List.foldl_cons, resultsOf, resultList, resultOf, zBV, splice, PV.remade, St.freezeAt, St.freezeBox, PV.single, plain, act, dstOf, if_true, if_false, reduceCtorEq, St.get, St.put, St.pvOf, St.putRow, St.consume, St.freeze, St.row, St.elems, St.grab, St.takeRow, St.setRow, St.place, St.optPv, St.setCell, St.setCellRow, binPV, intBin, unPV, BV.val, Nat.reduceEqDiff, bound, consumeAll, buildParts, capsOf, capOf, List.append_nil, Nat.reduceAdd, Nat.reduceLT, Nat.reduceLeDiff, beq_self_eq_true, List.length_map, Nat.beq, dcall, dcallP, List.mapM_cons, St.snapFn, St.snap, St.layAll, St.lay, St.freezeArg, St.freezeArg1]
    rw [← hz, List.take_length]
    simp only [differ, List.map_map]
    rfl
theorem cal26 {a b : Img} (ha : a.length ≤ lim) (hb' : b.length ≤ lim) (hr : ∀ v ∈ a, v.length ≤ lim) : cal env 26 [.list 1 (a.map eSecs), .list 1 (b.map eSecs)] = some [(.list 1 ((differOut a b).map eExts), true), (.int .i64 (pairErr a b), false)] := by
  have e1 := cal54 ha hb'
  unfold differOut
  by_cases c : pairErr a b = 0
  · have hs : imSizes a = imSizes b := by
      unfold pairErr at c
      split at c
      · omega
      · split at c
        · omega
        · split at c
          · assumption
          · omega
    have G1 : (pairErr a b != 0) = false := by simp [c]
    rw [cal_code env26 rfl]; simp only [fn26]; simp only [start, z_map_cons, z_map_nil, z_len_cons, z_len_nil, z_repl_zero, z_repl_succ, z_cons_app, z_nil_app, Nat.reduceAdd, Nat.reduceSub]
    simp only [G1, e1, val_pvs, frozen_pvs, msnoc_len, msnoc_get, msnoc_set, msnoc_take, Int.le_refl, take_map_all, Nat.le_refl, St.freezeRows, BV.frozen, List.take_length, List.take_append_drop, z_repl_zero, Int.toNat_zero, true_and, and_true, and_self, eq_self, z_take_zero, List.drop_nil, List.take_nil, vAll, List.foldl_nil, List.foldl_cons, resultsOf, resultList, resultOf, zBV, splice, PV.remade, St.freezeAt, St.freezeBox, PV.single, plain, act, dstOf, if_true, if_false, reduceCtorEq, St.get, St.put, St.pvOf, St.putRow, St.consume, St.freeze, St.row, St.elems, St.grab, St.takeRow, St.setRow, St.place, St.optPv, St.setCell, St.setCellRow, binPV, intBin, unPV, BV.val, Nat.reduceEqDiff, bound, consumeAll, buildParts, capsOf, capOf, List.append_nil, Nat.reduceAdd, Nat.reduceLT, Nat.reduceLeDiff, beq_self_eq_true, List.length_map, Nat.beq, dcall, dcallP, List.mapM_cons, St.snapFn, St.snap, St.layAll, St.lay, St.freezeArg, St.freezeArg1]
    rw [loop26 ha hr (sizes_inj hs).1 (sizes_inj hs).2]
    rotate_left
    · rfl
    · simp only [c, val_pvs, frozen_pvs, msnoc_len, msnoc_get, msnoc_set, msnoc_take, Int.le_refl, take_map_all, Nat.le_refl, St.freezeRows, BV.frozen, List.take_length, List.take_append_drop, z_repl_zero, Int.toNat_zero, true_and, and_true, and_self, eq_self, z_take_zero, List.drop_nil, List.take_nil, vAll, List.foldl_nil, List.foldl_cons, resultsOf, resultList, resultOf, zBV, splice, PV.remade, St.freezeAt, St.freezeBox, PV.single, plain, act, dstOf, if_true, if_false, reduceCtorEq, St.get, St.put, St.pvOf, St.putRow, St.consume, St.freeze, St.row, St.elems, St.grab, St.takeRow, St.setRow, St.place, St.optPv, St.setCell, St.setCellRow, binPV, intBin, unPV, BV.val, Nat.reduceEqDiff, bound, consumeAll, buildParts, capsOf, capOf, List.append_nil, Nat.reduceAdd, Nat.reduceLT, Nat.reduceLeDiff, beq_self_eq_true, List.length_map, Nat.beq, dcall, dcallP, List.mapM_cons, St.snapFn, St.snap, St.layAll, St.lay, St.freezeArg, St.freezeArg1]
  · have G1 : (pairErr a b != 0) = true := by simp [c]
    rw [cal_code env26 rfl]; simp only [fn26]; simp only [start, z_map_cons, z_map_nil, z_len_cons, z_len_nil, z_repl_zero, z_repl_succ, z_cons_app, z_nil_app, Nat.reduceAdd, Nat.reduceSub]
    simp only [G1, e1, val_pvs, frozen_pvs, msnoc_len, msnoc_get, msnoc_set, msnoc_take, Int.le_refl, take_map_all, Nat.le_refl, St.freezeRows, BV.frozen, List.take_length, List.take_append_drop, z_repl_zero, Int.toNat_zero, true_and, and_true, and_self, eq_self, z_take_zero, List.drop_nil, List.take_nil, vAll, List.foldl_nil, List.foldl_cons, resultsOf, resultList, resultOf, zBV, splice, PV.remade, St.freezeAt, St.freezeBox, PV.single, plain, act, dstOf, if_true, if_false, reduceCtorEq, St.get, St.put, St.pvOf, St.putRow, St.consume, St.freeze, St.row, St.elems, St.grab, St.takeRow, St.setRow, St.place, St.optPv, St.setCell, St.setCellRow, binPV, intBin, unPV, BV.val, Nat.reduceEqDiff, bound, consumeAll, buildParts, capsOf, capOf, List.append_nil, Nat.reduceAdd, Nat.reduceLT, Nat.reduceLeDiff, beq_self_eq_true, List.length_map, Nat.beq, dcall, dcallP, List.mapM_cons, St.snapFn, St.snap, St.layAll, St.lay, St.freezeArg, St.freezeArg1]
    simp only [c, if_false]
    rfl
theorem loop31 {a b : Img} (hl : a.length ≤ lim) (hr : ∀ v ∈ a, v.length ≤ lim) (hab : a.length = b.length) (hs : ∀ i (h1 : i < a.length) (h2 : i < b.length), a[i].length = b[i].length)
   {st : St} (h : st.head [0, 1, 7, 8, 32] st.boxes.length = some ⟨[.pv (.list 1 (a.map eSecs)), .pv (.list 1 (b.map eSecs)), .any, .any, .any, .any, .any, .row 1 [], .pv (.int .i64 (0 : Nat)), .any, .any, .any, .any, .any, .any, .any, .any, .any, .any, .any, .any, .any, .any, .any, .any, .any, .any, .any, .any, .any, .any, .any, .any, .any], [], [], none⟩) :
   den env fn31_l1 st = some (.normal, ⟨[.any, .any, .any, .any, .any, .any, .any, .row 1 ((differ a b).map eExts), .any, .any, .any, .any, .any, .any, .any, .any, .any, .any, .any, .any, .any, .any, .any, .any, .any, .any, .any, .any, .any, .any, .any, .any, .any, .any], [], [], none⟩) := by
  unfold fn31_l1
  have hz : (a.zip b).length = a.length := by simp; omega
  refine clean_up (env := env) a.length (fun i => ⟨[.pv (.list 1 (a.map eSecs)), .pv (.list 1 (b.map eSecs)), .any, .any, .any, .any, .any, .row 1 (((a.zip b).take i).map fun q => eExts (volDiff q.1 q.2)), .pv (.int .i64 i), .any, .any, .any, .any, .any, .any, .any, .any, .any, .any, .any, .any, .any, .any, .any, .any, .any, .any, .any, .any, .any, .any, .any, .any, .any], [], [], none⟩) (fun i => some (.normal, ⟨[.any, .any, .any, .any, .any, .any, .any, .row 1 ((differ a b).map eExts), .any, .any, .any, .any, .any, .any, .any, .any, .any, .any, .any, .any, .any, .any, .any, .any, .any, .any, .any, .any, .any, .any, .any, .any, .any, .any], [], [], none⟩)) h (fun _ => rfl) (fun _ => rfl) ?_ ?_
  · intro i rb hi ih
    have hi1 := i64_next hi hl
    have hj : i < b.length := by omega
    have hiz : i < (a.zip b).length := by omega
    have F1 : ((i : Int) < (a.length : Int)) = True := eq_true (by omega)
    have F2 : (((a.zip b).take i).length + 1 ≤ lim) = True := eq_true (by rw [List.length_take]; omega)
    have e1 := cal60 (hr _ (List.getElem_mem hi)) (hs i hi hj)
    simp only [fn31_b0, F1, F2, e1, eSecs, index_nat hi, index_nat hj, List.getElem?_map, List.getElem?_eq_getElem hi, List.getElem?_eq_getElem hj, val_pvs, frozen_pvs, msnoc_len, msnoc_get, msnoc_set, msnoc_take, Int.le_refl, take_map_all, Nat.le_refl, St.freezeRows, BV.frozen, List.take_length, List.take_append_drop, z_repl_zero, Int.toNat_zero, true_and, and_true, and_self, eq_self, z_take_zero, List.drop_nil, List.take_nil, vAll, List.foldl_nil, List.foldl_cons, resultsOf, resultList, resultOf, zBV, splice, PV.remade, St.freezeAt, St.freezeBox, PV.single, plain, act, dstOf, if_true, if_false, reduceCtorEq, St.get, St.put, St.pvOf, St.putRow, St.consume, St.freeze, St.row, St.elems, St.grab, St.takeRow, St.setRow, St.place, St.optPv, St.setCell, St.setCellRow, binPV, intBin, unPV, BV.val, Nat.reduceEqDiff, bound, consumeAll, buildParts, capsOf, capOf, List.append_nil, Nat.reduceAdd, Nat.reduceLT, Nat.reduceLeDiff, beq_self_eq_true, List.length_map, Nat.beq, dcall, dcallP, List.mapM_cons, St.snapFn, St.snap, St.layAll, St.lay, St.freezeArg, St.freezeArg1]
    rw [ih _ (by simp only [hi1]; rw [← take_map_succ _ hiz, List.getElem_zip]; rfl)]
  · intro rb
    simp only [fn31_b0, Int.lt_irrefl, val_pvs, frozen_pvs, msnoc_len, msnoc_get, msnoc_set, msnoc_take, Int.le_refl, take_map_all, Nat.le_refl, St.freezeRows, BV.frozen, List.take_length, List.take_append_drop, z_repl_zero, Int.toNat_zero, true_and, and_true, and_self, eq_self, z_take_zero, List.drop_nil, List.take_nil, vAll, List.foldl_nil, List.foldl_cons, resultsOf, resultList, resultOf, zBV, splice, PV.remade, St.freezeAt, St.freezeBox, PV.single, plain, act, dstOf, if_true, if_false, reduceCtorEq, St.get, St.put, St.pvOf, St.putRow, St.consume, St.freeze, St.row, St.elems, St.grab, St.takeRow, St.setRow, St.place, St.optPv, St.setCell, St.setCellRow, binPV, intBin, unPV, BV.val, Nat.reduceEqDiff, bound, consumeAll, buildParts, capsOf, capOf, List.append_nil, Nat.reduceAdd, Nat.reduceLT, Nat.reduceLeDiff, beq_self_eq_true, List.length_map, Nat.beq, dcall, dcallP, List.mapM_cons, St.snapFn, St.snap, St.layAll, St.lay, St.freezeArg, St.freezeArg1]
    rw [← hz, List.take_length]
    simp only [differ, List.map_map]
    rfl
theorem cal31 {a b : Img} (ha : a.length ≤ lim) (hb' : b.length ≤ lim) (hr : ∀ v ∈ a, v.length ≤ lim) : cal env 31 [.list 1 (a.map eSecs), .list 1 (b.map eSecs)] = some [(.list 1 ((differOut a b).map eExts), true), (.int .i64 (pairErr a b), false)] := by
  have e1 := cal59 ha hb'
  unfold differOut
  by_cases c : pairErr a b = 0
  · have hs : imSizes a = imSizes b := by
      unfold pairErr at c
      split at c
      · omega
      · split at c
        · omega
        · split at c
          · assumption
          · omega
    have G1 : (pairErr a b != 0) = false := by simp [c]
    rw [cal_code env31 rfl]; simp only [fn31]; simp only [start, z_map_cons, z_map_nil, z_len_cons, z_len_nil, z_repl_zero, z_repl_succ, z_cons_app, z_nil_app, Nat.reduceAdd, Nat.reduceSub]
    simp only [G1, e1, val_pvs, frozen_pvs, msnoc_len, msnoc_get, msnoc_set, msnoc_take, Int.le_refl, take_map_all, Nat.le_refl, St.freezeRows, BV.frozen, List.take_length, List.take_append_drop, z_repl_zero, Int.toNat_zero, true_and, and_true, and_self, eq_self, z_take_zero, List.drop_nil, List.take_nil, vAll, List.foldl_nil, List.foldl_cons, resultsOf, resultList, resultOf, zBV, splice, PV.remade, St.freezeAt, St.freezeBox, PV.single, plain, act, dstOf, if_true, if_false, reduceCtorEq, St.get, St.put, St.pvOf, St.putRow, St.consume, St.freeze, St.row, St.elems, St.grab, St.takeRow, St.setRow, St.place, St.optPv, St.setCell, St.setCellRow, binPV, intBin, unPV, BV.val, Nat.reduceEqDiff, bound, consumeAll, buildParts, capsOf, capOf, List.append_nil, Nat.reduceAdd, Nat.reduceLT, Nat.reduceLeDiff, beq_self_eq_true, List.length_map, Nat.beq, dcall, dcallP, List.mapM_cons, St.snapFn, St.snap, St.layAll, St.lay, St.freezeArg, St.freezeArg1]
    rw [loop31 ha hr (sizes_inj hs).1 (sizes_inj hs).2]
    rotate_left
    · rfl
    · simp only [c, val_pvs, frozen_pvs, msnoc_len, msnoc_get, msnoc_set, msnoc_take, Int.le_refl, take_map_all, Nat.le_refl, St.freezeRows, BV.frozen, List.take_length, List.take_append_drop, z_repl_zero, Int.toNat_zero, true_and, and_true, and_self, eq_self, z_take_zero, List.drop_nil, List.take_nil, vAll, List.foldl_nil, List.foldl_cons, resultsOf, resultList, resultOf, zBV, splice, PV.remade, St.freezeAt, St.freezeBox, PV.single, plain, act, dstOf, if_true, if_false, reduceCtorEq, St.get, St.put, St.pvOf, St.putRow, St.consume, St.freeze, St.row, St.elems, St.grab, St.takeRow, St.setRow, St.place, St.optPv, St.setCell, St.setCellRow, binPV, intBin, unPV, BV.val, Nat.reduceEqDiff, bound, consumeAll, buildParts, capsOf, capOf, List.append_nil, Nat.reduceAdd, Nat.reduceLT, Nat.reduceLeDiff, beq_self_eq_true, List.length_map, Nat.beq, dcall, dcallP, List.mapM_cons, St.snapFn, St.snap, St.layAll, St.lay, St.freezeArg, St.freezeArg1]
  · have G1 : (pairErr a b != 0) = true := by simp [c]
    rw [cal_code env31 rfl]; simp only [fn31]; simp only [start, z_map_cons, z_map_nil, z_len_cons, z_len_nil, z_repl_zero, z_repl_succ, z_cons_app, z_nil_app, Nat.reduceAdd, Nat.reduceSub]
    simp only [G1, e1, val_pvs, frozen_pvs, msnoc_len, msnoc_get, msnoc_set, msnoc_take, Int.le_refl, take_map_all, Nat.le_refl, St.freezeRows, BV.frozen, List.take_length, List.take_append_drop, z_repl_zero, Int.toNat_zero, true_and, and_true, and_self, eq_self, z_take_zero, List.drop_nil, List.take_nil, vAll, List.foldl_nil, List.foldl_cons, resultsOf, resultList, resultOf, zBV, splice, PV.remade, St.freezeAt, St.freezeBox, PV.single, plain, act, dstOf, if_true, if_false, reduceCtorEq, St.get, St.put, St.pvOf, St.putRow, St.consume, St.freeze, St.row, St.elems, St.grab, St.takeRow, St.setRow, St.place, St.optPv, St.setCell, St.setCellRow, binPV, intBin, unPV, BV.val, Nat.reduceEqDiff, bound, consumeAll, buildParts, capsOf, capOf, List.append_nil, Nat.reduceAdd, Nat.reduceLT, Nat.reduceLeDiff, beq_self_eq_true, List.length_map, Nat.beq, dcall, dcallP, List.mapM_cons, St.snapFn, St.snap, St.layAll, St.lay, St.freezeArg, St.freezeArg1]
    simp only [c, if_false]
    rfl
end Go.Proofs.Ytldnpgbacakfeaa.V

namespace Go.Proofs.Ytldnpgbacakfeaa.V
set_option linter.all false

def patchV (i : Nat) (v : List Sec) (l : List Exn) : List Wrt := l.map fun x => ⟨i, x.start, (v.drop x.start.toNat).take x.count.toNat⟩
def patchN (a b : Img) (n : Nat) : List Wrt := (List.range n).flatMap fun i => patchV i (b.getD i []) (volDiff (a.getD i []) (b.getD i []))
def patchOf (a b : Img) : List Wrt := patchN a b a.length
def patchOut (a b : Img) : List Wrt := if pairErr a b = 0 then patchOf a b else []
theorem patchN_succ (a b : Img) (n : Nat) : patchN a b (n + 1) = patchN a b n ++ patchV n (b.getD n []) (volDiff (a.getD n []) (b.getD n [])) := by
  simp [patchN, List.range_succ, List.flatMap_append]
theorem exts_in : ∀ (n : Nat) (l : List Nat), l.length = n → ∀ N : Nat, (∀ i ∈ l, i < N) → ∀ x ∈ exts l, 0 ≤ x.start ∧ 1 ≤ x.count ∧ x.start + x.count ≤ (N : Int) := by
  intro n
  induction n with
  | zero =>
    intro l hl N _ x hx
    rw [List.eq_nil_of_length_eq_zero hl] at hx
    simp [exts] at hx
  | succ n ih =>
    intro l hl N hN x hx
    rcases snoc_cases l with rfl | ⟨p, j, rfl⟩
    · simp at hl
    · have hj := hN j (by simp)
      have ihp := ih p (by simpa using hl) N (fun i hi => hN i (by simp [hi]))
      rw [exts_snoc] at hx
      rcases snoc_cases (exts p) with e | ⟨pre, y, e⟩
      · rw [e] at hx
        simp only [addAt, List.getLast?_nil, List.mem_singleton] at hx
        subst hx
        exact ⟨by simp, by simp, by simp; omega⟩
      · rw [e, addAt_snoc] at hx
        have hy := ihp y (by rw [e]; simp)
        split at hx
        · rename_i h1
          rcases List.mem_append.1 hx with h | h
          · exact ihp x (by rw [e]; simp [h])
          · simp only [List.mem_singleton] at h
            subst h
            simp only
            omega
        · rcases List.mem_append.1 hx with h | h
          · exact ihp x (by rw [e]; exact h)
          · simp only [List.mem_singleton] at h
            subst h
            exact ⟨by simp, by simp, by simp; omega⟩
theorem volDiff_in {a b : List Sec} {x : Exn} (h : x ∈ volDiff a b) : 0 ≤ x.start ∧ 1 ≤ x.count ∧ x.start + x.count ≤ (a.length : Int) :=
  exts_in _ _ rfl a.length (fun i hi => difN_lt hi) x h
theorem exts_len : ∀ (n : Nat) (l : List Nat), l.length = n → (exts l).length ≤ n := by
  intro n
  induction n with
  | zero => intro l hl; rw [List.eq_nil_of_length_eq_zero hl]; simp [exts]
  | succ n ih =>
    intro l hl
    rcases snoc_cases l with rfl | ⟨p, j, rfl⟩
    · simp at hl
    · have h1 := ih p (by simpa using hl)
      rw [exts_snoc]
      rcases snoc_cases (exts p) with e | ⟨pre, y, e⟩
      · rw [e]; simp [addAt]
      · rw [e] at h1 ⊢
        simp only [List.length_append, List.length_singleton] at h1
        rw [addAt_snoc]
        split <;> simp <;> omega
theorem volDiff_len (a b : List Sec) : (volDiff a b).length ≤ a.length := Nat.le_trans (exts_len _ _ rfl) (difN_len a b a.length)
theorem cal62 {to : Img} {v : List Sec} {i : Nat} {x : Exn} (hv : to[i]? = some v) (hl : v.length ≤ lim) (h1 : 0 ≤ x.start) (h2 : 1 ≤ x.count) (h3 : x.start + x.count ≤ (v.length : Int)) :
    cal env 62 [eExt x, .iptr [.int .i64 (i : Int)] 0, .iptr [.list 1 (to.map eSecs)] 0] = some [(eWr ⟨i, x.start, (v.drop x.start.toNat).take x.count.toNat⟩, false)] := by
  obtain ⟨s, c⟩ := x
  simp only at h1 h2 h3
  have hi := (List.getElem?_eq_some_iff.1 hv).1
  have hlim : lim = 1073741824 := rfl
  have g1 : IntKind.i64.wrap (s + c) = s + c := i64_fits (by omega)
  have g2 : (0 ≤ s + c ∧ s + c ≤ (v.length : Int)) = True := eq_true (by omega)
  have g3 : (0 ≤ s ∧ s ≤ ((s + c).toNat : Int)) = True := eq_true (by omega)
  have g4 : (((v.map eSec).drop s.toNat).take ((s + c).toNat - s.toNat)) = ((v.drop s.toNat).take c.toNat).map eSec := by
    rw [List.map_take, List.map_drop]; congr 1; omega
  have g5 := cal58 (es := ((v.drop s.toNat).take c.toNat).map eSec) (by simp; omega)
  simp only [eExt, eWr]
  rw [cal_code env62 rfl]; simp only [fn62]; simp only [start, z_map_cons, z_map_nil, z_len_cons, z_len_nil, z_repl_zero, z_repl_succ, z_cons_app, z_nil_app, Nat.reduceAdd, Nat.reduceSub]
  simp only [g1, g2, g3, g4, g5, hv, eSecs, index_nat hi, List.getElem?_map, Option.map_some, val_pvs, frozen_pvs, msnoc_len, msnoc_get, msnoc_set, msnoc_take, Int.le_refl, take_map_all, Nat.le_refl, St.freezeRows, BV.frozen, List.take_length, List.take_append_drop, z_repl_zero, Int.toNat_zero, true_and, and_true, and_self, eq_self, z_take_zero, List.drop_nil, List.take_nil, vAll, List.foldl_nil, List.foldl_cons, resultsOf, resultList, resultOf, zBV, splice, PV.remade, St.freezeAt, St.freezeBox, PV.single, plain, act, dstOf, if_true, if_false, reduceCtorEq, St.get, St.put, St.pvOf, St.putRow, St.consume, St.freeze, St.row, St.elems, St.grab, St.takeRow, St.setRow, St.place, St.optPv, St.setCell, St.setCellRow, binPV, intBin, unPV, BV.val, Nat.reduceEqDiff, bound, consumeAll, buildParts, capsOf, capOf, List.append_nil, Nat.reduceAdd, Nat.reduceLT, Nat.reduceLeDiff, beq_self_eq_true, List.length_map, Nat.beq, dcall, dcallP, List.mapM_cons, St.snapFn, St.snap, St.layAll, St.lay, St.freezeArg, St.freezeArg1]
theorem zip_get {a b : Img} {i : Nat} (h1 : i < a.length) (h2 : i < b.length) : (differ a b)[i]? = some (volDiff a[i] b[i]) := by
  have hz : i < (a.zip b).length := by simp; omega
  simp only [differ, List.getElem?_map, List.getElem?_eq_getElem hz, Option.map_some, List.getElem_zip]
theorem differ_len {a b : Img} (h : a.length = b.length) : (differ a b).length = a.length := by simp [differ]; omega
theorem getD_lt {α : Type} {l : List α} {i : Nat} {d : α} (h : i < l.length) : l.getD i d = l[i] := by simp [List.getD_eq_getElem?_getD, List.getElem?_eq_getElem h]
theorem loop32 {a b : Img} (hl : a.length ≤ lim) (hr : ∀ v ∈ a, v.length ≤ lim) (hab : a.length = b.length) (hs : ∀ i (h1 : i < a.length) (h2 : i < b.length), a[i].length = b[i].length) (hP : ∀ n, n ≤ a.length → (patchN a b n).length ≤ lim)
   {st : St} (h : st.head [3, 6, 8, 15, 20, 21, 22, 31] st.boxes.length = some ⟨[.any, .any, .any, .pbox 0 0, .any, .any, .row 1 ((differ a b).map eExts), .any, .row 3 [], .any, .any, .any, .any, .any, .any, .any, .any, .any, .any, .any, .ref (.slot 6) 0 (differ a b).length, .pv (.int .i64 (differ a b).length), .pv (.int .i64 (0 : Nat)), .any, .any, .any, .any, .any, .any, .any, .any, .any, .any, .any], [⟨false, [.pv (.list 1 (b.map eSecs))]⟩], [], none⟩) :
   den env fn32_l1 st = some (.normal, ⟨[.any, .any, .any, .any, .any, .any, .any, .any, .row 3 ((patchOf a b).map eWr), .any, .any, .any, .any, .any, .any, .any, .any, .any, .any, .any, .any, .any, .any, .any, .any, .any, .any, .any, .any, .any, .any, .any, .any, .any], [⟨decide (0 < (differ a b).length), [.pv (.list 1 (b.map eSecs))]⟩], [], none⟩) := by
  unfold fn32_l1
  have hd := differ_len hab
  refine clean_up (env := env) (differ a b).length (fun i => ⟨[.any, .any, .any, .pbox 0 0, .any, .any, .row 1 ((differ a b).map eExts), .any, .row 3 ((patchN a b i).map eWr), .any, .any, .any, .any, .any, .any, .any, .any, .any, .any, .any, .ref (.slot 6) 0 (differ a b).length, .pv (.int .i64 (differ a b).length), .pv (.int .i64 i), .any, .any, .any, .any, .any, .any, .any, .any, .any, .any, .any], [⟨decide (0 < i), [.pv (.list 1 (b.map eSecs))]⟩], [], none⟩)
    (fun i => some (.normal, ⟨[.any, .any, .any, .any, .any, .any, .any, .any, .row 3 ((patchOf a b).map eWr), .any, .any, .any, .any, .any, .any, .any, .any, .any, .any, .any, .any, .any, .any, .any, .any, .any, .any, .any, .any, .any, .any, .any, .any, .any], [⟨decide (0 < (differ a b).length), [.pv (.list 1 (b.map eSecs))]⟩], [], none⟩)) h (fun _ => rfl) (fun _ => rfl) ?_ ?_
  · intro i rb hi ih
    have hia : i < a.length := by omega
    have hib : i < b.length := by omega
    have hi1 := i64_next hi (by omega)
    have F1 : ((i : Int) < ((differ a b).length : Int)) = True := eq_true (by omega)
    have hg := zip_get hia hib
    have hbi : b[i]? = some b[i] := List.getElem?_eq_getElem hib
    have hlb : b[i].length ≤ lim := by rw [← hs i hia hib]; exact hr _ (List.getElem_mem hia)
    have e1 := cal61 (l := volDiff a[i] b[i]) (g := fun x => ⟨i, x.start, (b[i].drop x.start.toNat).take x.count.toNat⟩) (gf := 62) (caps := [.iptr [.int .i64 (i : Int)] 0, .iptr [.list 1 (b.map eSecs)] 0])
      (fun x hx => cal62 hbi hlb (volDiff_in hx).1 (volDiff_in hx).2.1 (by rw [← hs i hia hib]; exact (volDiff_in hx).2.2)) (fun x => rfl) (fun x => rfl) (Nat.le_trans (volDiff_len _ _) (hr _ (List.getElem_mem hia)))
    have hstep : patchN a b (i + 1) = patchN a b i ++ (volDiff a[i] b[i]).map fun x => ⟨i, x.start, (b[i].drop x.start.toNat).take x.count.toNat⟩ := by
      rw [patchN_succ, getD_lt hia, getD_lt hib]; rfl
    have F2 : ((patchN a b i).length + (volDiff a[i] b[i]).length ≤ lim) = True := eq_true (by have := hP (i + 1) (by omega); rw [hstep] at this; simpa using this)
    simp only [fn32_b0, F1, F2, hg, e1, eExts, index_nat hi, List.getElem?_map, Option.map_some, val_pvs, frozen_pvs, msnoc_len, msnoc_get, msnoc_set, msnoc_take, Int.le_refl, take_map_all, Nat.le_refl, St.freezeRows, BV.frozen, List.take_length, List.take_append_drop, z_repl_zero, Int.toNat_zero, true_and, and_true, and_self, eq_self, z_take_zero, List.drop_nil, List.take_nil, vAll, List.foldl_nil, List.foldl_cons, resultsOf, resultList, resultOf, zBV, splice, PV.remade, St.freezeAt, St.freezeBox, PV.single, plain, act, dstOf, if_true, if_false, reduceCtorEq, St.get, St.put, St.pvOf, St.putRow, St.consume, St.freeze, St.row, St.elems, St.grab, St.takeRow, St.setRow, St.place, St.optPv, St.setCell, St.setCellRow, binPV, intBin, unPV, BV.val, Nat.reduceEqDiff, bound, consumeAll, buildParts, capsOf, capOf, List.append_nil, Nat.reduceAdd, Nat.reduceLT, Nat.reduceLeDiff, beq_self_eq_true, List.length_map, Nat.beq, dcall, dcallP, List.mapM_cons, St.snapFn, St.snap, St.layAll, St.lay, St.freezeArg, St.freezeArg1]
    rw [ih _ (by simp only [hi1]; rw [hstep, decide_eq_true (show 0 < i + 1 by omega), List.map_append, List.map_map]; rfl)]
  · intro rb
    simp only [fn32_b0, Int.lt_irrefl, val_pvs, frozen_pvs, msnoc_len, msnoc_get, msnoc_set, msnoc_take, Int.le_refl, take_map_all, Nat.le_refl, St.freezeRows, BV.frozen, List.take_length, List.take_append_drop, z_repl_zero, Int.toNat_zero, true_and, and_true, and_self, eq_self, z_take_zero, List.drop_nil, List.take_nil, vAll, List.foldl_nil, List.foldl_cons, resultsOf, resultList, resultOf, zBV, splice, PV.remade, St.freezeAt, St.freezeBox, PV.single, plain, act, dstOf, if_true, if_false, reduceCtorEq, St.get, St.put, St.pvOf, St.putRow, St.consume, St.freeze, St.row, St.elems, St.grab, St.takeRow, St.setRow, St.place, St.optPv, St.setCell, St.setCellRow, binPV, intBin, unPV, BV.val, Nat.reduceEqDiff, bound, consumeAll, buildParts, capsOf, capOf, List.append_nil, Nat.reduceAdd, Nat.reduceLT, Nat.reduceLeDiff, beq_self_eq_true, List.length_map, Nat.beq, dcall, dcallP, List.mapM_cons, St.snapFn, St.snap, St.layAll, St.lay, St.freezeArg, St.freezeArg1]
    rw [hd, patchOf]
    rfl
theorem pair_sizes {a b : Img} (c : pairErr a b = 0) : imSizes a = imSizes b := by
  unfold pairErr at c
  split at c
  · omega
  · split at c
    · omega
    · split at c
      · assumption
      · omega
theorem cal32 {a b : Img} (ha : a.length ≤ lim) (hb' : b.length ≤ lim) (hr : ∀ v ∈ a, v.length ≤ lim) (hP : pairErr a b = 0 → ∀ n, n ≤ a.length → (patchN a b n).length ≤ lim) :
    cal env 32 [.list 1 (a.map eSecs), .list 1 (b.map eSecs)] = some [(.list 3 ((patchOut a b).map eWr), true), (.int .i64 (pairErr a b), false)] := by
  have e1 := cal26 ha hb' hr
  unfold differOut at e1
  unfold patchOut
  by_cases c : pairErr a b = 0
  · have hs := sizes_inj (pair_sizes c)
    rw [if_pos c] at e1
    have G1 : (pairErr a b != 0) = false := by simp [c]
    rw [cal_code env32 rfl]; simp only [fn32]; simp only [start, z_map_cons, z_map_nil, z_len_cons, z_len_nil, z_repl_zero, z_repl_succ, z_cons_app, z_nil_app, Nat.reduceAdd, Nat.reduceSub]
    simp only [G1, e1, val_pvs, frozen_pvs, msnoc_len, msnoc_get, msnoc_set, msnoc_take, Int.le_refl, take_map_all, Nat.le_refl, St.freezeRows, BV.frozen, List.take_length, List.take_append_drop, z_repl_zero, Int.toNat_zero, true_and, and_true, and_self, eq_self, z_take_zero, List.drop_nil, List.take_nil, vAll, List.foldl_nil, List.foldl_cons, resultsOf, resultList, resultOf, zBV, splice, PV.remade, St.freezeAt, St.freezeBox, PV.single, plain, act, dstOf, if_true, if_false, reduceCtorEq, St.get, St.put, St.pvOf, St.putRow, St.consume, St.freeze, St.row, St.elems, St.grab, St.takeRow, St.setRow, St.place, St.optPv, St.setCell, St.setCellRow, binPV, intBin, unPV, BV.val, Nat.reduceEqDiff, bound, consumeAll, buildParts, capsOf, capOf, List.append_nil, Nat.reduceAdd, Nat.reduceLT, Nat.reduceLeDiff, beq_self_eq_true, List.length_map, Nat.beq, dcall, dcallP, List.mapM_cons, St.snapFn, St.snap, St.layAll, St.lay, St.freezeArg, St.freezeArg1]
    rw [loop32 ha hr hs.1 hs.2 (hP c)]
    rotate_left
    · rfl
    · simp only [c, val_pvs, frozen_pvs, msnoc_len, msnoc_get, msnoc_set, msnoc_take, Int.le_refl, take_map_all, Nat.le_refl, St.freezeRows, BV.frozen, List.take_length, List.take_append_drop, z_repl_zero, Int.toNat_zero, true_and, and_true, and_self, eq_self, z_take_zero, List.drop_nil, List.take_nil, vAll, List.foldl_nil, List.foldl_cons, resultsOf, resultList, resultOf, zBV, splice, PV.remade, St.freezeAt, St.freezeBox, PV.single, plain, act, dstOf, if_true, if_false, reduceCtorEq, St.get, St.put, St.pvOf, St.putRow, St.consume, St.freeze, St.row, St.elems, St.grab, St.takeRow, St.setRow, St.place, St.optPv, St.setCell, St.setCellRow, binPV, intBin, unPV, BV.val, Nat.reduceEqDiff, bound, consumeAll, buildParts, capsOf, capOf, List.append_nil, Nat.reduceAdd, Nat.reduceLT, Nat.reduceLeDiff, beq_self_eq_true, List.length_map, Nat.beq, dcall, dcallP, List.mapM_cons, St.snapFn, St.snap, St.layAll, St.lay, St.freezeArg, St.freezeArg1]
  · have G1 : (pairErr a b != 0) = true := by simp [c]
    rw [if_neg c] at e1
    rw [cal_code env32 rfl]; simp only [fn32]; simp only [start, z_map_cons, z_map_nil, z_len_cons, z_len_nil, z_repl_zero, z_repl_succ, z_cons_app, z_nil_app, Nat.reduceAdd, Nat.reduceSub]
    simp only [G1, e1, val_pvs, frozen_pvs, msnoc_len, msnoc_get, msnoc_set, msnoc_take, Int.le_refl, take_map_all, Nat.le_refl, St.freezeRows, BV.frozen, List.take_length, List.take_append_drop, z_repl_zero, Int.toNat_zero, true_and, and_true, and_self, eq_self, z_take_zero, List.drop_nil, List.take_nil, vAll, List.foldl_nil, List.foldl_cons, resultsOf, resultList, resultOf, zBV, splice, PV.remade, St.freezeAt, St.freezeBox, PV.single, plain, act, dstOf, if_true, if_false, reduceCtorEq, St.get, St.put, St.pvOf, St.putRow, St.consume, St.freeze, St.row, St.elems, St.grab, St.takeRow, St.setRow, St.place, St.optPv, St.setCell, St.setCellRow, binPV, intBin, unPV, BV.val, Nat.reduceEqDiff, bound, consumeAll, buildParts, capsOf, capOf, List.append_nil, Nat.reduceAdd, Nat.reduceLT, Nat.reduceLeDiff, beq_self_eq_true, List.length_map, Nat.beq, dcall, dcallP, List.mapM_cons, St.snapFn, St.snap, St.layAll, St.lay, St.freezeArg, St.freezeArg1]
    simp only [c, if_false]
    rfl
theorem loopi33 {a b : Img} {i : Nat} {v : List Sec} {l : List Exn} {out : List Wrt} {D : List PV} (hv : b[i]? = some v) (hd : D[i]? = some (eExts l)) (hib : i < b.length) (hid : i < D.length) (hl : v.length ≤ lim) (hll : l.length ≤ lim) (hx : ∀ x ∈ l, 0 ≤ x.start ∧ 1 ≤ x.count ∧ x.start + x.count ≤ (v.length : Int)) (ho : out.length + l.length ≤ lim)
   {st : St} (h : st.head [1, 6, 8, 9, 10, 17, 65] st.boxes.length = some ⟨[.any, .pv (.list 1 (b.map eSecs)), .any, .any, .any, .any, .row 1 D, .any, .row 3 (out.map eWr), .pv (.int .i64 (i : Int)), .pv (.int .i64 (0 : Nat)), .any, .any, .any, .any, .any, .any, .any, .any, .any, .any, .any, .any, .any, .any, .any, .any, .any, .any, .any, .any, .any, .any, .any, .any, .any, .any, .any, .any, .any, .any, .any, .any, .any, .any, .any, .any, .any, .any, .any, .any, .any, .any, .any, .any, .any, .any, .any, .any, .any, .any, .any, .any, .any, .any, .any, .any], [], [], none⟩) :
   den env fn33_l1 st = some (.normal, ⟨[.any, .pv (.list 1 (b.map eSecs)), .any, .any, .any, .any, .row 1 D, .any, .row 3 ((out ++ patchV i v l).map eWr), .pv (.int .i64 (i : Int)), .any, .any, .any, .any, .any, .any, .any, .any, .any, .any, .any, .any, .any, .any, .any, .any, .any, .any, .any, .any, .any, .any, .any, .any, .any, .any, .any, .any, .any, .any, .any, .any, .any, .any, .any, .any, .any, .any, .any, .any, .any, .any, .any, .any, .any, .any, .any, .any, .any, .any, .any, .any, .any, .any, .any, .any, .any], [], [], none⟩) := by
  unfold fn33_l1
  have hlim : lim = 1073741824 := rfl
  refine clean_up (env := env) l.length (fun k => ⟨[.any, .pv (.list 1 (b.map eSecs)), .any, .any, .any, .any, .row 1 D, .any, .row 3 (out.map eWr ++ (patchV i v (l.take k)).map eWr), .pv (.int .i64 (i : Int)), .pv (.int .i64 k), .any, .any, .any, .any, .any, .any, .any, .any, .any, .any, .any, .any, .any, .any, .any, .any, .any, .any, .any, .any, .any, .any, .any, .any, .any, .any, .any, .any, .any, .any, .any, .any, .any, .any, .any, .any, .any, .any, .any, .any, .any, .any, .any, .any, .any, .any, .any, .any, .any, .any, .any, .any, .any, .any, .any, .any], [], [], none⟩)
    (fun k => some (.normal, ⟨[.any, .pv (.list 1 (b.map eSecs)), .any, .any, .any, .any, .row 1 D, .any, .row 3 ((out ++ patchV i v l).map eWr), .pv (.int .i64 (i : Int)), .any, .any, .any, .any, .any, .any, .any, .any, .any, .any, .any, .any, .any, .any, .any, .any, .any, .any, .any, .any, .any, .any, .any, .any, .any, .any, .any, .any, .any, .any, .any, .any, .any, .any, .any, .any, .any, .any, .any, .any, .any, .any, .any, .any, .any, .any, .any, .any, .any, .any, .any, .any, .any, .any, .any, .any, .any], [], [], none⟩)) (by rw [h]; simp [patchV]) (fun _ => rfl) (fun _ => rfl) ?_ ?_
  · intro k rb hi ih
    have hi1 := i64_next hi hll
    have F1 : ((k : Int) < (l.length : Int)) = True := eq_true (by omega)
    obtain ⟨h1, h2, h3⟩ := hx _ (List.getElem_mem hi)
    have hk : l[k]? = some l[k] := List.getElem?_eq_getElem hi
    have ht : l.take (k + 1) = l.take k ++ [l[k]] := by rw [List.take_add_one, hk]; rfl
    have hlen : (l.take k).length = k := by simp; omega
    generalize l[k] = x at h1 h2 h3 hk ht
    obtain ⟨s, c⟩ := x
    simp only at h1 h2 h3
    have g1 : IntKind.i64.wrap (s + c) = s + c := i64_fits (by omega)
    have g2 : (0 ≤ s + c ∧ s + c ≤ (v.length : Int)) = True := eq_true (by omega)
    have g3 : (0 ≤ s ∧ s ≤ ((s + c).toNat : Int)) = True := eq_true (by omega)
    have g4 : (((v.map eSec).drop s.toNat).take ((s + c).toNat - s.toNat)) = ((v.drop s.toNat).take c.toNat).map eSec := by
      rw [List.map_take, List.map_drop]; congr 1; omega
    have g5 : (((v.drop s.toNat).take c.toNat).length ≤ lim) = True := eq_true (by simp; omega)
    have g6 : ((out.map eWr ++ (patchV i v (l.take k)).map eWr).length + 1 ≤ lim) = True := eq_true (by simp [patchV]; omega)
    simp only [fn33_b0, F1, g1, g2, g3, g4, g5, g6, hv, hd, hk, eExts, eExt, eSecs, index_nat hi, index_nat hib, index_nat hid, List.getElem?_map, Option.map_some, val_pvs, frozen_pvs, msnoc_len, msnoc_get, msnoc_set, msnoc_take, Int.le_refl, take_map_all, Nat.le_refl, St.freezeRows, BV.frozen, List.take_length, List.take_append_drop, z_repl_zero, Int.toNat_zero, true_and, and_true, and_self, eq_self, z_take_zero, List.drop_nil, List.take_nil, vAll, List.foldl_nil, List.foldl_cons, resultsOf, resultList, resultOf, zBV, splice, PV.remade, St.freezeAt, St.freezeBox, PV.single, plain, act, dstOf, if_true, if_false, reduceCtorEq, St.get, St.put, St.pvOf, St.putRow, St.consume, St.freeze, St.row, St.elems, St.grab, St.takeRow, St.setRow, St.place, St.optPv, St.setCell, St.setCellRow, binPV, intBin, unPV, BV.val, Nat.reduceEqDiff, bound, consumeAll, buildParts, capsOf, capOf, List.append_nil, Nat.reduceAdd, Nat.reduceLT, Nat.reduceLeDiff, beq_self_eq_true, List.length_map, Nat.beq, dcall, dcallP, List.mapM_cons, St.snapFn, St.snap, St.layAll, St.lay, St.freezeArg, St.freezeArg1]
    rw [ih _ (by simp only [hi1]; rw [ht]; simp only [patchV, List.map_append, List.map_cons, List.map_nil, ← List.append_assoc, eWr]; rfl)]
  · intro rb
    have hid' : D[i]? = some (eExts l) := hd
    simp only [fn33_b0, hd, hid', eExts, index_nat hid, Int.lt_irrefl, List.take_length, val_pvs, frozen_pvs, msnoc_len, msnoc_get, msnoc_set, msnoc_take, Int.le_refl, take_map_all, Nat.le_refl, St.freezeRows, BV.frozen, List.take_length, List.take_append_drop, z_repl_zero, Int.toNat_zero, true_and, and_true, and_self, eq_self, z_take_zero, List.drop_nil, List.take_nil, vAll, List.foldl_nil, List.foldl_cons, resultsOf, resultList, resultOf, zBV, splice, PV.remade, St.freezeAt, St.freezeBox, PV.single, plain, act, dstOf, if_true, if_false, reduceCtorEq, St.get, St.put, St.pvOf, St.putRow, St.consume, St.freeze, St.row, St.elems, St.grab, St.takeRow, St.setRow, St.place, St.optPv, St.setCell, St.setCellRow, binPV, intBin, unPV, BV.val, Nat.reduceEqDiff, bound, consumeAll, buildParts, capsOf, capOf, List.append_nil, Nat.reduceAdd, Nat.reduceLT, Nat.reduceLeDiff, beq_self_eq_true, List.length_map, Nat.beq, dcall, dcallP, List.mapM_cons, St.snapFn, St.snap, St.layAll, St.lay, St.freezeArg, St.freezeArg1]
    rw [List.map_append]
    rfl
theorem loop33 {a b : Img} (hl : a.length ≤ lim) (hr : ∀ v ∈ a, v.length ≤ lim) (hab : a.length = b.length) (hs : ∀ i (h1 : i < a.length) (h2 : i < b.length), a[i].length = b[i].length) (hP : ∀ n, n ≤ a.length → (patchN a b n).length ≤ lim)
   {st : St} (h : st.head [1, 6, 8, 9, 17, 65] st.boxes.length = some ⟨[.any, .pv (.list 1 (b.map eSecs)), .any, .any, .any, .any, .row 1 ((differ a b).map eExts), .any, .row 3 [], .pv (.int .i64 (0 : Nat)), .any, .any, .any, .any, .any, .any, .any, .any, .any, .any, .any, .any, .any, .any, .any, .any, .any, .any, .any, .any, .any, .any, .any, .any, .any, .any, .any, .any, .any, .any, .any, .any, .any, .any, .any, .any, .any, .any, .any, .any, .any, .any, .any, .any, .any, .any, .any, .any, .any, .any, .any, .any, .any, .any, .any, .any, .any], [], [], none⟩) :
   den env fn33_l3 st = some (.normal, ⟨[.any, .any, .any, .any, .any, .any, .any, .any, .row 3 ((patchOf a b).map eWr), .any, .any, .any, .any, .any, .any, .any, .any, .any, .any, .any, .any, .any, .any, .any, .any, .any, .any, .any, .any, .any, .any, .any, .any, .any, .any, .any, .any, .any, .any, .any, .any, .any, .any, .any, .any, .any, .any, .any, .any, .any, .any, .any, .any, .any, .any, .any, .any, .any, .any, .any, .any, .any, .any, .any, .any, .any, .any], [], [], none⟩) := by
  unfold fn33_l3
  have hd := differ_len hab
  refine clean_up (env := env) (differ a b).length (fun i => ⟨[.any, .pv (.list 1 (b.map eSecs)), .any, .any, .any, .any, .row 1 ((differ a b).map eExts), .any, .row 3 ((patchN a b i).map eWr), .pv (.int .i64 i), .any, .any, .any, .any, .any, .any, .any, .any, .any, .any, .any, .any, .any, .any, .any, .any, .any, .any, .any, .any, .any, .any, .any, .any, .any, .any, .any, .any, .any, .any, .any, .any, .any, .any, .any, .any, .any, .any, .any, .any, .any, .any, .any, .any, .any, .any, .any, .any, .any, .any, .any, .any, .any, .any, .any, .any, .any], [], [], none⟩)
    (fun i => some (.normal, ⟨[.any, .any, .any, .any, .any, .any, .any, .any, .row 3 ((patchOf a b).map eWr), .any, .any, .any, .any, .any, .any, .any, .any, .any, .any, .any, .any, .any, .any, .any, .any, .any, .any, .any, .any, .any, .any, .any, .any, .any, .any, .any, .any, .any, .any, .any, .any, .any, .any, .any, .any, .any, .any, .any, .any, .any, .any, .any, .any, .any, .any, .any, .any, .any, .any, .any, .any, .any, .any, .any, .any, .any, .any], [], [], none⟩)) h (fun _ => rfl) (fun _ => rfl) ?_ ?_
  · intro i rb hi ih
    have hia : i < a.length := by omega
    have hib : i < b.length := by omega
    have hi1 := i64_next hi (by omega)
    have F1 : ((i : Int) < ((differ a b).length : Int)) = True := eq_true (by omega)
    have hg := zip_get hia hib
    have hstep : patchN a b (i + 1) = patchN a b i ++ patchV i b[i] (volDiff a[i] b[i]) := by
      rw [patchN_succ, getD_lt hia, getD_lt hib]
    simp only [fn33_b2, F1, val_pvs, frozen_pvs, msnoc_len, msnoc_get, msnoc_set, msnoc_take, Int.le_refl, take_map_all, Nat.le_refl, St.freezeRows, BV.frozen, List.take_length, List.take_append_drop, z_repl_zero, Int.toNat_zero, true_and, and_true, and_self, eq_self, z_take_zero, List.drop_nil, List.take_nil, vAll, List.foldl_nil, List.foldl_cons, resultsOf, resultList, resultOf, zBV, splice, PV.remade, St.freezeAt, St.freezeBox, PV.single, plain, act, dstOf, if_true, if_false, reduceCtorEq, St.get, St.put, St.pvOf, St.putRow, St.consume, St.freeze, St.row, St.elems, St.grab, St.takeRow, St.setRow, St.place, St.optPv, St.setCell, St.setCellRow, binPV, intBin, unPV, BV.val, Nat.reduceEqDiff, bound, consumeAll, buildParts, capsOf, capOf, List.append_nil, Nat.reduceAdd, Nat.reduceLT, Nat.reduceLeDiff, beq_self_eq_true, List.length_map, Nat.beq, dcall, dcallP, List.mapM_cons, St.snapFn, St.snap, St.layAll, St.lay, St.freezeArg, St.freezeArg1]
    rw [loopi33 (a := a) (l := volDiff a[i] b[i]) (List.getElem?_eq_getElem hib) (by rw [List.getElem?_map, hg]; rfl) hib (by simpa using hi) (by rw [← hs i hia hib]; exact hr _ (List.getElem_mem hia)) (Nat.le_trans (volDiff_len _ _) (hr _ (List.getElem_mem hia)))
      (fun x hx => by rw [← hs i hia hib]; exact volDiff_in hx) (by have := hP (i + 1) (by omega); rw [hstep] at this; simpa [patchV] using this)]
    rotate_left
    · rfl
    · simp only [val_pvs, frozen_pvs, msnoc_len, msnoc_get, msnoc_set, msnoc_take, Int.le_refl, take_map_all, Nat.le_refl, St.freezeRows, BV.frozen, List.take_length, List.take_append_drop, z_repl_zero, Int.toNat_zero, true_and, and_true, and_self, eq_self, z_take_zero, List.drop_nil, List.take_nil, vAll, List.foldl_nil, List.foldl_cons, resultsOf, resultList, resultOf, zBV, splice, PV.remade, St.freezeAt, St.freezeBox, PV.single, plain, act, dstOf, if_true, if_false, reduceCtorEq, St.get, St.put, St.pvOf, St.putRow, St.consume, St.freeze, St.row, St.elems, St.grab, St.takeRow, St.setRow, St.place, St.optPv, St.setCell, St.setCellRow, binPV, intBin, unPV, BV.val, Nat.reduceEqDiff, bound, consumeAll, buildParts, capsOf, capOf, List.append_nil, Nat.reduceAdd, Nat.reduceLT, Nat.reduceLeDiff, beq_self_eq_true, List.length_map, Nat.beq, dcall, dcallP, List.mapM_cons, St.snapFn, St.snap, St.layAll, St.lay, St.freezeArg, St.freezeArg1]
      rw [ih _ (by simp only [hi1]; rw [hstep]; rfl)]
  · intro rb
    simp only [fn33_b2, Int.lt_irrefl, val_pvs, frozen_pvs, msnoc_len, msnoc_get, msnoc_set, msnoc_take, Int.le_refl, take_map_all, Nat.le_refl, St.freezeRows, BV.frozen, List.take_length, List.take_append_drop, z_repl_zero, Int.toNat_zero, true_and, and_true, and_self, eq_self, z_take_zero, List.drop_nil, List.take_nil, vAll, List.foldl_nil, List.foldl_cons, resultsOf, resultList, resultOf, zBV, splice, PV.remade, St.freezeAt, St.freezeBox, PV.single, plain, act, dstOf, if_true, if_false, reduceCtorEq, St.get, St.put, St.pvOf, St.putRow, St.consume, St.freeze, St.row, St.elems, St.grab, St.takeRow, St.setRow, St.place, St.optPv, St.setCell, St.setCellRow, binPV, intBin, unPV, BV.val, Nat.reduceEqDiff, bound, consumeAll, buildParts, capsOf, capOf, List.append_nil, Nat.reduceAdd, Nat.reduceLT, Nat.reduceLeDiff, beq_self_eq_true, List.length_map, Nat.beq, dcall, dcallP, List.mapM_cons, St.snapFn, St.snap, St.layAll, St.lay, St.freezeArg, St.freezeArg1]
    rw [hd, patchOf]
    rfl
theorem cal33 {a b : Img} (ha : a.length ≤ lim) (hb' : b.length ≤ lim) (hr : ∀ v ∈ a, v.length ≤ lim) (hP : pairErr a b = 0 → ∀ n, n ≤ a.length → (patchN a b n).length ≤ lim) :
    cal env 33 [.list 1 (a.map eSecs), .list 1 (b.map eSecs)] = some [(.list 3 ((patchOut a b).map eWr), true), (.int .i64 (pairErr a b), false)] := by
  have e1 := cal31 ha hb' hr
  unfold differOut at e1
  unfold patchOut
  by_cases c : pairErr a b = 0
  · have hs := sizes_inj (pair_sizes c)
    rw [if_pos c] at e1
    have G1 : (pairErr a b != 0) = false := by simp [c]
    rw [cal_code env33 rfl]; simp only [fn33]; simp only [start, z_map_cons, z_map_nil, z_len_cons, z_len_nil, z_repl_zero, z_repl_succ, z_cons_app, z_nil_app, Nat.reduceAdd, Nat.reduceSub]
    simp only [G1, e1, val_pvs, frozen_pvs, msnoc_len, msnoc_get, msnoc_set, msnoc_take, Int.le_refl, take_map_all, Nat.le_refl, St.freezeRows, BV.frozen, List.take_length, List.take_append_drop, z_repl_zero, Int.toNat_zero, true_and, and_true, and_self, eq_self, z_take_zero, List.drop_nil, List.take_nil, vAll, List.foldl_nil, List.foldl_cons, resultsOf, resultList, resultOf, zBV, splice, PV.remade, St.freezeAt, St.freezeBox, PV.single, plain, act, dstOf, if_true, if_false, reduceCtorEq, St.get, St.put, St.pvOf, St.putRow, St.consume, St.freeze, St.row, St.elems, St.grab, St.takeRow, St.setRow, St.place, St.optPv, St.setCell, St.setCellRow, binPV, intBin, unPV, BV.val, Nat.reduceEqDiff, bound, consumeAll, buildParts, capsOf, capOf, List.append_nil, Nat.reduceAdd, Nat.reduceLT, Nat.reduceLeDiff, beq_self_eq_true, List.length_map, Nat.beq, dcall, dcallP, List.mapM_cons, St.snapFn, St.snap, St.layAll, St.lay, St.freezeArg, St.freezeArg1]
    rw [loop33 ha hr hs.1 hs.2 (hP c)]
    rotate_left
    · rfl
    · simp only [c, val_pvs, frozen_pvs, msnoc_len, msnoc_get, msnoc_set, msnoc_take, Int.le_refl, take_map_all, Nat.le_refl, St.freezeRows, BV.frozen, List.take_length, List.take_append_drop, z_repl_zero, Int.toNat_zero, true_and, and_true, and_self, eq_self, z_take_zero, List.drop_nil, List.take_nil, vAll, List.foldl_nil, List.foldl_cons, resultsOf, resultList, resultOf, zBV, splice, PV.remade, St.freezeAt, St.freezeBox, PV.single, plain, act, dstOf, if_true, if_false, reduceCtorEq, St.get, St.put, St.pvOf, St.putRow, St.consume, St.freeze, St.row, St.elems, St.grab, St.takeRow, St.setRow, St.place, St.optPv, St.setCell, St.setCellRow, binPV, intBin, unPV, BV.val, Nat.reduceEqDiff, bound, consumeAll, buildParts, capsOf, capOf, List.append_nil, Nat.reduceAdd, Nat.reduceLT, Nat.reduceLeDiff, beq_self_eq_true, List.length_map, Nat.beq, dcall, dcallP, List.mapM_cons, St.snapFn, St.snap, St.layAll, St.lay, St.freezeArg, St.freezeArg1]
  · have G1 : (pairErr a b != 0) = true := by simp [c]
    rw [if_neg c] at e1
    rw [cal_code env33 rfl]; simp only [fn33]; simp only [start, z_map_cons, z_map_nil, z_len_cons, z_len_nil, z_repl_zero, z_repl_succ, z_cons_app, z_nil_app, Nat.reduceAdd, Nat.reduceSub]
    simp only [G1, e1, val_pvs, frozen_pvs, msnoc_len, msnoc_get, msnoc_set, msnoc_take, Int.le_refl, take_map_all, Nat.le_refl, St.freezeRows, BV.frozen, List.take_length, List.take_append_drop, z_repl_zero, Int.toNat_zero, true_and, and_true, and_self, eq_self, z_take_zero, List.drop_nil, List.take_nil, vAll, List.foldl_nil, List.foldl_cons, resultsOf, resultList, resultOf, zBV, splice, PV.remade, St.freezeAt, St.freezeBox, PV.single, plain, act, dstOf, if_true, if_false, reduceCtorEq, St.get, St.put, St.pvOf, St.putRow, St.consume, St.freeze, St.row, St.elems, St.grab, St.takeRow, St.setRow, St.place, St.optPv, St.setCell, St.setCellRow, binPV, intBin, unPV, BV.val, Nat.reduceEqDiff, bound, consumeAll, buildParts, capsOf, capOf, List.append_nil, Nat.reduceAdd, Nat.reduceLT, Nat.reduceLeDiff, beq_self_eq_true, List.length_map, Nat.beq, dcall, dcallP, List.mapM_cons, St.snapFn, St.snap, St.layAll, St.lay, St.freezeArg, St.freezeArg1]
    simp only [c, if_false]
    rfl
end Go.Proofs.Ytldnpgbacakfeaa.V

namespace Go.Proofs.Ytldnpgbacakfeaa.V
set_option linter.all false
theorem cal28 {im : Img} {v : Int} {e : Exn} (hl : im.length ≤ lim) (hr : ∀ v ∈ im, v.length ≤ lim) : cal env 28 [.list 1 (im.map eSecs), eI v, eExt e] = some [(eSecs (readOut im v e), true), (.int .i64 (readErr im v e), false)] := by
  obtain ⟨s, c⟩ := e
  have e1 := cal18 hl
  simp only [eI, eExt] at *
  by_cases h0 : 0 ≤ v ∧ v < im.length
  · have h1 := index_int (k := .i64) h0.1 h0.2
    have h2 : v.toNat < im.length := by omega
    have h3 := List.getElem?_eq_getElem h2
    have h4 : im[v.toNat].length ≤ lim := hr _ (List.getElem_mem h2)
    by_cases h6 : 0 ≤ s ∧ s ≤ im[v.toNat].length
    · have h5 : IntKind.i64.wrap ((im[v.toNat].length : Int) - s) = im[v.toNat].length - s := i64_fits (by unfold lim at *; omega)
      by_cases h7 : 0 ≤ c ∧ c ≤ im[v.toNat].length - s
      · have h8 : IntKind.i64.wrap (s + c) = s + c := i64_fits (by unfold lim at *; omega)
        have h9 : (0 ≤ s + c ∧ s + c ≤ (im[v.toNat].length : Int)) = True := eq_true (by omega)
        have h10 : (0 ≤ s ∧ s ≤ ((s + c).toNat : Int)) = True := eq_true (by omega)
        have h11 : (((im[v.toNat].map eSec).drop s.toNat).take ((s + c).toNat - s.toNat)) = ((im[v.toNat].drop s.toNat).take c.toNat).map eSec := by
          rw [List.map_take, List.map_drop]; congr 1; omega
        have h12 : ((im[v.toNat].drop s.toNat).take c.toNat).length ≤ lim := by simp; omega
        have e2 := cal58 (es := ((im[v.toNat].drop s.toNat).take c.toNat).map eSec) (by rw [List.length_map]; exact h12)
        rw [cal_code env28 rfl]; simp only [fn28]; simp only [start, z_map_cons, z_map_nil, z_len_cons, z_len_nil, z_repl_zero, z_repl_succ, z_cons_app, z_nil_app, Nat.reduceAdd, Nat.reduceSub]
        simp only [e1, h1, h3, h5, h8, h9, h10, h11, e2, eSecs, List.getElem?_map, val_pvs, frozen_pvs, msnoc_len, msnoc_get, msnoc_set, msnoc_take, Int.le_refl, take_map_all, Nat.le_refl, St.freezeRows, BV.frozen, List.take_length, List.take_append_drop, z_repl_zero, Int.toNat_zero, true_and, and_true, and_self, eq_self, z_take_zero, List.drop_nil, List.take_nil, vAll, List.foldl_nil, List.foldl_cons, resultsOf, resultList, resultOf, zBV, splice, PV.remade, St.freezeAt, St.freezeBox, PV.single, plain, act, dstOf, if_true, if_false, reduceCtorEq, St.get, St.put, St.pvOf, St.putRow, St.consume, St.freeze, St.row, St.elems, St.grab, St.takeRow, St.setRow, St.place, St.optPv, St.setCell, St.setCellRow, binPV, intBin, unPV, BV.val, Nat.reduceEqDiff, bound, consumeAll, buildParts, capsOf, capOf, List.append_nil, Nat.reduceAdd, Nat.reduceLT, Nat.reduceLeDiff, beq_self_eq_true, List.length_map, Nat.beq, dcall, dcallP, List.mapM_cons, St.snapFn, St.snap, St.layAll, St.lay, St.freezeArg, St.freezeArg1]
        repeat' ((try simp only [bcase_bind, bcase_map, tail_bcase]); refine bcase_split (fun hb => ?_) (fun hb => ?_) <;> try simp only [hb, e1, h1, h3, h5, h8, h9, h10, h11, e2, eSecs, List.getElem?_map, val_pvs, frozen_pvs, msnoc_len, msnoc_get, msnoc_set, msnoc_take, Int.le_refl, take_map_all, Nat.le_refl, St.freezeRows, BV.frozen, List.take_length, List.take_append_drop, z_repl_zero, Int.toNat_zero, true_and, and_true, and_self, eq_self, z_take_zero, List.drop_nil, List.take_nil, vAll, List.foldl_nil, List.foldl_cons, resultsOf, resultList, resultOf, zBV, splice, PV.remade, St.freezeAt, St.freezeBox, PV.single, plain, act, dstOf, if_true, if_false, reduceCtorEq, St.get, St.put, St.pvOf, St.putRow, St.consume, St.freeze, St.row, St.elems, St.grab, St.takeRow, St.setRow, St.place, St.optPv, St.setCell, St.setCellRow, binPV, intBin, unPV, BV.val, Nat.reduceEqDiff, bound, consumeAll, buildParts, capsOf, capOf, List.append_nil, Nat.reduceAdd, Nat.reduceLT, Nat.reduceLeDiff, beq_self_eq_true, List.length_map, Nat.beq, dcall, dcallP, List.mapM_cons, St.snapFn, St.snap, St.layAll, St.lay, St.freezeArg, St.freezeArg1])
        all_goals clear h1 h3 h5 h8 h9 h10 h11 e2
        all_goals simp only [readOut, readErr, getD_get h2, decide_eq_true_eq, decide_eq_false_iff_not, beq_iff_eq, beq_eq_false_iff_ne, ne_eq, ge_iff_le, gt_iff_lt, Bool.and_eq_true, Bool.or_eq_true, Bool.not_eq_true', Bool.not_eq_false'] at *
        all_goals first | (exfalso; omega) | ((repeat' split) <;> first | rfl | (exfalso; omega))
      · --
        rw [cal_code env28 rfl]; simp only [fn28]; simp only [start, z_map_cons, z_map_nil, z_len_cons, z_len_nil, z_repl_zero, z_repl_succ, z_cons_app, z_nil_app, Nat.reduceAdd, Nat.reduceSub]
        simp only [e1, h1, h3, h5, eSecs, List.getElem?_map, val_pvs, frozen_pvs, msnoc_len, msnoc_get, msnoc_set, msnoc_take, Int.le_refl, take_map_all, Nat.le_refl, St.freezeRows, BV.frozen, List.take_length, List.take_append_drop, z_repl_zero, Int.toNat_zero, true_and, and_true, and_self, eq_self, z_take_zero, List.drop_nil, List.take_nil, vAll, List.foldl_nil, List.foldl_cons, resultsOf, resultList, resultOf, zBV, splice, PV.remade, St.freezeAt, St.freezeBox, PV.single, plain, act, dstOf, if_true, if_false, reduceCtorEq, St.get, St.put, St.pvOf, St.putRow, St.consume, St.freeze, St.row, St.elems, St.grab, St.takeRow, St.setRow, St.place, St.optPv, St.setCell, St.setCellRow, binPV, intBin, unPV, BV.val, Nat.reduceEqDiff, bound, consumeAll, buildParts, capsOf, capOf, List.append_nil, Nat.reduceAdd, Nat.reduceLT, Nat.reduceLeDiff, beq_self_eq_true, List.length_map, Nat.beq, dcall, dcallP, List.mapM_cons, St.snapFn, St.snap, St.layAll, St.lay, St.freezeArg, St.freezeArg1]
        repeat' ((try simp only [bcase_bind, bcase_map, tail_bcase]); refine bcase_split (fun hb => ?_) (fun hb => ?_) <;> try simp only [hb, e1, h1, h3, h5, eSecs, List.getElem?_map, val_pvs, frozen_pvs, msnoc_len, msnoc_get, msnoc_set, msnoc_take, Int.le_refl, take_map_all, Nat.le_refl, St.freezeRows, BV.frozen, List.take_length, List.take_append_drop, z_repl_zero, Int.toNat_zero, true_and, and_true, and_self, eq_self, z_take_zero, List.drop_nil, List.take_nil, vAll, List.foldl_nil, List.foldl_cons, resultsOf, resultList, resultOf, zBV, splice, PV.remade, St.freezeAt, St.freezeBox, PV.single, plain, act, dstOf, if_true, if_false, reduceCtorEq, St.get, St.put, St.pvOf, St.putRow, St.consume, St.freeze, St.row, St.elems, St.grab, St.takeRow, St.setRow, St.place, St.optPv, St.setCell, St.setCellRow, binPV, intBin, unPV, BV.val, Nat.reduceEqDiff, bound, consumeAll, buildParts, capsOf, capOf, List.append_nil, Nat.reduceAdd, Nat.reduceLT, Nat.reduceLeDiff, beq_self_eq_true, List.length_map, Nat.beq, dcall, dcallP, List.mapM_cons, St.snapFn, St.snap, St.layAll, St.lay, St.freezeArg, St.freezeArg1])
        all_goals clear h1 h3 h5
        all_goals simp only [readOut, readErr, getD_get h2, decide_eq_true_eq, decide_eq_false_iff_not, beq_iff_eq, beq_eq_false_iff_ne, ne_eq, ge_iff_le, gt_iff_lt, Bool.and_eq_true, Bool.or_eq_true, Bool.not_eq_true', Bool.not_eq_false'] at *
        all_goals first | (exfalso; omega) | ((repeat' split) <;> first | rfl | (exfalso; omega))
    · --
      rw [cal_code env28 rfl]; simp only [fn28]; simp only [start, z_map_cons, z_map_nil, z_len_cons, z_len_nil, z_repl_zero, z_repl_succ, z_cons_app, z_nil_app, Nat.reduceAdd, Nat.reduceSub]
      simp only [e1, h1, h3, eSecs, List.getElem?_map, val_pvs, frozen_pvs, msnoc_len, msnoc_get, msnoc_set, msnoc_take, Int.le_refl, take_map_all, Nat.le_refl, St.freezeRows, BV.frozen, List.take_length, List.take_append_drop, z_repl_zero, Int.toNat_zero, true_and, and_true, and_self, eq_self, z_take_zero, List.drop_nil, List.take_nil, vAll, List.foldl_nil, List.foldl_cons, resultsOf, resultList, resultOf, zBV, splice, PV.remade, St.freezeAt, St.freezeBox, PV.single, plain, act, dstOf, if_true, if_false, reduceCtorEq, St.get, St.put, St.pvOf, St.putRow, St.consume, St.freeze, St.row, St.elems, St.grab, St.takeRow, St.setRow, St.place, St.optPv, St.setCell, St.setCellRow, binPV, intBin, unPV, BV.val, Nat.reduceEqDiff, bound, consumeAll, buildParts, capsOf, capOf, List.append_nil, Nat.reduceAdd, Nat.reduceLT, Nat.reduceLeDiff, beq_self_eq_true, List.length_map, Nat.beq, dcall, dcallP, List.mapM_cons, St.snapFn, St.snap, St.layAll, St.lay, St.freezeArg, St.freezeArg1]
      repeat' ((try simp only [bcase_bind, bcase_map, tail_bcase]); refine bcase_split (fun hb => ?_) (fun hb => ?_) <;> try simp only [hb, e1, h1, h3, eSecs, List.getElem?_map, val_pvs, frozen_pvs, msnoc_len, msnoc_get, msnoc_set, msnoc_take, Int.le_refl, take_map_all, Nat.le_refl, St.freezeRows, BV.frozen, List.take_length, List.take_append_drop, z_repl_zero, Int.toNat_zero, true_and, and_true, and_self, eq_self, z_take_zero, List.drop_nil, List.take_nil, vAll, List.foldl_nil, List.foldl_cons, resultsOf, resultList, resultOf, zBV, splice, PV.remade, St.freezeAt, St.freezeBox, PV.single, plain, act, dstOf, if_true, if_false, reduceCtorEq, St.get, St.put, St.pvOf, St.putRow, St.consume, St.freeze, St.row, St.elems, St.grab, St.takeRow, St.setRow, St.place, St.optPv, St.setCell, St.setCellRow, binPV, intBin, unPV, BV.val, Nat.reduceEqDiff, bound, consumeAll, buildParts, capsOf, capOf, List.append_nil, Nat.reduceAdd, Nat.reduceLT, Nat.reduceLeDiff, beq_self_eq_true, List.length_map, Nat.beq, dcall, dcallP, List.mapM_cons, St.snapFn, St.snap, St.layAll, St.lay, St.freezeArg, St.freezeArg1])
      all_goals clear h1 h3
      all_goals simp only [readOut, readErr, getD_get h2, decide_eq_true_eq, decide_eq_false_iff_not, beq_iff_eq, beq_eq_false_iff_ne, ne_eq, ge_iff_le, gt_iff_lt, Bool.and_eq_true, Bool.or_eq_true, Bool.not_eq_true', Bool.not_eq_false'] at *
      all_goals first | (exfalso; omega) | ((repeat' split) <;> first | rfl | (exfalso; omega))
  · rw [cal_code env28 rfl]; simp only [fn28]; simp only [start, z_map_cons, z_map_nil, z_len_cons, z_len_nil, z_repl_zero, z_repl_succ, z_cons_app, z_nil_app, Nat.reduceAdd, Nat.reduceSub]
    simp only [e1, eSecs, List.getElem?_map, index_b, val_pvs, frozen_pvs, msnoc_len, msnoc_get, msnoc_set, msnoc_take, Int.le_refl, take_map_all, Nat.le_refl, St.freezeRows, BV.frozen, List.take_length, List.take_append_drop, z_repl_zero, Int.toNat_zero, true_and, and_true, and_self, eq_self, z_take_zero, List.drop_nil, List.take_nil, vAll, List.foldl_nil, List.foldl_cons, resultsOf, resultList, resultOf, zBV, splice, PV.remade, St.freezeAt, St.freezeBox, PV.single, plain, act, dstOf, if_true, if_false, reduceCtorEq, St.get, St.put, St.pvOf, St.putRow, St.consume, St.freeze, St.row, St.elems, St.grab, St.takeRow, St.setRow, St.place, St.optPv, St.setCell, St.setCellRow, binPV, intBin, unPV, BV.val, Nat.reduceEqDiff, bound, consumeAll, buildParts, capsOf, capOf, List.append_nil, Nat.reduceAdd, Nat.reduceLT, Nat.reduceLeDiff, beq_self_eq_true, List.length_map, Nat.beq, dcall, dcallP, List.mapM_cons, St.snapFn, St.snap, St.layAll, St.lay, St.freezeArg, St.freezeArg1]
    repeat' ((try simp only [bcase_bind, bcase_map, tail_bcase]); refine bcase_split (fun hb => ?_) (fun hb => ?_) <;> try simp only [hb, e1, eSecs, List.getElem?_map, index_b, val_pvs, frozen_pvs, msnoc_len, msnoc_get, msnoc_set, msnoc_take, Int.le_refl, take_map_all, Nat.le_refl, St.freezeRows, BV.frozen, List.take_length, List.take_append_drop, z_repl_zero, Int.toNat_zero, true_and, and_true, and_self, eq_self, z_take_zero, List.drop_nil, List.take_nil, vAll, List.foldl_nil, List.foldl_cons, resultsOf, resultList, resultOf, zBV, splice, PV.remade, St.freezeAt, St.freezeBox, PV.single, plain, act, dstOf, if_true, if_false, reduceCtorEq, St.get, St.put, St.pvOf, St.putRow, St.consume, St.freeze, St.row, St.elems, St.grab, St.takeRow, St.setRow, St.place, St.optPv, St.setCell, St.setCellRow, binPV, intBin, unPV, BV.val, Nat.reduceEqDiff, bound, consumeAll, buildParts, capsOf, capOf, List.append_nil, Nat.reduceAdd, Nat.reduceLT, Nat.reduceLeDiff, beq_self_eq_true, List.length_map, Nat.beq, dcall, dcallP, List.mapM_cons, St.snapFn, St.snap, St.layAll, St.lay, St.freezeArg, St.freezeArg1])
    all_goals simp only [readOut, readErr, decide_eq_true_eq, decide_eq_false_iff_not, beq_iff_eq, beq_eq_false_iff_ne, ne_eq, ge_iff_le, gt_iff_lt, Bool.and_eq_true, Bool.or_eq_true, Bool.not_eq_true', Bool.not_eq_false'] at *
    all_goals first | (exfalso; omega) | ((repeat' split) <;> first | rfl | (exfalso; omega))
theorem cal29 {im : Img} {v : Int} {e : Exn} (hl : im.length ≤ lim) (hr : ∀ v ∈ im, v.length ≤ lim) : cal env 29 [.list 1 (im.map eSecs), eI v, eExt e] = some [(eSecs (readOut im v e), true), (.int .i64 (readErr im v e), false)] := by
  obtain ⟨s, c⟩ := e
  have e1 := cal19 hl
  simp only [eI, eExt] at *
  by_cases h0 : 0 ≤ v ∧ v < im.length
  · have h1 := index_int (k := .i64) h0.1 h0.2
    have h2 : v.toNat < im.length := by omega
    have h3 := List.getElem?_eq_getElem h2
    have h4 : im[v.toNat].length ≤ lim := hr _ (List.getElem_mem h2)
    by_cases h6 : 0 ≤ s ∧ s ≤ im[v.toNat].length
    · have h5 : IntKind.i64.wrap ((im[v.toNat].length : Int) - s) = im[v.toNat].length - s := i64_fits (by unfold lim at *; omega)
      by_cases h7 : 0 ≤ c ∧ c ≤ im[v.toNat].length - s
      · have h8 : IntKind.i64.wrap (s + c) = s + c := i64_fits (by unfold lim at *; omega)
        have h9 : (0 ≤ s + c ∧ s + c ≤ (im[v.toNat].length : Int)) = True := eq_true (by omega)
        have h10 : (0 ≤ s ∧ s ≤ ((s + c).toNat : Int)) = True := eq_true (by omega)
        have h11 : (((im[v.toNat].map eSec).drop s.toNat).take ((s + c).toNat - s.toNat)) = ((im[v.toNat].drop s.toNat).take c.toNat).map eSec := by
          rw [List.map_take, List.map_drop]; congr 1; omega
        have h12 : ((im[v.toNat].drop s.toNat).take c.toNat).length ≤ lim := by simp; omega
        have e2 : (((im[v.toNat].drop s.toNat).take c.toNat).length ≤ lim) = True := eq_true h12
        rw [cal_code env29 rfl]; simp only [fn29]; simp only [start, z_map_cons, z_map_nil, z_len_cons, z_len_nil, z_repl_zero, z_repl_succ, z_cons_app, z_nil_app, Nat.reduceAdd, Nat.reduceSub]
        simp only [e1, h1, h3, h5, h8, h9, h10, h11, e2, eSecs, List.getElem?_map, val_pvs, frozen_pvs, msnoc_len, msnoc_get, msnoc_set, msnoc_take, Int.le_refl, take_map_all, Nat.le_refl, St.freezeRows, BV.frozen, List.take_length, List.take_append_drop, z_repl_zero, Int.toNat_zero, true_and, and_true, and_self, eq_self, z_take_zero, List.drop_nil, List.take_nil, vAll, List.foldl_nil, List.foldl_cons, resultsOf, resultList, resultOf, zBV, splice, PV.remade, St.freezeAt, St.freezeBox, PV.single, plain, act, dstOf, if_true, if_false, reduceCtorEq, St.get, St.put, St.pvOf, St.putRow, St.consume, St.freeze, St.row, St.elems, St.grab, St.takeRow, St.setRow, St.place, St.optPv, St.setCell, St.setCellRow, binPV, intBin, unPV, BV.val, Nat.reduceEqDiff, bound, consumeAll, buildParts, capsOf, capOf, List.append_nil, Nat.reduceAdd, Nat.reduceLT, Nat.reduceLeDiff, beq_self_eq_true, List.length_map, Nat.beq, dcall, dcallP, List.mapM_cons, St.snapFn, St.snap, St.layAll, St.lay, St.freezeArg, St.freezeArg1]
        repeat' ((try simp only [bcase_bind, bcase_map, tail_bcase]); refine bcase_split (fun hb => ?_) (fun hb => ?_) <;> try simp only [hb, e1, h1, h3, h5, h8, h9, h10, h11, e2, eSecs, List.getElem?_map, val_pvs, frozen_pvs, msnoc_len, msnoc_get, msnoc_set, msnoc_take, Int.le_refl, take_map_all, Nat.le_refl, St.freezeRows, BV.frozen, List.take_length, List.take_append_drop, z_repl_zero, Int.toNat_zero, true_and, and_true, and_self, eq_self, z_take_zero, List.drop_nil, List.take_nil, vAll, List.foldl_nil, List.foldl_cons, resultsOf, resultList, resultOf, zBV, splice, PV.remade, St.freezeAt, St.freezeBox, PV.single, plain, act, dstOf, if_true, if_false, reduceCtorEq, St.get, St.put, St.pvOf, St.putRow, St.consume, St.freeze, St.row, St.elems, St.grab, St.takeRow, St.setRow, St.place, St.optPv, St.setCell, St.setCellRow, binPV, intBin, unPV, BV.val, Nat.reduceEqDiff, bound, consumeAll, buildParts, capsOf, capOf, List.append_nil, Nat.reduceAdd, Nat.reduceLT, Nat.reduceLeDiff, beq_self_eq_true, List.length_map, Nat.beq, dcall, dcallP, List.mapM_cons, St.snapFn, St.snap, St.layAll, St.lay, St.freezeArg, St.freezeArg1])
        all_goals clear h1 h3 h5 h8 h9 h10 h11 e2
        all_goals simp only [readOut, readErr, getD_get h2, decide_eq_true_eq, decide_eq_false_iff_not, beq_iff_eq, beq_eq_false_iff_ne, ne_eq, ge_iff_le, gt_iff_lt, Bool.and_eq_true, Bool.or_eq_true, Bool.not_eq_true', Bool.not_eq_false'] at *
        all_goals first | (exfalso; omega) | ((repeat' split) <;> first | rfl | (exfalso; omega))
      · --
        rw [cal_code env29 rfl]; simp only [fn29]; simp only [start, z_map_cons, z_map_nil, z_len_cons, z_len_nil, z_repl_zero, z_repl_succ, z_cons_app, z_nil_app, Nat.reduceAdd, Nat.reduceSub]
        simp only [e1, h1, h3, h5, eSecs, List.getElem?_map, val_pvs, frozen_pvs, msnoc_len, msnoc_get, msnoc_set, msnoc_take, Int.le_refl, take_map_all, Nat.le_refl, St.freezeRows, BV.frozen, List.take_length, List.take_append_drop, z_repl_zero, Int.toNat_zero, true_and, and_true, and_self, eq_self, z_take_zero, List.drop_nil, List.take_nil, vAll, List.foldl_nil, List.foldl_cons, resultsOf, resultList, resultOf, zBV, splice, PV.remade, St.freezeAt, St.freezeBox, PV.single, plain, act, dstOf, if_true, if_false, reduceCtorEq, St.get, St.put, St.pvOf, St.putRow, St.consume, St.freeze, St.row, St.elems, St.grab, St.takeRow, St.setRow, St.place, St.optPv, St.setCell, St.setCellRow, binPV, intBin, unPV, BV.val, Nat.reduceEqDiff, bound, consumeAll, buildParts, capsOf, capOf, List.append_nil, Nat.reduceAdd, Nat.reduceLT, Nat.reduceLeDiff, beq_self_eq_true, List.length_map, Nat.beq, dcall, dcallP, List.mapM_cons, St.snapFn, St.snap, St.layAll, St.lay, St.freezeArg, St.freezeArg1]
        repeat' ((try simp only [bcase_bind, bcase_map, tail_bcase]); refine bcase_split (fun hb => ?_) (fun hb => ?_) <;> try simp only [hb, e1, h1, h3, h5, eSecs, List.getElem?_map, val_pvs, frozen_pvs, msnoc_len, msnoc_get, msnoc_set, msnoc_take, Int.le_refl, take_map_all, Nat.le_refl, St.freezeRows, BV.frozen, List.take_length, List.take_append_drop, z_repl_zero, Int.toNat_zero, true_and, and_true, and_self, eq_self, z_take_zero, List.drop_nil, List.take_nil, vAll, List.foldl_nil, List.foldl_cons, resultsOf, resultList, resultOf, zBV, splice, PV.remade, St.freezeAt, St.freezeBox, PV.single, plain, act, dstOf, if_true, if_false, reduceCtorEq, St.get, St.put, St.pvOf, St.putRow, St.consume, St.freeze, St.row, St.elems, St.grab, St.takeRow, St.setRow, St.place, St.optPv, St.setCell, St.setCellRow, binPV, intBin, unPV, BV.val, Nat.reduceEqDiff, bound, consumeAll, buildParts, capsOf, capOf, List.append_nil, Nat.reduceAdd, Nat.reduceLT, Nat.reduceLeDiff, beq_self_eq_true, List.length_map, Nat.beq, dcall, dcallP, List.mapM_cons, St.snapFn, St.snap, St.layAll, St.lay, St.freezeArg, St.freezeArg1])
        all_goals clear h1 h3 h5
        all_goals simp only [readOut, readErr, getD_get h2, decide_eq_true_eq, decide_eq_false_iff_not, beq_iff_eq, beq_eq_false_iff_ne, ne_eq, ge_iff_le, gt_iff_lt, Bool.and_eq_true, Bool.or_eq_true, Bool.not_eq_true', Bool.not_eq_false'] at *
        all_goals first | (exfalso; omega) | ((repeat' split) <;> first | rfl | (exfalso; omega))
    · --
      rw [cal_code env29 rfl]; simp only [fn29]; simp only [start, z_map_cons, z_map_nil, z_len_cons, z_len_nil, z_repl_zero, z_repl_succ, z_cons_app, z_nil_app, Nat.reduceAdd, Nat.reduceSub]
      simp only [e1, h1, h3, eSecs, List.getElem?_map, val_pvs, frozen_pvs, msnoc_len, msnoc_get, msnoc_set, msnoc_take, Int.le_refl, take_map_all, Nat.le_refl, St.freezeRows, BV.frozen, List.take_length, List.take_append_drop, z_repl_zero, Int.toNat_zero, true_and, and_true, and_self, eq_self, z_take_zero, List.drop_nil, List.take_nil, vAll, List.foldl_nil, List.foldl_cons, resultsOf, resultList, resultOf, zBV, splice, PV.remade, St.freezeAt, St.freezeBox, PV.single, plain, act, dstOf, if_true, if_false, reduceCtorEq, St.get, St.put, St.pvOf, St.putRow, St.consume, St.freeze, St.row, St.elems, St.grab, St.takeRow, St.setRow, St.place, St.optPv, St.setCell, St.setCellRow, binPV, intBin, unPV, BV.val, Nat.reduceEqDiff, bound, consumeAll, buildParts, capsOf, capOf, List.append_nil, Nat.reduceAdd, Nat.reduceLT, Nat.reduceLeDiff, beq_self_eq_true, List.length_map, Nat.beq, dcall, dcallP, List.mapM_cons, St.snapFn, St.snap, St.layAll, St.lay, St.freezeArg, St.freezeArg1]
      repeat' ((try simp only [bcase_bind, bcase_map, tail_bcase]); refine bcase_split (fun hb => ?_) (fun hb => ?_) <;> try simp only [hb, e1, h1, h3, eSecs, List.getElem?_map, val_pvs, frozen_pvs, msnoc_len, msnoc_get, msnoc_set, msnoc_take, Int.le_refl, take_map_all, Nat.le_refl, St.freezeRows, BV.frozen, List.take_length, List.take_append_drop, z_repl_zero, Int.toNat_zero, true_and, and_true, and_self, eq_self, z_take_zero, List.drop_nil, List.take_nil, vAll, List.foldl_nil, List.foldl_cons, resultsOf, resultList, resultOf, zBV, splice, PV.remade, St.freezeAt, St.freezeBox, PV.single, plain, act, dstOf, if_true, if_false, reduceCtorEq, St.get, St.put, St.pvOf, St.putRow, St.consume, St.freeze, St.row, St.elems, St.grab, St.takeRow, St.setRow, St.place, St.optPv, St.setCell, St.setCellRow, binPV, intBin, unPV, BV.val, Nat.reduceEqDiff, bound, consumeAll, buildParts, capsOf, capOf, List.append_nil, Nat.reduceAdd, Nat.reduceLT, Nat.reduceLeDiff, beq_self_eq_true, List.length_map, Nat.beq, dcall, dcallP, List.mapM_cons, St.snapFn, St.snap, St.layAll, St.lay, St.freezeArg, St.freezeArg1])
      all_goals clear h1 h3
      all_goals simp only [readOut, readErr, getD_get h2, decide_eq_true_eq, decide_eq_false_iff_not, beq_iff_eq, beq_eq_false_iff_ne, ne_eq, ge_iff_le, gt_iff_lt, Bool.and_eq_true, Bool.or_eq_true, Bool.not_eq_true', Bool.not_eq_false'] at *
      all_goals first | (exfalso; omega) | ((repeat' split) <;> first | rfl | (exfalso; omega))
  · rw [cal_code env29 rfl]; simp only [fn29]; simp only [start, z_map_cons, z_map_nil, z_len_cons, z_len_nil, z_repl_zero, z_repl_succ, z_cons_app, z_nil_app, Nat.reduceAdd, Nat.reduceSub]
    simp only [e1, eSecs, List.getElem?_map, index_b, val_pvs, frozen_pvs, msnoc_len, msnoc_get, msnoc_set, msnoc_take, Int.le_refl, take_map_all, Nat.le_refl, St.freezeRows, BV.frozen, List.take_length, List.take_append_drop, z_repl_zero, Int.toNat_zero, true_and, and_true, and_self, eq_self, z_take_zero, List.drop_nil, List.take_nil, vAll, List.foldl_nil, List.foldl_cons, resultsOf, resultList, resultOf, zBV, splice, PV.remade, St.freezeAt, St.freezeBox, PV.single, plain, act, dstOf, if_true, if_false, reduceCtorEq, St.get, St.put, St.pvOf, St.putRow, St.consume, St.freeze, St.row, St.elems, St.grab, St.takeRow, St.setRow, St.place, St.optPv, St.setCell, St.setCellRow, binPV, intBin, unPV, BV.val, Nat.reduceEqDiff, bound, consumeAll, buildParts, capsOf, capOf, List.append_nil, Nat.reduceAdd, Nat.reduceLT, Nat.reduceLeDiff, beq_self_eq_true, List.length_map, Nat.beq, dcall, dcallP, List.mapM_cons, St.snapFn, St.snap, St.layAll, St.lay, St.freezeArg, St.freezeArg1]
    repeat' ((try simp only [bcase_bind, bcase_map, tail_bcase]); refine bcase_split (fun hb => ?_) (fun hb => ?_) <;> try simp only [hb, e1, eSecs, List.getElem?_map, index_b, val_pvs, frozen_pvs, msnoc_len, msnoc_get, msnoc_set, msnoc_take, Int.le_refl, take_map_all, Nat.le_refl, St.freezeRows, BV.frozen, List.take_length, List.take_append_drop, z_repl_zero, Int.toNat_zero, true_and, and_true, and_self, eq_self, z_take_zero, List.drop_nil, List.take_nil, vAll, List.foldl_nil, List.foldl_cons, resultsOf, resultList, resultOf, zBV, splice, PV.remade, St.freezeAt, St.freezeBox, PV.single, plain, act, dstOf, if_true, if_false, reduceCtorEq, St.get, St.put, St.pvOf, St.putRow, St.consume, St.freeze, St.row, St.elems, St.grab, St.takeRow, St.setRow, St.place, St.optPv, St.setCell, St.setCellRow, binPV, intBin, unPV, BV.val, Nat.reduceEqDiff, bound, consumeAll, buildParts, capsOf, capOf, List.append_nil, Nat.reduceAdd, Nat.reduceLT, Nat.reduceLeDiff, beq_self_eq_true, List.length_map, Nat.beq, dcall, dcallP, List.mapM_cons, St.snapFn, St.snap, St.layAll, St.lay, St.freezeArg, St.freezeArg1])
    all_goals simp only [readOut, readErr, decide_eq_true_eq, decide_eq_false_iff_not, beq_iff_eq, beq_eq_false_iff_ne, ne_eq, ge_iff_le, gt_iff_lt, Bool.and_eq_true, Bool.or_eq_true, Bool.not_eq_true', Bool.not_eq_false'] at *
    all_goals first | (exfalso; omega) | ((repeat' split) <;> first | rfl | (exfalso; omega))
end Go.Proofs.Ytldnpgbacakfeaa.V

namespace Go.Proofs.Ytldnpgbacakfeaa.V
set_option linter.all false
theorem calAwake : cal env 14 [] = some [(.bool true, false)] := cal_of_vmCall (n := 200) (by kernel_rfl)
end Go.Proofs.Ytldnpgbacakfeaa.V

namespace Go.Proofs.Ytldnpgbacakfeaa.V
set_option linter.all false

theorem few7_len {im : Img} (h : few7 im = true) : im.length ≤ 9 ∧ ∀ v ∈ im, v.length ≤ 24 := by
  simp only [few7, Bool.and_eq_true, decide_eq_true_eq, List.all_eq_true] at h
  exact h
theorem few7_lim {im : Img} (h : few7 im = true) : im.length ≤ lim ∧ ∀ v ∈ im, v.length ≤ lim := by
  obtain ⟨h1, h2⟩ := few7_len h
  exact ⟨by unfold lim; omega, fun v hv => by have := h2 v hv; unfold lim; omega⟩
theorem readOut_len {im : Img} {v : Int} {e : Exn} (h : ∀ v ∈ im, v.length ≤ lim) : (readOut im v e).length ≤ lim := by
  unfold readOut
  split
  · simp only [List.length_take, List.length_drop, List.getD_eq_getElem?_getD]
    cases hx : im[v.toNat]? with
    | none => simp
    | some x => have := h x (List.mem_of_getElem? hx); simp only [Option.getD_some]; omega
  · simp
theorem cal7 {im : Img} {v : Int} {e : Exn} : cal env 7 [.list 1 (im.map eSecs), eI v, eExt e] = some [(.bool true, false)] := by
  have e0 := cal11 (im := im)
  have e3 := calAwake
  by_cases hf : few7 im = true
  · obtain ⟨hl, hr⟩ := few7_lim hf
    have e1 := cal28 (v := v) (e := e) hl hr
    have e2 := cal29 (v := v) (e := e) hl hr
    have e4 := cal30 (l := readOut im v e) (m := readOut im v e) (readOut_len hr)
    rw [hf] at e0
    simp only [eSecs, eI, eExt, decide_true, eq_self] at e0 e1 e2 e4 ⊢
    rw [cal_code env7 rfl]; simp only [fn7]; simp only [start, z_map_cons, z_map_nil, z_len_cons, z_len_nil, z_repl_zero, z_repl_succ, z_cons_app, z_nil_app, Nat.reduceAdd, Nat.reduceSub]
    simp only [e0, e1, e2, e3, e4, beq_self_eq_true, val_pvs, frozen_pvs, msnoc_len, msnoc_get, msnoc_set, msnoc_take, Int.le_refl, take_map_all, Nat.le_refl, St.freezeRows, BV.frozen, List.take_length, List.take_append_drop, z_repl_zero, Int.toNat_zero, true_and, and_true, and_self, eq_self, z_take_zero, List.drop_nil, List.take_nil, vAll, List.foldl_nil, List.foldl_cons, resultsOf, resultList, resultOf, zBV, splice, PV.remade, St.freezeAt, St.freezeBox, PV.single, plain, act, dstOf, if_true, if_false, reduceCtorEq, St.get, St.put, St.pvOf, St.putRow, St.consume, St.freeze, St.row, St.elems, St.grab, St.takeRow, St.setRow, St.place, St.optPv, St.setCell, St.setCellRow, binPV, intBin, unPV, BV.val, Nat.reduceEqDiff, bound, consumeAll, buildParts, capsOf, capOf, List.append_nil, Nat.reduceAdd, Nat.reduceLT, Nat.reduceLeDiff, beq_self_eq_true, List.length_map, Nat.beq, dcall, dcallP, List.mapM_cons, St.snapFn, St.snap, St.layAll, St.lay, St.freezeArg, St.freezeArg1]
    try simp only [bcase_bind, bcase_map, tail_bcase]
  · have hf : few7 im = false := by simpa using hf
    rw [hf] at e0
    simp only [eI, eExt] at *
    rw [cal_code env7 rfl]; simp only [fn7]; simp only [start, z_map_cons, z_map_nil, z_len_cons, z_len_nil, z_repl_zero, z_repl_succ, z_cons_app, z_nil_app, Nat.reduceAdd, Nat.reduceSub]
    simp only [e0, e3, val_pvs, frozen_pvs, msnoc_len, msnoc_get, msnoc_set, msnoc_take, Int.le_refl, take_map_all, Nat.le_refl, St.freezeRows, BV.frozen, List.take_length, List.take_append_drop, z_repl_zero, Int.toNat_zero, true_and, and_true, and_self, eq_self, z_take_zero, List.drop_nil, List.take_nil, vAll, List.foldl_nil, List.foldl_cons, resultsOf, resultList, resultOf, zBV, splice, PV.remade, St.freezeAt, St.freezeBox, PV.single, plain, act, dstOf, if_true, if_false, reduceCtorEq, St.get, St.put, St.pvOf, St.putRow, St.consume, St.freeze, St.row, St.elems, St.grab, St.takeRow, St.setRow, St.place, St.optPv, St.setCell, St.setCellRow, binPV, intBin, unPV, BV.val, Nat.reduceEqDiff, bound, consumeAll, buildParts, capsOf, capOf, List.append_nil, Nat.reduceAdd, Nat.reduceLT, Nat.reduceLeDiff, beq_self_eq_true, List.length_map, Nat.beq, dcall, dcallP, List.mapM_cons, St.snapFn, St.snap, St.layAll, St.lay, St.freezeArg, St.freezeArg1]
end Go.Proofs.Ytldnpgbacakfeaa.V

namespace Go.Proofs.Ytldnpgbacakfeaa.V
set_option linter.all false

theorem cal57 {l m : List Exn} (hl : l.length ≤ lim) : cal env 57 [eExts l, eExts m] = some [(.bool (decide (l = m)), false)] := by
  have e1 := cal42 (m := m) hl
  unfold eExts
  rw [cal_code env57 rfl]; simp only [fn57]; simp only [start, z_map_cons, z_map_nil, z_len_cons, z_len_nil, z_repl_zero, z_repl_succ, z_cons_app, z_nil_app, Nat.reduceAdd, Nat.reduceSub]
  simp only [e1, val_pvs, frozen_pvs, msnoc_len, msnoc_get, msnoc_set, msnoc_take, Int.le_refl, take_map_all, Nat.le_refl, St.freezeRows, BV.frozen, List.take_length, List.take_append_drop, z_repl_zero, Int.toNat_zero, true_and, and_true, and_self, eq_self, z_take_zero, List.drop_nil, List.take_nil, vAll, List.foldl_nil, List.foldl_cons, resultsOf, resultList, resultOf, zBV, splice, PV.remade, St.freezeAt, St.freezeBox, PV.single, plain, act, dstOf, if_true, if_false, reduceCtorEq, St.get, St.put, St.pvOf, St.putRow, St.consume, St.freeze, St.row, St.elems, St.grab, St.takeRow, St.setRow, St.place, St.optPv, St.setCell, St.setCellRow, binPV, intBin, unPV, BV.val, Nat.reduceEqDiff, bound, consumeAll, buildParts, capsOf, capOf, List.append_nil, Nat.reduceAdd, Nat.reduceLT, Nat.reduceLeDiff, beq_self_eq_true, List.length_map, Nat.beq, dcall, dcallP, List.mapM_cons, St.snapFn, St.snap, St.layAll, St.lay, St.freezeArg, St.freezeArg1]
theorem cal27 {l m : List (List Exn)} (hl : l.length ≤ lim) (hr : ∀ x ∈ l, x.length ≤ lim) : cal env 27 [.list 1 (l.map eExts), .list 1 (m.map eExts)] = some [(.bool (decide (l = m)), false)] := by
  have e1 := cal56 (enc := eExts) (enc2 := eExts) (l := l) (m := m) (eq := fun x y => decide (x = y)) (caps := []) (fun x hx y _ => cal57 (hr x hx)) (fun x => rfl) (fun x => rfl) hl
  rw [eqF_eq] at e1
  rw [cal_code env27 rfl]; simp only [fn27]; simp only [start, z_map_cons, z_map_nil, z_len_cons, z_len_nil, z_repl_zero, z_repl_succ, z_cons_app, z_nil_app, Nat.reduceAdd, Nat.reduceSub]
  simp only [e1, val_pvs, frozen_pvs, msnoc_len, msnoc_get, msnoc_set, msnoc_take, Int.le_refl, take_map_all, Nat.le_refl, St.freezeRows, BV.frozen, List.take_length, List.take_append_drop, z_repl_zero, Int.toNat_zero, true_and, and_true, and_self, eq_self, z_take_zero, List.drop_nil, List.take_nil, vAll, List.foldl_nil, List.foldl_cons, resultsOf, resultList, resultOf, zBV, splice, PV.remade, St.freezeAt, St.freezeBox, PV.single, plain, act, dstOf, if_true, if_false, reduceCtorEq, St.get, St.put, St.pvOf, St.putRow, St.consume, St.freeze, St.row, St.elems, St.grab, St.takeRow, St.setRow, St.place, St.optPv, St.setCell, St.setCellRow, binPV, intBin, unPV, BV.val, Nat.reduceEqDiff, bound, consumeAll, buildParts, capsOf, capOf, List.append_nil, Nat.reduceAdd, Nat.reduceLT, Nat.reduceLeDiff, beq_self_eq_true, List.length_map, Nat.beq, dcall, dcallP, List.mapM_cons, St.snapFn, St.snap, St.layAll, St.lay, St.freezeArg, St.freezeArg1]
theorem loop64 {a b : List Sec} (hl : a.length ≤ lim) (hab : a.length = b.length) {st : St} (h : st.head [0, 1, 5] st.boxes.length = some ⟨[.pv (.list 8 (a.map eSec)), .pv (.list 8 (b.map eSec)), .any, .any, .any, .pv (.int .i64 (0 : Nat)), .any, .any, .any, .any, .any, .any, .any, .any, .any, .any, .any, .any, .any, .any, .any, .any, .any, .any, .any, .any], [], [], none⟩) :
   den env fn64_l1 st = if a = b then some (.normal, ⟨[.any, .any, .any, .any, .any, .any, .any, .any, .any, .any, .any, .any, .any, .any, .any, .any, .any, .any, .any, .any, .any, .any, .any, .any, .any, .any], [], [], none⟩) else some (.ret, ⟨[.any, .any, .any, .any, .pv (.bool false), .any, .any, .any, .any, .any, .any, .any, .any, .any, .any, .any, .any, .any, .any, .any, .any, .any, .any, .any, .any, .any], [], [], none⟩) := by
  unfold fn64_l1
  rw [ clean_up (env := env) (a.length) (fun i => ⟨[.pv (.list 8 (a.map eSec)), .pv (.list 8 (b.map eSec)), .any, .any, .any, .pv (.int .i64 i), .any, .any, .any, .any, .any, .any, .any, .any, .any, .any, .any, .any, .any, .any, .any, .any, .any, .any, .any, .any], [], [], none⟩) (fun i => if a.drop i = b.drop i then some (.normal, ⟨[.any, .any, .any, .any, .any, .any, .any, .any, .any, .any, .any, .any, .any, .any, .any, .any, .any, .any, .any, .any, .any, .any, .any, .any, .any, .any], [], [], none⟩) else some (.ret, ⟨[.any, .any, .any, .any, .pv (.bool false), .any, .any, .any, .any, .any, .any, .any, .any, .any, .any, .any, .any, .any, .any, .any, .any, .any, .any, .any, .any, .any], [], [], none⟩)) h (fun _ => rfl) (fun _ => rfl) ?_ ?_]
  · first | rfl | simp only [List.drop_zero, List.take_zero, List.map_nil, Nat.zero_add, List.nil_append, List.foldl_nil]
  · intro i rb hi ih

    have hi1 := i64_next hi hl
    have hj : i < b.length := by omega
    have F1 : ((i : Int) < (a.length : Int)) = True := eq_true (by omega)
    rw [List.drop_eq_getElem_cons hi, List.drop_eq_getElem_cons hj]
    by_cases hd : a[i] = b[i]
    · simp only [fn64_b0, F1, eSec, index_nat hi, index_nat hj, List.getElem?_map, List.getElem?_eq_getElem hi, List.getElem?_eq_getElem hj, part_sec, secPV_length, eqCells_sec, hd, decide_true, val_pvs, frozen_pvs, msnoc_len, msnoc_get, msnoc_set, msnoc_take, Int.le_refl, take_map_all, Nat.le_refl, St.freezeRows, BV.frozen, List.take_length, List.take_append_drop, z_repl_zero, Int.toNat_zero, true_and, and_true, and_self, eq_self, z_take_zero, List.drop_nil, List.take_nil, vAll, List.foldl_nil, List.foldl_cons, resultsOf, resultList, resultOf, zBV, splice, PV.remade, St.freezeAt, St.freezeBox, PV.single, plain, act, dstOf, if_true, if_false, reduceCtorEq, St.get, St.put, St.pvOf, St.putRow, St.consume, St.freeze, St.row, St.elems, St.grab, St.takeRow, St.setRow, St.place, St.optPv, St.setCell, St.setCellRow, binPV, intBin, unPV, BV.val, Nat.reduceEqDiff, bound, consumeAll, buildParts, capsOf, capOf, List.append_nil, Nat.reduceAdd, Nat.reduceLT, Nat.reduceLeDiff, beq_self_eq_true, List.length_map, Nat.beq, dcall, dcallP, List.mapM_cons, St.snapFn, St.snap, St.layAll, St.lay, St.freezeArg, St.freezeArg1]
      rw [ih _ (by simp only [hi1]; rfl)]
      simp only [List.cons.injEq, true_and]
    · have hdf := decide_eq_false hd
      simp only [fn64_b0, F1, eSec, index_nat hi, index_nat hj, List.getElem?_map, List.getElem?_eq_getElem hi, List.getElem?_eq_getElem hj, part_sec, secPV_length, eqCells_sec, hdf, val_pvs, frozen_pvs, msnoc_len, msnoc_get, msnoc_set, msnoc_take, Int.le_refl, take_map_all, Nat.le_refl, St.freezeRows, BV.frozen, List.take_length, List.take_append_drop, z_repl_zero, Int.toNat_zero, true_and, and_true, and_self, eq_self, z_take_zero, List.drop_nil, List.take_nil, vAll, List.foldl_nil, List.foldl_cons, resultsOf, resultList, resultOf, zBV, splice, PV.remade, St.freezeAt, St.freezeBox, PV.single, plain, act, dstOf, if_true, if_false, reduceCtorEq, St.get, St.put, St.pvOf, St.putRow, St.consume, St.freeze, St.row, St.elems, St.grab, St.takeRow, St.setRow, St.place, St.optPv, St.setCell, St.setCellRow, binPV, intBin, unPV, BV.val, Nat.reduceEqDiff, bound, consumeAll, buildParts, capsOf, capOf, List.append_nil, Nat.reduceAdd, Nat.reduceLT, Nat.reduceLeDiff, beq_self_eq_true, List.length_map, Nat.beq, dcall, dcallP, List.mapM_cons, St.snapFn, St.snap, St.layAll, St.lay, St.freezeArg, St.freezeArg1]
      rw [if_neg (fun e => hd (List.cons.inj e).1)]
      rfl
  · intro rb

    simp only [fn64_b0, Int.lt_irrefl,  val_pvs, frozen_pvs, msnoc_len, msnoc_get, msnoc_set, msnoc_take, Int.le_refl, take_map_all, Nat.le_refl, St.freezeRows, BV.frozen, List.take_length, List.take_append_drop, z_repl_zero, Int.toNat_zero, true_and, and_true, and_self, eq_self, z_take_zero, List.drop_nil, List.take_nil, vAll, List.foldl_nil, List.foldl_cons, resultsOf, resultList, resultOf, zBV, splice, PV.remade, St.freezeAt, St.freezeBox, PV.single, plain, act, dstOf, if_true, if_false, reduceCtorEq, St.get, St.put, St.pvOf, St.putRow, St.consume, St.freeze, St.row, St.elems, St.grab, St.takeRow, St.setRow, St.place, St.optPv, St.setCell, St.setCellRow, binPV, intBin, unPV, BV.val, Nat.reduceEqDiff, bound, consumeAll, buildParts, capsOf, capOf, List.append_nil, Nat.reduceAdd, Nat.reduceLT, Nat.reduceLeDiff, beq_self_eq_true, List.length_map, Nat.beq, dcall, dcallP, List.mapM_cons, St.snapFn, St.snap, St.layAll, St.lay, St.freezeArg, St.freezeArg1]
    rw [List.drop_length, hab, List.drop_length, if_pos rfl]
    rfl

theorem cal64 {a b : List Sec} (hl : a.length ≤ lim) : cal env 64 [.list 8 (a.map eSec), .list 8 (b.map eSec)] = some [(.bool (decide (a = b)), false)] := by
  rw [cal_code env64 rfl]; simp only [fn64]; simp only [start, z_map_cons, z_map_nil, z_len_cons, z_len_nil, z_repl_zero, z_repl_succ, z_cons_app, z_nil_app, Nat.reduceAdd, Nat.reduceSub]
  by_cases hab : a.length = b.length
  · have G : (((a.length : Int)) != (b.length : Int)) = false := by simp; omega
    simp only [G, val_pvs, frozen_pvs, msnoc_len, msnoc_get, msnoc_set, msnoc_take, Int.le_refl, take_map_all, Nat.le_refl, St.freezeRows, BV.frozen, List.take_length, List.take_append_drop, z_repl_zero, Int.toNat_zero, true_and, and_true, and_self, eq_self, z_take_zero, List.drop_nil, List.take_nil, vAll, List.foldl_nil, List.foldl_cons, resultsOf, resultList, resultOf, zBV, splice, PV.remade, St.freezeAt, St.freezeBox, PV.single, plain, act, dstOf, if_true, if_false, reduceCtorEq, St.get, St.put, St.pvOf, St.putRow, St.consume, St.freeze, St.row, St.elems, St.grab, St.takeRow, St.setRow, St.place, St.optPv, St.setCell, St.setCellRow, binPV, intBin, unPV, BV.val, Nat.reduceEqDiff, bound, consumeAll, buildParts, capsOf, capOf, List.append_nil, Nat.reduceAdd, Nat.reduceLT, Nat.reduceLeDiff, beq_self_eq_true, List.length_map, Nat.beq, dcall, dcallP, List.mapM_cons, St.snapFn, St.snap, St.layAll, St.lay, St.freezeArg, St.freezeArg1]
    rw [loop64 hl hab]
    rotate_left
    · rfl
    · by_cases e : a = b <;> simp only [e, val_pvs, frozen_pvs, msnoc_len, msnoc_get, msnoc_set, msnoc_take, Int.le_refl, take_map_all, Nat.le_refl, St.freezeRows, BV.frozen, List.take_length, List.take_append_drop, z_repl_zero, Int.toNat_zero, true_and, and_true, and_self, eq_self, z_take_zero, List.drop_nil, List.take_nil, vAll, List.foldl_nil, List.foldl_cons, resultsOf, resultList, resultOf, zBV, splice, PV.remade, St.freezeAt, St.freezeBox, PV.single, plain, act, dstOf, if_true, if_false, reduceCtorEq, St.get, St.put, St.pvOf, St.putRow, St.consume, St.freeze, St.row, St.elems, St.grab, St.takeRow, St.setRow, St.place, St.optPv, St.setCell, St.setCellRow, binPV, intBin, unPV, BV.val, Nat.reduceEqDiff, bound, consumeAll, buildParts, capsOf, capOf, List.append_nil, Nat.reduceAdd, Nat.reduceLT, Nat.reduceLeDiff, beq_self_eq_true, List.length_map, Nat.beq, dcall, dcallP, List.mapM_cons, St.snapFn, St.snap, St.layAll, St.lay, St.freezeArg, St.freezeArg1]
  · have G : (((a.length : Int)) != (b.length : Int)) = true := by simp; omega
    have : a ≠ b := fun e => hab (by rw [e])
    have hdf := decide_eq_false this
    simp only [G, hdf, val_pvs, frozen_pvs, msnoc_len, msnoc_get, msnoc_set, msnoc_take, Int.le_refl, take_map_all, Nat.le_refl, St.freezeRows, BV.frozen, List.take_length, List.take_append_drop, z_repl_zero, Int.toNat_zero, true_and, and_true, and_self, eq_self, z_take_zero, List.drop_nil, List.take_nil, vAll, List.foldl_nil, List.foldl_cons, resultsOf, resultList, resultOf, zBV, splice, PV.remade, St.freezeAt, St.freezeBox, PV.single, plain, act, dstOf, if_true, if_false, reduceCtorEq, St.get, St.put, St.pvOf, St.putRow, St.consume, St.freeze, St.row, St.elems, St.grab, St.takeRow, St.setRow, St.place, St.optPv, St.setCell, St.setCellRow, binPV, intBin, unPV, BV.val, Nat.reduceEqDiff, bound, consumeAll, buildParts, capsOf, capOf, List.append_nil, Nat.reduceAdd, Nat.reduceLT, Nat.reduceLeDiff, beq_self_eq_true, List.length_map, Nat.beq, dcall, dcallP, List.mapM_cons, St.snapFn, St.snap, St.layAll, St.lay, St.freezeArg, St.freezeArg1]
theorem loop35 {a : List Wrt} (hl : a.length ≤ lim) (hd : ∀ x ∈ a, x.data.length ≤ lim) {st : St} (h : st.head [0, 1, 5] st.boxes.length = some ⟨[.pv (.list 3 (a.map eWr)), .pv (.list 3 (a.map eWr)), .any, .any, .any, .pv (.int .i64 (0 : Nat)), .any, .any, .any, .any, .any, .any, .any, .any, .any, .any, .any, .any, .any, .any, .any, .any, .any, .any, .any, .any, .any, .any, .any, .any, .any, .any, .any, .any, .any, .any, .any, .any, .any, .any, .any, .any, .any, .any, .any, .any, .any, .any, .any, .any, .any, .any, .any, .any, .any], [], [], none⟩) :
   den env fn35_l1 st = some (.normal, ⟨[.any, .any, .any, .any, .any, .any, .any, .any, .any, .any, .any, .any, .any, .any, .any, .any, .any, .any, .any, .any, .any, .any, .any, .any, .any, .any, .any, .any, .any, .any, .any, .any, .any, .any, .any, .any, .any, .any, .any, .any, .any, .any, .any, .any, .any, .any, .any, .any, .any, .any, .any, .any, .any, .any, .any], [], [], none⟩) := by
  unfold fn35_l1
  refine clean_up (env := env) (a.length) (fun i => ⟨[.pv (.list 3 (a.map eWr)), .pv (.list 3 (a.map eWr)), .any, .any, .any, .pv (.int .i64 i), .any, .any, .any, .any, .any, .any, .any, .any, .any, .any, .any, .any, .any, .any, .any, .any, .any, .any, .any, .any, .any, .any, .any, .any, .any, .any, .any, .any, .any, .any, .any, .any, .any, .any, .any, .any, .any, .any, .any, .any, .any, .any, .any, .any, .any, .any, .any, .any, .any], [], [], none⟩) (fun i => some (.normal, ⟨[.any, .any, .any, .any, .any, .any, .any, .any, .any, .any, .any, .any, .any, .any, .any, .any, .any, .any, .any, .any, .any, .any, .any, .any, .any, .any, .any, .any, .any, .any, .any, .any, .any, .any, .any, .any, .any, .any, .any, .any, .any, .any, .any, .any, .any, .any, .any, .any, .any, .any, .any, .any, .any, .any, .any], [], [], none⟩)) h (fun _ => rfl) (fun _ => rfl) ?_ ?_
  · intro i rb hi ih

    have hi1 := i64_next hi hl
    have F1 : ((i : Int) < (a.length : Int)) = True := eq_true (by omega)
    have e1 := cal64 (b := a[i].data) (hd _ (List.getElem_mem hi))
    have F2 : ∀ n : Int, (n != n) = false := fun n => by simp
    simp only [fn35_b0, F1, F2, e1, eWr, index_nat hi, List.getElem?_map, List.getElem?_eq_getElem hi, Option.map_some, decide_true, val_pvs, frozen_pvs, msnoc_len, msnoc_get, msnoc_set, msnoc_take, Int.le_refl, take_map_all, Nat.le_refl, St.freezeRows, BV.frozen, List.take_length, List.take_append_drop, z_repl_zero, Int.toNat_zero, true_and, and_true, and_self, eq_self, z_take_zero, List.drop_nil, List.take_nil, vAll, List.foldl_nil, List.foldl_cons, resultsOf, resultList, resultOf, zBV, splice, PV.remade, St.freezeAt, St.freezeBox, PV.single, plain, act, dstOf, if_true, if_false, reduceCtorEq, St.get, St.put, St.pvOf, St.putRow, St.consume, St.freeze, St.row, St.elems, St.grab, St.takeRow, St.setRow, St.place, St.optPv, St.setCell, St.setCellRow, binPV, intBin, unPV, BV.val, Nat.reduceEqDiff, bound, consumeAll, buildParts, capsOf, capOf, List.append_nil, Nat.reduceAdd, Nat.reduceLT, Nat.reduceLeDiff, beq_self_eq_true, List.length_map, Nat.beq, dcall, dcallP, List.mapM_cons, St.snapFn, St.snap, St.layAll, St.lay, St.freezeArg, St.freezeArg1]
    rw [ih _ (by simp only [hi1]; rfl)]
  · intro rb

    simp only [fn35_b0, Int.lt_irrefl,  val_pvs, frozen_pvs, msnoc_len, msnoc_get, msnoc_set, msnoc_take, Int.le_refl, take_map_all, Nat.le_refl, St.freezeRows, BV.frozen, List.take_length, List.take_append_drop, z_repl_zero, Int.toNat_zero, true_and, and_true, and_self, eq_self, z_take_zero, List.drop_nil, List.take_nil, vAll, List.foldl_nil, List.foldl_cons, resultsOf, resultList, resultOf, zBV, splice, PV.remade, St.freezeAt, St.freezeBox, PV.single, plain, act, dstOf, if_true, if_false, reduceCtorEq, St.get, St.put, St.pvOf, St.putRow, St.consume, St.freeze, St.row, St.elems, St.grab, St.takeRow, St.setRow, St.place, St.optPv, St.setCell, St.setCellRow, binPV, intBin, unPV, BV.val, Nat.reduceEqDiff, bound, consumeAll, buildParts, capsOf, capOf, List.append_nil, Nat.reduceAdd, Nat.reduceLT, Nat.reduceLeDiff, beq_self_eq_true, List.length_map, Nat.beq, dcall, dcallP, List.mapM_cons, St.snapFn, St.snap, St.layAll, St.lay, St.freezeArg, St.freezeArg1]
    rfl

theorem cal35 {a : List Wrt} (hl : a.length ≤ lim) (hd : ∀ x ∈ a, x.data.length ≤ lim) : cal env 35 [.list 3 (a.map eWr), .list 3 (a.map eWr)] = some [(.bool true, false)] := by
  have G : (((a.length : Int)) != (a.length : Int)) = false := by simp
  rw [cal_code env35 rfl]; simp only [fn35]; simp only [start, z_map_cons, z_map_nil, z_len_cons, z_len_nil, z_repl_zero, z_repl_succ, z_cons_app, z_nil_app, Nat.reduceAdd, Nat.reduceSub]
  simp only [G, val_pvs, frozen_pvs, msnoc_len, msnoc_get, msnoc_set, msnoc_take, Int.le_refl, take_map_all, Nat.le_refl, St.freezeRows, BV.frozen, List.take_length, List.take_append_drop, z_repl_zero, Int.toNat_zero, true_and, and_true, and_self, eq_self, z_take_zero, List.drop_nil, List.take_nil, vAll, List.foldl_nil, List.foldl_cons, resultsOf, resultList, resultOf, zBV, splice, PV.remade, St.freezeAt, St.freezeBox, PV.single, plain, act, dstOf, if_true, if_false, reduceCtorEq, St.get, St.put, St.pvOf, St.putRow, St.consume, St.freeze, St.row, St.elems, St.grab, St.takeRow, St.setRow, St.place, St.optPv, St.setCell, St.setCellRow, binPV, intBin, unPV, BV.val, Nat.reduceEqDiff, bound, consumeAll, buildParts, capsOf, capOf, List.append_nil, Nat.reduceAdd, Nat.reduceLT, Nat.reduceLeDiff, beq_self_eq_true, List.length_map, Nat.beq, dcall, dcallP, List.mapM_cons, St.snapFn, St.snap, St.layAll, St.lay, St.freezeArg, St.freezeArg1]
  rw [loop35 hl hd]
  rotate_left
  · rfl
  · simp only [val_pvs, frozen_pvs, msnoc_len, msnoc_get, msnoc_set, msnoc_take, Int.le_refl, take_map_all, Nat.le_refl, St.freezeRows, BV.frozen, List.take_length, List.take_append_drop, z_repl_zero, Int.toNat_zero, true_and, and_true, and_self, eq_self, z_take_zero, List.drop_nil, List.take_nil, vAll, List.foldl_nil, List.foldl_cons, resultsOf, resultList, resultOf, zBV, splice, PV.remade, St.freezeAt, St.freezeBox, PV.single, plain, act, dstOf, if_true, if_false, reduceCtorEq, St.get, St.put, St.pvOf, St.putRow, St.consume, St.freeze, St.row, St.elems, St.grab, St.takeRow, St.setRow, St.place, St.optPv, St.setCell, St.setCellRow, binPV, intBin, unPV, BV.val, Nat.reduceEqDiff, bound, consumeAll, buildParts, capsOf, capOf, List.append_nil, Nat.reduceAdd, Nat.reduceLT, Nat.reduceLeDiff, beq_self_eq_true, List.length_map, Nat.beq, dcall, dcallP, List.mapM_cons, St.snapFn, St.snap, St.layAll, St.lay, St.freezeArg, St.freezeArg1]
theorem patchN_few {a b : Img} (hf : ∀ v ∈ a, v.length ≤ 24) : ∀ n, (patchN a b n).length ≤ 24 * n := by
  intro n
  induction n with
  | zero => simp [patchN]
  | succ n ih =>
    rw [patchN_succ, List.length_append]
    have : (patchV n (b.getD n []) (volDiff (a.getD n []) (b.getD n []))).length ≤ 24 := by
      simp only [patchV, List.length_map]
      refine Nat.le_trans (volDiff_len _ _) ?_
      rw [List.getD_eq_getElem?_getD]
      cases h : a[n]? with
      | none => simp
      | some v => exact hf v (List.mem_of_getElem? h)
    omega
theorem patchOut_few {a b : Img} (ha : few7 a = true) (hb : few7 b = true) : (patchOut a b).length ≤ lim ∧ ∀ x ∈ patchOut a b, x.data.length ≤ 24 := by
  obtain ⟨h1, h2⟩ := few7_len ha
  obtain ⟨h3, h4⟩ := few7_len hb
  unfold patchOut
  split
  · refine ⟨?_, fun x hx => ?_⟩
    · have := patchN_few (b := b) h2 a.length
      unfold patchOf lim; omega
    · simp only [patchOf, patchN, List.mem_flatMap, List.mem_range, patchV, List.mem_map] at hx
      obtain ⟨i, hi, y, hy, rfl⟩ := hx
      simp only [List.length_take, List.length_drop, List.getD_eq_getElem?_getD]
      cases h : b[i]? with
      | none => simp
      | some v => have := h4 v (List.mem_of_getElem? h); simp only [Option.getD_some]; omega
  · exact ⟨by simp [lim], by simp⟩
theorem cal8 {a b : Img} : cal env 8 [.list 1 (a.map eSecs), .list 1 (b.map eSecs)] = some [(.bool true, false)] := by
  have e0 := cal11 (im := a)
  have e00 := cal11 (im := b)
  have e3 := calAwake
  by_cases hf : few7 a = true
  · by_cases hg : few7 b = true
    · obtain ⟨hl, hr⟩ := few7_lim hf
      obtain ⟨hl2, hr2⟩ := few7_lim hg
      have hP : pairErr a b = 0 → ∀ n, n ≤ a.length → (patchN a b n).length ≤ lim := fun _ n hn => by
        have := patchN_few (b := b) (few7_len hf).2 n
        have := (few7_len hf).1
        unfold lim; omega
      have hpo := patchOut_few hf hg
      have hdr : ∀ x ∈ differOut a b, x.length ≤ lim := fun x hx => by
        unfold differOut at hx
        split at hx
        · simp only [differ, List.mem_map] at hx
          obtain ⟨q, hq, rfl⟩ := hx
          exact Nat.le_trans (volDiff_len _ _) (hr _ (List.of_mem_zip hq).1)
        · simp at hx
      have hdl : (differOut a b).length ≤ lim := by
        unfold differOut; split
        · simp only [differ, List.length_map, List.length_zip]; omega
        · simp
      have e1 := cal26 hl hl2 hr
      have e2 := cal31 hl hl2 hr
      have e4 := cal32 hl hl2 hr hP
      have e5 := cal33 hl hl2 hr hP
      have e6 := cal34 (b := b) hl hr
      have e7 := cal17 (b := b) hl hr
      have e8 := cal27 (l := differOut a b) (m := differOut a b) hdl hdr
      have e9 := cal35 (a := patchOut a b) hpo.1 (fun x hx => Nat.le_trans (hpo.2 x hx) (by unfold lim; omega))
      rw [hf] at e0
      rw [hg] at e00
      rw [decide_eq_true rfl] at e8
      have G : ∀ x : Bool, (x == x) = true := by simp
      rw [cal_code env8 rfl]; simp only [fn8]; simp only [start, z_map_cons, z_map_nil, z_len_cons, z_len_nil, z_repl_zero, z_repl_succ, z_cons_app, z_nil_app, Nat.reduceAdd, Nat.reduceSub]
      simp only [e0, e00, e1, e2, e3, e4, e5, e6, e7, e8, e9, G, val_pvs, frozen_pvs, msnoc_len, msnoc_get, msnoc_set, msnoc_take, Int.le_refl, take_map_all, Nat.le_refl, St.freezeRows, BV.frozen, List.take_length, List.take_append_drop, z_repl_zero, Int.toNat_zero, true_and, and_true, and_self, eq_self, z_take_zero, List.drop_nil, List.take_nil, vAll, List.foldl_nil, List.foldl_cons, resultsOf, resultList, resultOf, zBV, splice, PV.remade, St.freezeAt, St.freezeBox, PV.single, plain, act, dstOf, if_true, if_false, reduceCtorEq, St.get, St.put, St.pvOf, St.putRow, St.consume, St.freeze, St.row, St.elems, St.grab, St.takeRow, St.setRow, St.place, St.optPv, St.setCell, St.setCellRow, binPV, intBin, unPV, BV.val, Nat.reduceEqDiff, bound, consumeAll, buildParts, capsOf, capOf, List.append_nil, Nat.reduceAdd, Nat.reduceLT, Nat.reduceLeDiff, beq_self_eq_true, List.length_map, Nat.beq, dcall, dcallP, List.mapM_cons, St.snapFn, St.snap, St.layAll, St.lay, St.freezeArg, St.freezeArg1]
      try simp only [bcase_bind, bcase_map, tail_bcase]
    · have hg : few7 b = false := by simpa using hg
      rw [hf] at e0
      rw [hg] at e00
      rw [cal_code env8 rfl]; simp only [fn8]; simp only [start, z_map_cons, z_map_nil, z_len_cons, z_len_nil, z_repl_zero, z_repl_succ, z_cons_app, z_nil_app, Nat.reduceAdd, Nat.reduceSub]
      simp only [e0, e00, e3, val_pvs, frozen_pvs, msnoc_len, msnoc_get, msnoc_set, msnoc_take, Int.le_refl, take_map_all, Nat.le_refl, St.freezeRows, BV.frozen, List.take_length, List.take_append_drop, z_repl_zero, Int.toNat_zero, true_and, and_true, and_self, eq_self, z_take_zero, List.drop_nil, List.take_nil, vAll, List.foldl_nil, List.foldl_cons, resultsOf, resultList, resultOf, zBV, splice, PV.remade, St.freezeAt, St.freezeBox, PV.single, plain, act, dstOf, if_true, if_false, reduceCtorEq, St.get, St.put, St.pvOf, St.putRow, St.consume, St.freeze, St.row, St.elems, St.grab, St.takeRow, St.setRow, St.place, St.optPv, St.setCell, St.setCellRow, binPV, intBin, unPV, BV.val, Nat.reduceEqDiff, bound, consumeAll, buildParts, capsOf, capOf, List.append_nil, Nat.reduceAdd, Nat.reduceLT, Nat.reduceLeDiff, beq_self_eq_true, List.length_map, Nat.beq, dcall, dcallP, List.mapM_cons, St.snapFn, St.snap, St.layAll, St.lay, St.freezeArg, St.freezeArg1]
  · have hf : few7 a = false := by simpa using hf
    rw [hf] at e0
    rw [cal_code env8 rfl]; simp only [fn8]; simp only [start, z_map_cons, z_map_nil, z_len_cons, z_len_nil, z_repl_zero, z_repl_succ, z_cons_app, z_nil_app, Nat.reduceAdd, Nat.reduceSub]
    simp only [e0, e3, val_pvs, frozen_pvs, msnoc_len, msnoc_get, msnoc_set, msnoc_take, Int.le_refl, take_map_all, Nat.le_refl, St.freezeRows, BV.frozen, List.take_length, List.take_append_drop, z_repl_zero, Int.toNat_zero, true_and, and_true, and_self, eq_self, z_take_zero, List.drop_nil, List.take_nil, vAll, List.foldl_nil, List.foldl_cons, resultsOf, resultList, resultOf, zBV, splice, PV.remade, St.freezeAt, St.freezeBox, PV.single, plain, act, dstOf, if_true, if_false, reduceCtorEq, St.get, St.put, St.pvOf, St.putRow, St.consume, St.freeze, St.row, St.elems, St.grab, St.takeRow, St.setRow, St.place, St.optPv, St.setCell, St.setCellRow, binPV, intBin, unPV, BV.val, Nat.reduceEqDiff, bound, consumeAll, buildParts, capsOf, capOf, List.append_nil, Nat.reduceAdd, Nat.reduceLT, Nat.reduceLeDiff, beq_self_eq_true, List.length_map, Nat.beq, dcall, dcallP, List.mapM_cons, St.snapFn, St.snap, St.layAll, St.lay, St.freezeArg, St.freezeArg1]
end Go.Proofs.Ytldnpgbacakfeaa.V

namespace Go.Proofs.Ytldnpgbacakfeaa.V
set_option linter.all false

theorem wrErrs_append (sz : List Int) : ∀ (l m : List Wrt) (i : Nat), wrErrs sz (l ++ m) i = if (wrErrs sz l i).2 = 0 then wrErrs sz m (i + l.length) else wrErrs sz l i
  | [], m, i => by simp [wrErrs]
  | w :: l, m, i => by
    simp only [List.cons_append, wrErrs]
    by_cases h : wrErr sz w = 0
    · simp only [h, ne_eq, not_true, if_false]
      rw [wrErrs_append sz l m (i + 1)]
      simp only [List.length_cons]
      rw [show i + 1 + l.length = i + (l.length + 1) by omega]
    · simp [h]
theorem wrErrs_idx (sz : List Int) : ∀ (l : List Wrt) (i : Nat), (wrErrs sz l i).2 ≠ 0 → (i : Int) ≤ (wrErrs sz l i).1 ∧ (wrErrs sz l i).1 < (i : Int) + l.length
  | [], i, h => by simp [wrErrs] at h
  | w :: l, i, h => by
    unfold wrErrs at h ⊢
    by_cases hw : wrErr sz w = 0
    · simp only [hw, ne_eq, not_true, if_false] at h ⊢
      have := wrErrs_idx sz l (i + 1) h
      simp only [List.length_cons]
      omega
    · simp [hw]; omega
def fewW (l : List Wrt) : Bool := decide (l.length ≤ 40) && !l.any fun w => decide (w.data.length > 30)
theorem fewW_len {l : List Wrt} (h : fewW l = true) : l.length ≤ 40 ∧ ∀ w ∈ l, w.data.length ≤ 30 := by
  simp only [fewW, Bool.and_eq_true, decide_eq_true_eq, Bool.not_eq_true', List.any_eq_false] at h
  exact ⟨h.1, fun w hw => by have := h.2 w hw; simp at this; omega⟩
theorem cal50 {w : Wrt} : cal env 50 [eWr w] = some [(.bool (decide (w.data.length > 30)), false)] := by
  have G : (((w.data.length : Int)) > 30) = (w.data.length > 30) := propext (by omega)
  unfold eWr
  rw [cal_code env50 rfl]; simp only [fn50]; simp only [start, z_map_cons, z_map_nil, z_len_cons, z_len_nil, z_repl_zero, z_repl_succ, z_cons_app, z_nil_app, Nat.reduceAdd, Nat.reduceSub]
  simp only [G, val_pvs, frozen_pvs, msnoc_len, msnoc_get, msnoc_set, msnoc_take, Int.le_refl, take_map_all, Nat.le_refl, St.freezeRows, BV.frozen, List.take_length, List.take_append_drop, z_repl_zero, Int.toNat_zero, true_and, and_true, and_self, eq_self, z_take_zero, List.drop_nil, List.take_nil, vAll, List.foldl_nil, List.foldl_cons, resultsOf, resultList, resultOf, zBV, splice, PV.remade, St.freezeAt, St.freezeBox, PV.single, plain, act, dstOf, if_true, if_false, reduceCtorEq, St.get, St.put, St.pvOf, St.putRow, St.consume, St.freeze, St.row, St.elems, St.grab, St.takeRow, St.setRow, St.place, St.optPv, St.setCell, St.setCellRow, binPV, intBin, unPV, BV.val, Nat.reduceEqDiff, bound, consumeAll, buildParts, capsOf, capOf, List.append_nil, Nat.reduceAdd, Nat.reduceLT, Nat.reduceLeDiff, beq_self_eq_true, List.length_map, Nat.beq, dcall, dcallP, List.mapM_cons, St.snapFn, St.snap, St.layAll, St.lay, St.freezeArg, St.freezeArg1]
theorem cal20 {l : List Wrt} : cal env 20 [.list 3 (l.map eWr)] = some [(.bool (fewW l), false)] := by
  by_cases h : l.length ≤ 40
  · have e1 := cal49 (l := l) (enc := eWr) (caps := []) (fun x _ => cal50 (w := x)) (fun x => rfl) (show l.length ≤ lim by unfold lim; omega)
    have G : (((l.length : Int)) ≤ 40) = True := eq_true (by omega)
    have G2 := decide_eq_true h
    rw [cal_code env20 rfl]; simp only [fn20]; simp only [start, z_map_cons, z_map_nil, z_len_cons, z_len_nil, z_repl_zero, z_repl_succ, z_cons_app, z_nil_app, Nat.reduceAdd, Nat.reduceSub]
    simp only [e1, G, G2, fewW, val_pvs, frozen_pvs, msnoc_len, msnoc_get, msnoc_set, msnoc_take, Int.le_refl, take_map_all, Nat.le_refl, St.freezeRows, BV.frozen, List.take_length, List.take_append_drop, z_repl_zero, Int.toNat_zero, true_and, and_true, and_self, eq_self, z_take_zero, List.drop_nil, List.take_nil, vAll, List.foldl_nil, List.foldl_cons, resultsOf, resultList, resultOf, zBV, splice, PV.remade, St.freezeAt, St.freezeBox, PV.single, plain, act, dstOf, if_true, if_false, reduceCtorEq, St.get, St.put, St.pvOf, St.putRow, St.consume, St.freeze, St.row, St.elems, St.grab, St.takeRow, St.setRow, St.place, St.optPv, St.setCell, St.setCellRow, binPV, intBin, unPV, BV.val, Nat.reduceEqDiff, bound, consumeAll, buildParts, capsOf, capOf, List.append_nil, Nat.reduceAdd, Nat.reduceLT, Nat.reduceLeDiff, beq_self_eq_true, List.length_map, Nat.beq, dcall, dcallP, List.mapM_cons, St.snapFn, St.snap, St.layAll, St.lay, St.freezeArg, St.freezeArg1]
  · have G : (((l.length : Int)) ≤ 40) = False := eq_false (by omega)
    have G2 := decide_eq_false h
    rw [cal_code env20 rfl]; simp only [fn20]; simp only [start, z_map_cons, z_map_nil, z_len_cons, z_len_nil, z_repl_zero, z_repl_succ, z_cons_app, z_nil_app, Nat.reduceAdd, Nat.reduceSub]
    simp only [G, G2, fewW, val_pvs, frozen_pvs, msnoc_len, msnoc_get, msnoc_set, msnoc_take, Int.le_refl, take_map_all, Nat.le_refl, St.freezeRows, BV.frozen, List.take_length, List.take_append_drop, z_repl_zero, Int.toNat_zero, true_and, and_true, and_self, eq_self, z_take_zero, List.drop_nil, List.take_nil, vAll, List.foldl_nil, List.foldl_cons, resultsOf, resultList, resultOf, zBV, splice, PV.remade, St.freezeAt, St.freezeBox, PV.single, plain, act, dstOf, if_true, if_false, reduceCtorEq, St.get, St.put, St.pvOf, St.putRow, St.consume, St.freeze, St.row, St.elems, St.grab, St.takeRow, St.setRow, St.place, St.optPv, St.setCell, St.setCellRow, binPV, intBin, unPV, BV.val, Nat.reduceEqDiff, bound, consumeAll, buildParts, capsOf, capOf, List.append_nil, Nat.reduceAdd, Nat.reduceLT, Nat.reduceLeDiff, beq_self_eq_true, List.length_map, Nat.beq, dcall, dcallP, List.mapM_cons, St.snapFn, St.snap, St.layAll, St.lay, St.freezeArg, St.freezeArg1]
def okW (l : List Wrt) : Prop := ∀ w ∈ l, i64b w.volume = true ∧ i64b w.start = true
theorem cal23 {im : Img} {l : List Wrt} (hw : okW l) (hl : im.length ≤ 1000000) (hr : ∀ v ∈ im, v.length ≤ 1000000) : cal env 23 [.list 1 (im.map eSecs), .list 3 (l.map eWr)] = some [(.list 1 ((apO im l).map eSecs), false), (.int .i64 (apI im l), false), (.int .i64 (apE im l), false)] :=
  (cal_ext env23).trans (applyX_enc hw hl hr)
theorem szs_small {a b : Img} (h : szsOf a = szsOf b) (hl : b.length ≤ 9) (hr : ∀ v ∈ b, v.length ≤ 24) : a.length ≤ 9 ∧ ∀ v ∈ a, v.length ≤ 24 := by
  obtain ⟨h1, h2⟩ := sizes_inj (a := a) (b := b) h
  refine ⟨by omega, fun v hv => ?_⟩
  obtain ⟨i, hi, rfl⟩ := List.mem_iff_getElem.1 hv
  rw [h2 i hi (by omega)]
  exact hr _ (List.getElem_mem _)
theorem apO_small {im : Img} {l : List Wrt} (hl : im.length ≤ 9) (hr : ∀ v ∈ im, v.length ≤ 24) : (apO im l).length ≤ 9 ∧ ∀ v ∈ apO im l, v.length ≤ 24 := by
  by_cases h : apE im l = 0
  · exact szs_small (apO_sizes h) hl hr
  · unfold apO; rw [if_neg h]; simp
theorem apE_szs {im : Img} {l : List Wrt} (h : apE im l = 0) : szErr (szsOf im) = 0 := by
  unfold apE at h
  split at h
  · rename_i h2; exact absurd h h2
  · omega
theorem ap_steps {im : Img} {l m : List Wrt} (h : apE im l = 0) : apE im (l ++ m) = apE (apO im l) m ∧ apO im (l ++ m) = apO (apO im l) m := by
  have h0 := apE_szs h
  have hs := apO_sizes h
  have e : apE im (l ++ m) = apE (apO im l) m := by
    have h1 := h
    unfold apE at h1 ⊢
    rw [hs]
    simp only [h0, ne_eq, not_true, if_false] at h1 ⊢
    rw [wrErrs_append, if_pos h1, wrErrs_shift _ m _ 0]
  refine ⟨e, ?_⟩
  have e2 : apO im l = l.foldl put1 im := by unfold apO; rw [if_pos h]
  by_cases hz : apE im (l ++ m) = 0
  · unfold apO at *
    rw [if_pos hz]
    rw [if_pos h] at e
    rw [if_pos h, if_pos (by rw [← e]; exact hz), List.foldl_append]
  · rw [show apO im (l ++ m) = [] by unfold apO; rw [if_neg hz]]
    rw [show apO (apO im l) m = [] by rw [apO.eq_def (apO im l) m, if_neg (by rw [← e]; exact hz)]]
theorem ap_first {im : Img} {l m : List Wrt} (h : apE im l ≠ 0) : apE im (l ++ m) = apE im l := by
  unfold apE at h ⊢
  by_cases h0 : szErr (szsOf im) = 0
  · simp only [h0, ne_eq, not_true, if_false] at h ⊢
    rw [wrErrs_append, if_neg h]
  · simp [h0]
theorem apI_lt {im : Img} {l : List Wrt} (h : apE im l ≠ 0) : apI im l < max (l.length : Int) 1 := by
  unfold apE at h
  unfold apI
  by_cases h0 : szErr (szsOf im) = 0
  · simp only [h0, ne_eq, not_true, if_false] at h ⊢
    have := wrErrs_idx _ l 0 h
    omega
  · simp [h0]; omega
theorem apI_lt2 {im : Img} {l : List Wrt} (h : apE im l ≠ 0) (h0 : szErr (szsOf im) = 0) : apI im l < (l.length : Int) := by
  unfold apE at h
  unfold apI
  simp only [h0, ne_eq, not_true, if_false] at h ⊢
  have := wrErrs_idx _ l 0 h
  omega
theorem dif_comm (a b : List Sec) : dif a b = dif b a := by
  funext i; unfold dif
  exact decide_eq_decide.2 ⟨fun h e => h e.symm, fun h e => h e.symm⟩
theorem volDiff_comm {a b : List Sec} (h : a.length = b.length) : volDiff a b = volDiff b a := by
  simp only [volDiff, difs, difN, dif_comm a b, h]
theorem differ_comm {a b : Img} (h : imSizes a = imSizes b) : differ a b = differ b a := by
  obtain ⟨h1, h2⟩ := sizes_inj h
  apply List.ext_getElem
  · simp [differ]; omega
  · intro i hi hj
    simp only [differ, List.length_map, List.length_zip] at hi hj
    simp only [differ, List.getElem_map, List.getElem_zip]
    exact volDiff_comm (h2 i (by omega) (by omega))
end Go.Proofs.Ytldnpgbacakfeaa.V

namespace Go.Proofs.Ytldnpgbacakfeaa.V
set_option linter.all false

theorem few7_mil {im : Img} (h : few7 im = true) : im.length ≤ 1000000 ∧ ∀ v ∈ im, v.length ≤ 1000000 := by
  obtain ⟨h1, h2⟩ := few7_len h
  exact ⟨by omega, fun v hv => by have := h2 v hv; omega⟩
theorem take_map' {α β : Type} (f : α → β) (l : List α) (n : Nat) : (l.map f).take n = (l.take n).map f := by rw [List.map_take]
theorem drop_map' {α β : Type} (f : α → β) (l : List α) (n : Nat) : (l.map f).drop n = (l.drop n).map f := by rw [List.map_drop]
theorem cal6 {im : Img} {l : List Wrt} {c : Nat} (hw : okW l) (hc : c < 256) : cal env 6 [.list 1 (im.map eSecs), .list 3 (l.map eWr), .int .u8 (c : Int)] = some [(.bool true, false)] := by
  have e0 := cal11 (im := im)
  have e00 := cal20 (l := l)
  have e3 := calAwake
  by_cases hf : few7 im = true
  rotate_left
  · have hf : few7 im = false := by simpa using hf
    rw [hf] at e0
    rw [cal_code env6 rfl]; simp only [fn6]; simp only [start, z_map_cons, z_map_nil, z_len_cons, z_len_nil, z_repl_zero, z_repl_succ, z_cons_app, z_nil_app, Nat.reduceAdd, Nat.reduceSub]
    simp only [e0, e3, val_pvs, frozen_pvs, msnoc_len, msnoc_get, msnoc_set, msnoc_take, Int.le_refl, take_map_all, Nat.le_refl, St.freezeRows, BV.frozen, List.take_length, List.take_append_drop, z_repl_zero, Int.toNat_zero, true_and, and_true, and_self, eq_self, z_take_zero, List.drop_nil, List.take_nil, vAll, List.foldl_nil, List.foldl_cons, resultsOf, resultList, resultOf, zBV, splice, PV.remade, St.freezeAt, St.freezeBox, PV.single, plain, act, dstOf, if_true, if_false, reduceCtorEq, St.get, St.put, St.pvOf, St.putRow, St.consume, St.freeze, St.row, St.elems, St.grab, St.takeRow, St.setRow, St.place, St.optPv, St.setCell, St.setCellRow, binPV, intBin, unPV, BV.val, Nat.reduceEqDiff, bound, consumeAll, buildParts, capsOf, capOf, List.append_nil, Nat.reduceAdd, Nat.reduceLT, Nat.reduceLeDiff, beq_self_eq_true, List.length_map, Nat.beq, dcall, dcallP, List.mapM_cons, St.snapFn, St.snap, St.layAll, St.lay, St.freezeArg, St.freezeArg1]
  rw [hf] at e0
  by_cases hg : fewW l = true
  rotate_left
  · have hg : fewW l = false := by simpa using hg
    rw [hg] at e00
    rw [cal_code env6 rfl]; simp only [fn6]; simp only [start, z_map_cons, z_map_nil, z_len_cons, z_len_nil, z_repl_zero, z_repl_succ, z_cons_app, z_nil_app, Nat.reduceAdd, Nat.reduceSub]
    simp only [e0, e00, e3, val_pvs, frozen_pvs, msnoc_len, msnoc_get, msnoc_set, msnoc_take, Int.le_refl, take_map_all, Nat.le_refl, St.freezeRows, BV.frozen, List.take_length, List.take_append_drop, z_repl_zero, Int.toNat_zero, true_and, and_true, and_self, eq_self, z_take_zero, List.drop_nil, List.take_nil, vAll, List.foldl_nil, List.foldl_cons, resultsOf, resultList, resultOf, zBV, splice, PV.remade, St.freezeAt, St.freezeBox, PV.single, plain, act, dstOf, if_true, if_false, reduceCtorEq, St.get, St.put, St.pvOf, St.putRow, St.consume, St.freeze, St.row, St.elems, St.grab, St.takeRow, St.setRow, St.place, St.optPv, St.setCell, St.setCellRow, binPV, intBin, unPV, BV.val, Nat.reduceEqDiff, bound, consumeAll, buildParts, capsOf, capOf, List.append_nil, Nat.reduceAdd, Nat.reduceLT, Nat.reduceLeDiff, beq_self_eq_true, List.length_map, Nat.beq, dcall, dcallP, List.mapM_cons, St.snapFn, St.snap, St.layAll, St.lay, St.freezeArg, St.freezeArg1]
  rw [hg] at e00
  obtain ⟨hl, hr⟩ := few7_mil hf
  obtain ⟨hl9, hr24⟩ := few7_len hf
  obtain ⟨hl40, _⟩ := fewW_len hg
  have hlim : lim = 1073741824 := rfl
  let N : Nat := c % (l.length + 1)
  have hN : N ≤ l.length := Nat.le_of_lt_succ (Nat.mod_lt _ (by omega))
  have g1 : IntKind.i64.wrap (c : Int) = (c : Int) := i64_fits (by omega)
  have g2 : IntKind.i64.wrap ((l.length : Int) + 1) = ((l.length + 1 : Nat) : Int) := by rw [i64_fits (by omega)]; omega
  have g3 : (((l.length + 1 : Nat) : Int) = 0) = False := eq_false (by omega)
  have g4 : (c : Int).tmod ((l.length + 1 : Nat) : Int) = (N : Int) := (Int.ofNat_tmod c (l.length + 1)).symm
  have g5 : (0 ≤ (N : Int) ∧ (N : Int) ≤ (l.length : Int)) = True := eq_true (by omega)
  have g6 : ((N : Int)).toNat = N := by simp
  have okt : okW (l.take N) := fun w h => hw w (List.mem_of_mem_take h)
  have okd : okW (l.drop N) := fun w h => hw w (List.mem_of_mem_drop h)
  have htd : l.take N ++ l.drop N = l := List.take_append_drop N l
  have htl : (l.take N).length = N := by rw [List.length_take]; omega
  have hdl : (l.drop N).length = l.length - N := by rw [List.length_drop]
  have a1 := cal23 hw hl hr
  have a2 := cal23 okt hl hr
  have g7 := take_map' eWr l N
  have g8 : (((l.map eWr).drop N).take (l.length - N)) = (l.drop N).map eWr := by
    rw [drop_map', List.take_of_length_le (by simp)]
  have g9 : (0 ≤ (N : Int) ∧ (N : Int) ≤ ((l.length : Nat) : Int)) = True := eq_true (by omega)
  by_cases hfz : apE im (l.take N) = 0
  rotate_left
  · have h1 := ap_first (m := l.drop N) hfz
    rw [htd] at h1
    have h2 := apI_lt hfz
    rw [htl] at h2
    have k1 : (apE im (l.take N) != 0) = true := by simpa using hfz
    have k2 : (apE im (l.take N) == apE im (l.take N)) = true := by simp
    have k3 : decide (apI im (l.take N) < (if (N : Int) < 1 then 1 else (N : Int))) = true := by
      apply decide_eq_true
      split <;> omega
    rw [cal_code env6 rfl]; simp only [fn6]; simp only [start, z_map_cons, z_map_nil, z_len_cons, z_len_nil, z_repl_zero, z_repl_succ, z_cons_app, z_nil_app, Nat.reduceAdd, Nat.reduceSub]
    simp only [e0, e00, e3, g1, g2, g3, g4, g5, g6, g7, a1, a2, h1, k1, k2, k3, Nat.sub_zero, Nat.zero_le, val_pvs, frozen_pvs, msnoc_len, msnoc_get, msnoc_set, msnoc_take, Int.le_refl, take_map_all, Nat.le_refl, St.freezeRows, BV.frozen, List.take_length, List.take_append_drop, z_repl_zero, Int.toNat_zero, true_and, and_true, and_self, eq_self, z_take_zero, List.drop_nil, List.take_nil, vAll, List.foldl_nil, List.foldl_cons, resultsOf, resultList, resultOf, zBV, splice, PV.remade, St.freezeAt, St.freezeBox, PV.single, plain, act, dstOf, if_true, if_false, reduceCtorEq, St.get, St.put, St.pvOf, St.putRow, St.consume, St.freeze, St.row, St.elems, St.grab, St.takeRow, St.setRow, St.place, St.optPv, St.setCell, St.setCellRow, binPV, intBin, unPV, BV.val, Nat.reduceEqDiff, bound, consumeAll, buildParts, capsOf, capOf, List.append_nil, Nat.reduceAdd, Nat.reduceLT, Nat.reduceLeDiff, beq_self_eq_true, List.length_map, Nat.beq, dcall, dcallP, List.mapM_cons, St.snapFn, St.snap, St.layAll, St.lay, St.freezeArg, St.freezeArg1]
  obtain ⟨s1, s2⟩ := ap_steps (m := l.drop N) hfz
  rw [htd] at s1 s2
  have h0 := apE_szs hfz
  have hos := apO_sizes hfz
  obtain ⟨q1, q2⟩ := apO_small (l := l.take N) hl9 hr24
  obtain ⟨q3, q4⟩ := apO_small (l := l) hl9 hr24
  have a3 := cal23 (im := apO im (l.take N)) okd (by omega) (fun v hv => by have := q2 v hv; omega)
  rw [← s1, ← s2] at a3
  have b1 := cal17 (a := apO im l) (b := apO im l) (by omega) (fun v hv => by have := q4 v hv; omega)
  rw [decide_eq_true rfl] at b1
  have k1 : (apE im (l.take N) != 0) = false := by simpa using hfz
  have k2 : (apE im l != apE im l) = false := by simp
  have g10 : IntKind.i64.wrap ((l.length : Int) - (N : Int)) = ((l.length - N : Nat) : Int) := by rw [i64_fits (by omega)]; omega
  by_cases he : apE im l = 0
  rotate_left
  · have k3 : (apE im l != 0) = true := by simpa using he
    have k4 : decide (apI (apO im (l.take N)) (l.drop N) ≥ ((l.length - N : Nat) : Int)) = false := by
      apply decide_eq_false
      have := apI_lt2 (im := apO im (l.take N)) (l := l.drop N) (by rw [← s1]; exact he) (by rw [hos]; exact h0)
      rw [hdl] at this
      omega
    rw [cal_code env6 rfl]; simp only [fn6]; simp only [start, z_map_cons, z_map_nil, z_len_cons, z_len_nil, z_repl_zero, z_repl_succ, z_cons_app, z_nil_app, Nat.reduceAdd, Nat.reduceSub]
    simp only [e0, e00, e3, g1, g2, g3, g4, g5, g6, g7, g8, g10, a1, a2, a3, b1, k1, k2, k3, k4, Nat.sub_zero, Nat.zero_le, val_pvs, frozen_pvs, msnoc_len, msnoc_get, msnoc_set, msnoc_take, Int.le_refl, take_map_all, Nat.le_refl, St.freezeRows, BV.frozen, List.take_length, List.take_append_drop, z_repl_zero, Int.toNat_zero, true_and, and_true, and_self, eq_self, z_take_zero, List.drop_nil, List.take_nil, vAll, List.foldl_nil, List.foldl_cons, resultsOf, resultList, resultOf, zBV, splice, PV.remade, St.freezeAt, St.freezeBox, PV.single, plain, act, dstOf, if_true, if_false, reduceCtorEq, St.get, St.put, St.pvOf, St.putRow, St.consume, St.freeze, St.row, St.elems, St.grab, St.takeRow, St.setRow, St.place, St.optPv, St.setCell, St.setCellRow, binPV, intBin, unPV, BV.val, Nat.reduceEqDiff, bound, consumeAll, buildParts, capsOf, capOf, List.append_nil, Nat.reduceAdd, Nat.reduceLT, Nat.reduceLeDiff, beq_self_eq_true, List.length_map, Nat.beq, dcall, dcallP, List.mapM_cons, St.snapFn, St.snap, St.layAll, St.lay, St.freezeArg, St.freezeArg1]
  have k3 : (apE im l != 0) = false := by simpa using he
  have hos2 := apO_sizes he
  have hi0 : imSizes (apO im l) = imSizes im := hos2
  have c1 : imCheck im = 0 := h0
  have c2 : imCheck (apO im l) = 0 := by show szErr (szsOf (apO im l)) = 0; rw [hos2]; exact h0
  have p1 : pairErr im (apO im l) = 0 := by unfold pairErr; rw [if_neg (by omega), if_neg (by omega), if_pos hi0.symm]
  have p2 : pairErr (apO im l) im = 0 := by unfold pairErr; rw [if_neg (by omega), if_neg (by omega), if_pos hi0]
  have d1 := cal26 (a := im) (b := apO im l) (by omega) (by omega) (fun v hv => by have := hr24 v hv; omega)
  have d2 := cal26 (a := apO im l) (b := im) (by omega) (by omega) (fun v hv => by have := q4 v hv; omega)
  unfold differOut at d1 d2
  rw [p1, if_pos rfl] at d1
  rw [p2, if_pos rfl, differ_comm hi0] at d2
  have hdr : ∀ x ∈ differ im (apO im l), x.length ≤ lim := fun x hx => by
    simp only [differ, List.mem_map] at hx
    obtain ⟨q, hq, rfl⟩ := hx
    exact Nat.le_trans (volDiff_len _ _) (by have := hr24 _ (List.of_mem_zip hq).1; omega)
  have b2 := cal27 (l := differ im (apO im l)) (m := differ im (apO im l)) (by simp [differ]; omega) hdr
  rw [decide_eq_true rfl] at b2
  have k5 : ((0 : Int) == 0) = true := rfl
  rw [cal_code env6 rfl]; simp only [fn6]; simp only [start, z_map_cons, z_map_nil, z_len_cons, z_len_nil, z_repl_zero, z_repl_succ, z_cons_app, z_nil_app, Nat.reduceAdd, Nat.reduceSub]
  simp only [e0, e00, e3, g1, g2, g3, g4, g5, g6, g7, g8, g10, a1, a2, a3, b1, b2, d1, d2, k1, k2, k3, k5, Nat.sub_zero, Nat.zero_le, val_pvs, frozen_pvs, msnoc_len, msnoc_get, msnoc_set, msnoc_take, Int.le_refl, take_map_all, Nat.le_refl, St.freezeRows, BV.frozen, List.take_length, List.take_append_drop, z_repl_zero, Int.toNat_zero, true_and, and_true, and_self, eq_self, z_take_zero, List.drop_nil, List.take_nil, vAll, List.foldl_nil, List.foldl_cons, resultsOf, resultList, resultOf, zBV, splice, PV.remade, St.freezeAt, St.freezeBox, PV.single, plain, act, dstOf, if_true, if_false, reduceCtorEq, St.get, St.put, St.pvOf, St.putRow, St.consume, St.freeze, St.row, St.elems, St.grab, St.takeRow, St.setRow, St.place, St.optPv, St.setCell, St.setCellRow, binPV, intBin, unPV, BV.val, Nat.reduceEqDiff, bound, consumeAll, buildParts, capsOf, capOf, List.append_nil, Nat.reduceAdd, Nat.reduceLT, Nat.reduceLeDiff, beq_self_eq_true, List.length_map, Nat.beq, dcall, dcallP, List.mapM_cons, St.snapFn, St.snap, St.layAll, St.lay, St.freezeArg, St.freezeArg1]
end Go.Proofs.Ytldnpgbacakfeaa.V

namespace Go.Proofs.Ytldnpgbacakfeaa.V
open Go.RowKit Go.ChangeShapes Go.WideShapes Go.ChangeAt
set_option linter.all false

theorem Try.ownKnobV : ownKnob Try.prog.godebug = none := by kernel_rfl
theorem Try.laidOutV : laidOutB Try.prog = true := by kernel_rfl
def okI (n : Int) : Prop := -9223372036854775808 ≤ n ∧ n ≤ 9223372036854775807
theorem sint_i64 {q : PV} (h : SInt .i64 [q]) : ∃ n, okI n ∧ q = eI n := by
  obtain ⟨n, h1, h2⟩ := h
  have h3 : IntKind.i64.min = -9223372036854775808 := rfl
  have h4 : IntKind.i64.max = 9223372036854775807 := rfl
  simp only [Lit.wf, Bool.and_eq_true, decide_eq_true_eq] at h1
  cases h2
  exact ⟨n, ⟨by omega, by omega⟩, rfl⟩
theorem sint_u8 {q : PV} (h : SInt .u8 [q]) : ∃ b : UInt8, q = .int .u8 (b.toNat : Int) := by
  obtain ⟨n, h1, h2⟩ := h
  have h3 : IntKind.u8.min = 0 := rfl
  have h4 : IntKind.u8.max = 255 := rfl
  simp only [Lit.wf, Bool.and_eq_true, decide_eq_true_eq] at h1
  cases h2
  refine ⟨UInt8.ofNat n.toNat, ?_⟩
  rw [UInt8.toNat_ofNat_of_lt' (show n.toNat < 2 ^ 8 by omega)]
  congr 1; omega
theorem sbool {q : PV} (h : SBool [q]) : ∃ b, q = eB b := by
  obtain ⟨b, h2⟩ := h
  cases h2
  exact ⟨b, rfl⟩
def SSec : List PV → Prop := SArr 8 (SInt .u8)
theorem ssec {ps : List PV} (h : SSec ps) : ∃ s : Sec, ps = secPV s := by
  obtain ⟨h1, h2⟩ := h
  have : ∀ l : List PV, (∀ p ∈ l, SInt .u8 [p]) → ∃ m : List UInt8, m.length = l.length ∧ l = m.map fun b => .int .u8 (b.toNat : Int) := by
    intro l
    induction l with
    | nil => exact fun _ => ⟨[], rfl, rfl⟩
    | cons p l ih =>
      intro h
      obtain ⟨b, hb⟩ := sint_u8 (h p (by simp))
      obtain ⟨m, e1, e2⟩ := ih fun q hq => h q (by simp [hq])
      exact ⟨b :: m, by simp [e1], by rw [hb, e2]; rfl⟩
  obtain ⟨m, e1, e2⟩ := this ps h2
  refine ⟨⟨m.toArray, by simp [e1, h1]⟩, ?_⟩
  subst e2
  simp [secPV, Vector.toList]
theorem slist {α : Type} {n : Nat} {S : List PV → Prop} {wr : List PV → PV} {enc : α → PV} {ok : α → Prop} (hS : ∀ ps, S ps → ∃ a, ok a ∧ wr ps = enc a) {q : PV} (h : SList n S wr [q]) : ∃ l : List α, (∀ a ∈ l, ok a) ∧ q = .list n (l.map enc) := by
  obtain ⟨es, h1, h2⟩ := h
  cases h1
  have : ∀ es : List PV, (∀ x ∈ es, ∃ q, S q ∧ x = wr q) → ∃ l : List α, (∀ a ∈ l, ok a) ∧ es = l.map enc := by
    intro es
    induction es with
    | nil => exact fun _ => ⟨[], by simp, rfl⟩
    | cons e es ih =>
      intro h
      obtain ⟨q, h3, h4⟩ := h e (by simp)
      obtain ⟨a, h5, h6⟩ := hS q h3
      obtain ⟨l, h7, h8⟩ := ih fun x hx => h x (by simp [hx])
      exact ⟨a :: l, by simp; exact ⟨h5, h7⟩, by rw [h4, h6, h8]; rfl⟩
  obtain ⟨l, h3, h4⟩ := this es h2
  exact ⟨l, h3, by rw [h4]⟩
theorem wr_int {k : IntKind} {ps : List PV} (h : SInt k ps) : (wrS ps).cells = ps := by
  obtain ⟨n, _, rfl⟩ := h; rfl
theorem wr_list {n : Nat} {S : List PV → Prop} {wr : List PV → PV} {ps : List PV} (h : SList n S wr ps) : (wrS ps).cells = ps := by
  obtain ⟨es, rfl, _⟩ := h; rfl
theorem wr_bool {ps : List PV} (h : SBool ps) : (wrS ps).cells = ps := by
  obtain ⟨b, rfl⟩ := h; rfl
theorem one_of {S : List PV → Prop} {ps : List PV} (h1 : S ps) (h : ∀ ps, S ps → ∃ q, ps = [q]) : ∃ q, ps = [q] ∧ S [q] := by
  obtain ⟨q, rfl⟩ := h ps h1
  exact ⟨q, rfl, h1⟩

def okExt (x : Exn) : Prop := okI x.start ∧ okI x.count
def SExt : List PV → Prop := SCat [SInt .i64, SInt .i64]
theorem sext {ps : List PV} (h : SExt ps) : ∃ x : Exn, okExt x ∧ PV.agg ps = eExt x := by
  obtain ⟨p, q, rfl, ⟨n, h1, rfl⟩, p2, q2, rfl, ⟨m, h2, rfl⟩, rfl⟩ := h
  obtain ⟨a, o1, e1⟩ := sint_i64 ⟨n, h1, rfl⟩
  obtain ⟨b, o2, e2⟩ := sint_i64 ⟨m, h2, rfl⟩
  refine ⟨⟨a, b⟩, ⟨o1, o2⟩, ?_⟩
  rw [e1, e2]; rfl
def SSecs : List PV → Prop := SList 8 SSec .agg
theorem ssecs {q : PV} (h : SSecs [q]) : ∃ l : List Sec, q = eSecs l := by
  obtain ⟨l, _, e⟩ := slist (enc := eSec) (ok := fun _ => True) (fun ps h => by obtain ⟨s, rfl⟩ := ssec h; exact ⟨s, trivial, rfl⟩) h
  exact ⟨l, e⟩
def SImg : List PV → Prop := SList 1 SSecs wrS
theorem simg {q : PV} (h : SImg [q]) : ∃ l : Img, q = .list 1 (l.map eSecs) := by
  obtain ⟨l, _, e⟩ := slist (enc := eSecs) (ok := fun _ => True) (fun ps h => by
    obtain ⟨es, rfl, h2⟩ := h
    obtain ⟨l, e⟩ := ssecs (q := .list 8 es) ⟨es, rfl, h2⟩
    exact ⟨l, trivial, e⟩) h
  exact ⟨l, e⟩
theorem Try.rdInt : RdsC Try.prog 3 1 (SInt .i64) := RdsC.int Try.underlying3 (by kernel_rfl)
theorem Try.rdU8 : RdsC Try.prog 5 1 (SInt .u8) := RdsC.int Try.underlying5 (by kernel_rfl)
theorem Try.rdSec : RdsC Try.prog 52 8 SSec := RdsC.arr Try.underlying52 Try.rdU8 (by kernel_rfl)
theorem Try.rdSecs : RdsC Try.prog 40 1 SSecs := RdsC.list Try.underlying40 (by kernel_rfl) Try.rdSec (by decide) (fun _ _ _ => rfl)
theorem Try.rdImg : RdsC Try.prog 24 1 SImg := RdsC.list Try.underlying24 (by kernel_rfl) Try.rdSecs (by decide) (fun _ h _ => wr_list h)
theorem Try.rdExt : RdsC Try.prog 59 2 SExt := RdsC.struct2 Try.underlying59 Try.rdInt Try.rdInt rfl rfl (by kernel_rfl)
end Go.Proofs.Ytldnpgbacakfeaa.V

namespace Go.Proofs.Ytldnpgbacakfeaa.V
open Go.RowKit Go.ChangeShapes Go.WideShapes Go.ChangeAt
set_option linter.all false
theorem su8 {q : PV} (h : SInt .u8 [q]) : ∃ c : Nat, c < 256 ∧ q = .int .u8 (c : Int) := by
  obtain ⟨b, e⟩ := sint_u8 h
  exact ⟨b.toNat, b.toNat_lt, e⟩
theorem i64b_ok {n : Int} (h : okI n) : i64b n = true := by
  unfold okI at h
  simp only [i64b, Bool.and_eq_true, decide_eq_true_eq]; exact h
def SWr : List PV → Prop := SCat [SInt .i64, SInt .i64, SSecs]
theorem swr {ps : List PV} (h : SWr ps) : ∃ x : Wrt, (i64b x.volume = true ∧ i64b x.start = true) ∧ PV.agg ps = eWr x := by
  obtain ⟨p, q, rfl, ⟨n, h1, rfl⟩, p2, q2, rfl, ⟨m, h2, rfl⟩, p3, q3, rfl, h3, rfl⟩ := h
  obtain ⟨a, o1, e1⟩ := sint_i64 ⟨n, h1, rfl⟩
  obtain ⟨b, o2, e2⟩ := sint_i64 ⟨m, h2, rfl⟩
  obtain ⟨es, rfl, h4⟩ := h3
  obtain ⟨l, e3⟩ := ssecs (q := .list 8 es) ⟨es, rfl, h4⟩
  refine ⟨⟨a, b, l⟩, ⟨i64b_ok o1, i64b_ok o2⟩, ?_⟩
  rw [e1, e2, e3]; rfl
def SWrs : List PV → Prop := SList 3 SWr .agg
theorem swrs {q : PV} (h : SWrs [q]) : ∃ l : List Wrt, okW l ∧ q = .list 3 (l.map eWr) :=
  slist (enc := eWr) (ok := fun x => i64b x.volume = true ∧ i64b x.start = true) (fun ps h => swr h) h
theorem Try.rdWr : RdsC Try.prog 42 3 SWr := RdsC.struct3 Try.underlying42 Try.rdInt Try.rdInt Try.rdSecs rfl rfl rfl (by kernel_rfl)
theorem Try.rdWrs : RdsC Try.prog 38 1 SWrs := RdsC.list Try.underlying38 (by kernel_rfl) Try.rdWr (by decide) (fun _ _ _ => rfl)
end Go.Proofs.Ytldnpgbacakfeaa.V

namespace Go.Proofs.Ytldnpgbacakfeaa
set_option linter.all false

def Ok1 (P : Program) (f : Nat) : VDef → Prop
  | .code fn => fnOk P f fn = true
  | .ext g => ∀ args rs, g args = some rs → callable P f = true ∧ CallOk P f args rs
theorem ok3 : Ok1 Try.prog 3 (.code fn3) := (by kernel_rfl : fnOk Try.prog 3 fn3 = true)
theorem ok4 : Ok1 Try.prog 4 (.code fn4) := (by kernel_rfl : fnOk Try.prog 4 fn4 = true)
theorem ok5 : Ok1 Try.prog 5 (.code fn5) := (by kernel_rfl : fnOk Try.prog 5 fn5 = true)
theorem ok6 : Ok1 Try.prog 6 (.code fn6) := (by kernel_rfl : fnOk Try.prog 6 fn6 = true)
theorem ok7 : Ok1 Try.prog 7 (.code fn7) := (by kernel_rfl : fnOk Try.prog 7 fn7 = true)
theorem ok8 : Ok1 Try.prog 8 (.code fn8) := (by kernel_rfl : fnOk Try.prog 8 fn8 = true)
theorem ok9 : Ok1 Try.prog 9 (.code fn9) := (by kernel_rfl : fnOk Try.prog 9 fn9 = true)
theorem ok10 : Ok1 Try.prog 10 (.code fn10) := (by kernel_rfl : fnOk Try.prog 10 fn10 = true)
theorem ok11 : Ok1 Try.prog 11 (.code fn11) := (by kernel_rfl : fnOk Try.prog 11 fn11 = true)
theorem ok12 : Ok1 Try.prog 12 (.code fn12) := (by kernel_rfl : fnOk Try.prog 12 fn12 = true)
theorem ok13 : Ok1 Try.prog 13 (.code fn13) := (by kernel_rfl : fnOk Try.prog 13 fn13 = true)
theorem ok14 : Ok1 Try.prog 14 (.code fn14) := (by kernel_rfl : fnOk Try.prog 14 fn14 = true)
theorem ok15 : Ok1 Try.prog 15 (.code fn15) := (by kernel_rfl : fnOk Try.prog 15 fn15 = true)
theorem ok16 : Ok1 Try.prog 16 (.code fn16) := (by kernel_rfl : fnOk Try.prog 16 fn16 = true)
theorem ok17 : Ok1 Try.prog 17 (.code fn17) := (by kernel_rfl : fnOk Try.prog 17 fn17 = true)
theorem ok18 : Ok1 Try.prog 18 (.code fn18) := (by kernel_rfl : fnOk Try.prog 18 fn18 = true)
theorem ok19 : Ok1 Try.prog 19 (.code fn19) := (by kernel_rfl : fnOk Try.prog 19 fn19 = true)
theorem ok20 : Ok1 Try.prog 20 (.code fn20) := (by kernel_rfl : fnOk Try.prog 20 fn20 = true)
theorem ok21 : Ok1 Try.prog 21 (.code fn21) := (by kernel_rfl : fnOk Try.prog 21 fn21 = true)
theorem ok22 : Ok1 Try.prog 22 (.code fn22) := (by kernel_rfl : fnOk Try.prog 22 fn22 = true)
theorem ok23 : Ok1 Try.prog 23 (.ext applyX) := applyI_ok
theorem ok24 : Ok1 Try.prog 24 (.code fn24) := (by kernel_rfl : fnOk Try.prog 24 fn24 = true)
theorem ok25 : Ok1 Try.prog 25 (.code fn25) := (by kernel_rfl : fnOk Try.prog 25 fn25 = true)
theorem ok26 : Ok1 Try.prog 26 (.code fn26) := (by kernel_rfl : fnOk Try.prog 26 fn26 = true)
theorem ok27 : Ok1 Try.prog 27 (.code fn27) := (by kernel_rfl : fnOk Try.prog 27 fn27 = true)
theorem ok28 : Ok1 Try.prog 28 (.code fn28) := (by kernel_rfl : fnOk Try.prog 28 fn28 = true)
theorem ok29 : Ok1 Try.prog 29 (.code fn29) := (by kernel_rfl : fnOk Try.prog 29 fn29 = true)
theorem ok30 : Ok1 Try.prog 30 (.code fn30) := (by kernel_rfl : fnOk Try.prog 30 fn30 = true)
theorem ok31 : Ok1 Try.prog 31 (.code fn31) := (by kernel_rfl : fnOk Try.prog 31 fn31 = true)
theorem ok32 : Ok1 Try.prog 32 (.code fn32) := (by kernel_rfl : fnOk Try.prog 32 fn32 = true)
theorem ok33 : Ok1 Try.prog 33 (.code fn33) := (by kernel_rfl : fnOk Try.prog 33 fn33 = true)
theorem ok34 : Ok1 Try.prog 34 (.code fn34) := (by kernel_rfl : fnOk Try.prog 34 fn34 = true)
theorem ok35 : Ok1 Try.prog 35 (.code fn35) := (by kernel_rfl : fnOk Try.prog 35 fn35 = true)
theorem ok36 : Ok1 Try.prog 36 (.code fn36) := (by kernel_rfl : fnOk Try.prog 36 fn36 = true)
theorem ok37 : Ok1 Try.prog 37 (.code fn37) := (by kernel_rfl : fnOk Try.prog 37 fn37 = true)
theorem ok38 : Ok1 Try.prog 38 (.code fn38) := (by kernel_rfl : fnOk Try.prog 38 fn38 = true)
theorem ok39 : Ok1 Try.prog 39 (.code fn39) := (by kernel_rfl : fnOk Try.prog 39 fn39 = true)
theorem ok40 : Ok1 Try.prog 40 (.code fn40) := (by kernel_rfl : fnOk Try.prog 40 fn40 = true)
theorem ok41 : Ok1 Try.prog 41 (.code fn41) := (by kernel_rfl : fnOk Try.prog 41 fn41 = true)
theorem ok42 : Ok1 Try.prog 42 (.code fn42) := (by kernel_rfl : fnOk Try.prog 42 fn42 = true)
theorem ok43 : Ok1 Try.prog 43 (.code fn43) := (by kernel_rfl : fnOk Try.prog 43 fn43 = true)
theorem ok44 : Ok1 Try.prog 44 (.code fn44) := (by kernel_rfl : fnOk Try.prog 44 fn44 = true)
theorem ok45 : Ok1 Try.prog 45 (.code fn45) := (by kernel_rfl : fnOk Try.prog 45 fn45 = true)
theorem ok46 : Ok1 Try.prog 46 (.code fn46) := (by kernel_rfl : fnOk Try.prog 46 fn46 = true)
theorem ok47 : Ok1 Try.prog 47 (.code fn47) := (by kernel_rfl : fnOk Try.prog 47 fn47 = true)
theorem ok48 : Ok1 Try.prog 48 (.code fn48) := (by kernel_rfl : fnOk Try.prog 48 fn48 = true)
theorem ok49 : Ok1 Try.prog 49 (.code fn49) := (by kernel_rfl : fnOk Try.prog 49 fn49 = true)
theorem ok50 : Ok1 Try.prog 50 (.code fn50) := (by kernel_rfl : fnOk Try.prog 50 fn50 = true)
theorem ok51 : Ok1 Try.prog 51 (.code fn51) := (by kernel_rfl : fnOk Try.prog 51 fn51 = true)
theorem ok52 : Ok1 Try.prog 52 (.code fn52) := (by kernel_rfl : fnOk Try.prog 52 fn52 = true)
theorem ok53 : Ok1 Try.prog 53 (.code fn53) := (by kernel_rfl : fnOk Try.prog 53 fn53 = true)
theorem ok54 : Ok1 Try.prog 54 (.code fn54) := (by kernel_rfl : fnOk Try.prog 54 fn54 = true)
theorem ok55 : Ok1 Try.prog 55 (.code fn55) := (by kernel_rfl : fnOk Try.prog 55 fn55 = true)
theorem ok56 : Ok1 Try.prog 56 (.code fn56) := (by kernel_rfl : fnOk Try.prog 56 fn56 = true)
theorem ok57 : Ok1 Try.prog 57 (.code fn57) := (by kernel_rfl : fnOk Try.prog 57 fn57 = true)
theorem ok58 : Ok1 Try.prog 58 (.ext (cloneX 8)) := clone58_ok
theorem ok59 : Ok1 Try.prog 59 (.code fn59) := (by kernel_rfl : fnOk Try.prog 59 fn59 = true)
theorem ok60 : Ok1 Try.prog 60 (.code fn60) := (by kernel_rfl : fnOk Try.prog 60 fn60 = true)
theorem ok61 : Ok1 Try.prog 61 (.code fn61) := (by kernel_rfl : fnOk Try.prog 61 fn61 = true)
theorem ok62 : Ok1 Try.prog 62 (.code fn62) := (by kernel_rfl : fnOk Try.prog 62 fn62 = true)
theorem ok63 : Ok1 Try.prog 63 (.code fn63) := (by kernel_rfl : fnOk Try.prog 63 fn63 = true)
theorem ok64 : Ok1 Try.prog 64 (.code fn64) := (by kernel_rfl : fnOk Try.prog 64 fn64 = true)
theorem ok65 : Ok1 Try.prog 65 (.code fn65) := (by kernel_rfl : fnOk Try.prog 65 fn65 = true)
theorem ok66 : Ok1 Try.prog 66 (.code fn66) := (by kernel_rfl : fnOk Try.prog 66 fn66 = true)
theorem ok67 : Ok1 Try.prog 67 (.code fn67) := (by kernel_rfl : fnOk Try.prog 67 fn67 = true)
theorem ok68 : Ok1 Try.prog 68 (.code fn68) := (by kernel_rfl : fnOk Try.prog 68 fn68 = true)
theorem ok69 : Ok1 Try.prog 69 (.code fn69) := (by kernel_rfl : fnOk Try.prog 69 fn69 = true)
theorem ok70 : Ok1 Try.prog 70 (.code fn70) := (by kernel_rfl : fnOk Try.prog 70 fn70 = true)
theorem ok71 : Ok1 Try.prog 71 (.code fn71) := (by kernel_rfl : fnOk Try.prog 71 fn71 = true)
theorem ok72 : Ok1 Try.prog 72 (.code fn72) := (by kernel_rfl : fnOk Try.prog 72 fn72 = true)
theorem ok73 : Ok1 Try.prog 73 (.code fn73) := (by kernel_rfl : fnOk Try.prog 73 fn73 = true)
theorem ok74 : Ok1 Try.prog 74 (.code fn74) := (by kernel_rfl : fnOk Try.prog 74 fn74 = true)
theorem ok75 : Ok1 Try.prog 75 (.code fn75) := (by kernel_rfl : fnOk Try.prog 75 fn75 = true)
theorem ok76 : Ok1 Try.prog 76 (.code fn76) := (by kernel_rfl : fnOk Try.prog 76 fn76 = true)
theorem ok77 : Ok1 Try.prog 77 (.code fn77) := (by kernel_rfl : fnOk Try.prog 77 fn77 = true)
theorem ok78 : Ok1 Try.prog 78 (.code fn78) := (by kernel_rfl : fnOk Try.prog 78 fn78 = true)
theorem ok79 : Ok1 Try.prog 79 (.code fn79) := (by kernel_rfl : fnOk Try.prog 79 fn79 = true)
theorem ok80 : Ok1 Try.prog 80 (.code fn80) := (by kernel_rfl : fnOk Try.prog 80 fn80 = true)
theorem ok81 : Ok1 Try.prog 81 (.code fn81) := (by kernel_rfl : fnOk Try.prog 81 fn81 = true)
theorem tabOk : ∀ p ∈ tab, Ok1 Try.prog p.1 p.2 := by
  unfold tab
  exact List.forall_mem_cons.2 ⟨ok3, List.forall_mem_cons.2 ⟨ok4, List.forall_mem_cons.2 ⟨ok5, List.forall_mem_cons.2 ⟨ok6, List.forall_mem_cons.2 ⟨ok7, List.forall_mem_cons.2 ⟨ok8, List.forall_mem_cons.2 ⟨ok9, List.forall_mem_cons.2 ⟨ok10, List.forall_mem_cons.2 ⟨ok11, List.forall_mem_cons.2 ⟨ok12, List.forall_mem_cons.2 ⟨ok13, List.forall_mem_cons.2 ⟨ok14, List.forall_mem_cons.2 ⟨ok15, List.forall_mem_cons.2 ⟨ok16, List.forall_mem_cons.2 ⟨ok17, List.forall_mem_cons.2 ⟨ok18, List.forall_mem_cons.2 ⟨ok19, List.forall_mem_cons.2 ⟨ok20, List.forall_mem_cons.2 ⟨ok21, List.forall_mem_cons.2 ⟨ok22, List.forall_mem_cons.2 ⟨ok23, List.forall_mem_cons.2 ⟨ok24, List.forall_mem_cons.2 ⟨ok25, List.forall_mem_cons.2 ⟨ok26, List.forall_mem_cons.2 ⟨ok27, List.forall_mem_cons.2 ⟨ok28, List.forall_mem_cons.2 ⟨ok29, List.forall_mem_cons.2 ⟨ok30, List.forall_mem_cons.2 ⟨ok31, List.forall_mem_cons.2 ⟨ok32, List.forall_mem_cons.2 ⟨ok33, List.forall_mem_cons.2 ⟨ok34, List.forall_mem_cons.2 ⟨ok35, List.forall_mem_cons.2 ⟨ok36, List.forall_mem_cons.2 ⟨ok37, List.forall_mem_cons.2 ⟨ok38, List.forall_mem_cons.2 ⟨ok39, List.forall_mem_cons.2 ⟨ok40, List.forall_mem_cons.2 ⟨ok41, List.forall_mem_cons.2 ⟨ok42, List.forall_mem_cons.2 ⟨ok43, List.forall_mem_cons.2 ⟨ok44, List.forall_mem_cons.2 ⟨ok45, List.forall_mem_cons.2 ⟨ok46, List.forall_mem_cons.2 ⟨ok47, List.forall_mem_cons.2 ⟨ok48, List.forall_mem_cons.2 ⟨ok49, List.forall_mem_cons.2 ⟨ok50, List.forall_mem_cons.2 ⟨ok51, List.forall_mem_cons.2 ⟨ok52, List.forall_mem_cons.2 ⟨ok53, List.forall_mem_cons.2 ⟨ok54, List.forall_mem_cons.2 ⟨ok55, List.forall_mem_cons.2 ⟨ok56, List.forall_mem_cons.2 ⟨ok57, List.forall_mem_cons.2 ⟨ok58, List.forall_mem_cons.2 ⟨ok59, List.forall_mem_cons.2 ⟨ok60, List.forall_mem_cons.2 ⟨ok61, List.forall_mem_cons.2 ⟨ok62, List.forall_mem_cons.2 ⟨ok63, List.forall_mem_cons.2 ⟨ok64, List.forall_mem_cons.2 ⟨ok65, List.forall_mem_cons.2 ⟨ok66, List.forall_mem_cons.2 ⟨ok67, List.forall_mem_cons.2 ⟨ok68, List.forall_mem_cons.2 ⟨ok69, List.forall_mem_cons.2 ⟨ok70, List.forall_mem_cons.2 ⟨ok71, List.forall_mem_cons.2 ⟨ok72, List.forall_mem_cons.2 ⟨ok73, List.forall_mem_cons.2 ⟨ok74, List.forall_mem_cons.2 ⟨ok75, List.forall_mem_cons.2 ⟨ok76, List.forall_mem_cons.2 ⟨ok77, List.forall_mem_cons.2 ⟨ok78, List.forall_mem_cons.2 ⟨ok79, List.forall_mem_cons.2 ⟨ok80, List.forall_mem_cons.2 ⟨ok81, fun p hp => by cases hp⟩⟩⟩⟩⟩⟩⟩⟩⟩⟩⟩⟩⟩⟩⟩⟩⟩⟩⟩⟩⟩⟩⟩⟩⟩⟩⟩⟩⟩⟩⟩⟩⟩⟩⟩⟩⟩⟩⟩⟩⟩⟩⟩⟩⟩⟩⟩⟩⟩⟩⟩⟩⟩⟩⟩⟩⟩⟩⟩⟩⟩⟩⟩⟩⟩⟩⟩⟩⟩⟩⟩⟩⟩⟩⟩⟩⟩⟩⟩
theorem lookup_mem : ∀ {l : List (Nat × VDef)} {f : Nat} {d : VDef}, l.lookup f = some d → (f, d) ∈ l
  | (k, v) :: l, f, d, h => by
    rw [List.lookup_cons] at h
    split at h
    · rename_i e
      have e : f = k := by simpa using e
      cases h; subst e; simp
    · exact List.mem_cons_of_mem _ (lookup_mem h)
theorem envOk : EnvOk Try.prog env := fun f d h => by
  have := tabOk _ (lookup_mem h)
  cases d <;> exact this
end Go.Proofs.Ytldnpgbacakfeaa

namespace Go.Proofs.Ytldnpgbacakfeaa
open Go.RowKit Go.ChangeShapes Go.WideShapes Go.ChangeAt V
set_option linter.all false

set_option maxRecDepth 100000 in
theorem imageSteps_lifted (os : Os) (started : os.Started) (H : Type) (enc : TypeId × Value → H) :
    ReturnsInHanded {} Try.checked os 6 .any (Rows.imageStepsSpec.pre6 enc Try.prog Try.f6 Rows.imageStepsRow.domain false) (Rows.imageStepsSpec.post enc Try.prog Try.f6 false true false false) := by
  refine returnsInHanded_of_change (C := Try.checked) Try.ownKnobV started (by kernel_rfl) Try.func6
    (ChangeSpec.witness6 (enc := enc) (C := Try.checked) false ⟨#[], #[.slice none 0 0, .slice none 0 0, .int .u8 0], []⟩ 8 (by kernel_rfl) (by kernel_rfl) (by kernel_rfl) (by kernel_rfl)) ?_
  intro W base args ds gs before hval0 hW _ _
  have hval : ∀ (j : Nat) t v, Try.f6.params[j]? = some t → args[j]? = some v → Value.okWide Try.prog W .any base t v := hval0
  have hW' := hW
  obtain ⟨p, q, hA0, hV, rfl, _, _⟩ := hW
  have hA : DataW.TrodAll enc Try.prog W 0 (fun _ => true) true Try.f6.params.toList args.toList ds p := hA0
  rw [Try.params6] at hA hval
  obtain ⟨v0, v1, v2, d0, d1, d2, p0, p1, p2, rfl, rfl, rfl, h0, h1, h2⟩ := trodAll_three hA
  obtain ⟨rfl, rfl⟩ := trodVars_none hV
  obtain ⟨q0, s0, r0⟩ := arg_slice Try.underlying24 Try.rdImg (hval 0 24 v0 rfl rfl) h0
  obtain ⟨x0, rfl⟩ := simg s0
  obtain ⟨q1, s1, r1⟩ := arg_slice Try.underlying38 Try.rdWrs (hval 1 38 v1 rfl rfl) h1
  obtain ⟨x1, o1, rfl⟩ := swrs s1
  obtain ⟨q2, s2, r2⟩ := arg_int Try.underlying5 Try.rdU8 (hval 2 5 v2 rfl rfl) h2
  obtain ⟨x2, o2, rfl⟩ := su8 s2
  clear hA0 hval0
  simp only [List.append_nil, List.append_assoc] at hW'
  have hlt : ∀ x ∈ p0 ++ (p1 ++ p2), x.block < W.heap.size := fun x hx => by simpa using hW'.lt x hx
  refine (calls_all (vs := [v0, v1, v2]) envOk (cal6 o1 o2) ⟨r0, r1, r2, trivial⟩).mono fun e W' ⟨he, hB⟩ => ?_
  subst he
  exact ⟨_, rfl, _, _, _, [], _, [], hW', trodAll_mk1 (shut_bool Try.underlying4 _), trodAll_mk3 (Below.trod Try.laidOutV (by kernel_rfl) (of_decide_eq_true (by kernel_rfl)) h0 hB (fun x hx => hlt x (List.mem_append_left _ hx))) (Below.trod Try.laidOutV (by kernel_rfl) (of_decide_eq_true (by kernel_rfl)) h1 hB (fun x hx => hlt x (List.mem_append_right _ (List.mem_append_left _ hx)))) (Below.trod Try.laidOutV (by kernel_rfl) (of_decide_eq_true (by kernel_rfl)) h2 hB (fun x hx => hlt x (List.mem_append_right _ (List.mem_append_right _ hx)))), rfl, hB.frame _, fun h => by cases h⟩

theorem imageSteps_holds : Rows.ImageStepsSaid :=
  OpenClaim.holds_of_wide 6 Try.f6 rfl rfl rfl rfl rfl rfl rfl ⟨rfl, rfl, rfl, rfl, rfl⟩ rfl rfl rfl rfl rfl (by kernel_rfl) Try.func6 (by kernel_rfl)
    (of_decide_eq_true (by kernel_rfl)) (by unfold Func.isWrapper; first | (rw [if_pos (by decide +kernel)]; kernel_rfl) | (rw [if_neg (by decide +kernel)]; exact ⟨rfl, rfl⟩))
    (fun os started H enc _ => imageSteps_lifted os started H enc)
end Go.Proofs.Ytldnpgbacakfeaa

namespace Go.Proofs.Ytldnpgbacakfeaa.V
set_option linter.all false

theorem take_snoc' {α : Type} {l : List α} {i : Nat} (h : i < l.length) : l.take (i + 1) = l.take i ++ [l[i]] := by
  rw [List.take_add_one, List.getElem?_eq_getElem h]; rfl
def getS (im : Img) (v s : Nat) : Sec := (im.getD v []).getD s zSec
def hit (w : Wrt) (v s : Nat) : Bool := decide (w.volume = (v : Int)) && (decide (w.start ≤ (s : Int)) && decide ((s : Int) - w.start < w.data.length))
def wantStep (v s : Nat) (x : Sec) (w : Wrt) : Sec := if hit w v s then w.data.getD ((s : Int) - w.start).toNat zSec else x
def wantOf (v s : Nat) (l : List Wrt) (x : Sec) : Sec := l.foldl (wantStep v s) x
theorem wrErr_facts {im : Img} {w : Wrt} (h : wrErr (szsOf im) w = 0) : 0 ≤ w.volume ∧ w.volume < (im.length : Int) ∧ 0 < w.data.length ∧ 0 ≤ w.start ∧ w.start + w.data.length ≤ ((im.getD w.volume.toNat []).length : Int) := by
  unfold wrErr at h
  have hl : (szsOf im).length = im.length := by simp [szsOf]
  rw [hl] at h
  split at h
  · omega
  · rename_i h1
    split at h
    · omega
    · rename_i h2
      split at h
      · omega
      · rename_i h3
        have h4 : w.volume.toNat < im.length := by omega
        have e : (szsOf im).getD w.volume.toNat 0 = ((im.getD w.volume.toNat []).length : Int) := by
          simp only [szsOf, List.getD_eq_getElem?_getD, List.getElem?_map, List.getElem?_eq_getElem h4, Option.map_some, Option.getD_some]
        rw [e] at h3
        exact ⟨by omega, by omega, by omega, by omega, by omega⟩
theorem putAt_len {l d : List Sec} {s : Nat} (h : s + d.length ≤ l.length) : (putAt l s d).length = l.length := by
  unfold putAt; simp; omega
theorem putAt_get {l d : List Sec} {s k : Nat} (h : s + d.length ≤ l.length) (hk : k < l.length) : (putAt l s d).getD k zSec = if s ≤ k ∧ k < s + d.length then d.getD (k - s) zSec else l.getD k zSec := by
  have h1 : (l.take s).length = s := by rw [List.length_take]; omega
  simp only [putAt, List.getD_eq_getElem?_getD]
  by_cases c1 : k < s
  · rw [List.append_assoc, List.getElem?_append_left (by omega), if_neg (by omega), List.getElem?_take_of_lt c1]
  · by_cases c2 : k < s + d.length
    · rw [List.append_assoc, List.getElem?_append_right (by omega), h1, List.getElem?_append_left (by omega), if_pos (by omega)]
    · rw [List.getElem?_append_right (by simp; omega), if_neg (by omega)]
      simp only [List.length_append, h1, List.getElem?_drop]
      congr 2; omega
theorem put1_get {im : Img} {w : Wrt} {v s : Nat} (h : wrErr (szsOf im) w = 0) (hv : v < im.length) (hs : s < (im.getD v []).length) : getS (put1 im w) v s = wantStep v s (getS im v s) w := by
  obtain ⟨h1, h2, h3, h4, h5⟩ := wrErr_facts h
  unfold getS put1 wantStep hit
  by_cases e : w.volume.toNat = v
  · subst e
    have : (im.set w.volume.toNat (putAt (im.getD w.volume.toNat []) w.start.toNat w.data)).getD w.volume.toNat [] = putAt (im.getD w.volume.toNat []) w.start.toNat w.data := by
      simp [List.getD_eq_getElem?_getD, List.getElem?_set, hv]
    rw [this, putAt_get (by omega) hs]
    have ev : decide (w.volume = ((w.volume.toNat : Nat) : Int)) = true := by simp; omega
    rw [ev, Bool.true_and]
    by_cases c : w.start.toNat ≤ s ∧ s < w.start.toNat + w.data.length
    · rw [if_pos c, decide_eq_true (show w.start ≤ (s : Int) by omega), decide_eq_true (show (s : Int) - w.start < w.data.length by omega)]
      simp only [Bool.and_self, if_true]
      congr 1; omega
    · rw [if_neg c]
      by_cases c1 : w.start ≤ (s : Int)
      · rw [decide_eq_true c1, decide_eq_false (show ¬ (s : Int) - w.start < w.data.length by omega)]; rfl
      · rw [decide_eq_false c1]; rfl
  · have : (im.set w.volume.toNat (putAt (im.getD w.volume.toNat []) w.start.toNat w.data)).getD v [] = im.getD v [] := by
      simp [List.getD_eq_getElem?_getD, List.getElem?_set, e]
    rw [this, decide_eq_false (show ¬ w.volume = (v : Int) by omega)]
    rfl
theorem szs_getD {a b : Img} (h : szsOf a = szsOf b) (v : Nat) : (a.getD v []).length = (b.getD v []).length ∧ a.length = b.length := by
  obtain ⟨h1, h2⟩ := sizes_inj (a := a) (b := b) h
  refine ⟨?_, h1⟩
  by_cases hv : v < a.length
  · rw [getD_lt hv, getD_lt (show v < b.length by omega)]; exact h2 v hv (by omega)
  · simp [List.getD_eq_getElem?_getD, List.getElem?_eq_none (show a.length ≤ v by omega), List.getElem?_eq_none (show b.length ≤ v by omega)]
theorem puts_get : ∀ (l : List Wrt) (im : Img) (i : Nat), (wrErrs (szsOf im) l i).2 = 0 → ∀ {v s : Nat}, v < im.length → s < (im.getD v []).length → getS (l.foldl put1 im) v s = wantOf v s l (getS im v s)
  | [], _, _, _, _, _, _, _ => rfl
  | w :: l, im, i, h, v, s, hv, hs => by
    unfold wrErrs at h
    split at h
    · rename_i h2; exact absurd h h2
    · rename_i h2
      have h2 : wrErr (szsOf im) w = 0 := by omega
      have e := wrErr_ok h2
      obtain ⟨q1, q2⟩ := szs_getD e v
      rw [List.foldl_cons, puts_get l (put1 im w) (i + 1) (by rw [e]; exact h) (by omega) (by omega), put1_get h2 hv hs]
      rfl
theorem all_fit : ∀ (l : List Wrt) (im : Img) (i : Nat), (wrErrs (szsOf im) l i).2 = 0 → ∀ w ∈ l, wrErr (szsOf im) w = 0
  | [], _, _, _, w, hw => by cases hw
  | x :: l, im, i, h, w, hw => by
    unfold wrErrs at h
    split at h
    · rename_i h2; exact absurd h h2
    · rename_i h2
      rcases List.mem_cons.1 hw with rfl | hw
      · omega
      · exact all_fit l im (i + 1) h w hw
set_option maxHeartbeats 2000000 in
theorem loopw5 {im a : Img} {l : List Wrt} {v s : Nat} {x : Sec} {n m j : PV} (hl : l.length ≤ lim) (hs : s ≤ 1000) (hfit : ∀ w ∈ l, 0 ≤ w.start ∧ w.data.length ≤ 1000)
   {st : St} (h : st.head [1, 5, 6, 9, 10, 11, 24, 29, 52, 53, 71, 72, 82, 83, 84] st.boxes.length = some ⟨[.any, .pv (.list 3 (l.map eWr)), .any, .any, .any, .row 1 (im.map eSecs), .pv (.list 1 (a.map eSecs)), .any, .any, .pv (.int .i64 (v : Int)), .pv (.int .i64 (s : Int)), .pbox 0 0, .any, .any, .any, .any, .any, .any, .any, .any, .any, .any, .any, .any, .any, .any, .any, .any, .any, .pv (.list 1 (a.map eSecs)), .any, .any, .any, .any, .any, .any, .any, .any, .any, .any, .any, .any, .any, .any, .any, .any, .any, .any, .any, .any, .any, .any, .pv n, .pv (.int .i64 (v : Int)), .any, .any, .any, .any, .any, .any, .any, .any, .any, .any, .any, .any, .any, .any, .any, .any, .any, .pv m, .pv j, .any, .any, .any, .any, .any, .any, .any, .any, .any, .pv (.list 3 (l.map eWr)), .pv (.int .i64 l.length), .pv (.int .i64 (0 : Nat)), .any, .any, .any, .any, .any, .any, .any, .any, .any, .any, .any, .any, .any, .any, .any, .any, .any, .any, .any, .any, .any, .any, .any, .any, .any, .any, .any, .any, .any, .any, .any, .any, .any, .any, .any, .any, .any, .any, .any, .any, .any, .any, .any, .any], [⟨false, (secPV x).map BV.pv⟩], [], none⟩) :
   den env fn5_l1 st = some (.normal, ⟨[.any, .pv (.list 3 (l.map eWr)), .any, .any, .any, .row 1 (im.map eSecs), .pv (.list 1 (a.map eSecs)), .any, .any, .pv (.int .i64 (v : Int)), .pv (.int .i64 (s : Int)), .pbox 0 0, .any, .any, .any, .any, .any, .any, .any, .any, .any, .any, .any, .any, .any, .any, .any, .any, .any, .pv (.list 1 (a.map eSecs)), .any, .any, .any, .any, .any, .any, .any, .any, .any, .any, .any, .any, .any, .any, .any, .any, .any, .any, .any, .any, .any, .any, .pv n, .pv (.int .i64 (v : Int)), .any, .any, .any, .any, .any, .any, .any, .any, .any, .any, .any, .any, .any, .any, .any, .any, .any, .pv m, .pv j, .any, .any, .any, .any, .any, .any, .any, .any, .any, .any, .any, .any, .any, .any, .any, .any, .any, .any, .any, .any, .any, .any, .any, .any, .any, .any, .any, .any, .any, .any, .any, .any, .any, .any, .any, .any, .any, .any, .any, .any, .any, .any, .any, .any, .any, .any, .any, .any, .any, .any, .any, .any, .any, .any, .any, .any], [⟨false, (secPV (wantOf v s l x)).map BV.pv⟩], [], none⟩) := by
  unfold fn5_l1
  refine clean_up (env := env) l.length (fun k => ⟨[.any, .pv (.list 3 (l.map eWr)), .any, .any, .any, .row 1 (im.map eSecs), .pv (.list 1 (a.map eSecs)), .any, .any, .pv (.int .i64 (v : Int)), .pv (.int .i64 (s : Int)), .pbox 0 0, .any, .any, .any, .any, .any, .any, .any, .any, .any, .any, .any, .any, .any, .any, .any, .any, .any, .pv (.list 1 (a.map eSecs)), .any, .any, .any, .any, .any, .any, .any, .any, .any, .any, .any, .any, .any, .any, .any, .any, .any, .any, .any, .any, .any, .any, .pv n, .pv (.int .i64 (v : Int)), .any, .any, .any, .any, .any, .any, .any, .any, .any, .any, .any, .any, .any, .any, .any, .any, .any, .pv m, .pv j, .any, .any, .any, .any, .any, .any, .any, .any, .any, .pv (.list 3 (l.map eWr)), .pv (.int .i64 l.length), .pv (.int .i64 k), .any, .any, .any, .any, .any, .any, .any, .any, .any, .any, .any, .any, .any, .any, .any, .any, .any, .any, .any, .any, .any, .any, .any, .any, .any, .any, .any, .any, .any, .any, .any, .any, .any, .any, .any, .any, .any, .any, .any, .any, .any, .any, .any, .any], [⟨false, (secPV (wantOf v s (l.take k) x)).map BV.pv⟩], [], none⟩)
    (fun k => some (.normal, ⟨[.any, .pv (.list 3 (l.map eWr)), .any, .any, .any, .row 1 (im.map eSecs), .pv (.list 1 (a.map eSecs)), .any, .any, .pv (.int .i64 (v : Int)), .pv (.int .i64 (s : Int)), .pbox 0 0, .any, .any, .any, .any, .any, .any, .any, .any, .any, .any, .any, .any, .any, .any, .any, .any, .any, .pv (.list 1 (a.map eSecs)), .any, .any, .any, .any, .any, .any, .any, .any, .any, .any, .any, .any, .any, .any, .any, .any, .any, .any, .any, .any, .any, .any, .pv n, .pv (.int .i64 (v : Int)), .any, .any, .any, .any, .any, .any, .any, .any, .any, .any, .any, .any, .any, .any, .any, .any, .any, .pv m, .pv j, .any, .any, .any, .any, .any, .any, .any, .any, .any, .any, .any, .any, .any, .any, .any, .any, .any, .any, .any, .any, .any, .any, .any, .any, .any, .any, .any, .any, .any, .any, .any, .any, .any, .any, .any, .any, .any, .any, .any, .any, .any, .any, .any, .any, .any, .any, .any, .any, .any, .any, .any, .any, .any, .any, .any, .any], [⟨false, (secPV (wantOf v s l x)).map BV.pv⟩], [], none⟩)) h (fun _ => rfl) (fun _ => rfl) ?_ ?_
  · intro k rb hi ih
    have hi1 := i64_next hi hl
    have F1 : ((k : Int) < (l.length : Int)) = True := eq_true (by omega)
    obtain ⟨f1, f2⟩ := hfit _ (List.getElem_mem hi)
    have hw : wantOf v s (l.take (k + 1)) x = wantStep v s (wantOf v s (l.take k) x) l[k] := by
      rw [take_snoc' hi, wantOf, List.foldl_append]; rfl
    have hk : l[k]? = some l[k] := List.getElem?_eq_getElem hi
    generalize wantOf v s (l.take k) x = y at hw ih
    generalize l[k] = w at *
    obtain ⟨wv, ws, wd⟩ := w
    simp only at f1 f2
    have len8 : ∀ z : Sec, ((secPV z).map BV.pv).length = 8 := fun z => by simp [secPV]
    have part8 : ∀ z : Sec, (List.map BV.pv (secPV z)).take 0 = [] := fun z => rfl
    by_cases c1 : wv = (v : Int)
    · have G1 : (wv == (v : Int)) = true := by simpa using c1
      by_cases c2 : ws ≤ (s : Int)
      · have G2 : ((s : Int) ≥ ws) = True := eq_true c2
        have G3 : IntKind.i64.wrap ((s : Int) - ws) = (s : Int) - ws := i64_fits (by omega)
        by_cases c3 : (s : Int) - ws < wd.length
        · have G4 : ((s : Int) - ws < (wd.length : Int)) = True := eq_true c3
          have h0 : ((s : Int) - ws).toNat < wd.length := by omega
          have G5 := index_int (k := .i64) (show 0 ≤ (s : Int) - ws by omega) c3
          have G6 : ((secPV wd[((s : Int) - ws).toNat]).map BV.pv).length = 8 := len8 _
          have hst : wantStep v s y ⟨wv, ws, wd⟩ = wd[((s : Int) - ws).toNat] := by
            simp only [wantStep, hit, decide_eq_true c1, decide_eq_true c2, decide_eq_true c3, Bool.and_self, if_true, getD_lt h0]
          rw [hst] at hw
          have G7 : List.drop 8 (List.map BV.pv (secPV y)) = [] := List.drop_eq_nil_of_le (by rw [len8]; exact Nat.le_refl _)
          simp only [fn5_b0, F1, G1, G2, G3, G4, G5, G7, eWr, eSec, index_nat hi, hk, List.getElem?_map, Option.map_some, List.getElem?_eq_getElem h0, part_sec, secPV_length, len8, val_pvs, frozen_pvs, msnoc_len, msnoc_get, msnoc_set, msnoc_take, Int.le_refl, take_map_all, Nat.le_refl, St.freezeRows, BV.frozen, List.take_length, List.take_append_drop, z_repl_zero, Int.toNat_zero, true_and, and_true, and_self, eq_self, z_take_zero, List.drop_nil, List.take_nil, vAll, List.foldl_nil, List.foldl_cons, resultsOf, resultList, resultOf, zBV, splice, PV.remade, St.freezeAt, St.freezeBox, PV.single, plain, act, dstOf, if_true, if_false, reduceCtorEq, St.get, St.put, St.pvOf, St.putRow, St.consume, St.freeze, St.row, St.elems, St.grab, St.takeRow, St.setRow, St.place, St.optPv, St.setCell, St.setCellRow, binPV, intBin, unPV, BV.val, Nat.reduceEqDiff, bound, consumeAll, buildParts, capsOf, capOf, List.append_nil, Nat.reduceAdd, Nat.reduceLT, Nat.reduceLeDiff, beq_self_eq_true, List.length_map, Nat.beq, dcall, dcallP, List.mapM_cons, St.snapFn, St.snap, St.layAll, St.lay, St.freezeArg, St.freezeArg1]
          rw [ih _ (by simp only [hi1]; rw [hw]; rfl)]
        · have G4 : ((s : Int) - ws < (wd.length : Int)) = False := eq_false c3
          have hst : wantStep v s y ⟨wv, ws, wd⟩ = y := by
            simp only [wantStep, hit, decide_eq_false c3, Bool.and_false, Bool.false_eq_true, if_false]
          rw [hst] at hw
          simp only [fn5_b0, F1, G1, G2, G3, G4, eWr, eSec, index_nat hi, hk, List.getElem?_map, Option.map_some, val_pvs, frozen_pvs, msnoc_len, msnoc_get, msnoc_set, msnoc_take, Int.le_refl, take_map_all, Nat.le_refl, St.freezeRows, BV.frozen, List.take_length, List.take_append_drop, z_repl_zero, Int.toNat_zero, true_and, and_true, and_self, eq_self, z_take_zero, List.drop_nil, List.take_nil, vAll, List.foldl_nil, List.foldl_cons, resultsOf, resultList, resultOf, zBV, splice, PV.remade, St.freezeAt, St.freezeBox, PV.single, plain, act, dstOf, if_true, if_false, reduceCtorEq, St.get, St.put, St.pvOf, St.putRow, St.consume, St.freeze, St.row, St.elems, St.grab, St.takeRow, St.setRow, St.place, St.optPv, St.setCell, St.setCellRow, binPV, intBin, unPV, BV.val, Nat.reduceEqDiff, bound, consumeAll, buildParts, capsOf, capOf, List.append_nil, Nat.reduceAdd, Nat.reduceLT, Nat.reduceLeDiff, beq_self_eq_true, List.length_map, Nat.beq, dcall, dcallP, List.mapM_cons, St.snapFn, St.snap, St.layAll, St.lay, St.freezeArg, St.freezeArg1]
          rw [ih _ (by simp only [hi1]; rw [hw]; rfl)]
      · have G2 : ((s : Int) ≥ ws) = False := eq_false (by omega)
        have hst : wantStep v s y ⟨wv, ws, wd⟩ = y := by
          simp only [wantStep, hit, decide_eq_false c2, Bool.and_false, Bool.false_and, Bool.false_eq_true, if_false]
        rw [hst] at hw
        simp only [fn5_b0, F1, G1, G2, eWr, eSec, index_nat hi, hk, List.getElem?_map, Option.map_some, val_pvs, frozen_pvs, msnoc_len, msnoc_get, msnoc_set, msnoc_take, Int.le_refl, take_map_all, Nat.le_refl, St.freezeRows, BV.frozen, List.take_length, List.take_append_drop, z_repl_zero, Int.toNat_zero, true_and, and_true, and_self, eq_self, z_take_zero, List.drop_nil, List.take_nil, vAll, List.foldl_nil, List.foldl_cons, resultsOf, resultList, resultOf, zBV, splice, PV.remade, St.freezeAt, St.freezeBox, PV.single, plain, act, dstOf, if_true, if_false, reduceCtorEq, St.get, St.put, St.pvOf, St.putRow, St.consume, St.freeze, St.row, St.elems, St.grab, St.takeRow, St.setRow, St.place, St.optPv, St.setCell, St.setCellRow, binPV, intBin, unPV, BV.val, Nat.reduceEqDiff, bound, consumeAll, buildParts, capsOf, capOf, List.append_nil, Nat.reduceAdd, Nat.reduceLT, Nat.reduceLeDiff, beq_self_eq_true, List.length_map, Nat.beq, dcall, dcallP, List.mapM_cons, St.snapFn, St.snap, St.layAll, St.lay, St.freezeArg, St.freezeArg1]
        rw [ih _ (by simp only [hi1]; rw [hw]; rfl)]
    · have G1 : (wv == (v : Int)) = false := by simpa using c1
      have hst : wantStep v s y ⟨wv, ws, wd⟩ = y := by
        simp only [wantStep, hit, decide_eq_false c1, Bool.false_and, Bool.false_eq_true, if_false]
      rw [hst] at hw
      simp only [fn5_b0, F1, G1, eWr, eSec, index_nat hi, hk, List.getElem?_map, Option.map_some, val_pvs, frozen_pvs, msnoc_len, msnoc_get, msnoc_set, msnoc_take, Int.le_refl, take_map_all, Nat.le_refl, St.freezeRows, BV.frozen, List.take_length, List.take_append_drop, z_repl_zero, Int.toNat_zero, true_and, and_true, and_self, eq_self, z_take_zero, List.drop_nil, List.take_nil, vAll, List.foldl_nil, List.foldl_cons, resultsOf, resultList, resultOf, zBV, splice, PV.remade, St.freezeAt, St.freezeBox, PV.single, plain, act, dstOf, if_true, if_false, reduceCtorEq, St.get, St.put, St.pvOf, St.putRow, St.consume, St.freeze, St.row, St.elems, St.grab, St.takeRow, St.setRow, St.place, St.optPv, St.setCell, St.setCellRow, binPV, intBin, unPV, BV.val, Nat.reduceEqDiff, bound, consumeAll, buildParts, capsOf, capOf, List.append_nil, Nat.reduceAdd, Nat.reduceLT, Nat.reduceLeDiff, beq_self_eq_true, List.length_map, Nat.beq, dcall, dcallP, List.mapM_cons, St.snapFn, St.snap, St.layAll, St.lay, St.freezeArg, St.freezeArg1]
      rw [ih _ (by simp only [hi1]; rw [hw]; rfl)]
  · intro rb
    simp only [fn5_b0, Int.lt_irrefl, List.take_length, val_pvs, frozen_pvs, msnoc_len, msnoc_get, msnoc_set, msnoc_take, Int.le_refl, take_map_all, Nat.le_refl, St.freezeRows, BV.frozen, List.take_length, List.take_append_drop, z_repl_zero, Int.toNat_zero, true_and, and_true, and_self, eq_self, z_take_zero, List.drop_nil, List.take_nil, vAll, List.foldl_nil, List.foldl_cons, resultsOf, resultList, resultOf, zBV, splice, PV.remade, St.freezeAt, St.freezeBox, PV.single, plain, act, dstOf, if_true, if_false, reduceCtorEq, St.get, St.put, St.pvOf, St.putRow, St.consume, St.freeze, St.row, St.elems, St.grab, St.takeRow, St.setRow, St.place, St.optPv, St.setCell, St.setCellRow, binPV, intBin, unPV, BV.val, Nat.reduceEqDiff, bound, consumeAll, buildParts, capsOf, capOf, List.append_nil, Nat.reduceAdd, Nat.reduceLT, Nat.reduceLeDiff, beq_self_eq_true, List.length_map, Nat.beq, dcall, dcallP, List.mapM_cons, St.snapFn, St.snap, St.layAll, St.lay, St.freezeArg, St.freezeArg1]
    rfl
set_option maxHeartbeats 2000000 in
theorem loopq5 {im a : Img} {l : List Wrt} {v : Nat} {n : PV} (hl : l.length ≤ lim) (hv : v < im.length) (hva : v < a.length) (h1000 : im[v].length ≤ 1000) (hva2 : a[v].length = im[v].length) (hfit : ∀ w ∈ l, 0 ≤ w.start ∧ w.data.length ≤ 1000) (hok : ∀ s (h : s < im[v].length) (h2 : s < a[v].length), a[v][s] = wantOf v s l im[v][s])
   {st : St} (h : st.head [1, 5, 6, 9, 24, 29, 52, 53, 71, 72] st.boxes.length = some ⟨[.any, .pv (.list 3 (l.map eWr)), .any, .any, .any, .row 1 (im.map eSecs), .pv (.list 1 (a.map eSecs)), .any, .any, .pv (.int .i64 (v : Int)), .any, .any, .any, .any, .any, .any, .any, .any, .any, .any, .any, .any, .any, .any, .any, .any, .any, .any, .any, .pv (.list 1 (a.map eSecs)), .any, .any, .any, .any, .any, .any, .any, .any, .any, .any, .any, .any, .any, .any, .any, .any, .any, .any, .any, .any, .any, .any, .pv n, .pv (.int .i64 (v : Int)), .any, .any, .any, .any, .any, .any, .any, .any, .any, .any, .any, .any, .any, .any, .any, .any, .any, .pv (.int .i64 (im[v].length : Int)), .pv (.int .i64 (0 : Nat)), .any, .any, .any, .any, .any, .any, .any, .any, .any, .any, .any, .any, .any, .any, .any, .any, .any, .any, .any, .any, .any, .any, .any, .any, .any, .any, .any, .any, .any, .any, .any, .any, .any, .any, .any, .any, .any, .any, .any, .any, .any, .any, .any, .any, .any, .any, .any, .any, .any, .any, .any, .any, .any, .any, .any, .any], [], [], none⟩) :
   den env fn5_l3 st = some (.normal, ⟨[.any, .pv (.list 3 (l.map eWr)), .any, .any, .any, .row 1 (im.map eSecs), .pv (.list 1 (a.map eSecs)), .any, .any, .any, .any, .any, .any, .any, .any, .any, .any, .any, .any, .any, .any, .any, .any, .any, .any, .any, .any, .any, .any, .pv (.list 1 (a.map eSecs)), .any, .any, .any, .any, .any, .any, .any, .any, .any, .any, .any, .any, .any, .any, .any, .any, .any, .any, .any, .any, .any, .any, .pv n, .pv (.int .i64 (v : Int)), .any, .any, .any, .any, .any, .any, .any, .any, .any, .any, .any, .any, .any, .any, .any, .any, .any, .any, .any, .any, .any, .any, .any, .any, .any, .any, .any, .any, .any, .any, .any, .any, .any, .any, .any, .any, .any, .any, .any, .any, .any, .any, .any, .any, .any, .any, .any, .any, .any, .any, .any, .any, .any, .any, .any, .any, .any, .any, .any, .any, .any, .any, .any, .any, .any, .any, .any, .any, .any, .any, .any, .any, .any, .any, .any], [], [], none⟩) := by
  unfold fn5_l3
  have hlim : lim = 1073741824 := rfl
  refine clean_up (env := env) im[v].length (fun s => ⟨[.any, .pv (.list 3 (l.map eWr)), .any, .any, .any, .row 1 (im.map eSecs), .pv (.list 1 (a.map eSecs)), .any, .any, .pv (.int .i64 (v : Int)), .any, .any, .any, .any, .any, .any, .any, .any, .any, .any, .any, .any, .any, .any, .any, .any, .any, .any, .any, .pv (.list 1 (a.map eSecs)), .any, .any, .any, .any, .any, .any, .any, .any, .any, .any, .any, .any, .any, .any, .any, .any, .any, .any, .any, .any, .any, .any, .pv n, .pv (.int .i64 (v : Int)), .any, .any, .any, .any, .any, .any, .any, .any, .any, .any, .any, .any, .any, .any, .any, .any, .any, .pv (.int .i64 (im[v].length : Int)), .pv (.int .i64 s), .any, .any, .any, .any, .any, .any, .any, .any, .any, .any, .any, .any, .any, .any, .any, .any, .any, .any, .any, .any, .any, .any, .any, .any, .any, .any, .any, .any, .any, .any, .any, .any, .any, .any, .any, .any, .any, .any, .any, .any, .any, .any, .any, .any, .any, .any, .any, .any, .any, .any, .any, .any, .any, .any, .any, .any], [], [], none⟩)
    (fun _ => some (.normal, ⟨[.any, .pv (.list 3 (l.map eWr)), .any, .any, .any, .row 1 (im.map eSecs), .pv (.list 1 (a.map eSecs)), .any, .any, .any, .any, .any, .any, .any, .any, .any, .any, .any, .any, .any, .any, .any, .any, .any, .any, .any, .any, .any, .any, .pv (.list 1 (a.map eSecs)), .any, .any, .any, .any, .any, .any, .any, .any, .any, .any, .any, .any, .any, .any, .any, .any, .any, .any, .any, .any, .any, .any, .pv n, .pv (.int .i64 (v : Int)), .any, .any, .any, .any, .any, .any, .any, .any, .any, .any, .any, .any, .any, .any, .any, .any, .any, .any, .any, .any, .any, .any, .any, .any, .any, .any, .any, .any, .any, .any, .any, .any, .any, .any, .any, .any, .any, .any, .any, .any, .any, .any, .any, .any, .any, .any, .any, .any, .any, .any, .any, .any, .any, .any, .any, .any, .any, .any, .any, .any, .any, .any, .any, .any, .any, .any, .any, .any, .any, .any, .any, .any, .any, .any, .any], [], [], none⟩)) h (fun _ => rfl) (fun _ => rfl) ?_ ?_
  · intro s rb hi ih
    have hi1 := i64_next hi (by omega)
    have F1 : ((s : Int) < (im[v].length : Int)) = True := eq_true (by omega)
    have hsa : s < a[v].length := by omega
    have hvv : im[v]? = some im[v] := List.getElem?_eq_getElem hv
    have hva' : a[v]? = some a[v] := List.getElem?_eq_getElem hva
    have hss : im[v][s]? = some im[v][s] := List.getElem?_eq_getElem hi
    have hsa' : a[v][s]? = some a[v][s] := List.getElem?_eq_getElem hsa
    have e := hok s hi hsa
    simp only [fn5_b2, F1, eSecs, eSec, index_nat hv, index_nat hva, index_nat hi, index_nat hsa, hvv, hss, List.getElem?_map, Option.map_some, part_sec, secPV_length, val_pvs, frozen_pvs, msnoc_len, msnoc_get, msnoc_set, msnoc_take, Int.le_refl, take_map_all, Nat.le_refl, St.freezeRows, BV.frozen, List.take_length, List.take_append_drop, z_repl_zero, Int.toNat_zero, true_and, and_true, and_self, eq_self, z_take_zero, List.drop_nil, List.take_nil, vAll, List.foldl_nil, List.foldl_cons, resultsOf, resultList, resultOf, zBV, splice, PV.remade, St.freezeAt, St.freezeBox, PV.single, plain, act, dstOf, if_true, if_false, reduceCtorEq, St.get, St.put, St.pvOf, St.putRow, St.consume, St.freeze, St.row, St.elems, St.grab, St.takeRow, St.setRow, St.place, St.optPv, St.setCell, St.setCellRow, binPV, intBin, unPV, BV.val, Nat.reduceEqDiff, bound, consumeAll, buildParts, capsOf, capOf, List.append_nil, Nat.reduceAdd, Nat.reduceLT, Nat.reduceLeDiff, beq_self_eq_true, List.length_map, Nat.beq, dcall, dcallP, List.mapM_cons, St.snapFn, St.snap, St.layAll, St.lay, St.freezeArg, St.freezeArg1]
    rw [loopw5 (im := im) (a := a) (l := l) (v := v) (s := s) (x := im[v][s]) (n := n) (m := .int .i64 (im[v].length : Int)) (j := .int .i64 (s : Int)) hl (by omega) hfit]
    rotate_left
    · rfl
    · simp only [eSecs, eSec, index_nat hv, index_nat hva, index_nat hi, index_nat hsa, hva', hsa', List.getElem?_map, Option.map_some, part_sec, secPV_length, e, eqCells_sec, decide_true, val_pvs, frozen_pvs, msnoc_len, msnoc_get, msnoc_set, msnoc_take, Int.le_refl, take_map_all, Nat.le_refl, St.freezeRows, BV.frozen, List.take_length, List.take_append_drop, z_repl_zero, Int.toNat_zero, true_and, and_true, and_self, eq_self, z_take_zero, List.drop_nil, List.take_nil, vAll, List.foldl_nil, List.foldl_cons, resultsOf, resultList, resultOf, zBV, splice, PV.remade, St.freezeAt, St.freezeBox, PV.single, plain, act, dstOf, if_true, if_false, reduceCtorEq, St.get, St.put, St.pvOf, St.putRow, St.consume, St.freeze, St.row, St.elems, St.grab, St.takeRow, St.setRow, St.place, St.optPv, St.setCell, St.setCellRow, binPV, intBin, unPV, BV.val, Nat.reduceEqDiff, bound, consumeAll, buildParts, capsOf, capOf, List.append_nil, Nat.reduceAdd, Nat.reduceLT, Nat.reduceLeDiff, beq_self_eq_true, List.length_map, Nat.beq, dcall, dcallP, List.mapM_cons, St.snapFn, St.snap, St.layAll, St.lay, St.freezeArg, St.freezeArg1]
      rw [ih _ (by simp only [hi1]; rfl)]
  · intro rb
    simp only [fn5_b2, Int.lt_irrefl, val_pvs, frozen_pvs, msnoc_len, msnoc_get, msnoc_set, msnoc_take, Int.le_refl, take_map_all, Nat.le_refl, St.freezeRows, BV.frozen, List.take_length, List.take_append_drop, z_repl_zero, Int.toNat_zero, true_and, and_true, and_self, eq_self, z_take_zero, List.drop_nil, List.take_nil, vAll, List.foldl_nil, List.foldl_cons, resultsOf, resultList, resultOf, zBV, splice, PV.remade, St.freezeAt, St.freezeBox, PV.single, plain, act, dstOf, if_true, if_false, reduceCtorEq, St.get, St.put, St.pvOf, St.putRow, St.consume, St.freeze, St.row, St.elems, St.grab, St.takeRow, St.setRow, St.place, St.optPv, St.setCell, St.setCellRow, binPV, intBin, unPV, BV.val, Nat.reduceEqDiff, bound, consumeAll, buildParts, capsOf, capOf, List.append_nil, Nat.reduceAdd, Nat.reduceLT, Nat.reduceLeDiff, beq_self_eq_true, List.length_map, Nat.beq, dcall, dcallP, List.mapM_cons, St.snapFn, St.snap, St.layAll, St.lay, St.freezeArg, St.freezeArg1]
    rfl
set_option maxHeartbeats 2000000 in
theorem loopv5 {im a : Img} {l : List Wrt} (hl : l.length ≤ lim) (hii : im.length ≤ 1000) (h1000 : ∀ v ∈ im, v.length ≤ 1000) (hsz : imSizes a = imSizes im) (hfit : ∀ w ∈ l, 0 ≤ w.start ∧ w.data.length ≤ 1000) (hok : ∀ v (hv : v < im.length) (hva : v < a.length) s (h : s < im[v].length) (h2 : s < a[v].length), a[v][s] = wantOf v s l im[v][s])
   {st : St} (h : st.head [1, 5, 6, 24, 29, 52, 53] st.boxes.length = some ⟨[.any, .pv (.list 3 (l.map eWr)), .any, .any, .any, .row 1 (im.map eSecs), .pv (.list 1 (a.map eSecs)), .any, .any, .any, .any, .any, .any, .any, .any, .any, .any, .any, .any, .any, .any, .any, .any, .any, .any, .any, .any, .any, .any, .pv (.list 1 (a.map eSecs)), .any, .any, .any, .any, .any, .any, .any, .any, .any, .any, .any, .any, .any, .any, .any, .any, .any, .any, .any, .any, .any, .any, .pv (.int .i64 (im.length : Int)), .pv (.int .i64 (0 : Nat)), .any, .any, .any, .any, .any, .any, .any, .any, .any, .any, .any, .any, .any, .any, .any, .any, .any, .any, .any, .any, .any, .any, .any, .any, .any, .any, .any, .any, .any, .any, .any, .any, .any, .any, .any, .any, .any, .any, .any, .any, .any, .any, .any, .any, .any, .any, .any, .any, .any, .any, .any, .any, .any, .any, .any, .any, .any, .any, .any, .any, .any, .any, .any, .any, .any, .any, .any, .any, .any, .any, .any, .any, .any, .any, .any], [], [], none⟩) :
   den env fn5_l5 st = some (.normal, ⟨[.any, .any, .any, .any, .any, .any, .any, .any, .any, .any, .any, .any, .any, .any, .any, .any, .any, .any, .any, .any, .any, .any, .any, .any, .any, .any, .any, .any, .any, .any, .any, .any, .any, .any, .any, .any, .any, .any, .any, .any, .any, .any, .any, .any, .any, .any, .any, .any, .any, .any, .any, .any, .any, .any, .any, .any, .any, .any, .any, .any, .any, .any, .any, .any, .any, .any, .any, .any, .any, .any, .any, .any, .any, .any, .any, .any, .any, .any, .any, .any, .any, .any, .any, .any, .any, .any, .any, .any, .any, .any, .any, .any, .any, .any, .any, .any, .any, .any, .any, .any, .any, .any, .any, .any, .any, .any, .any, .any, .any, .any, .any, .any, .any, .any, .any, .any, .any, .any, .any, .any, .any, .any, .any, .any, .any, .any, .any, .any, .any], [], [], none⟩) := by
  unfold fn5_l5
  have hlim : lim = 1073741824 := rfl
  obtain ⟨z1, z2⟩ := sizes_inj hsz
  refine clean_up (env := env) im.length (fun v => ⟨[.any, .pv (.list 3 (l.map eWr)), .any, .any, .any, .row 1 (im.map eSecs), .pv (.list 1 (a.map eSecs)), .any, .any, .any, .any, .any, .any, .any, .any, .any, .any, .any, .any, .any, .any, .any, .any, .any, .any, .any, .any, .any, .any, .pv (.list 1 (a.map eSecs)), .any, .any, .any, .any, .any, .any, .any, .any, .any, .any, .any, .any, .any, .any, .any, .any, .any, .any, .any, .any, .any, .any, .pv (.int .i64 (im.length : Int)), .pv (.int .i64 v), .any, .any, .any, .any, .any, .any, .any, .any, .any, .any, .any, .any, .any, .any, .any, .any, .any, .any, .any, .any, .any, .any, .any, .any, .any, .any, .any, .any, .any, .any, .any, .any, .any, .any, .any, .any, .any, .any, .any, .any, .any, .any, .any, .any, .any, .any, .any, .any, .any, .any, .any, .any, .any, .any, .any, .any, .any, .any, .any, .any, .any, .any, .any, .any, .any, .any, .any, .any, .any, .any, .any, .any, .any, .any, .any], [], [], none⟩) (fun _ => some (.normal, ⟨[.any, .any, .any, .any, .any, .any, .any, .any, .any, .any, .any, .any, .any, .any, .any, .any, .any, .any, .any, .any, .any, .any, .any, .any, .any, .any, .any, .any, .any, .any, .any, .any, .any, .any, .any, .any, .any, .any, .any, .any, .any, .any, .any, .any, .any, .any, .any, .any, .any, .any, .any, .any, .any, .any, .any, .any, .any, .any, .any, .any, .any, .any, .any, .any, .any, .any, .any, .any, .any, .any, .any, .any, .any, .any, .any, .any, .any, .any, .any, .any, .any, .any, .any, .any, .any, .any, .any, .any, .any, .any, .any, .any, .any, .any, .any, .any, .any, .any, .any, .any, .any, .any, .any, .any, .any, .any, .any, .any, .any, .any, .any, .any, .any, .any, .any, .any, .any, .any, .any, .any, .any, .any, .any, .any, .any, .any, .any, .any, .any], [], [], none⟩)) h (fun _ => rfl) (fun _ => rfl) ?_ ?_
  · intro v rb hi ih
    have hi1 := i64_next hi (by omega)
    have F1 : ((v : Int) < (im.length : Int)) = True := eq_true (by omega)
    have hva : v < a.length := by omega
    have hvv : im[v]? = some im[v] := List.getElem?_eq_getElem hi
    have hva' : a[v]? = some a[v] := List.getElem?_eq_getElem hva
    have F2 : (((a[v].length : Int)) != (im[v].length : Int)) = false := by simp; have := z2 v hva hi; omega
    simp only [fn5_b4, F1, F2, eSecs, index_nat hi, index_nat hva, hvv, hva', List.getElem?_map, Option.map_some, val_pvs, frozen_pvs, msnoc_len, msnoc_get, msnoc_set, msnoc_take, Int.le_refl, take_map_all, Nat.le_refl, St.freezeRows, BV.frozen, List.take_length, List.take_append_drop, z_repl_zero, Int.toNat_zero, true_and, and_true, and_self, eq_self, z_take_zero, List.drop_nil, List.take_nil, vAll, List.foldl_nil, List.foldl_cons, resultsOf, resultList, resultOf, zBV, splice, PV.remade, St.freezeAt, St.freezeBox, PV.single, plain, act, dstOf, if_true, if_false, reduceCtorEq, St.get, St.put, St.pvOf, St.putRow, St.consume, St.freeze, St.row, St.elems, St.grab, St.takeRow, St.setRow, St.place, St.optPv, St.setCell, St.setCellRow, binPV, intBin, unPV, BV.val, Nat.reduceEqDiff, bound, consumeAll, buildParts, capsOf, capOf, List.append_nil, Nat.reduceAdd, Nat.reduceLT, Nat.reduceLeDiff, beq_self_eq_true, List.length_map, Nat.beq, dcall, dcallP, List.mapM_cons, St.snapFn, St.snap, St.layAll, St.lay, St.freezeArg, St.freezeArg1]
    rw [loopq5 (im := im) (a := a) (l := l) (v := v) (n := .int .i64 (im.length : Int)) hl hi hva (h1000 _ (List.getElem_mem hi)) (z2 v hva hi) hfit (fun s h h2 => hok v hi hva s h h2)]
    rotate_left
    · rfl
    · simp only [val_pvs, frozen_pvs, msnoc_len, msnoc_get, msnoc_set, msnoc_take, Int.le_refl, take_map_all, Nat.le_refl, St.freezeRows, BV.frozen, List.take_length, List.take_append_drop, z_repl_zero, Int.toNat_zero, true_and, and_true, and_self, eq_self, z_take_zero, List.drop_nil, List.take_nil, vAll, List.foldl_nil, List.foldl_cons, resultsOf, resultList, resultOf, zBV, splice, PV.remade, St.freezeAt, St.freezeBox, PV.single, plain, act, dstOf, if_true, if_false, reduceCtorEq, St.get, St.put, St.pvOf, St.putRow, St.consume, St.freeze, St.row, St.elems, St.grab, St.takeRow, St.setRow, St.place, St.optPv, St.setCell, St.setCellRow, binPV, intBin, unPV, BV.val, Nat.reduceEqDiff, bound, consumeAll, buildParts, capsOf, capOf, List.append_nil, Nat.reduceAdd, Nat.reduceLT, Nat.reduceLeDiff, beq_self_eq_true, List.length_map, Nat.beq, dcall, dcallP, List.mapM_cons, St.snapFn, St.snap, St.layAll, St.lay, St.freezeArg, St.freezeArg1]
      rw [ih _ (by simp only [hi1]; rfl)]
  · intro rb
    simp only [fn5_b4, Int.lt_irrefl, val_pvs, frozen_pvs, msnoc_len, msnoc_get, msnoc_set, msnoc_take, Int.le_refl, take_map_all, Nat.le_refl, St.freezeRows, BV.frozen, List.take_length, List.take_append_drop, z_repl_zero, Int.toNat_zero, true_and, and_true, and_self, eq_self, z_take_zero, List.drop_nil, List.take_nil, vAll, List.foldl_nil, List.foldl_cons, resultsOf, resultList, resultOf, zBV, splice, PV.remade, St.freezeAt, St.freezeBox, PV.single, plain, act, dstOf, if_true, if_false, reduceCtorEq, St.get, St.put, St.pvOf, St.putRow, St.consume, St.freeze, St.row, St.elems, St.grab, St.takeRow, St.setRow, St.place, St.optPv, St.setCell, St.setCellRow, binPV, intBin, unPV, BV.val, Nat.reduceEqDiff, bound, consumeAll, buildParts, capsOf, capOf, List.append_nil, Nat.reduceAdd, Nat.reduceLT, Nat.reduceLeDiff, beq_self_eq_true, List.length_map, Nat.beq, dcall, dcallP, List.mapM_cons, St.snapFn, St.snap, St.layAll, St.lay, St.freezeArg, St.freezeArg1]
    rfl
end Go.Proofs.Ytldnpgbacakfeaa.V

namespace Go.Proofs.Ytldnpgbacakfeaa.V
set_option linter.all false
theorem loop25 {im : Img} (hl : im.length ≤ lim) (hr : ∀ v ∈ im, v.length ≤ lim) {st : St} (h : st.head [0, 3, 4, 20] st.boxes.length = some ⟨[.pv (.list 1 (im.map eSecs)), .any, .any, .row 1 ((im.take (0 : Nat)).map eSecs), .pv (.int .i64 (0 : Nat)), .any, .any, .any, .any, .any, .any, .any, .any, .any, .any, .any, .any, .any, .any, .any, .any, .any], [], [], none⟩) :
   den env fn25_l1 st = some (.normal, ⟨[.any, .any, .any, .row 1 (im.map eSecs), .any, .any, .any, .any, .any, .any, .any, .any, .any, .any, .any, .any, .any, .any, .any, .any, .any, .any], [], [], none⟩) := by
  unfold fn25_l1
  refine clean_up (env := env) (im.length) (fun i => ⟨[.pv (.list 1 (im.map eSecs)), .any, .any, .row 1 ((im.take i).map eSecs), .pv (.int .i64 i), .any, .any, .any, .any, .any, .any, .any, .any, .any, .any, .any, .any, .any, .any, .any, .any, .any], [], [], none⟩) (fun i => some (.normal, ⟨[.any, .any, .any, .row 1 (im.map eSecs), .any, .any, .any, .any, .any, .any, .any, .any, .any, .any, .any, .any, .any, .any, .any, .any, .any, .any], [], [], none⟩)) h (fun _ => rfl) (fun _ => rfl) ?_ ?_
  · intro i rb hi ih

    have hi1 := i64_next hi hl
    have F1 : ((i : Int) < (im.length : Int)) = True := eq_true (by omega)
    have F2 : ((im.take i).length + 1 ≤ lim) = True := eq_true (by rw [List.length_take]; omega)
    have F3 : (im[i].length ≤ lim) = True := eq_true (hr _ (List.getElem_mem hi))
    simp only [fn25_b0, F1, F2, F3, eSecs, index_nat hi, List.getElem?_map, List.getElem?_eq_getElem hi, Option.map_some, val_pvs, frozen_pvs, msnoc_len, msnoc_get, msnoc_set, msnoc_take, Int.le_refl, take_map_all, Nat.le_refl, St.freezeRows, BV.frozen, List.take_length, List.take_append_drop, z_repl_zero, Int.toNat_zero, true_and, and_true, and_self, eq_self, z_take_zero, List.drop_nil, List.take_nil, vAll, List.foldl_nil, List.foldl_cons, resultsOf, resultList, resultOf, zBV, splice, PV.remade, St.freezeAt, St.freezeBox, PV.single, plain, act, dstOf, if_true, if_false, reduceCtorEq, St.get, St.put, St.pvOf, St.putRow, St.consume, St.freeze, St.row, St.elems, St.grab, St.takeRow, St.setRow, St.place, St.optPv, St.setCell, St.setCellRow, binPV, intBin, unPV, BV.val, Nat.reduceEqDiff, bound, consumeAll, buildParts, capsOf, capOf, List.append_nil, Nat.reduceAdd, Nat.reduceLT, Nat.reduceLeDiff, beq_self_eq_true, List.length_map, Nat.beq, dcall, dcallP, List.mapM_cons, St.snapFn, St.snap, St.layAll, St.lay, St.freezeArg, St.freezeArg1]
    rw [ih _ (by simp only [hi1]; rw [← take_map_succ _ hi]; rfl)]
  · intro rb

    simp only [fn25_b0, Int.lt_irrefl, List.take_length, val_pvs, frozen_pvs, msnoc_len, msnoc_get, msnoc_set, msnoc_take, Int.le_refl, take_map_all, Nat.le_refl, St.freezeRows, BV.frozen, List.take_length, List.take_append_drop, z_repl_zero, Int.toNat_zero, true_and, and_true, and_self, eq_self, z_take_zero, List.drop_nil, List.take_nil, vAll, List.foldl_nil, List.foldl_cons, resultsOf, resultList, resultOf, zBV, splice, PV.remade, St.freezeAt, St.freezeBox, PV.single, plain, act, dstOf, if_true, if_false, reduceCtorEq, St.get, St.put, St.pvOf, St.putRow, St.consume, St.freeze, St.row, St.elems, St.grab, St.takeRow, St.setRow, St.place, St.optPv, St.setCell, St.setCellRow, binPV, intBin, unPV, BV.val, Nat.reduceEqDiff, bound, consumeAll, buildParts, capsOf, capOf, List.append_nil, Nat.reduceAdd, Nat.reduceLT, Nat.reduceLeDiff, beq_self_eq_true, List.length_map, Nat.beq, dcall, dcallP, List.mapM_cons, St.snapFn, St.snap, St.layAll, St.lay, St.freezeArg, St.freezeArg1]
    rfl

theorem cal25 {im : Img} (hl : im.length ≤ lim) (hr : ∀ v ∈ im, v.length ≤ lim) : cal env 25 [.list 1 (im.map eSecs)] = some [(.list 1 (im.map eSecs), true)] := by
  rw [cal_code env25 rfl]; simp only [fn25]; simp only [start, z_map_cons, z_map_nil, z_len_cons, z_len_nil, z_repl_zero, z_repl_succ, z_cons_app, z_nil_app, Nat.reduceAdd, Nat.reduceSub]
  simp only [ val_pvs, frozen_pvs, msnoc_len, msnoc_get, msnoc_set, msnoc_take, Int.le_refl, take_map_all, Nat.le_refl, St.freezeRows, BV.frozen, List.take_length, List.take_append_drop, z_repl_zero, Int.toNat_zero, true_and, and_true, and_self, eq_self, z_take_zero, List.drop_nil, List.take_nil, vAll, List.foldl_nil, List.foldl_cons, resultsOf, resultList, resultOf, zBV, splice, PV.remade, St.freezeAt, St.freezeBox, PV.single, plain, act, dstOf, if_true, if_false, reduceCtorEq, St.get, St.put, St.pvOf, St.putRow, St.consume, St.freeze, St.row, St.elems, St.grab, St.takeRow, St.setRow, St.place, St.optPv, St.setCell, St.setCellRow, binPV, intBin, unPV, BV.val, Nat.reduceEqDiff, bound, consumeAll, buildParts, capsOf, capOf, List.append_nil, Nat.reduceAdd, Nat.reduceLT, Nat.reduceLeDiff, beq_self_eq_true, List.length_map, Nat.beq, dcall, dcallP, List.mapM_cons, St.snapFn, St.snap, St.layAll, St.lay, St.freezeArg, St.freezeArg1]
  rw [loop25 hl hr]
  rotate_left
  · rfl
  · simp only [ val_pvs, frozen_pvs, msnoc_len, msnoc_get, msnoc_set, msnoc_take, Int.le_refl, take_map_all, Nat.le_refl, St.freezeRows, BV.frozen, List.take_length, List.take_append_drop, z_repl_zero, Int.toNat_zero, true_and, and_true, and_self, eq_self, z_take_zero, List.drop_nil, List.take_nil, vAll, List.foldl_nil, List.foldl_cons, resultsOf, resultList, resultOf, zBV, splice, PV.remade, St.freezeAt, St.freezeBox, PV.single, plain, act, dstOf, if_true, if_false, reduceCtorEq, St.get, St.put, St.pvOf, St.putRow, St.consume, St.freeze, St.row, St.elems, St.grab, St.takeRow, St.setRow, St.place, St.optPv, St.setCell, St.setCellRow, binPV, intBin, unPV, BV.val, Nat.reduceEqDiff, bound, consumeAll, buildParts, capsOf, capOf, List.append_nil, Nat.reduceAdd, Nat.reduceLT, Nat.reduceLeDiff, beq_self_eq_true, List.length_map, Nat.beq, dcall, dcallP, List.mapM_cons, St.snapFn, St.snap, St.layAll, St.lay, St.freezeArg, St.freezeArg1]
set_option maxHeartbeats 2000000 in
theorem cal5 {im : Img} {l : List Wrt} (hw : okW l) : cal env 5 [.list 1 (im.map eSecs), .list 3 (l.map eWr)] = some [(.bool true, false)] := by
  have e0 := cal11 (im := im)
  have e00 := cal20 (l := l)
  have e3 := calAwake
  by_cases hf : few7 im = true
  rotate_left
  · have hf : few7 im = false := by simpa using hf
    rw [hf] at e0
    rw [cal_code env5 rfl]; simp only [fn5]; simp only [start, z_map_cons, z_map_nil, z_len_cons, z_len_nil, z_repl_zero, z_repl_succ, z_cons_app, z_nil_app, Nat.reduceAdd, Nat.reduceSub]
    simp only [e0, e3, val_pvs, frozen_pvs, msnoc_len, msnoc_get, msnoc_set, msnoc_take, Int.le_refl, take_map_all, Nat.le_refl, St.freezeRows, BV.frozen, List.take_length, List.take_append_drop, z_repl_zero, Int.toNat_zero, true_and, and_true, and_self, eq_self, z_take_zero, List.drop_nil, List.take_nil, vAll, List.foldl_nil, List.foldl_cons, resultsOf, resultList, resultOf, zBV, splice, PV.remade, St.freezeAt, St.freezeBox, PV.single, plain, act, dstOf, if_true, if_false, reduceCtorEq, St.get, St.put, St.pvOf, St.putRow, St.consume, St.freeze, St.row, St.elems, St.grab, St.takeRow, St.setRow, St.place, St.optPv, St.setCell, St.setCellRow, binPV, intBin, unPV, BV.val, Nat.reduceEqDiff, bound, consumeAll, buildParts, capsOf, capOf, List.append_nil, Nat.reduceAdd, Nat.reduceLT, Nat.reduceLeDiff, beq_self_eq_true, List.length_map, Nat.beq, dcall, dcallP, List.mapM_cons, St.snapFn, St.snap, St.layAll, St.lay, St.freezeArg, St.freezeArg1]
  rw [hf] at e0
  by_cases hg : fewW l = true
  rotate_left
  · have hg : fewW l = false := by simpa using hg
    rw [hg] at e00
    rw [cal_code env5 rfl]; simp only [fn5]; simp only [start, z_map_cons, z_map_nil, z_len_cons, z_len_nil, z_repl_zero, z_repl_succ, z_cons_app, z_nil_app, Nat.reduceAdd, Nat.reduceSub]
    simp only [e0, e00, e3, val_pvs, frozen_pvs, msnoc_len, msnoc_get, msnoc_set, msnoc_take, Int.le_refl, take_map_all, Nat.le_refl, St.freezeRows, BV.frozen, List.take_length, List.take_append_drop, z_repl_zero, Int.toNat_zero, true_and, and_true, and_self, eq_self, z_take_zero, List.drop_nil, List.take_nil, vAll, List.foldl_nil, List.foldl_cons, resultsOf, resultList, resultOf, zBV, splice, PV.remade, St.freezeAt, St.freezeBox, PV.single, plain, act, dstOf, if_true, if_false, reduceCtorEq, St.get, St.put, St.pvOf, St.putRow, St.consume, St.freeze, St.row, St.elems, St.grab, St.takeRow, St.setRow, St.place, St.optPv, St.setCell, St.setCellRow, binPV, intBin, unPV, BV.val, Nat.reduceEqDiff, bound, consumeAll, buildParts, capsOf, capOf, List.append_nil, Nat.reduceAdd, Nat.reduceLT, Nat.reduceLeDiff, beq_self_eq_true, List.length_map, Nat.beq, dcall, dcallP, List.mapM_cons, St.snapFn, St.snap, St.layAll, St.lay, St.freezeArg, St.freezeArg1]
  rw [hg] at e00
  obtain ⟨hl, hr⟩ := few7_mil hf
  obtain ⟨hl9, hr24⟩ := few7_len hf
  obtain ⟨hl40, hd30⟩ := fewW_len hg
  have hlim : lim = 1073741824 := rfl
  have hrl : ∀ v ∈ im, v.length ≤ lim := fun v hv => by have := hr24 v hv; omega
  have a1 := cal23 hw hl hr
  have a2 := cal25 (im := im) (by omega) hrl
  have a3 := cal17 (a := im) (b := im) (by omega) hrl
  rw [decide_eq_true rfl] at a3
  by_cases he : apE im l = 0
  rotate_left
  · have k1 : (apE im l != 0) = true := by simpa using he
    have k2 : apO im l = [] := by unfold apO; rw [if_neg he]
    rw [k2] at a1
    simp only [List.map_nil] at a1
    have k3 : (((0 : Nat) : Int) == 0) = true := rfl
    rw [cal_code env5 rfl]; simp only [fn5]; simp only [start, z_map_cons, z_map_nil, z_len_cons, z_len_nil, z_repl_zero, z_repl_succ, z_cons_app, z_nil_app, Nat.reduceAdd, Nat.reduceSub]
    simp only [e0, e00, e3, a1, a2, k1, k3, val_pvs, frozen_pvs, msnoc_len, msnoc_get, msnoc_set, msnoc_take, Int.le_refl, take_map_all, Nat.le_refl, St.freezeRows, BV.frozen, List.take_length, List.take_append_drop, z_repl_zero, Int.toNat_zero, true_and, and_true, and_self, eq_self, z_take_zero, List.drop_nil, List.take_nil, vAll, List.foldl_nil, List.foldl_cons, resultsOf, resultList, resultOf, zBV, splice, PV.remade, St.freezeAt, St.freezeBox, PV.single, plain, act, dstOf, if_true, if_false, reduceCtorEq, St.get, St.put, St.pvOf, St.putRow, St.consume, St.freeze, St.row, St.elems, St.grab, St.takeRow, St.setRow, St.place, St.optPv, St.setCell, St.setCellRow, binPV, intBin, unPV, BV.val, Nat.reduceEqDiff, bound, consumeAll, buildParts, capsOf, capOf, List.append_nil, Nat.reduceAdd, Nat.reduceLT, Nat.reduceLeDiff, beq_self_eq_true, List.length_map, Nat.beq, dcall, dcallP, List.mapM_cons, St.snapFn, St.snap, St.layAll, St.lay, St.freezeArg, St.freezeArg1]
  have k1 : (apE im l != 0) = false := by simpa using he
  have hos := apO_sizes he
  have h0 := apE_szs he
  have hfit0 : (wrErrs (szsOf im) l 0).2 = 0 := by
    unfold apE at he
    rw [if_neg (by rw [h0]; simp)] at he
    exact he
  have hfit : ∀ w ∈ l, 0 ≤ w.start ∧ w.data.length ≤ 1000 := fun w h => ⟨(wrErr_facts (all_fit l im 0 hfit0 w h)).2.2.2.1, by have := hd30 w h; omega⟩
  have hl2 : (apO im l).length = im.length := (szs_getD hos 0).2
  have k4 : ((((apO im l).length : Int)) != (im.length : Int)) = false := by simp; omega
  have hO : apO im l = l.foldl put1 im := by unfold apO; rw [if_pos he]
  have hok : ∀ v (hv : v < im.length) (hva : v < (apO im l).length) s (h : s < im[v].length) (h2 : s < (apO im l)[v].length), (apO im l)[v][s] = wantOf v s l im[v][s] := fun v hv hva s h h2 => by
    have := puts_get l im 0 hfit0 hv (s := s) (by rw [getD_lt hv]; exact h)
    unfold getS at this
    rw [← hO, getD_lt hva, getD_lt h2, getD_lt hv, getD_lt h] at this
    exact this
  rw [cal_code env5 rfl]; simp only [fn5]; simp only [start, z_map_cons, z_map_nil, z_len_cons, z_len_nil, z_repl_zero, z_repl_succ, z_cons_app, z_nil_app, Nat.reduceAdd, Nat.reduceSub]
  simp only [e0, e00, e3, a1, a2, a3, k1, k4, val_pvs, frozen_pvs, msnoc_len, msnoc_get, msnoc_set, msnoc_take, Int.le_refl, take_map_all, Nat.le_refl, St.freezeRows, BV.frozen, List.take_length, List.take_append_drop, z_repl_zero, Int.toNat_zero, true_and, and_true, and_self, eq_self, z_take_zero, List.drop_nil, List.take_nil, vAll, List.foldl_nil, List.foldl_cons, resultsOf, resultList, resultOf, zBV, splice, PV.remade, St.freezeAt, St.freezeBox, PV.single, plain, act, dstOf, if_true, if_false, reduceCtorEq, St.get, St.put, St.pvOf, St.putRow, St.consume, St.freeze, St.row, St.elems, St.grab, St.takeRow, St.setRow, St.place, St.optPv, St.setCell, St.setCellRow, binPV, intBin, unPV, BV.val, Nat.reduceEqDiff, bound, consumeAll, buildParts, capsOf, capOf, List.append_nil, Nat.reduceAdd, Nat.reduceLT, Nat.reduceLeDiff, beq_self_eq_true, List.length_map, Nat.beq, dcall, dcallP, List.mapM_cons, St.snapFn, St.snap, St.layAll, St.lay, St.freezeArg, St.freezeArg1]
  rw [loopv5 (im := im) (a := apO im l) (l := l) (by omega) (by omega) (fun v hv => by have := hr24 v hv; omega) hos hfit hok]
  rotate_left
  · rfl
  · simp only [e0, e00, e3, a1, a2, a3, k1, k4, val_pvs, frozen_pvs, msnoc_len, msnoc_get, msnoc_set, msnoc_take, Int.le_refl, take_map_all, Nat.le_refl, St.freezeRows, BV.frozen, List.take_length, List.take_append_drop, z_repl_zero, Int.toNat_zero, true_and, and_true, and_self, eq_self, z_take_zero, List.drop_nil, List.take_nil, vAll, List.foldl_nil, List.foldl_cons, resultsOf, resultList, resultOf, zBV, splice, PV.remade, St.freezeAt, St.freezeBox, PV.single, plain, act, dstOf, if_true, if_false, reduceCtorEq, St.get, St.put, St.pvOf, St.putRow, St.consume, St.freeze, St.row, St.elems, St.grab, St.takeRow, St.setRow, St.place, St.optPv, St.setCell, St.setCellRow, binPV, intBin, unPV, BV.val, Nat.reduceEqDiff, bound, consumeAll, buildParts, capsOf, capOf, List.append_nil, Nat.reduceAdd, Nat.reduceLT, Nat.reduceLeDiff, beq_self_eq_true, List.length_map, Nat.beq, dcall, dcallP, List.mapM_cons, St.snapFn, St.snap, St.layAll, St.lay, St.freezeArg, St.freezeArg1]
end Go.Proofs.Ytldnpgbacakfeaa.V

namespace Go.Proofs.Ytldnpgbacakfeaa
open Go.RowKit Go.ChangeShapes Go.WideShapes Go.ChangeAt V
set_option linter.all false

set_option maxRecDepth 100000 in
theorem imageLast_lifted (os : Os) (started : os.Started) (H : Type) (enc : TypeId × Value → H) :
    ReturnsInHanded {} Try.checked os 5 .any (Rows.imageLastSpec.pre6 enc Try.prog Try.f5 Rows.imageLastRow.domain false) (Rows.imageLastSpec.post enc Try.prog Try.f5 false true false false) := by
  refine returnsInHanded_of_change (C := Try.checked) Try.ownKnobV started (by kernel_rfl) Try.func5
    (ChangeSpec.witness6 (enc := enc) (C := Try.checked) false ⟨#[], #[.slice none 0 0, .slice none 0 0], []⟩ 8 (by kernel_rfl) (by kernel_rfl) (by kernel_rfl) (by kernel_rfl)) ?_
  intro W base args ds gs before hval0 hW _ _
  have hval : ∀ (j : Nat) t v, Try.f5.params[j]? = some t → args[j]? = some v → Value.okWide Try.prog W .any base t v := hval0
  have hW' := hW
  obtain ⟨p, q, hA0, hV, rfl, _, _⟩ := hW
  have hA : DataW.TrodAll enc Try.prog W 0 (fun _ => true) true Try.f5.params.toList args.toList ds p := hA0
  rw [Try.params5] at hA hval
  obtain ⟨v0, v1, d0, d1, p0, p1, rfl, rfl, rfl, h0, h1⟩ := trodAll_two hA
  obtain ⟨rfl, rfl⟩ := trodVars_none hV
  obtain ⟨q0, s0, r0⟩ := arg_slice Try.underlying24 Try.rdImg (hval 0 24 v0 rfl rfl) h0
  obtain ⟨x0, rfl⟩ := simg s0
  obtain ⟨q1, s1, r1⟩ := arg_slice Try.underlying38 Try.rdWrs (hval 1 38 v1 rfl rfl) h1
  obtain ⟨x1, o1, rfl⟩ := swrs s1
  clear hA0 hval0
  simp only [List.append_nil, List.append_assoc] at hW'
  have hlt : ∀ x ∈ p0 ++ p1, x.block < W.heap.size := fun x hx => by simpa using hW'.lt x hx
  refine (calls_all (vs := [v0, v1]) envOk (cal5 o1) ⟨r0, r1, trivial⟩).mono fun e W' ⟨he, hB⟩ => ?_
  subst he
  exact ⟨_, rfl, _, _, _, [], _, [], hW', trodAll_mk1 (shut_bool Try.underlying4 _), trodAll_mk2 (Below.trod Try.laidOutV (by kernel_rfl) (of_decide_eq_true (by kernel_rfl)) h0 hB (fun x hx => hlt x (List.mem_append_left _ hx))) (Below.trod Try.laidOutV (by kernel_rfl) (of_decide_eq_true (by kernel_rfl)) h1 hB (fun x hx => hlt x (List.mem_append_right _ hx))), rfl, hB.frame _, fun h => by cases h⟩

theorem imageLast_holds : Rows.ImageLastSaid :=
  OpenClaim.holds_of_wide 5 Try.f5 rfl rfl rfl rfl rfl rfl rfl ⟨rfl, rfl, rfl, rfl, rfl⟩ rfl rfl rfl rfl rfl (by kernel_rfl) Try.func5 (by kernel_rfl)
    (of_decide_eq_true (by kernel_rfl)) (by unfold Func.isWrapper; first | (rw [if_pos (by decide +kernel)]; kernel_rfl) | (rw [if_neg (by decide +kernel)]; exact ⟨rfl, rfl⟩))
    (fun os started H enc _ => imageLast_lifted os started H enc)
end Go.Proofs.Ytldnpgbacakfeaa

namespace Go.Proofs.Ytldnpgbacakfeaa
end Go.Proofs.Ytldnpgbacakfeaa
