/-
  Part 8 of the texts that the statement stands on.
-/
import Derived.Test.YtpdfhckdmblicaaZ7
set_option linter.all false
namespace Go.Proofs.Ytpdfhckdmblicaa.V
set_option linter.all false

def eImg (im : Img) : PV := .list 1 (im.map eSecs)
def pairErr (a b : Img) : Int := if imCheck a ≠ 0 then imCheck a else if imCheck b ≠ 0 then imCheck b else if imSizes a = imSizes b then 0 else 22
def differ (a b : Img) : List (List Exn) := (a.zip b).map fun q => volDiff q.1 q.2
def differOut (a b : Img) : List (List Exn) := if pairErr a b = 0 then differ a b else []
theorem sizes_inj {a b : Img} (h : imSizes a = imSizes b) : a.length = b.length ∧ ∀ i (h1 : i < a.length) (h2 : i < b.length), a[i].length = b[i].length := by
  have hl : a.length = b.length := by simpa [imSizes] using congrArg List.length h
  refine ⟨hl, fun i h1 h2 => ?_⟩
  have := congrArg (fun l => l[i]?) h
  simp only [imSizes, List.getElem?_map, List.getElem?_eq_getElem h1, List.getElem?_eq_getElem h2, Option.map_some, Option.some.injEq] at this
  omega
theorem sizes_of {a b : Img} (hl : a.length = b.length) (h : ∀ i (h1 : i < a.length) (h2 : i < b.length), a[i].length = b[i].length) : imSizes a = imSizes b := by
  apply List.ext_getElem
  · simpa [imSizes] using hl
  · intro i h1 h2
    simp only [imSizes, List.length_map] at h1 h2
    simp only [imSizes, List.getElem_map, h i h1 h2]
theorem loop88 {A B : PV} {l : List Img} (hl : l.length ≤ lim) (hi0 : ∀ im ∈ l, im.length ≤ lim) {st : St} (h : st.head [0, 1, 10, 11, 12] st.boxes.length = some ⟨[.pv A, .pv B, .any, .any, .any, .any, .any, .any, .any, .any, .row 1 (l.map eImg), .pv (.int .i64 l.length), .pv (.int .i64 (0 : Nat)), .any, .any, .any, .any, .any, .any, .any, .any, .any, .any, .any, .any, .any, .any, .any], [], [], none⟩) :
   den env fn88_l1 st = match l.find? (fun im => decide (imCheck im ≠ 0)) with | some im => some (.ret, ⟨[.pv A, .pv B, .any, .any, .pv (.int .i64 (imCheck im)), .any, .any, .any, .any, .any, .any, .any, .any, .any, .any, .any, .any, .any, .any, .any, .any, .any, .any, .any, .any, .any, .any, .any], [], [], none⟩) | none => some (.normal, ⟨[.pv A, .pv B, .any, .any, .any, .any, .any, .any, .any, .any, .any, .any, .any, .any, .any, .any, .any, .any, .any, .any, .any, .any, .any, .any, .any, .any, .any, .any], [], [], none⟩) := by
  unfold fn88_l1
  rw [ clean_up (env := env) (l.length) (fun i => ⟨[.pv A, .pv B, .any, .any, .any, .any, .any, .any, .any, .any, .row 1 (l.map eImg), .pv (.int .i64 l.length), .pv (.int .i64 i), .any, .any, .any, .any, .any, .any, .any, .any, .any, .any, .any, .any, .any, .any, .any], [], [], none⟩) (fun i => match (l.drop i).find? (fun im => decide (imCheck im ≠ 0)) with | some im => some (.ret, ⟨[.pv A, .pv B, .any, .any, .pv (.int .i64 (imCheck im)), .any, .any, .any, .any, .any, .any, .any, .any, .any, .any, .any, .any, .any, .any, .any, .any, .any, .any, .any, .any, .any, .any, .any], [], [], none⟩) | none => some (.normal, ⟨[.pv A, .pv B, .any, .any, .any, .any, .any, .any, .any, .any, .any, .any, .any, .any, .any, .any, .any, .any, .any, .any, .any, .any, .any, .any, .any, .any, .any, .any], [], [], none⟩)) h (fun _ => rfl) (fun _ => rfl) ?_ ?_]
  · first | rfl | simp only [List.drop_zero, List.take_zero, List.map_nil, Nat.zero_add, List.nil_append, List.foldl_nil]
  · intro i rb hi ih

    have hi1 := i64_next hi hl
    have F1 : ((i : Int) < (l.length : Int)) = True := eq_true (by omega)
    have e1 := cal74 (hi0 _ (List.getElem_mem hi))
    rw [List.drop_eq_getElem_cons hi, List.find?_cons]
    by_cases hc : imCheck l[i] = 0
    · have F2 : (imCheck l[i] != 0) = false := by simp [hc]
      simp only [fn88_b0, F1, F2, e1, eImg, index_nat hi, List.getElem?_map, List.getElem?_eq_getElem hi, List.isEmpty_nil, val_pvs, frozen_pvs, msnoc_len, msnoc_get, msnoc_set, msnoc_take, Int.le_refl, take_map_all, Nat.le_refl, St.freezeRows, BV.frozen, List.take_length, List.take_append_drop, z_repl_zero, Int.toNat_zero, true_and, and_true, and_self, eq_self, z_take_zero, List.drop_nil, List.take_nil, vAll, List.foldl_nil, List.foldl_cons, resultsOf, resultList, resultOf, zBV, splice, PV.remade, St.freezeAt, St.freezeBox, St.freezeCap, PV.single, plain, act, dstOf, if_true, if_false, reduceCtorEq, St.get, St.put, St.pvOf, St.putRow, St.consume, St.freeze, St.row, St.elems, St.grab, St.takeRow, St.setRow, St.place, St.optPv, St.setCell, St.setCellRow, binPV, intBin, unPV, BV.val, Nat.reduceEqDiff, bound, consumeAll, buildParts, capsOf, capOf, List.append_nil, Nat.reduceAdd, Nat.reduceLT, Nat.reduceLeDiff, beq_self_eq_true, List.length_map, Nat.beq, dcall, dcallP, List.mapM_cons, St.snapFn, St.snap, St.layAll, St.lay, St.freezeArg, St.freezeArg1]
      rw [ih _ (by simp only [hi1]; rfl)]
      simp only [hc, ne_eq, not_true, decide_false]
    · have F2 : (imCheck l[i] != 0) = true := by simp [hc]
      simp only [fn88_b0, F1, F2, e1, eImg, index_nat hi, List.getElem?_map, List.getElem?_eq_getElem hi, List.isEmpty_nil, val_pvs, frozen_pvs, msnoc_len, msnoc_get, msnoc_set, msnoc_take, Int.le_refl, take_map_all, Nat.le_refl, St.freezeRows, BV.frozen, List.take_length, List.take_append_drop, z_repl_zero, Int.toNat_zero, true_and, and_true, and_self, eq_self, z_take_zero, List.drop_nil, List.take_nil, vAll, List.foldl_nil, List.foldl_cons, resultsOf, resultList, resultOf, zBV, splice, PV.remade, St.freezeAt, St.freezeBox, St.freezeCap, PV.single, plain, act, dstOf, if_true, if_false, reduceCtorEq, St.get, St.put, St.pvOf, St.putRow, St.consume, St.freeze, St.row, St.elems, St.grab, St.takeRow, St.setRow, St.place, St.optPv, St.setCell, St.setCellRow, binPV, intBin, unPV, BV.val, Nat.reduceEqDiff, bound, consumeAll, buildParts, capsOf, capOf, List.append_nil, Nat.reduceAdd, Nat.reduceLT, Nat.reduceLeDiff, beq_self_eq_true, List.length_map, Nat.beq, dcall, dcallP, List.mapM_cons, St.snapFn, St.snap, St.layAll, St.lay, St.freezeArg, St.freezeArg1]
      simp only [hc, ne_eq, not_false_eq_true, decide_true]
      rfl
  · intro rb

    simp only [fn88_b0, Int.lt_irrefl,  List.isEmpty_nil, val_pvs, frozen_pvs, msnoc_len, msnoc_get, msnoc_set, msnoc_take, Int.le_refl, take_map_all, Nat.le_refl, St.freezeRows, BV.frozen, List.take_length, List.take_append_drop, z_repl_zero, Int.toNat_zero, true_and, and_true, and_self, eq_self, z_take_zero, List.drop_nil, List.take_nil, vAll, List.foldl_nil, List.foldl_cons, resultsOf, resultList, resultOf, zBV, splice, PV.remade, St.freezeAt, St.freezeBox, St.freezeCap, PV.single, plain, act, dstOf, if_true, if_false, reduceCtorEq, St.get, St.put, St.pvOf, St.putRow, St.consume, St.freeze, St.row, St.elems, St.grab, St.takeRow, St.setRow, St.place, St.optPv, St.setCell, St.setCellRow, binPV, intBin, unPV, BV.val, Nat.reduceEqDiff, bound, consumeAll, buildParts, capsOf, capOf, List.append_nil, Nat.reduceAdd, Nat.reduceLT, Nat.reduceLeDiff, beq_self_eq_true, List.length_map, Nat.beq, dcall, dcallP, List.mapM_cons, St.snapFn, St.snap, St.layAll, St.lay, St.freezeArg, St.freezeArg1]
    rw [List.drop_length]
    rfl

theorem cal88 {a b : Img} (ha : a.length ≤ lim) (hb : b.length ≤ lim) : cal env 88 [.list 1 (a.map eSecs), .list 1 (b.map eSecs)] = some [(.int .i64 (pairErr a b), false)] := by
  have h2 : ∀ im ∈ [a, b], im.length ≤ lim := by simp; exact ⟨ha, hb⟩
  have e1 := cal92 ha
  have e2 := cal92 hb
  have e3 := cal20 (l := imSizes a) (m := imSizes b) (by simpa [imSizes] using ha)
  rw [cal_code env88 rfl]; simp only [fn88]; simp only [start, z_map_cons, z_map_nil, z_len_cons, z_len_nil, z_repl_zero, z_repl_succ, z_cons_app, z_nil_app, Nat.reduceAdd, Nat.reduceSub]
  simp only [e1, e2, e3, List.isEmpty_nil, val_pvs, frozen_pvs, msnoc_len, msnoc_get, msnoc_set, msnoc_take, Int.le_refl, take_map_all, Nat.le_refl, St.freezeRows, BV.frozen, List.take_length, List.take_append_drop, z_repl_zero, Int.toNat_zero, true_and, and_true, and_self, eq_self, z_take_zero, List.drop_nil, List.take_nil, vAll, List.foldl_nil, List.foldl_cons, resultsOf, resultList, resultOf, zBV, splice, PV.remade, St.freezeAt, St.freezeBox, St.freezeCap, PV.single, plain, act, dstOf, if_true, if_false, reduceCtorEq, St.get, St.put, St.pvOf, St.putRow, St.consume, St.freeze, St.row, St.elems, St.grab, St.takeRow, St.setRow, St.place, St.optPv, St.setCell, St.setCellRow, binPV, intBin, unPV, BV.val, Nat.reduceEqDiff, bound, consumeAll, buildParts, capsOf, capOf, List.append_nil, Nat.reduceAdd, Nat.reduceLT, Nat.reduceLeDiff, beq_self_eq_true, List.length_map, Nat.beq, dcall, dcallP, List.mapM_cons, St.snapFn, St.snap, St.layAll, St.lay, St.freezeArg, St.freezeArg1]
  rw [loop88 (l := [a, b]) (by simp [lim]) h2]
  rotate_left
  · rfl
  · simp only [List.find?_cons, List.find?_nil, pairErr]
    by_cases c1 : imCheck a = 0
    · by_cases c2 : imCheck b = 0
      · by_cases c4 : imSizes a = imSizes b
        · have hd := decide_eq_true c4
          simp only [c1, c2, hd, ne_eq, not_true, decide_false, e1, e2, e3, List.isEmpty_nil, val_pvs, frozen_pvs, msnoc_len, msnoc_get, msnoc_set, msnoc_take, Int.le_refl, take_map_all, Nat.le_refl, St.freezeRows, BV.frozen, List.take_length, List.take_append_drop, z_repl_zero, Int.toNat_zero, true_and, and_true, and_self, eq_self, z_take_zero, List.drop_nil, List.take_nil, vAll, List.foldl_nil, List.foldl_cons, resultsOf, resultList, resultOf, zBV, splice, PV.remade, St.freezeAt, St.freezeBox, St.freezeCap, PV.single, plain, act, dstOf, if_true, if_false, reduceCtorEq, St.get, St.put, St.pvOf, St.putRow, St.consume, St.freeze, St.row, St.elems, St.grab, St.takeRow, St.setRow, St.place, St.optPv, St.setCell, St.setCellRow, binPV, intBin, unPV, BV.val, Nat.reduceEqDiff, bound, consumeAll, buildParts, capsOf, capOf, List.append_nil, Nat.reduceAdd, Nat.reduceLT, Nat.reduceLeDiff, beq_self_eq_true, List.length_map, Nat.beq, dcall, dcallP, List.mapM_cons, St.snapFn, St.snap, St.layAll, St.lay, St.freezeArg, St.freezeArg1]
          rw [if_pos c4]
        · have hd := decide_eq_false c4
          simp only [c1, c2, hd, ne_eq, not_true, decide_false, e1, e2, e3, List.isEmpty_nil, val_pvs, frozen_pvs, msnoc_len, msnoc_get, msnoc_set, msnoc_take, Int.le_refl, take_map_all, Nat.le_refl, St.freezeRows, BV.frozen, List.take_length, List.take_append_drop, z_repl_zero, Int.toNat_zero, true_and, and_true, and_self, eq_self, z_take_zero, List.drop_nil, List.take_nil, vAll, List.foldl_nil, List.foldl_cons, resultsOf, resultList, resultOf, zBV, splice, PV.remade, St.freezeAt, St.freezeBox, St.freezeCap, PV.single, plain, act, dstOf, if_true, if_false, reduceCtorEq, St.get, St.put, St.pvOf, St.putRow, St.consume, St.freeze, St.row, St.elems, St.grab, St.takeRow, St.setRow, St.place, St.optPv, St.setCell, St.setCellRow, binPV, intBin, unPV, BV.val, Nat.reduceEqDiff, bound, consumeAll, buildParts, capsOf, capOf, List.append_nil, Nat.reduceAdd, Nat.reduceLT, Nat.reduceLeDiff, beq_self_eq_true, List.length_map, Nat.beq, dcall, dcallP, List.mapM_cons, St.snapFn, St.snap, St.layAll, St.lay, St.freezeArg, St.freezeArg1]
          rw [if_neg c4]
      · simp only [c1, c2, ne_eq, not_true, not_false_eq_true, decide_false, decide_true, if_false, if_true, e1, e2, e3, List.isEmpty_nil, val_pvs, frozen_pvs, msnoc_len, msnoc_get, msnoc_set, msnoc_take, Int.le_refl, take_map_all, Nat.le_refl, St.freezeRows, BV.frozen, List.take_length, List.take_append_drop, z_repl_zero, Int.toNat_zero, true_and, and_true, and_self, eq_self, z_take_zero, List.drop_nil, List.take_nil, vAll, List.foldl_nil, List.foldl_cons, resultsOf, resultList, resultOf, zBV, splice, PV.remade, St.freezeAt, St.freezeBox, St.freezeCap, PV.single, plain, act, dstOf, if_true, if_false, reduceCtorEq, St.get, St.put, St.pvOf, St.putRow, St.consume, St.freeze, St.row, St.elems, St.grab, St.takeRow, St.setRow, St.place, St.optPv, St.setCell, St.setCellRow, binPV, intBin, unPV, BV.val, Nat.reduceEqDiff, bound, consumeAll, buildParts, capsOf, capOf, List.append_nil, Nat.reduceAdd, Nat.reduceLT, Nat.reduceLeDiff, beq_self_eq_true, List.length_map, Nat.beq, dcall, dcallP, List.mapM_cons, St.snapFn, St.snap, St.layAll, St.lay, St.freezeArg, St.freezeArg1]
    · simp only [c1, ne_eq, not_true, not_false_eq_true, decide_false, decide_true, if_false, if_true, e1, e2, e3, List.isEmpty_nil, val_pvs, frozen_pvs, msnoc_len, msnoc_get, msnoc_set, msnoc_take, Int.le_refl, take_map_all, Nat.le_refl, St.freezeRows, BV.frozen, List.take_length, List.take_append_drop, z_repl_zero, Int.toNat_zero, true_and, and_true, and_self, eq_self, z_take_zero, List.drop_nil, List.take_nil, vAll, List.foldl_nil, List.foldl_cons, resultsOf, resultList, resultOf, zBV, splice, PV.remade, St.freezeAt, St.freezeBox, St.freezeCap, PV.single, plain, act, dstOf, if_true, if_false, reduceCtorEq, St.get, St.put, St.pvOf, St.putRow, St.consume, St.freeze, St.row, St.elems, St.grab, St.takeRow, St.setRow, St.place, St.optPv, St.setCell, St.setCellRow, binPV, intBin, unPV, BV.val, Nat.reduceEqDiff, bound, consumeAll, buildParts, capsOf, capOf, List.append_nil, Nat.reduceAdd, Nat.reduceLT, Nat.reduceLeDiff, beq_self_eq_true, List.length_map, Nat.beq, dcall, dcallP, List.mapM_cons, St.snapFn, St.snap, St.layAll, St.lay, St.freezeArg, St.freezeArg1]
theorem loop59 {a b : Img} (hl : a.length ≤ lim) (hr : ∀ v ∈ a, v.length ≤ lim) (hab : a.length = b.length) (hs : ∀ i (h1 : i < a.length) (h2 : i < b.length), a[i].length = b[i].length)
   {st : St} (h : st.head [0, 1, 7, 16, 17, 31] st.boxes.length = some ⟨[.pv (.list 1 (a.map eSecs)), .pv (.list 1 (b.map eSecs)), .any, .any, .any, .any, .any, .row 1 [], .any, .any, .any, .any, .any, .any, .any, .any, .pv (.int .i64 a.length), .pv (.int .i64 (0 : Nat)), .any, .any, .any, .any, .any, .any, .any, .any, .any, .any, .any, .any, .any, .any, .any, .any], [], [], none⟩) :
   den env fn59_l1 st = some (.normal, ⟨[.any, .any, .any, .any, .any, .any, .any, .row 1 ((differ a b).map eExts), .any, .any, .any, .any, .any, .any, .any, .any, .any, .any, .any, .any, .any, .any, .any, .any, .any, .any, .any, .any, .any, .any, .any, .any, .any, .any], [], [], none⟩) := by
  unfold fn59_l1
  have hz : (a.zip b).length = a.length := by simp; omega
  refine clean_up (env := env) a.length (fun i => ⟨[.pv (.list 1 (a.map eSecs)), .pv (.list 1 (b.map eSecs)), .any, .any, .any, .any, .any, .row 1 (((a.zip b).take i).map fun q => eExts (volDiff q.1 q.2)), .any, .any, .any, .any, .any, .any, .any, .any, .pv (.int .i64 a.length), .pv (.int .i64 i), .any, .any, .any, .any, .any, .any, .any, .any, .any, .any, .any, .any, .any, .any, .any, .any], [], [], none⟩) (fun i => some (.normal, ⟨[.any, .any, .any, .any, .any, .any, .any, .row 1 ((differ a b).map eExts), .any, .any, .any, .any, .any, .any, .any, .any, .any, .any, .any, .any, .any, .any, .any, .any, .any, .any, .any, .any, .any, .any, .any, .any, .any, .any], [], [], none⟩)) h (fun _ => rfl) (fun _ => rfl) ?_ ?_
  · intro i rb hi ih
    have hi1 := i64_next hi hl
    have hj : i < b.length := by omega
    have hiz : i < (a.zip b).length := by omega
    have F1 : ((i : Int) < (a.length : Int)) = True := eq_true (by omega)
    have F2 : (((a.zip b).take i).length + 1 ≤ lim) = True := eq_true (by rw [List.length_take]; omega)
    have e1 := cal89 (hr _ (List.getElem_mem hi)) (hs i hi hj)
    simp only [fn59_b0, F1, F2, e1, eSecs, index_nat hi, index_nat hj, List.getElem?_map, List.getElem?_eq_getElem hi, List.getElem?_eq_getElem hj, List.isEmpty_nil, val_pvs, frozen_pvs, msnoc_len, msnoc_get, msnoc_set, msnoc_take, Int.le_refl, take_map_all, Nat.le_refl, St.freezeRows, BV.frozen, List.take_length, List.take_append_drop, z_repl_zero, Int.toNat_zero, true_and, and_true, and_self, eq_self, z_take_zero, List.drop_nil, List.take_nil, vAll, List.foldl_nil, List.foldl_cons, resultsOf, resultList, resultOf, zBV, splice, PV.remade, St.freezeAt, St.freezeBox, St.freezeCap, PV.single, plain, act, dstOf, if_true, if_false, reduceCtorEq, St.get, St.put, St.pvOf, St.putRow, St.consume, St.freeze, St.row, St.elems, St.grab, St.takeRow, St.setRow, St.place, St.optPv, St.setCell, St.setCellRow, binPV, intBin, unPV, BV.val, Nat.reduceEqDiff, bound, consumeAll, buildParts, capsOf, capOf, List.append_nil, Nat.reduceAdd, Nat.reduceLT, Nat.reduceLeDiff, beq_self_eq_true, List.length_map, Nat.beq, dcall, dcallP, List.mapM_cons, St.snapFn, St.snap, St.layAll, St.lay, St.freezeArg, St.freezeArg1]
    rw [ih _ (by simp only [hi1]; rw [← take_map_succ _ hiz, List.getElem_zip]; rfl)]
  · intro rb
    simp only [fn59_b0, Int.lt_irrefl, List.isEmpty_nil, val_pvs, frozen_pvs, msnoc_len, msnoc_get, msnoc_set, msnoc_take, Int.le_refl, take_map_all, Nat.le_refl, St.freezeRows, BV.frozen, List.take_length, List.take_append_drop, z_repl_zero, Int.toNat_zero, true_and, and_true, and_self, eq_self, z_take_zero, List.drop_nil, List.take_nil, vAll, List.foldl_nil, List.foldl_cons, resultsOf, resultList, resultOf, zBV, splice, PV.remade, St.freezeAt, St.freezeBox, St.freezeCap, PV.single, plain, act, dstOf, if_true, if_false, reduceCtorEq, St.get, St.put, St.pvOf, St.putRow, St.consume, St.freeze, St.row, St.elems, St.grab, St.takeRow, St.setRow, St.place, St.optPv, St.setCell, St.setCellRow, binPV, intBin, unPV, BV.val, Nat.reduceEqDiff, bound, consumeAll, buildParts, capsOf, capOf, List.append_nil, Nat.reduceAdd, Nat.reduceLT, Nat.reduceLeDiff, beq_self_eq_true, List.length_map, Nat.beq, dcall, dcallP, List.mapM_cons, St.snapFn, St.snap, St.layAll, St.lay, St.freezeArg, St.freezeArg1]
    rw [← hz, List.take_length]
    simp only [differ, List.map_map]
    rfl
theorem cal59 {a b : Img} (ha : a.length ≤ lim) (hb' : b.length ≤ lim) (hr : ∀ v ∈ a, v.length ≤ lim) : cal env 59 [.list 1 (a.map eSecs), .list 1 (b.map eSecs)] = some [(.list 1 ((differOut a b).map eExts), true), (.int .i64 (pairErr a b), false)] := by
  have e1 := cal88 ha hb'
  unfold differOut
  by_cases c : pairErr a b = 0
  · have hs : imSizes a = imSizes b := by
      unfold pairErr at c
      split at c
      · omega
      · split at c
        · omega
        · split at c
          · assumption
          · omega
    have G1 : (pairErr a b != 0) = false := by simp [c]
    rw [cal_code env59 rfl]; simp only [fn59]; simp only [start, z_map_cons, z_map_nil, z_len_cons, z_len_nil, z_repl_zero, z_repl_succ, z_cons_app, z_nil_app, Nat.reduceAdd, Nat.reduceSub]
    simp only [G1, e1, List.isEmpty_nil, val_pvs, frozen_pvs, msnoc_len, msnoc_get, msnoc_set, msnoc_take, Int.le_refl, take_map_all, Nat.le_refl, St.freezeRows, BV.frozen, List.take_length, List.take_append_drop, z_repl_zero, Int.toNat_zero, true_and, and_true, and_self, eq_self, z_take_zero, List.drop_nil, List.take_nil, vAll, List.foldl_nil, List.foldl_cons, resultsOf, resultList, resultOf, zBV, splice, PV.remade, St.freezeAt, St.freezeBox, St.freezeCap, PV.single, plain, act, dstOf, if_true, if_false, reduceCtorEq, St.get, St.put, St.pvOf, St.putRow, St.consume, St.freeze, St.row, St.elems, St.grab, St.takeRow, St.setRow, St.place, St.optPv, St.setCell, St.setCellRow, binPV, intBin, unPV, BV.val, Nat.reduceEqDiff, bound, consumeAll, buildParts, capsOf, capOf, List.append_nil, Nat.reduceAdd, Nat.reduceLT, Nat.reduceLeDiff, beq_self_eq_true, List.length_map, Nat.beq, dcall, dcallP, List.mapM_cons, St.snapFn, St.snap, St.layAll, St.lay, St.freezeArg, St.freezeArg1]
    rw [loop59 ha hr (sizes_inj hs).1 (sizes_inj hs).2]
    rotate_left
    · rfl
    · simp only [c, List.isEmpty_nil, val_pvs, frozen_pvs, msnoc_len, msnoc_get, msnoc_set, msnoc_take, Int.le_refl, take_map_all, Nat.le_refl, St.freezeRows, BV.frozen, List.take_length, List.take_append_drop, z_repl_zero, Int.toNat_zero, true_and, and_true, and_self, eq_self, z_take_zero, List.drop_nil, List.take_nil, vAll, List.foldl_nil, List.foldl_cons, resultsOf, resultList, resultOf, zBV, splice, PV.remade, St.freezeAt, St.freezeBox, St.freezeCap, PV.single, plain, act, dstOf, if_true, if_false, reduceCtorEq, St.get, St.put, St.pvOf, St.putRow, St.consume, St.freeze, St.row, St.elems, St.grab, St.takeRow, St.setRow, St.place, St.optPv, St.setCell, St.setCellRow, binPV, intBin, unPV, BV.val, Nat.reduceEqDiff, bound, consumeAll, buildParts, capsOf, capOf, List.append_nil, Nat.reduceAdd, Nat.reduceLT, Nat.reduceLeDiff, beq_self_eq_true, List.length_map, Nat.beq, dcall, dcallP, List.mapM_cons, St.snapFn, St.snap, St.layAll, St.lay, St.freezeArg, St.freezeArg1]
  · have G1 : (pairErr a b != 0) = true := by simp [c]
    rw [cal_code env59 rfl]; simp only [fn59]; simp only [start, z_map_cons, z_map_nil, z_len_cons, z_len_nil, z_repl_zero, z_repl_succ, z_cons_app, z_nil_app, Nat.reduceAdd, Nat.reduceSub]
    simp only [G1, e1, List.isEmpty_nil, val_pvs, frozen_pvs, msnoc_len, msnoc_get, msnoc_set, msnoc_take, Int.le_refl, take_map_all, Nat.le_refl, St.freezeRows, BV.frozen, List.take_length, List.take_append_drop, z_repl_zero, Int.toNat_zero, true_and, and_true, and_self, eq_self, z_take_zero, List.drop_nil, List.take_nil, vAll, List.foldl_nil, List.foldl_cons, resultsOf, resultList, resultOf, zBV, splice, PV.remade, St.freezeAt, St.freezeBox, St.freezeCap, PV.single, plain, act, dstOf, if_true, if_false, reduceCtorEq, St.get, St.put, St.pvOf, St.putRow, St.consume, St.freeze, St.row, St.elems, St.grab, St.takeRow, St.setRow, St.place, St.optPv, St.setCell, St.setCellRow, binPV, intBin, unPV, BV.val, Nat.reduceEqDiff, bound, consumeAll, buildParts, capsOf, capOf, List.append_nil, Nat.reduceAdd, Nat.reduceLT, Nat.reduceLeDiff, beq_self_eq_true, List.length_map, Nat.beq, dcall, dcallP, List.mapM_cons, St.snapFn, St.snap, St.layAll, St.lay, St.freezeArg, St.freezeArg1]
    simp only [c, if_false]
    rfl
end Go.Proofs.Ytpdfhckdmblicaa.V

namespace Go.Proofs.Ytpdfhckdmblicaa.V
set_option linter.all false
theorem beq_len (n m : Nat) : ((n : Int) == (m : Int)) = decide (n = m) := by
  by_cases h : n = m
  · subst h; simp
  · rw [decide_eq_false h]; simp; omega
theorem cal87 {v u : List Sec} : cal env 87 [eSecs v, eSecs u] = some [(.bool (decide (v.length = u.length)), false)] := by
  simp only [eSecs]
  rw [cal_code env87 rfl]; simp only [fn87]; simp only [start, z_map_cons, z_map_nil, z_len_cons, z_len_nil, z_repl_zero, z_repl_succ, z_cons_app, z_nil_app, Nat.reduceAdd, Nat.reduceSub]
  simp only [eSecs, beq_len, List.isEmpty_nil, val_pvs, frozen_pvs, msnoc_len, msnoc_get, msnoc_set, msnoc_take, Int.le_refl, take_map_all, Nat.le_refl, St.freezeRows, BV.frozen, List.take_length, List.take_append_drop, z_repl_zero, Int.toNat_zero, true_and, and_true, and_self, eq_self, z_take_zero, List.drop_nil, List.take_nil, vAll, List.foldl_nil, List.foldl_cons, resultsOf, resultList, resultOf, zBV, splice, PV.remade, St.freezeAt, St.freezeBox, St.freezeCap, PV.single, plain, act, dstOf, if_true, if_false, reduceCtorEq, St.get, St.put, St.pvOf, St.putRow, St.consume, St.freeze, St.row, St.elems, St.grab, St.takeRow, St.setRow, St.place, St.optPv, St.setCell, St.setCellRow, binPV, intBin, unPV, BV.val, Nat.reduceEqDiff, bound, consumeAll, buildParts, capsOf, capOf, List.append_nil, Nat.reduceAdd, Nat.reduceLT, Nat.reduceLeDiff, beq_self_eq_true, List.length_map, Nat.beq, dcall, dcallP, List.mapM_cons, St.snapFn, St.snap, St.layAll, St.lay, St.freezeArg, St.freezeArg1]

theorem eqF_sizes : ∀ a b : Img, eqF (fun x y : List Sec => decide (x.length = y.length)) a b = decide (imSizes a = imSizes b)
  | [], [] => rfl
  | [], y :: b => by simp [eqF, imSizes]
  | x :: a, [] => by simp [eqF, imSizes]
  | x :: a, y :: b => by
    have ih := eqF_sizes a b
    unfold eqF at ih ⊢
    have e0 : decide (imSizes (x :: a) = imSizes (y :: b)) = (decide (x.length = y.length) && decide (imSizes a = imSizes b)) := by
      rw [← Bool.decide_and]
      exact decide_eq_decide.2 (by simp only [imSizes, List.map_cons, List.cons.injEq]; exact and_congr Int.ofNat_inj Iff.rfl)
    rw [e0, ← ih]
    simp only [List.length_cons, List.zip_cons_cons, List.all_cons]
    have e2 : decide (a.length + 1 = b.length + 1) = decide (a.length = b.length) := decide_eq_decide.2 (by omega)
    rw [e2]
    cases decide (x.length = y.length) <;> cases decide (a.length = b.length) <;> simp
def firstErr : List Img → Int
  | [] => 0
  | x :: l => if imCheck x = 0 then firstErr l else imCheck x
def alikeAll (u : Img) (l : List Img) : Bool := l.all fun x => decide (imSizes x = imSizes u)
def eImgs (l : List Img) : PV := .list 1 (l.map eImg)
theorem loop56 {ims : List Img} (hl : ims.length ≤ lim) (hr : ∀ x ∈ ims, x.length ≤ lim) {st : St} (h : st.head [0, 8, 9, 10] st.boxes.length = some ⟨[.pv (.list 1 (ims.map eImg)), .any, .any, .any, .any, .any, .any, .any, .pv (.list 1 (ims.map eImg)), .pv (.int .i64 ims.length), .pv (.int .i64 (0 : Nat)), .any, .any, .any, .any, .any, .any, .any, .any, .any, .any, .any, .any, .any, .any, .any, .any, .any, .any, .any, .any, .any, .any, .any], [], [], none⟩) :
   den env fn56_l1 st = if firstErr ims = 0 then some (.normal, ⟨[.pv (.list 1 (ims.map eImg)), .any, .any, .any, .any, .any, .any, .any, .any, .any, .any, .any, .any, .any, .any, .any, .any, .any, .any, .any, .any, .any, .any, .any, .any, .any, .any, .any, .any, .any, .any, .any, .any, .any], [], [], none⟩) else some (.ret, ⟨[.pv (.list 1 (ims.map eImg)), .any, .pv (.int .i64 (firstErr ims)), .any, .any, .any, .any, .any, .any, .any, .any, .any, .any, .any, .any, .any, .any, .any, .any, .any, .any, .any, .any, .any, .any, .any, .any, .any, .any, .any, .any, .any, .any, .any], [], [], none⟩) := by
  unfold fn56_l1
  rw [ clean_up (env := env) (ims.length) (fun i => ⟨[.pv (.list 1 (ims.map eImg)), .any, .any, .any, .any, .any, .any, .any, .pv (.list 1 (ims.map eImg)), .pv (.int .i64 ims.length), .pv (.int .i64 i), .any, .any, .any, .any, .any, .any, .any, .any, .any, .any, .any, .any, .any, .any, .any, .any, .any, .any, .any, .any, .any, .any, .any], [], [], none⟩) (fun i => if firstErr (ims.drop i) = 0 then some (.normal, ⟨[.pv (.list 1 (ims.map eImg)), .any, .any, .any, .any, .any, .any, .any, .any, .any, .any, .any, .any, .any, .any, .any, .any, .any, .any, .any, .any, .any, .any, .any, .any, .any, .any, .any, .any, .any, .any, .any, .any, .any], [], [], none⟩) else some (.ret, ⟨[.pv (.list 1 (ims.map eImg)), .any, .pv (.int .i64 (firstErr (ims.drop i))), .any, .any, .any, .any, .any, .any, .any, .any, .any, .any, .any, .any, .any, .any, .any, .any, .any, .any, .any, .any, .any, .any, .any, .any, .any, .any, .any, .any, .any, .any, .any], [], [], none⟩)) h (fun _ => rfl) (fun _ => rfl) ?_ ?_]
  · first | rfl | simp only [List.drop_zero, List.take_zero, List.map_nil, Nat.zero_add, List.nil_append, List.foldl_nil]
  · intro i rb hi ih

    have hi1 := i64_next hi hl
    have F1 : ((i : Int) < (ims.length : Int)) = True := eq_true (by omega)
    have e1 := cal74 (hr _ (List.getElem_mem hi))
    rw [List.drop_eq_getElem_cons hi]
    have hx : ims[i]? = some ims[i] := List.getElem?_eq_getElem hi
    generalize ims[i] = x at *
    unfold firstErr
    by_cases c : imCheck x = 0
    · have G : (imCheck x != 0) = false := by simp [c]
      simp only [fn56_b0, F1, hx, e1, G, eImg, index_nat hi, List.getElem?_map, Option.map_some, List.length_map, List.isEmpty_nil, val_pvs, frozen_pvs, msnoc_len, msnoc_get, msnoc_set, msnoc_take, Int.le_refl, take_map_all, Nat.le_refl, St.freezeRows, BV.frozen, List.take_length, List.take_append_drop, z_repl_zero, Int.toNat_zero, true_and, and_true, and_self, eq_self, z_take_zero, List.drop_nil, List.take_nil, vAll, List.foldl_nil, List.foldl_cons, resultsOf, resultList, resultOf, zBV, splice, PV.remade, St.freezeAt, St.freezeBox, St.freezeCap, PV.single, plain, act, dstOf, if_true, if_false, reduceCtorEq, St.get, St.put, St.pvOf, St.putRow, St.consume, St.freeze, St.row, St.elems, St.grab, St.takeRow, St.setRow, St.place, St.optPv, St.setCell, St.setCellRow, binPV, intBin, unPV, BV.val, Nat.reduceEqDiff, bound, consumeAll, buildParts, capsOf, capOf, List.append_nil, Nat.reduceAdd, Nat.reduceLT, Nat.reduceLeDiff, beq_self_eq_true, List.length_map, Nat.beq, dcall, dcallP, List.mapM_cons, St.snapFn, St.snap, St.layAll, St.lay, St.freezeArg, St.freezeArg1]
      rw [ih _ (by simp only [hi1]; rfl)]
      simp only [c, if_true]
    · have G : (imCheck x != 0) = true := by simp [c]
      simp only [fn56_b0, F1, hx, e1, G, eImg, index_nat hi, List.getElem?_map, Option.map_some, List.length_map, List.isEmpty_nil, val_pvs, frozen_pvs, msnoc_len, msnoc_get, msnoc_set, msnoc_take, Int.le_refl, take_map_all, Nat.le_refl, St.freezeRows, BV.frozen, List.take_length, List.take_append_drop, z_repl_zero, Int.toNat_zero, true_and, and_true, and_self, eq_self, z_take_zero, List.drop_nil, List.take_nil, vAll, List.foldl_nil, List.foldl_cons, resultsOf, resultList, resultOf, zBV, splice, PV.remade, St.freezeAt, St.freezeBox, St.freezeCap, PV.single, plain, act, dstOf, if_true, if_false, reduceCtorEq, St.get, St.put, St.pvOf, St.putRow, St.consume, St.freeze, St.row, St.elems, St.grab, St.takeRow, St.setRow, St.place, St.optPv, St.setCell, St.setCellRow, binPV, intBin, unPV, BV.val, Nat.reduceEqDiff, bound, consumeAll, buildParts, capsOf, capOf, List.append_nil, Nat.reduceAdd, Nat.reduceLT, Nat.reduceLeDiff, beq_self_eq_true, List.length_map, Nat.beq, dcall, dcallP, List.mapM_cons, St.snapFn, St.snap, St.layAll, St.lay, St.freezeArg, St.freezeArg1]
      simp only [c, if_false]
      rfl
  · intro rb

    simp only [fn56_b0, Int.lt_irrefl,  List.isEmpty_nil, val_pvs, frozen_pvs, msnoc_len, msnoc_get, msnoc_set, msnoc_take, Int.le_refl, take_map_all, Nat.le_refl, St.freezeRows, BV.frozen, List.take_length, List.take_append_drop, z_repl_zero, Int.toNat_zero, true_and, and_true, and_self, eq_self, z_take_zero, List.drop_nil, List.take_nil, vAll, List.foldl_nil, List.foldl_cons, resultsOf, resultList, resultOf, zBV, splice, PV.remade, St.freezeAt, St.freezeBox, St.freezeCap, PV.single, plain, act, dstOf, if_true, if_false, reduceCtorEq, St.get, St.put, St.pvOf, St.putRow, St.consume, St.freeze, St.row, St.elems, St.grab, St.takeRow, St.setRow, St.place, St.optPv, St.setCell, St.setCellRow, binPV, intBin, unPV, BV.val, Nat.reduceEqDiff, bound, consumeAll, buildParts, capsOf, capOf, List.append_nil, Nat.reduceAdd, Nat.reduceLT, Nat.reduceLeDiff, beq_self_eq_true, List.length_map, Nat.beq, dcall, dcallP, List.mapM_cons, St.snapFn, St.snap, St.layAll, St.lay, St.freezeArg, St.freezeArg1]
    rw [List.drop_length]
    rfl

theorem loop56l3 {u : Img} {l L : List Img} (hl : L.length ≤ lim) (hr : ∀ x ∈ L, x.length ≤ lim) {st : St} (h : st.head [0, 20, 21, 22, 23] st.boxes.length = some ⟨[.pv (.list 1 (eImg u :: l.map eImg)), .any, .any, .any, .any, .any, .any, .any, .any, .any, .any, .any, .any, .any, .any, .any, .any, .any, .any, .any, .pv (.list 1 (eImg u :: l.map eImg)), .pv (.list 1 (L.map eImg)), .pv (.int .i64 L.length), .pv (.int .i64 (0 : Nat)), .any, .any, .any, .any, .any, .any, .any, .any, .any, .any], [], [], none⟩) :
   den env fn56_l3 st = if alikeAll u L then some (.normal, ⟨[.any, .any, .any, .any, .any, .any, .any, .any, .any, .any, .any, .any, .any, .any, .any, .any, .any, .any, .any, .any, .any, .any, .any, .any, .any, .any, .any, .any, .any, .any, .any, .any, .any, .any], [], [], none⟩) else some (.ret, ⟨[.any, .any, .pv (.int .i64 22), .any, .any, .any, .any, .any, .any, .any, .any, .any, .any, .any, .any, .any, .any, .any, .any, .any, .any, .any, .any, .any, .any, .any, .any, .any, .any, .any, .any, .any, .any, .any], [], [], none⟩) := by
  unfold fn56_l3
  rw [ clean_up (env := env) (L.length) (fun i => ⟨[.pv (.list 1 (eImg u :: l.map eImg)), .any, .any, .any, .any, .any, .any, .any, .any, .any, .any, .any, .any, .any, .any, .any, .any, .any, .any, .any, .pv (.list 1 (eImg u :: l.map eImg)), .pv (.list 1 (L.map eImg)), .pv (.int .i64 L.length), .pv (.int .i64 i), .any, .any, .any, .any, .any, .any, .any, .any, .any, .any], [], [], none⟩) (fun i => if alikeAll u (L.drop i) then some (.normal, ⟨[.any, .any, .any, .any, .any, .any, .any, .any, .any, .any, .any, .any, .any, .any, .any, .any, .any, .any, .any, .any, .any, .any, .any, .any, .any, .any, .any, .any, .any, .any, .any, .any, .any, .any], [], [], none⟩) else some (.ret, ⟨[.any, .any, .pv (.int .i64 22), .any, .any, .any, .any, .any, .any, .any, .any, .any, .any, .any, .any, .any, .any, .any, .any, .any, .any, .any, .any, .any, .any, .any, .any, .any, .any, .any, .any, .any, .any, .any], [], [], none⟩)) h (fun _ => rfl) (fun _ => rfl) ?_ ?_]
  · first | rfl | simp only [List.drop_zero, List.take_zero, List.map_nil, Nat.zero_add, List.nil_append, List.foldl_nil]
  · intro i rb hi ih

    have hi1 := i64_next hi hl
    have F1 : ((i : Int) < (L.length : Int)) = True := eq_true (by omega)
    have I0 : index (.int .i64 0) (l.length + 1) = some 0 := index_nat (i := 0) (by omega)
    have e1 := cal77 (enc := eSecs) (enc2 := eSecs) (eq := fun x y : List Sec => decide (x.length = y.length)) (l := L[i]) (m := u) (gf := 87) (caps := []) (fun x _ y _ => cal87) (fun _ => rfl) (fun _ => rfl) (hr _ (List.getElem_mem hi))
    rw [eqF_sizes] at e1
    rw [List.drop_eq_getElem_cons hi]
    have hx : L[i]? = some L[i] := List.getElem?_eq_getElem hi
    generalize L[i] = x at *
    unfold alikeAll
    rw [List.all_cons]
    by_cases c : imSizes x = imSizes u
    · simp only [c, decide_true] at e1
      simp only [fn56_b2, F1, I0, hx, e1, eImg, index_nat hi, List.getElem?_map, List.getElem?_cons_zero, Option.map_some, List.length_map, List.length_cons, List.isEmpty_nil, val_pvs, frozen_pvs, msnoc_len, msnoc_get, msnoc_set, msnoc_take, Int.le_refl, take_map_all, Nat.le_refl, St.freezeRows, BV.frozen, List.take_length, List.take_append_drop, z_repl_zero, Int.toNat_zero, true_and, and_true, and_self, eq_self, z_take_zero, List.drop_nil, List.take_nil, vAll, List.foldl_nil, List.foldl_cons, resultsOf, resultList, resultOf, zBV, splice, PV.remade, St.freezeAt, St.freezeBox, St.freezeCap, PV.single, plain, act, dstOf, if_true, if_false, reduceCtorEq, St.get, St.put, St.pvOf, St.putRow, St.consume, St.freeze, St.row, St.elems, St.grab, St.takeRow, St.setRow, St.place, St.optPv, St.setCell, St.setCellRow, binPV, intBin, unPV, BV.val, Nat.reduceEqDiff, bound, consumeAll, buildParts, capsOf, capOf, List.append_nil, Nat.reduceAdd, Nat.reduceLT, Nat.reduceLeDiff, beq_self_eq_true, List.length_map, Nat.beq, dcall, dcallP, List.mapM_cons, St.snapFn, St.snap, St.layAll, St.lay, St.freezeArg, St.freezeArg1]
      rw [ih _ (by simp only [hi1]; rfl)]
      simp only [c, decide_true, Bool.true_and]
      rfl
    · simp only [c, decide_false] at e1
      simp only [fn56_b2, F1, I0, hx, e1, eImg, index_nat hi, List.getElem?_map, List.getElem?_cons_zero, Option.map_some, List.length_map, List.length_cons, List.isEmpty_nil, val_pvs, frozen_pvs, msnoc_len, msnoc_get, msnoc_set, msnoc_take, Int.le_refl, take_map_all, Nat.le_refl, St.freezeRows, BV.frozen, List.take_length, List.take_append_drop, z_repl_zero, Int.toNat_zero, true_and, and_true, and_self, eq_self, z_take_zero, List.drop_nil, List.take_nil, vAll, List.foldl_nil, List.foldl_cons, resultsOf, resultList, resultOf, zBV, splice, PV.remade, St.freezeAt, St.freezeBox, St.freezeCap, PV.single, plain, act, dstOf, if_true, if_false, reduceCtorEq, St.get, St.put, St.pvOf, St.putRow, St.consume, St.freeze, St.row, St.elems, St.grab, St.takeRow, St.setRow, St.place, St.optPv, St.setCell, St.setCellRow, binPV, intBin, unPV, BV.val, Nat.reduceEqDiff, bound, consumeAll, buildParts, capsOf, capOf, List.append_nil, Nat.reduceAdd, Nat.reduceLT, Nat.reduceLeDiff, beq_self_eq_true, List.length_map, Nat.beq, dcall, dcallP, List.mapM_cons, St.snapFn, St.snap, St.layAll, St.lay, St.freezeArg, St.freezeArg1]
      simp only [c, decide_false, Bool.false_and]
      rfl
  · intro rb

    simp only [fn56_b2, Int.lt_irrefl, List.isEmpty_nil, val_pvs, frozen_pvs, msnoc_len, msnoc_get, msnoc_set, msnoc_take, Int.le_refl, take_map_all, Nat.le_refl, St.freezeRows, BV.frozen, List.take_length, List.take_append_drop, z_repl_zero, Int.toNat_zero, true_and, and_true, and_self, eq_self, z_take_zero, List.drop_nil, List.take_nil, vAll, List.foldl_nil, List.foldl_cons, resultsOf, resultList, resultOf, zBV, splice, PV.remade, St.freezeAt, St.freezeBox, St.freezeCap, PV.single, plain, act, dstOf, if_true, if_false, reduceCtorEq, St.get, St.put, St.pvOf, St.putRow, St.consume, St.freeze, St.row, St.elems, St.grab, St.takeRow, St.setRow, St.place, St.optPv, St.setCell, St.setCellRow, binPV, intBin, unPV, BV.val, Nat.reduceEqDiff, bound, consumeAll, buildParts, capsOf, capOf, List.append_nil, Nat.reduceAdd, Nat.reduceLT, Nat.reduceLeDiff, beq_self_eq_true, List.length_map, Nat.beq, dcall, dcallP, List.mapM_cons, St.snapFn, St.snap, St.layAll, St.lay, St.freezeArg, St.freezeArg1]
    rw [List.drop_length]
    rfl

def imgsErr (a b z : Img) : Int := if imCheck a ≠ 0 then imCheck a else if imCheck b ≠ 0 then imCheck b else if imCheck z ≠ 0 then imCheck z else if imSizes b = imSizes a ∧ imSizes z = imSizes a then 0 else 22
theorem cal56 {a b z : Img} (ha : a.length ≤ lim) (hb : b.length ≤ lim) (hz : z.length ≤ lim) : cal env 56 [.list 1 [.list 1 (a.map eSecs), .list 1 (b.map eSecs), .list 1 (z.map eSecs)]] = some [(.int .i64 (imgsErr a b z), false)] := by
  have hlim : lim = 1073741824 := rfl
  have e1 := fun st => loop56 (ims := [a, b, z]) (st := st) (by rw [hlim]; simp) (by simp; exact ⟨ha, hb, hz⟩)
  have e2 := fun st => loop56l3 (u := a) (l := [b, z]) (L := [b, z]) (st := st) (by rw [hlim]; simp) (by simp; exact ⟨hb, hz⟩)
  have hE : firstErr [a, b, z] = if imCheck a ≠ 0 then imCheck a else if imCheck b ≠ 0 then imCheck b else if imCheck z ≠ 0 then imCheck z else 0 := by
    simp only [firstErr]
    by_cases h1 : imCheck a = 0 <;> by_cases h2 : imCheck b = 0 <;> by_cases h3 : imCheck z = 0 <;> simp [h1, h2, h3]
  have hA : alikeAll a [b, z] = decide (imSizes b = imSizes a ∧ imSizes z = imSizes a) := by simp [alikeAll]
  have B1 : ((0 : Int) ≤ 1 ∧ (1 : Int) ≤ ((3 : Nat) : Int)) = True := eq_true (by omega)
  have B2 : Int.toNat 1 = 1 := rfl
  rw [cal_code env56 rfl]; simp only [fn56]; simp only [start, z_map_cons, z_map_nil, z_len_cons, z_len_nil, z_repl_zero, z_repl_succ, z_cons_app, z_nil_app, Nat.reduceAdd, Nat.reduceSub]
  simp only [List.length_cons, List.length_nil, B1, B2, Nat.reduceSub, List.isEmpty_nil, val_pvs, frozen_pvs, msnoc_len, msnoc_get, msnoc_set, msnoc_take, Int.le_refl, take_map_all, Nat.le_refl, St.freezeRows, BV.frozen, List.take_length, List.take_append_drop, z_repl_zero, Int.toNat_zero, true_and, and_true, and_self, eq_self, z_take_zero, List.drop_nil, List.take_nil, vAll, List.foldl_nil, List.foldl_cons, resultsOf, resultList, resultOf, zBV, splice, PV.remade, St.freezeAt, St.freezeBox, St.freezeCap, PV.single, plain, act, dstOf, if_true, if_false, reduceCtorEq, St.get, St.put, St.pvOf, St.putRow, St.consume, St.freeze, St.row, St.elems, St.grab, St.takeRow, St.setRow, St.place, St.optPv, St.setCell, St.setCellRow, binPV, intBin, unPV, BV.val, Nat.reduceEqDiff, bound, consumeAll, buildParts, capsOf, capOf, List.append_nil, Nat.reduceAdd, Nat.reduceLT, Nat.reduceLeDiff, beq_self_eq_true, List.length_map, Nat.beq, dcall, dcallP, List.mapM_cons, St.snapFn, St.snap, St.layAll, St.lay, St.freezeArg, St.freezeArg1]
  rw [e1 _ (by rfl)]
  by_cases c : firstErr [a, b, z] = 0
  · rw [if_pos c]
    simp only [List.length_cons, List.length_nil, B1, B2, Nat.reduceSub, List.isEmpty_nil, val_pvs, frozen_pvs, msnoc_len, msnoc_get, msnoc_set, msnoc_take, Int.le_refl, take_map_all, Nat.le_refl, St.freezeRows, BV.frozen, List.take_length, List.take_append_drop, z_repl_zero, Int.toNat_zero, true_and, and_true, and_self, eq_self, z_take_zero, List.drop_nil, List.take_nil, vAll, List.foldl_nil, List.foldl_cons, resultsOf, resultList, resultOf, zBV, splice, PV.remade, St.freezeAt, St.freezeBox, St.freezeCap, PV.single, plain, act, dstOf, if_true, if_false, reduceCtorEq, St.get, St.put, St.pvOf, St.putRow, St.consume, St.freeze, St.row, St.elems, St.grab, St.takeRow, St.setRow, St.place, St.optPv, St.setCell, St.setCellRow, binPV, intBin, unPV, BV.val, Nat.reduceEqDiff, bound, consumeAll, buildParts, capsOf, capOf, List.append_nil, Nat.reduceAdd, Nat.reduceLT, Nat.reduceLeDiff, beq_self_eq_true, List.length_map, Nat.beq, dcall, dcallP, List.mapM_cons, St.snapFn, St.snap, St.layAll, St.lay, St.freezeArg, St.freezeArg1]
    rw [e2 _ (by rfl), hA]
    have hI : imgsErr a b z = if imSizes b = imSizes a ∧ imSizes z = imSizes a then 0 else 22 := by
      unfold imgsErr
      rw [hE] at c
      by_cases h1 : imCheck a = 0
      · by_cases h2 : imCheck b = 0
        · by_cases h3 : imCheck z = 0
          · simp [h1, h2, h3]
          · simp [h1, h2, h3] at c
        · simp [h1, h2] at c
      · simp [h1] at c
    rw [hI]
    by_cases c2 : imSizes b = imSizes a ∧ imSizes z = imSizes a
    · simp only [c2, decide_true, if_true]
      simp only [List.length_cons, List.length_nil, B1, B2, Nat.reduceSub, List.isEmpty_nil, val_pvs, frozen_pvs, msnoc_len, msnoc_get, msnoc_set, msnoc_take, Int.le_refl, take_map_all, Nat.le_refl, St.freezeRows, BV.frozen, List.take_length, List.take_append_drop, z_repl_zero, Int.toNat_zero, true_and, and_true, and_self, eq_self, z_take_zero, List.drop_nil, List.take_nil, vAll, List.foldl_nil, List.foldl_cons, resultsOf, resultList, resultOf, zBV, splice, PV.remade, St.freezeAt, St.freezeBox, St.freezeCap, PV.single, plain, act, dstOf, if_true, if_false, reduceCtorEq, St.get, St.put, St.pvOf, St.putRow, St.consume, St.freeze, St.row, St.elems, St.grab, St.takeRow, St.setRow, St.place, St.optPv, St.setCell, St.setCellRow, binPV, intBin, unPV, BV.val, Nat.reduceEqDiff, bound, consumeAll, buildParts, capsOf, capOf, List.append_nil, Nat.reduceAdd, Nat.reduceLT, Nat.reduceLeDiff, beq_self_eq_true, List.length_map, Nat.beq, dcall, dcallP, List.mapM_cons, St.snapFn, St.snap, St.layAll, St.lay, St.freezeArg, St.freezeArg1]
    · simp only [c2, decide_false, if_false, Bool.false_eq_true]
      simp only [List.length_cons, List.length_nil, B1, B2, Nat.reduceSub, List.isEmpty_nil, val_pvs, frozen_pvs, msnoc_len, msnoc_get, msnoc_set, msnoc_take, Int.le_refl, take_map_all, Nat.le_refl, St.freezeRows, BV.frozen, List.take_length, List.take_append_drop, z_repl_zero, Int.toNat_zero, true_and, and_true, and_self, eq_self, z_take_zero, List.drop_nil, List.take_nil, vAll, List.foldl_nil, List.foldl_cons, resultsOf, resultList, resultOf, zBV, splice, PV.remade, St.freezeAt, St.freezeBox, St.freezeCap, PV.single, plain, act, dstOf, if_true, if_false, reduceCtorEq, St.get, St.put, St.pvOf, St.putRow, St.consume, St.freeze, St.row, St.elems, St.grab, St.takeRow, St.setRow, St.place, St.optPv, St.setCell, St.setCellRow, binPV, intBin, unPV, BV.val, Nat.reduceEqDiff, bound, consumeAll, buildParts, capsOf, capOf, List.append_nil, Nat.reduceAdd, Nat.reduceLT, Nat.reduceLeDiff, beq_self_eq_true, List.length_map, Nat.beq, dcall, dcallP, List.mapM_cons, St.snapFn, St.snap, St.layAll, St.lay, St.freezeArg, St.freezeArg1]
  · rw [if_neg c]
    have hI : imgsErr a b z = firstErr [a, b, z] := by
      rw [hE] at c ⊢
      unfold imgsErr
      split
      · rfl
      · rename_i h1
        rw [if_neg h1] at c
        split
        · rfl
        · rename_i h2
          rw [if_neg h2] at c
          split
          · rfl
          · rename_i h3
            rw [if_neg h3] at c
            exact absurd rfl c
    simp only [List.length_cons, List.length_nil, B1, B2, Nat.reduceSub, List.isEmpty_nil, val_pvs, frozen_pvs, msnoc_len, msnoc_get, msnoc_set, msnoc_take, Int.le_refl, take_map_all, Nat.le_refl, St.freezeRows, BV.frozen, List.take_length, List.take_append_drop, z_repl_zero, Int.toNat_zero, true_and, and_true, and_self, eq_self, z_take_zero, List.drop_nil, List.take_nil, vAll, List.foldl_nil, List.foldl_cons, resultsOf, resultList, resultOf, zBV, splice, PV.remade, St.freezeAt, St.freezeBox, St.freezeCap, PV.single, plain, act, dstOf, if_true, if_false, reduceCtorEq, St.get, St.put, St.pvOf, St.putRow, St.consume, St.freeze, St.row, St.elems, St.grab, St.takeRow, St.setRow, St.place, St.optPv, St.setCell, St.setCellRow, binPV, intBin, unPV, BV.val, Nat.reduceEqDiff, bound, consumeAll, buildParts, capsOf, capOf, List.append_nil, Nat.reduceAdd, Nat.reduceLT, Nat.reduceLeDiff, beq_self_eq_true, List.length_map, Nat.beq, dcall, dcallP, List.mapM_cons, St.snapFn, St.snap, St.layAll, St.lay, St.freezeArg, St.freezeArg1]
    rw [hI]
end Go.Proofs.Ytpdfhckdmblicaa.V

namespace Go.Proofs.Ytpdfhckdmblicaa.V
set_option linter.all false
def chooseV (g : Sec → Sec → Sec → Sec) (x y w : List Sec) : List Sec := (x.zip (y.zip w)).map fun q => g q.1 q.2.1 q.2.2
def chooseX (g : Sec → Sec → Sec → Sec) (a b z : Img) : Img := (a.zip (b.zip z)).map fun q => chooseV g q.1 q.2.1 q.2.2
theorem zip3_get {α β γ : Type} {x : List α} {y : List β} {w : List γ} {i : Nat} (h1 : i < x.length) (h2 : i < y.length) (h3 : i < w.length) : (x.zip (y.zip w))[i]? = some (x[i], y[i], w[i]) := by
  rw [List.getElem?_eq_getElem (by simp; omega), List.getElem_zip, List.getElem_zip]
theorem zip3_len {α β γ : Type} {x : List α} {y : List β} {w : List γ} (h1 : x.length = w.length) (h2 : y.length = w.length) : (x.zip (y.zip w)).length = w.length := by simp; omega
theorem chooseV_len {g : Sec → Sec → Sec → Sec} {x y w : List Sec} (h1 : x.length = w.length) (h2 : y.length = w.length) : (chooseV g x y w).length = w.length := by unfold chooseV; rw [List.length_map, zip3_len h1 h2]
theorem chooseX_len {g : Sec → Sec → Sec → Sec} {a b z : Img} (h1 : a.length = z.length) (h2 : b.length = z.length) : (chooseX g a b z).length = z.length := by unfold chooseX; rw [List.length_map, zip3_len h1 h2]
theorem take_snoc {α : Type} {l : List α} {i : Nat} {x : α} (h : l[i]? = some x) : l.take (i + 1) = l.take i ++ [x] := by
  obtain ⟨h1, h2⟩ := List.getElem?_eq_some_iff.1 h
  rw [List.take_succ, h]; rfl
theorem chooseV_get {g : Sec → Sec → Sec → Sec} {x y w : List Sec} {i : Nat} (h1 : i < x.length) (h2 : i < y.length) (h3 : i < w.length) : (chooseV g x y w)[i]? = some (g x[i] y[i] w[i]) := by
  unfold chooseV; rw [List.getElem?_map, zip3_get h1 h2 h3]; rfl
theorem chooseX_get {g : Sec → Sec → Sec → Sec} {a b z : Img} {i : Nat} (h1 : i < a.length) (h2 : i < b.length) (h3 : i < z.length) : (chooseX g a b z)[i]? = some (chooseV g a[i] b[i] z[i]) := by
  unfold chooseX; rw [List.getElem?_map, zip3_get h1 h2 h3]; rfl
theorem chooseX_sizes {g : Sec → Sec → Sec → Sec} {a b z : Img} (h1 : imSizes a = imSizes z) (h2 : imSizes b = imSizes z) : imSizes (chooseX g a b z) = imSizes z := by
  obtain ⟨l1, s1⟩ := sizes_inj h1
  obtain ⟨l2, s2⟩ := sizes_inj h2
  refine sizes_of (chooseX_len l1 l2) fun i q1 q2 => ?_
  have := chooseX_get (g := g) (a := a) (b := b) (z := z) (i := i) (by omega) (by omega) q2
  rw [List.getElem?_eq_getElem q1] at this
  rw [Option.some.inj this, chooseV_len (s1 i (by omega) q2) (s2 i (by omega) q2)]
theorem loop57 {g : Sec → Sec → Sec → Sec} {gf : Nat} {caps : List PV} (hp : ∀ x y z, cal env gf (eSec x :: eSec y :: eSec z :: caps) = some [(eSec (g x y z), false)]) {a b z : Img} {v : Nat} {x y w : List Sec} {out : List PV} (hx : a[v]? = some x) (hy : b[v]? = some y) (hw : z[v]? = some w) (e1 : x.length = w.length) (e2 : y.length = w.length) (hl : w.length ≤ lim) {st : St} (h : st.head [0, 1, 2, 3, 9, 10, 11, 14, 15, 22, 23, 51, 56] st.boxes.length = some ⟨[.pv (.list 1 (a.map eSecs)), .pv (.list 1 (b.map eSecs)), .pv (.list 1 (z.map eSecs)), .pv (.func gf caps), .any, .any, .any, .any, .any, .row 1 out, .pv (.int .i64 v), .row 8 (((chooseV g x y w).take ((0 : Nat))).map eSec), .any, .any, .pv (.int .i64 z.length), .pv (.int .i64 v), .any, .any, .any, .any, .any, .any, .pv (.int .i64 w.length), .pv (.int .i64 (0 : Nat)), .any, .any, .any, .any, .any, .any, .any, .any, .any, .any, .any, .any, .any, .any, .any, .any, .any, .any, .any, .any, .any, .any, .any, .any, .any, .any, .any, .any, .any, .any, .any, .any, .any, .any, .any], [], [], none⟩) :
   den env fn57_l1 st = some (.normal, ⟨[.pv (.list 1 (a.map eSecs)), .pv (.list 1 (b.map eSecs)), .pv (.list 1 (z.map eSecs)), .pv (.func gf caps), .any, .any, .any, .any, .any, .row 1 out, .any, .row 8 ((chooseV g x y w).map eSec), .any, .any, .pv (.int .i64 z.length), .pv (.int .i64 v), .any, .any, .any, .any, .any, .any, .any, .any, .any, .any, .any, .any, .any, .any, .any, .any, .any, .any, .any, .any, .any, .any, .any, .any, .any, .any, .any, .any, .any, .any, .any, .any, .any, .any, .any, .any, .any, .any, .any, .any, .any, .any, .any], [], [], none⟩) := by
  unfold fn57_l1
  refine clean_up (env := env) (w.length) (fun i => ⟨[.pv (.list 1 (a.map eSecs)), .pv (.list 1 (b.map eSecs)), .pv (.list 1 (z.map eSecs)), .pv (.func gf caps), .any, .any, .any, .any, .any, .row 1 out, .pv (.int .i64 v), .row 8 (((chooseV g x y w).take (i)).map eSec), .any, .any, .pv (.int .i64 z.length), .pv (.int .i64 v), .any, .any, .any, .any, .any, .any, .pv (.int .i64 w.length), .pv (.int .i64 i), .any, .any, .any, .any, .any, .any, .any, .any, .any, .any, .any, .any, .any, .any, .any, .any, .any, .any, .any, .any, .any, .any, .any, .any, .any, .any, .any, .any, .any, .any, .any, .any, .any, .any, .any], [], [], none⟩) (fun i => some (.normal, ⟨[.pv (.list 1 (a.map eSecs)), .pv (.list 1 (b.map eSecs)), .pv (.list 1 (z.map eSecs)), .pv (.func gf caps), .any, .any, .any, .any, .any, .row 1 out, .any, .row 8 ((chooseV g x y w).map eSec), .any, .any, .pv (.int .i64 z.length), .pv (.int .i64 v), .any, .any, .any, .any, .any, .any, .any, .any, .any, .any, .any, .any, .any, .any, .any, .any, .any, .any, .any, .any, .any, .any, .any, .any, .any, .any, .any, .any, .any, .any, .any, .any, .any, .any, .any, .any, .any, .any, .any, .any, .any, .any, .any], [], [], none⟩)) h (fun _ => rfl) (fun _ => rfl) ?_ ?_
  · intro i rb hi ih

    have hi1 := i64_next hi hl
    have F1 : ((i : Int) < (w.length : Int)) = True := eq_true (by omega)
    have F2 : (((chooseV g x y w).take i).length + 1 ≤ lim) = True := eq_true (by rw [List.length_take]; omega)
    have ix : i < x.length := by omega
    have iy : i < y.length := by omega
    have hv1 := (List.getElem?_eq_some_iff.1 hx).1
    have hv2 := (List.getElem?_eq_some_iff.1 hy).1
    have hv3 := (List.getElem?_eq_some_iff.1 hw).1
    have g1 := List.getElem?_eq_getElem ix
    have g2 := List.getElem?_eq_getElem iy
    have g3 := List.getElem?_eq_getElem hi
    have g4 := chooseV_get (g := g) ix iy hi
    have e3 := hp x[i] y[i] w[i]
    generalize x[i] = p at *
    generalize y[i] = q at *
    generalize w[i] = r at *
    simp only [eSec] at e3
    simp only [fn57_b0, F1, F2, e3, eSecs, eSec, hx, hy, hw, g1, g2, g3, index_nat hi, index_nat ix, index_nat iy, index_nat hv1, index_nat hv2, index_nat hv3, List.getElem?_map, Option.map_some, List.length_map, part_sec, secPV_length, List.isEmpty_nil, val_pvs, frozen_pvs, msnoc_len, msnoc_get, msnoc_set, msnoc_take, Int.le_refl, take_map_all, Nat.le_refl, St.freezeRows, BV.frozen, List.take_length, List.take_append_drop, z_repl_zero, Int.toNat_zero, true_and, and_true, and_self, eq_self, z_take_zero, List.drop_nil, List.take_nil, vAll, List.foldl_nil, List.foldl_cons, resultsOf, resultList, resultOf, zBV, splice, PV.remade, St.freezeAt, St.freezeBox, St.freezeCap, PV.single, plain, act, dstOf, if_true, if_false, reduceCtorEq, St.get, St.put, St.pvOf, St.putRow, St.consume, St.freeze, St.row, St.elems, St.grab, St.takeRow, St.setRow, St.place, St.optPv, St.setCell, St.setCellRow, binPV, intBin, unPV, BV.val, Nat.reduceEqDiff, bound, consumeAll, buildParts, capsOf, capOf, List.append_nil, Nat.reduceAdd, Nat.reduceLT, Nat.reduceLeDiff, beq_self_eq_true, List.length_map, Nat.beq, dcall, dcallP, List.mapM_cons, St.snapFn, St.snap, St.layAll, St.lay, St.freezeArg, St.freezeArg1]
    rw [ih _ (by simp only [hi1]; rw [take_snoc g4, List.map_append]; rfl)]
  · intro rb

    simp only [fn57_b0, Int.lt_irrefl,  List.isEmpty_nil, val_pvs, frozen_pvs, msnoc_len, msnoc_get, msnoc_set, msnoc_take, Int.le_refl, take_map_all, Nat.le_refl, St.freezeRows, BV.frozen, List.take_length, List.take_append_drop, z_repl_zero, Int.toNat_zero, true_and, and_true, and_self, eq_self, z_take_zero, List.drop_nil, List.take_nil, vAll, List.foldl_nil, List.foldl_cons, resultsOf, resultList, resultOf, zBV, splice, PV.remade, St.freezeAt, St.freezeBox, St.freezeCap, PV.single, plain, act, dstOf, if_true, if_false, reduceCtorEq, St.get, St.put, St.pvOf, St.putRow, St.consume, St.freeze, St.row, St.elems, St.grab, St.takeRow, St.setRow, St.place, St.optPv, St.setCell, St.setCellRow, binPV, intBin, unPV, BV.val, Nat.reduceEqDiff, bound, consumeAll, buildParts, capsOf, capOf, List.append_nil, Nat.reduceAdd, Nat.reduceLT, Nat.reduceLeDiff, beq_self_eq_true, List.length_map, Nat.beq, dcall, dcallP, List.mapM_cons, St.snapFn, St.snap, St.layAll, St.lay, St.freezeArg, St.freezeArg1]
    have : (chooseV g x y w).take w.length = chooseV g x y w := by rw [← chooseV_len (g := g) e1 e2, List.take_length]
    rw [this]
    rfl

theorem loop57l3 {g : Sec → Sec → Sec → Sec} {gf : Nat} {caps : List PV} (hp : ∀ x y z, cal env gf (eSec x :: eSec y :: eSec z :: caps) = some [(eSec (g x y z), false)]) {a b z : Img} (s1 : imSizes a = imSizes z) (s2 : imSizes b = imSizes z) (hl : z.length ≤ lim) (hr : ∀ v ∈ z, v.length ≤ lim) {st : St} (h : st.head [0, 1, 2, 3, 9, 14, 15, 51, 56] st.boxes.length = some ⟨[.pv (.list 1 (a.map eSecs)), .pv (.list 1 (b.map eSecs)), .pv (.list 1 (z.map eSecs)), .pv (.func gf caps), .any, .any, .any, .any, .any, .row 1 (((chooseX g a b z).take ((0 : Nat))).map eSecs), .any, .any, .any, .any, .pv (.int .i64 z.length), .pv (.int .i64 (0 : Nat)), .any, .any, .any, .any, .any, .any, .any, .any, .any, .any, .any, .any, .any, .any, .any, .any, .any, .any, .any, .any, .any, .any, .any, .any, .any, .any, .any, .any, .any, .any, .any, .any, .any, .any, .any, .any, .any, .any, .any, .any, .any, .any, .any], [], [], none⟩) :
   den env fn57_l3 st = some (.normal, ⟨[.any, .any, .any, .any, .any, .any, .any, .any, .any, .row 1 ((chooseX g a b z).map eSecs), .any, .any, .any, .any, .any, .any, .any, .any, .any, .any, .any, .any, .any, .any, .any, .any, .any, .any, .any, .any, .any, .any, .any, .any, .any, .any, .any, .any, .any, .any, .any, .any, .any, .any, .any, .any, .any, .any, .any, .any, .any, .any, .any, .any, .any, .any, .any, .any, .any], [], [], none⟩) := by
  unfold fn57_l3
  refine clean_up (env := env) (z.length) (fun i => ⟨[.pv (.list 1 (a.map eSecs)), .pv (.list 1 (b.map eSecs)), .pv (.list 1 (z.map eSecs)), .pv (.func gf caps), .any, .any, .any, .any, .any, .row 1 (((chooseX g a b z).take (i)).map eSecs), .any, .any, .any, .any, .pv (.int .i64 z.length), .pv (.int .i64 i), .any, .any, .any, .any, .any, .any, .any, .any, .any, .any, .any, .any, .any, .any, .any, .any, .any, .any, .any, .any, .any, .any, .any, .any, .any, .any, .any, .any, .any, .any, .any, .any, .any, .any, .any, .any, .any, .any, .any, .any, .any, .any, .any], [], [], none⟩) (fun i => some (.normal, ⟨[.any, .any, .any, .any, .any, .any, .any, .any, .any, .row 1 ((chooseX g a b z).map eSecs), .any, .any, .any, .any, .any, .any, .any, .any, .any, .any, .any, .any, .any, .any, .any, .any, .any, .any, .any, .any, .any, .any, .any, .any, .any, .any, .any, .any, .any, .any, .any, .any, .any, .any, .any, .any, .any, .any, .any, .any, .any, .any, .any, .any, .any, .any, .any, .any, .any], [], [], none⟩)) h (fun _ => rfl) (fun _ => rfl) ?_ ?_
  · intro i rb hi ih

    obtain ⟨l1, t1⟩ := sizes_inj s1
    obtain ⟨l2, t2⟩ := sizes_inj s2
    have hi1 := i64_next hi hl
    have ia : i < a.length := by omega
    have ib : i < b.length := by omega
    have F1 : ((i : Int) < (z.length : Int)) = True := eq_true (by omega)
    have F2 : (((chooseX g a b z).take i).length + 1 ≤ lim) = True := eq_true (by rw [List.length_take]; omega)
    have g1 := List.getElem?_eq_getElem ia
    have g2 := List.getElem?_eq_getElem ib
    have g3 := List.getElem?_eq_getElem hi
    have g4 := chooseX_get (g := g) ia ib hi
    have r1 := t1 i ia hi
    have r2 := t2 i ib hi
    have r3 := hr _ (List.getElem_mem hi)
    generalize a[i] = x at *
    generalize b[i] = y at *
    generalize z[i] = w at *
    simp only [fn57_b2, F1, eSecs, g3, index_nat hi, List.getElem?_map, Option.map_some, List.length_map, List.isEmpty_nil, val_pvs, frozen_pvs, msnoc_len, msnoc_get, msnoc_set, msnoc_take, Int.le_refl, take_map_all, Nat.le_refl, St.freezeRows, BV.frozen, List.take_length, List.take_append_drop, z_repl_zero, Int.toNat_zero, true_and, and_true, and_self, eq_self, z_take_zero, List.drop_nil, List.take_nil, vAll, List.foldl_nil, List.foldl_cons, resultsOf, resultList, resultOf, zBV, splice, PV.remade, St.freezeAt, St.freezeBox, St.freezeCap, PV.single, plain, act, dstOf, if_true, if_false, reduceCtorEq, St.get, St.put, St.pvOf, St.putRow, St.consume, St.freeze, St.row, St.elems, St.grab, St.takeRow, St.setRow, St.place, St.optPv, St.setCell, St.setCellRow, binPV, intBin, unPV, BV.val, Nat.reduceEqDiff, bound, consumeAll, buildParts, capsOf, capOf, List.append_nil, Nat.reduceAdd, Nat.reduceLT, Nat.reduceLeDiff, beq_self_eq_true, List.length_map, Nat.beq, dcall, dcallP, List.mapM_cons, St.snapFn, St.snap, St.layAll, St.lay, St.freezeArg, St.freezeArg1]
    rw [loop57 hp g1 g2 g3 r1 r2 r3]
    rotate_left
    · simp only [z_take_zero, z_map_nil]; rfl
    · simp only [F2, eSecs, List.length_map, List.isEmpty_nil, val_pvs, frozen_pvs, msnoc_len, msnoc_get, msnoc_set, msnoc_take, Int.le_refl, take_map_all, Nat.le_refl, St.freezeRows, BV.frozen, List.take_length, List.take_append_drop, z_repl_zero, Int.toNat_zero, true_and, and_true, and_self, eq_self, z_take_zero, List.drop_nil, List.take_nil, vAll, List.foldl_nil, List.foldl_cons, resultsOf, resultList, resultOf, zBV, splice, PV.remade, St.freezeAt, St.freezeBox, St.freezeCap, PV.single, plain, act, dstOf, if_true, if_false, reduceCtorEq, St.get, St.put, St.pvOf, St.putRow, St.consume, St.freeze, St.row, St.elems, St.grab, St.takeRow, St.setRow, St.place, St.optPv, St.setCell, St.setCellRow, binPV, intBin, unPV, BV.val, Nat.reduceEqDiff, bound, consumeAll, buildParts, capsOf, capOf, List.append_nil, Nat.reduceAdd, Nat.reduceLT, Nat.reduceLeDiff, beq_self_eq_true, List.length_map, Nat.beq, dcall, dcallP, List.mapM_cons, St.snapFn, St.snap, St.layAll, St.lay, St.freezeArg, St.freezeArg1]
      rw [ih _ (by simp only [hi1]; rw [take_snoc g4, List.map_append]; rfl)]
  · intro rb

    obtain ⟨l1, t1⟩ := sizes_inj s1
    obtain ⟨l2, t2⟩ := sizes_inj s2
    simp only [fn57_b2, Int.lt_irrefl, List.isEmpty_nil, val_pvs, frozen_pvs, msnoc_len, msnoc_get, msnoc_set, msnoc_take, Int.le_refl, take_map_all, Nat.le_refl, St.freezeRows, BV.frozen, List.take_length, List.take_append_drop, z_repl_zero, Int.toNat_zero, true_and, and_true, and_self, eq_self, z_take_zero, List.drop_nil, List.take_nil, vAll, List.foldl_nil, List.foldl_cons, resultsOf, resultList, resultOf, zBV, splice, PV.remade, St.freezeAt, St.freezeBox, St.freezeCap, PV.single, plain, act, dstOf, if_true, if_false, reduceCtorEq, St.get, St.put, St.pvOf, St.putRow, St.consume, St.freeze, St.row, St.elems, St.grab, St.takeRow, St.setRow, St.place, St.optPv, St.setCell, St.setCellRow, binPV, intBin, unPV, BV.val, Nat.reduceEqDiff, bound, consumeAll, buildParts, capsOf, capOf, List.append_nil, Nat.reduceAdd, Nat.reduceLT, Nat.reduceLeDiff, beq_self_eq_true, List.length_map, Nat.beq, dcall, dcallP, List.mapM_cons, St.snapFn, St.snap, St.layAll, St.lay, St.freezeArg, St.freezeArg1]
    have : (chooseX g a b z).take z.length = chooseX g a b z := by rw [← chooseX_len (g := g) l1 l2, List.take_length]
    rw [this]
    rfl

theorem cal57 {g : Sec → Sec → Sec → Sec} {gf : Nat} {caps : List PV} (hp : ∀ x y z, cal env gf (eSec x :: eSec y :: eSec z :: caps) = some [(eSec (g x y z), false)]) {a b z : Img} (s1 : imSizes a = imSizes z) (s2 : imSizes b = imSizes z) (hl : z.length ≤ lim) (hr : ∀ v ∈ z, v.length ≤ lim) :
    cal env 57 [.list 1 (a.map eSecs), .list 1 (b.map eSecs), .list 1 (z.map eSecs), .func gf caps] = some [(.list 1 ((chooseX g a b z).map eSecs), true)] := by
  rw [cal_code env57 rfl]; simp only [fn57]; simp only [start, z_map_cons, z_map_nil, z_len_cons, z_len_nil, z_repl_zero, z_repl_succ, z_cons_app, z_nil_app, Nat.reduceAdd, Nat.reduceSub]
  simp only [ List.isEmpty_nil, val_pvs, frozen_pvs, msnoc_len, msnoc_get, msnoc_set, msnoc_take, Int.le_refl, take_map_all, Nat.le_refl, St.freezeRows, BV.frozen, List.take_length, List.take_append_drop, z_repl_zero, Int.toNat_zero, true_and, and_true, and_self, eq_self, z_take_zero, List.drop_nil, List.take_nil, vAll, List.foldl_nil, List.foldl_cons, resultsOf, resultList, resultOf, zBV, splice, PV.remade, St.freezeAt, St.freezeBox, St.freezeCap, PV.single, plain, act, dstOf, if_true, if_false, reduceCtorEq, St.get, St.put, St.pvOf, St.putRow, St.consume, St.freeze, St.row, St.elems, St.grab, St.takeRow, St.setRow, St.place, St.optPv, St.setCell, St.setCellRow, binPV, intBin, unPV, BV.val, Nat.reduceEqDiff, bound, consumeAll, buildParts, capsOf, capOf, List.append_nil, Nat.reduceAdd, Nat.reduceLT, Nat.reduceLeDiff, beq_self_eq_true, List.length_map, Nat.beq, dcall, dcallP, List.mapM_cons, St.snapFn, St.snap, St.layAll, St.lay, St.freezeArg, St.freezeArg1]
  rw [loop57l3 hp s1 s2 hl hr]
  rotate_left
  · rfl
  simp only [ List.isEmpty_nil, val_pvs, frozen_pvs, msnoc_len, msnoc_get, msnoc_set, msnoc_take, Int.le_refl, take_map_all, Nat.le_refl, St.freezeRows, BV.frozen, List.take_length, List.take_append_drop, z_repl_zero, Int.toNat_zero, true_and, and_true, and_self, eq_self, z_take_zero, List.drop_nil, List.take_nil, vAll, List.foldl_nil, List.foldl_cons, resultsOf, resultList, resultOf, zBV, splice, PV.remade, St.freezeAt, St.freezeBox, St.freezeCap, PV.single, plain, act, dstOf, if_true, if_false, reduceCtorEq, St.get, St.put, St.pvOf, St.putRow, St.consume, St.freeze, St.row, St.elems, St.grab, St.takeRow, St.setRow, St.place, St.optPv, St.setCell, St.setCellRow, binPV, intBin, unPV, BV.val, Nat.reduceEqDiff, bound, consumeAll, buildParts, capsOf, capOf, List.append_nil, Nat.reduceAdd, Nat.reduceLT, Nat.reduceLeDiff, beq_self_eq_true, List.length_map, Nat.beq, dcall, dcallP, List.mapM_cons, St.snapFn, St.snap, St.layAll, St.lay, St.freezeArg, St.freezeArg1]

def oneSec : Sec := ⟨#[1, 0, 0, 0, 0, 0, 0, 0], rfl⟩
theorem secPV_one : secPV oneSec = [.int .u8 1, .int .u8 0, .int .u8 0, .int .u8 0, .int .u8 0, .int .u8 0, .int .u8 0, .int .u8 0] := rfl
def confP (x y z : Sec) : Bool := (!decide (x = z)) && ((!decide (y = z)) && !decide (x = y))
def gMark (x y z : Sec) : Sec := if confP x y z then oneSec else zSec
def gZero (_ _ _ : Sec) : Sec := zSec
def gMerge (x y z : Sec) : Sec := if x = z then y else x
theorem cal58 {x y z : Sec} : cal env 58 [eSec x, eSec y, eSec z, .iptr (secPV oneSec) 0, .iptr (secPV zSec) 0] = some [(eSec (gMark x y z), false)] := by
  unfold gMark confP
  generalize hd1 : decide (x = z) = d1
  generalize hd2 : decide (y = z) = d2
  generalize hd3 : decide (x = y) = d3
  simp only [eSec]
  cases d1 <;> cases d2 <;> cases d3 <;> (rw [cal_code env58 rfl]; simp only [fn58]; simp only [start, z_map_cons, z_map_nil, z_len_cons, z_len_nil, z_repl_zero, z_repl_succ, z_cons_app, z_nil_app, Nat.reduceAdd, Nat.reduceSub]; simp only [eSec, part_sec, eqCells_sec, secPV_length, val_pvs, hd1, hd2, hd3, List.isEmpty_nil, val_pvs, frozen_pvs, msnoc_len, msnoc_get, msnoc_set, msnoc_take, Int.le_refl, take_map_all, Nat.le_refl, St.freezeRows, BV.frozen, List.take_length, List.take_append_drop, z_repl_zero, Int.toNat_zero, true_and, and_true, and_self, eq_self, z_take_zero, List.drop_nil, List.take_nil, vAll, List.foldl_nil, List.foldl_cons, resultsOf, resultList, resultOf, zBV, splice, PV.remade, St.freezeAt, St.freezeBox, St.freezeCap, PV.single, plain, act, dstOf, if_true, if_false, reduceCtorEq, St.get, St.put, St.pvOf, St.putRow, St.consume, St.freeze, St.row, St.elems, St.grab, St.takeRow, St.setRow, St.place, St.optPv, St.setCell, St.setCellRow, binPV, intBin, unPV, BV.val, Nat.reduceEqDiff, bound, consumeAll, buildParts, capsOf, capOf, List.append_nil, Nat.reduceAdd, Nat.reduceLT, Nat.reduceLeDiff, beq_self_eq_true, List.length_map, Nat.beq, dcall, dcallP, List.mapM_cons, St.snapFn, St.snap, St.layAll, St.lay, St.freezeArg, St.freezeArg1]; try rfl)
theorem cal60 {x y z : Sec} : cal env 60 [eSec x, eSec y, eSec z, .iptr (secPV zSec) 0] = some [(eSec (gZero x y z), false)] := by
  unfold gZero
  simp only [eSec]
  rw [cal_code env60 rfl]; simp only [fn60]; simp only [start, z_map_cons, z_map_nil, z_len_cons, z_len_nil, z_repl_zero, z_repl_succ, z_cons_app, z_nil_app, Nat.reduceAdd, Nat.reduceSub]
  simp only [eSec, part_sec, eqCells_sec, secPV_length, val_pvs, List.isEmpty_nil, val_pvs, frozen_pvs, msnoc_len, msnoc_get, msnoc_set, msnoc_take, Int.le_refl, take_map_all, Nat.le_refl, St.freezeRows, BV.frozen, List.take_length, List.take_append_drop, z_repl_zero, Int.toNat_zero, true_and, and_true, and_self, eq_self, z_take_zero, List.drop_nil, List.take_nil, vAll, List.foldl_nil, List.foldl_cons, resultsOf, resultList, resultOf, zBV, splice, PV.remade, St.freezeAt, St.freezeBox, St.freezeCap, PV.single, plain, act, dstOf, if_true, if_false, reduceCtorEq, St.get, St.put, St.pvOf, St.putRow, St.consume, St.freeze, St.row, St.elems, St.grab, St.takeRow, St.setRow, St.place, St.optPv, St.setCell, St.setCellRow, binPV, intBin, unPV, BV.val, Nat.reduceEqDiff, bound, consumeAll, buildParts, capsOf, capOf, List.append_nil, Nat.reduceAdd, Nat.reduceLT, Nat.reduceLeDiff, beq_self_eq_true, List.length_map, Nat.beq, dcall, dcallP, List.mapM_cons, St.snapFn, St.snap, St.layAll, St.lay, St.freezeArg, St.freezeArg1]
  try rfl
theorem cal63 {x y z : Sec} : cal env 63 [eSec x, eSec y, eSec z] = some [(eSec (gMerge x y z), false)] := by
  have hg : gMerge x y z = if decide (x = z) = true then y else x := by
    unfold gMerge
    by_cases h : x = z <;> simp [h]
  rw [hg]
  generalize hd1 : decide (x = z) = d1
  simp only [eSec]
  cases d1 <;> (rw [cal_code env63 rfl]; simp only [fn63]; simp only [start, z_map_cons, z_map_nil, z_len_cons, z_len_nil, z_repl_zero, z_repl_succ, z_cons_app, z_nil_app, Nat.reduceAdd, Nat.reduceSub]; simp only [eSec, part_sec, eqCells_sec, secPV_length, val_pvs, hd1, List.isEmpty_nil, val_pvs, frozen_pvs, msnoc_len, msnoc_get, msnoc_set, msnoc_take, Int.le_refl, take_map_all, Nat.le_refl, St.freezeRows, BV.frozen, List.take_length, List.take_append_drop, z_repl_zero, Int.toNat_zero, true_and, and_true, and_self, eq_self, z_take_zero, List.drop_nil, List.take_nil, vAll, List.foldl_nil, List.foldl_cons, resultsOf, resultList, resultOf, zBV, splice, PV.remade, St.freezeAt, St.freezeBox, St.freezeCap, PV.single, plain, act, dstOf, if_true, if_false, reduceCtorEq, St.get, St.put, St.pvOf, St.putRow, St.consume, St.freeze, St.row, St.elems, St.grab, St.takeRow, St.setRow, St.place, St.optPv, St.setCell, St.setCellRow, binPV, intBin, unPV, BV.val, Nat.reduceEqDiff, bound, consumeAll, buildParts, capsOf, capOf, List.append_nil, Nat.reduceAdd, Nat.reduceLT, Nat.reduceLeDiff, beq_self_eq_true, List.length_map, Nat.beq, dcall, dcallP, List.mapM_cons, St.snapFn, St.snap, St.layAll, St.lay, St.freezeArg, St.freezeArg1]; try rfl)

def marksI (a b z : Img) : Img := chooseX gMark a b z
def zerosI (a b z : Img) : Img := chooseX gZero a b z
def confOut (a b z : Img) : List (List Exn) := if imgsErr a b z = 0 then differ (marksI a b z) (zerosI a b z) else []
def mergeOut (a b z : Img) : Img := if imgsErr a b z = 0 then chooseX gMerge a b z else []
theorem imgs_ok {a b z : Img} (h : imgsErr a b z = 0) : imCheck a = 0 ∧ imCheck b = 0 ∧ imCheck z = 0 ∧ imSizes a = imSizes z ∧ imSizes b = imSizes z := by
  unfold imgsErr at h
  by_cases h1 : imCheck a = 0
  · by_cases h2 : imCheck b = 0
    · by_cases h3 : imCheck z = 0
      · simp [h1, h2, h3] at h
        exact ⟨h1, h2, h3, h.2.symm, by rw [h.1, h.2]⟩
      · simp [h1, h2, h3] at h
    · simp [h1, h2] at h
  · simp [h1] at h
theorem check_sizes {a b : Img} (h : imSizes a = imSizes b) : imCheck a = imCheck b := by unfold imCheck; rw [h]
theorem sizes_le {a b : Img} {n : Nat} (h : imSizes a = imSizes b) (hb : ∀ v ∈ b, v.length ≤ n) : ∀ v ∈ a, v.length ≤ n := by
  intro v hv
  obtain ⟨i, hi, rfl⟩ := List.mem_iff_getElem.1 hv
  obtain ⟨l1, s1⟩ := sizes_inj h
  rw [s1 i hi (by omega)]
  exact hb _ (List.getElem_mem _)
theorem pair_ok {a b : Img} (h : imSizes a = imSizes b) (hc : imCheck b = 0) : pairErr a b = 0 := by
  unfold pairErr
  rw [check_sizes h, hc, if_neg (by simp), if_neg (by simp), if_pos h]
theorem cal22 {a b z : Img} (ha : a.length ≤ lim) (hb : b.length ≤ lim) (hz : z.length ≤ lim) (hr : ∀ v ∈ z, v.length ≤ lim) : cal env 22 [.list 1 (a.map eSecs), .list 1 (b.map eSecs), .list 1 (z.map eSecs)] = some [(.list 1 ((confOut a b z).map eExts), true), (.int .i64 (imgsErr a b z), false)] := by
  have e1 := cal56 ha hb hz
  have hlim : lim = 1073741824 := rfl
  have L3 : (3 ≤ lim) = True := eq_true (by rw [hlim]; decide)
  by_cases c : imgsErr a b z = 0
  · obtain ⟨-, -, k3, k4, k5⟩ := imgs_ok c
    have G : (imgsErr a b z != 0) = false := by simp [c]
    have sm : imSizes (marksI a b z) = imSizes z := chooseX_sizes k4 k5
    have sz : imSizes (zerosI a b z) = imSizes z := chooseX_sizes k4 k5
    have lm := (sizes_inj sm).1
    have lz := (sizes_inj sz).1
    have e2 := cal57 (g := gMark) (gf := 58) (caps := [.iptr (secPV oneSec) 0, .iptr (secPV zSec) 0]) (fun x y z => cal58) k4 k5 hz hr
    have e3 := cal57 (g := gZero) (gf := 60) (caps := [.iptr (secPV zSec) 0]) (fun x y z => cal60) k4 k5 hz hr
    have e4 := cal59 (a := marksI a b z) (b := zerosI a b z) (by omega) (by omega) (sizes_le sm hr)
    have hd : differOut (marksI a b z) (zerosI a b z) = confOut a b z := by
      unfold differOut confOut
      rw [if_pos (pair_ok (sm.trans sz.symm) (by rw [check_sizes sz]; exact k3)), if_pos c]
    rw [hd, pair_ok (sm.trans sz.symm) (by rw [check_sizes sz]; exact k3)] at e4
    change cal env _ _ = some [(.list 1 ((marksI a b z).map eSecs), true)] at e2
    change cal env _ _ = some [(.list 1 ((zerosI a b z).map eSecs), true)] at e3
    simp only [secPV_one, secPV_zero] at e2 e3
    rw [cal_code env22 rfl]; simp only [fn22]; simp only [start, z_map_cons, z_map_nil, z_len_cons, z_len_nil, z_repl_zero, z_repl_succ, z_cons_app, z_nil_app, Nat.reduceAdd, Nat.reduceSub]
    simp only [e1, e2, e3, e4, G, L3, List.length_cons, List.length_nil, List.isEmpty_nil, val_pvs, frozen_pvs, msnoc_len, msnoc_get, msnoc_set, msnoc_take, Int.le_refl, take_map_all, Nat.le_refl, St.freezeRows, BV.frozen, List.take_length, List.take_append_drop, z_repl_zero, Int.toNat_zero, true_and, and_true, and_self, eq_self, z_take_zero, List.drop_nil, List.take_nil, vAll, List.foldl_nil, List.foldl_cons, resultsOf, resultList, resultOf, zBV, splice, PV.remade, St.freezeAt, St.freezeBox, St.freezeCap, PV.single, plain, act, dstOf, if_true, if_false, reduceCtorEq, St.get, St.put, St.pvOf, St.putRow, St.consume, St.freeze, St.row, St.elems, St.grab, St.takeRow, St.setRow, St.place, St.optPv, St.setCell, St.setCellRow, binPV, intBin, unPV, BV.val, Nat.reduceEqDiff, bound, consumeAll, buildParts, capsOf, capOf, List.append_nil, Nat.reduceAdd, Nat.reduceLT, Nat.reduceLeDiff, beq_self_eq_true, List.length_map, Nat.beq, dcall, dcallP, List.mapM_cons, St.snapFn, St.snap, St.layAll, St.lay, St.freezeArg, St.freezeArg1]
    rw [c]
  · have G : (imgsErr a b z != 0) = true := by simp [c]
    have hn : confOut a b z = [] := by unfold confOut; rw [if_neg c]
    rw [hn]
    rw [cal_code env22 rfl]; simp only [fn22]; simp only [start, z_map_cons, z_map_nil, z_len_cons, z_len_nil, z_repl_zero, z_repl_succ, z_cons_app, z_nil_app, Nat.reduceAdd, Nat.reduceSub]
    simp only [e1, G, L3, List.length_cons, List.length_nil, List.isEmpty_nil, val_pvs, frozen_pvs, msnoc_len, msnoc_get, msnoc_set, msnoc_take, Int.le_refl, take_map_all, Nat.le_refl, St.freezeRows, BV.frozen, List.take_length, List.take_append_drop, z_repl_zero, Int.toNat_zero, true_and, and_true, and_self, eq_self, z_take_zero, List.drop_nil, List.take_nil, vAll, List.foldl_nil, List.foldl_cons, resultsOf, resultList, resultOf, zBV, splice, PV.remade, St.freezeAt, St.freezeBox, St.freezeCap, PV.single, plain, act, dstOf, if_true, if_false, reduceCtorEq, St.get, St.put, St.pvOf, St.putRow, St.consume, St.freeze, St.row, St.elems, St.grab, St.takeRow, St.setRow, St.place, St.optPv, St.setCell, St.setCellRow, binPV, intBin, unPV, BV.val, Nat.reduceEqDiff, bound, consumeAll, buildParts, capsOf, capOf, List.append_nil, Nat.reduceAdd, Nat.reduceLT, Nat.reduceLeDiff, beq_self_eq_true, List.length_map, Nat.beq, dcall, dcallP, List.mapM_cons, St.snapFn, St.snap, St.layAll, St.lay, St.freezeArg, St.freezeArg1]
theorem cal24 {a b z : Img} (ha : a.length ≤ lim) (hb : b.length ≤ lim) (hz : z.length ≤ lim) (hr : ∀ v ∈ z, v.length ≤ lim) : cal env 24 [.list 1 (a.map eSecs), .list 1 (b.map eSecs), .list 1 (z.map eSecs)] = some [(.list 1 ((mergeOut a b z).map eSecs), true), (.list 1 ((confOut a b z).map eExts), true), (.int .i64 (imgsErr a b z), false)] := by
  have e1 := cal22 ha hb hz hr
  by_cases c : imgsErr a b z = 0
  · obtain ⟨-, -, k3, k4, k5⟩ := imgs_ok c
    have G : (imgsErr a b z != 0) = false := by simp [c]
    have e2 := cal57 (g := gMerge) (gf := 63) (caps := []) (fun x y z => cal63) k4 k5 hz hr
    have hm : mergeOut a b z = chooseX gMerge a b z := by unfold mergeOut; rw [if_pos c]
    rw [hm]
    rw [cal_code env24 rfl]; simp only [fn24]; simp only [start, z_map_cons, z_map_nil, z_len_cons, z_len_nil, z_repl_zero, z_repl_succ, z_cons_app, z_nil_app, Nat.reduceAdd, Nat.reduceSub]
    simp only [e1, e2, G, List.isEmpty_nil, val_pvs, frozen_pvs, msnoc_len, msnoc_get, msnoc_set, msnoc_take, Int.le_refl, take_map_all, Nat.le_refl, St.freezeRows, BV.frozen, List.take_length, List.take_append_drop, z_repl_zero, Int.toNat_zero, true_and, and_true, and_self, eq_self, z_take_zero, List.drop_nil, List.take_nil, vAll, List.foldl_nil, List.foldl_cons, resultsOf, resultList, resultOf, zBV, splice, PV.remade, St.freezeAt, St.freezeBox, St.freezeCap, PV.single, plain, act, dstOf, if_true, if_false, reduceCtorEq, St.get, St.put, St.pvOf, St.putRow, St.consume, St.freeze, St.row, St.elems, St.grab, St.takeRow, St.setRow, St.place, St.optPv, St.setCell, St.setCellRow, binPV, intBin, unPV, BV.val, Nat.reduceEqDiff, bound, consumeAll, buildParts, capsOf, capOf, List.append_nil, Nat.reduceAdd, Nat.reduceLT, Nat.reduceLeDiff, beq_self_eq_true, List.length_map, Nat.beq, dcall, dcallP, List.mapM_cons, St.snapFn, St.snap, St.layAll, St.lay, St.freezeArg, St.freezeArg1]
    rw [c]
  · have G : (imgsErr a b z != 0) = true := by simp [c]
    have hn : confOut a b z = [] := by unfold confOut; rw [if_neg c]
    have hm : mergeOut a b z = [] := by unfold mergeOut; rw [if_neg c]
    rw [hn] at e1
    rw [hn, hm]
    rw [cal_code env24 rfl]; simp only [fn24]; simp only [start, z_map_cons, z_map_nil, z_len_cons, z_len_nil, z_repl_zero, z_repl_succ, z_cons_app, z_nil_app, Nat.reduceAdd, Nat.reduceSub]
    simp only [e1, G, List.map_nil, List.isEmpty_nil, val_pvs, frozen_pvs, msnoc_len, msnoc_get, msnoc_set, msnoc_take, Int.le_refl, take_map_all, Nat.le_refl, St.freezeRows, BV.frozen, List.take_length, List.take_append_drop, z_repl_zero, Int.toNat_zero, true_and, and_true, and_self, eq_self, z_take_zero, List.drop_nil, List.take_nil, vAll, List.foldl_nil, List.foldl_cons, resultsOf, resultList, resultOf, zBV, splice, PV.remade, St.freezeAt, St.freezeBox, St.freezeCap, PV.single, plain, act, dstOf, if_true, if_false, reduceCtorEq, St.get, St.put, St.pvOf, St.putRow, St.consume, St.freeze, St.row, St.elems, St.grab, St.takeRow, St.setRow, St.place, St.optPv, St.setCell, St.setCellRow, binPV, intBin, unPV, BV.val, Nat.reduceEqDiff, bound, consumeAll, buildParts, capsOf, capOf, List.append_nil, Nat.reduceAdd, Nat.reduceLT, Nat.reduceLeDiff, beq_self_eq_true, List.length_map, Nat.beq, dcall, dcallP, List.mapM_cons, St.snapFn, St.snap, St.layAll, St.lay, St.freezeArg, St.freezeArg1]
    try rfl
end Go.Proofs.Ytpdfhckdmblicaa.V

namespace Go.Proofs.Ytpdfhckdmblicaa
open Go.RowKit V
set_option linter.all false

def oneEnv (f : Nat) (fn : VFn) : Env := fun k => if k = f then some (.code fn) else none
theorem oneEnv_ok {P : Program} {f : Nat} {fn : VFn} (h : fnOk P f fn = true) : EnvOk P (oneEnv f fn) := fun k d hk => by
  unfold oneEnv at hk
  split at hk
  · rename_i e; subst e; cases hk; exact h
  · cases hk
def emR (n : Nat) : Rep Unit where
  sz := n
  rd _ _ cs _ := cs.length = n ∧ ∀ u ∈ cs, u.oneCell' = true
  len h := h.1
  mono _ h := h
  live h := h
  frame _ h := h
  one h := h.2
theorem Flat.em (n : Nat) : Flat (emR n) := fun h => h
theorem sl_nil {ok : Nat → Prop} {w : World} {sz : Nat} {v : Value} (h : PRep ok w (.list sz []) v) : ∃ a c, v = .slice a 0 c ∧ Sl (emR sz) (fun _ => True) w a 0 c [] := by
  obtain ⟨l, hl⟩ : ∃ l : List PV, l = [] := ⟨_, rfl⟩
  rw [← hl] at h
  cases h with
  | nil _ a => exact ⟨a, 0, rfl, ⟨rfl, Nat.le_refl _, Nat.zero_le _, fun _ => rfl, .inl rfl⟩⟩
  | list _ _ b off c cv h1 h2 h3 h4 h6 h7 h8 => subst hl; exact ⟨_, c, rfl, ⟨rfl, Nat.zero_le _, h4, (fun e => by cases e), .inl rfl⟩⟩
theorem slt94 : SliceT Try.prog 73 79 8 8 (.agg #[.int .u8 0, .int .u8 0, .int .u8 0, .int .u8 0, .int .u8 0, .int .u8 0, .int .u8 0, .int .u8 0]) := ⟨Try.underlying73, by kernel_rfl, rfl, by decide⟩
set_option maxHeartbeats 1000000 in
theorem cempty94 {a : Option Addr} {n c : Nat} {l : List Unit} {ok : Nat → Prop} {w : World} (h : Sl (emR 8) ok w a n c l) (hn : n ≤ 1000000) :
    Calls Try.prog 94 #[.slice a n c] w fun e w' => ∃ a' n' c', e = .returned (.slice a' n' c') ∧ (ownRowR (emR 8) 79).rd (w.heap.size ≤ ·) w' [.slice a' n' c'] l ∧ Below w.heap.size w w' := by
  have heq := fun (a : Option Addr) (n c : Nat) (w : World) => Lib.run_eql_slice_nil (P := Try.prog) w 73 79 a n c 0 0 Try.underlying73
  cases a with
  | none =>
    have h0 : l = [] := List.eq_nil_of_length_eq_zero (by rw [h.len]; have := h.nil rfl; have := h.cap; omega)
    have H0 := Lib.hid h0; clear h0
    go_enter Try.func94, Try.ntmps94
    go_wp2
    go_ret
    refine ⟨_, _, _, rfl, ?_, Below.refl _ _⟩
    rw [H0.out]
    exact ownRowR.mk (Own.nil _ _ _ _ _) (fun _ => .inl rfl)
  | some ad =>
    have hs := h.small
    go_enter Try.func94, Try.ntmps94
    go_wp2_with (at_builtin; refine wpList_app slt94 rfl _ _ rfl rfl (Own.lit0 (emR 8) (ok := fun _ => False) (Nat.le_refl _)) rfl ((Src.of_sl (h.below ((Below.refl _ _).alloc (Nat.le_refl _) _))).flat (Flat.em 8)) ?c1 ?c2 ?c3 ?_)
    case c1 => simp; unfold maxLen; omega
    case c2 => simp; omega
    case c3 => simp
    intro v' w1 hown hgrow hat
    obtain ⟨a', n', c', rfl, _⟩ := hown.sl
    go_wp2
    go_ret
    refine ⟨_, _, _, rfl, ownRowR.mk (by simpa using hown) (fun e => ?_), ((Below.refl _ _).alloc (Nat.le_refl _) _).grown hgrow (by simp) (fun k hk => by cases hk; exact Nat.le_refl _)⟩
    subst e
    obtain ⟨xs, h1, _⟩ := hown
    rcases h1.2 with ⟨hv, _⟩ | ⟨g, cap, cur, hv, _⟩
    · exact .inl hv
    · exact .inr ⟨g, cap, by simpa using hv⟩
theorem clone94_fn : fnOk Try.prog 94 fn94 = true := by kernel_rfl
theorem clone94_some {en : Env} (hen : en 94 = some (.code fn94)) {e : PV} {es : List PV} (hl : (e :: es).length ≤ lim) : cal en 94 [.list 8 (e :: es)] = some [(.list 8 (e :: es), true)] := by
  have F1 : (es.length + 1 ≤ lim) = True := eq_true (by simpa using hl)
  rw [cal_code hen rfl]
  simp only [fn94]
  simp only [start, z_map_cons, z_map_nil, z_len_cons, z_len_nil, z_repl_zero, z_repl_succ, z_cons_app, z_nil_app, Nat.reduceAdd, Nat.reduceSub]
  simp only [F1, z_nil_app, List.isEmpty_nil, val_pvs, frozen_pvs, msnoc_len, msnoc_get, msnoc_set, msnoc_take, Int.le_refl, take_map_all, Nat.le_refl, St.freezeRows, BV.frozen, List.take_length, List.take_append_drop, z_repl_zero, Int.toNat_zero, true_and, and_true, and_self, eq_self, z_take_zero, List.drop_nil, List.take_nil, vAll, List.foldl_nil, List.foldl_cons, resultsOf, resultList, resultOf, zBV, splice, PV.remade, St.freezeAt, St.freezeBox, St.freezeCap, PV.single, plain, act, dstOf, if_true, if_false, reduceCtorEq, St.get, St.put, St.pvOf, St.putRow, St.consume, St.freeze, St.row, St.elems, St.grab, St.takeRow, St.setRow, St.place, St.optPv, St.setCell, St.setCellRow, binPV, intBin, unPV, BV.val, Nat.reduceEqDiff, bound, consumeAll, buildParts, capsOf, capOf, List.append_nil, Nat.reduceAdd, Nat.reduceLT, Nat.reduceLeDiff, beq_self_eq_true, List.length_map, Nat.beq, dcall, dcallP, List.mapM_cons, St.snapFn, St.snap, St.layAll, St.lay, St.freezeArg, St.freezeArg1]
theorem clone94_ok : ∀ args rs, cloneX 8 args = some rs → callable Try.prog 94 = true ∧ CallOk Try.prog 94 args rs := fun args rs h => by
  unfold cloneX at h
  split at h
  case h_2 => cases h
  rename_i sz es
  split at h
  case isFalse => cases h
  rename_i hc
  obtain ⟨rfl, hl⟩ := hc
  cases h
  cases es with
  | cons e es =>
    obtain ⟨n, hn⟩ := vmCall_of_cal (clone94_some (en := oneEnv 94 fn94) (if_pos rfl) hl)
    exact vmCall_ok (oneEnv_ok clone94_fn) hn
  | nil =>
    refine ⟨by kernel_rfl, fun T0 w vs h1 h2 h3 h4 => ?_⟩
    match vs, h3 with
    | [v], _ =>
      have hv := h4 0 _ v rfl rfl
      obtain ⟨a, c, rfl, hsl⟩ := sl_nil hv
      refine (cempty94 (ok := fun _ => True) hsl (by omega)).mono ?_
      rintro e w' ⟨a', n', c', rfl, hrd, hB⟩
      obtain ⟨v, hv, hb, ⟨xs, hown, _⟩, hnil⟩ := hrd
      obtain rfl : Value.slice a' n' c' = v := by simpa using hv
      rcases hown.2 with ⟨e1, _⟩ | ⟨g, cap, cur, e1, _, hg, _, hm, hs, _⟩
      · refine ⟨_, T0, rfl, hB, fun _ _ => rfl, fun b hb => h2 b (by have := hB.size; omega), #[_], rfl, rfl, fun i r u hr hu => ?_⟩
        cases i with
        | zero => cases hr; cases hu; exact .inl ⟨rfl, none, e1⟩
        | succ i => simp at hr
      · have hg0 : w.heap.size ≤ g := hb g (by rw [e1]; rfl)
        have hgl : g < w'.heap.size := (Array.getElem?_eq_some_iff.1 hg).1
        refine ⟨_, fun b => if b = g then .row (.part 0 0) else T0 b, rfl, hB, fun b hb => if_neg (by omega), fun b hb => ?_, #[_], rfl, rfl, fun i r u hr hu => ?_⟩
        · show (if b = g then _ else T0 b) = _
          rw [if_neg (by omega)]; exact h2 b (by have := hB.size; omega)
        · cases i with
          | zero =>
            cases hr; cases hu
            exact .inr ⟨g, cap, cur, _, e1, if_pos rfl, hg, hs, Nat.zero_le _, hm, (fun e he => by cases he), fun i e j x hi => by simp at hi⟩
          | succ i => simp at hr
theorem slt53 : SliceT Try.prog 22 86 3 24 (.agg #[.int .i64 0, .int .i64 0, .int .i64 0]) := ⟨Try.underlying22, by kernel_rfl, rfl, by decide⟩
set_option maxHeartbeats 1000000 in
theorem cempty53 {a : Option Addr} {n c : Nat} {l : List Unit} {ok : Nat → Prop} {w : World} (h : Sl (emR 3) ok w a n c l) (hn : n ≤ 1000000) :
    Calls Try.prog 53 #[.slice a n c] w fun e w' => ∃ a' n' c', e = .returned (.slice a' n' c') ∧ (ownRowR (emR 3) 86).rd (w.heap.size ≤ ·) w' [.slice a' n' c'] l ∧ Below w.heap.size w w' := by
  have heq := fun (a : Option Addr) (n c : Nat) (w : World) => Lib.run_eql_slice_nil (P := Try.prog) w 22 86 a n c 0 0 Try.underlying22
  cases a with
  | none =>
    have h0 : l = [] := List.eq_nil_of_length_eq_zero (by rw [h.len]; have := h.nil rfl; have := h.cap; omega)
    have H0 := Lib.hid h0; clear h0
    go_enter Try.func53, Try.ntmps53
    go_wp2
    go_ret
    refine ⟨_, _, _, rfl, ?_, Below.refl _ _⟩
    rw [H0.out]
    exact ownRowR.mk (Own.nil _ _ _ _ _) (fun _ => .inl rfl)
  | some ad =>
    have hs := h.small
    go_enter Try.func53, Try.ntmps53
    go_wp2_with (at_builtin; refine wpList_app slt53 rfl _ _ rfl rfl (Own.lit0 (emR 3) (ok := fun _ => False) (Nat.le_refl _)) rfl ((Src.of_sl (h.below ((Below.refl _ _).alloc (Nat.le_refl _) _))).flat (Flat.em 3)) ?c1 ?c2 ?c3 ?_)
    case c1 => simp; unfold maxLen; omega
    case c2 => simp; omega
    case c3 => simp
    intro v' w1 hown hgrow hat
    obtain ⟨a', n', c', rfl, _⟩ := hown.sl
    go_wp2
    go_ret
    refine ⟨_, _, _, rfl, ownRowR.mk (by simpa using hown) (fun e => ?_), ((Below.refl _ _).alloc (Nat.le_refl _) _).grown hgrow (by simp) (fun k hk => by cases hk; exact Nat.le_refl _)⟩
    subst e
    obtain ⟨xs, h1, _⟩ := hown
    rcases h1.2 with ⟨hv, _⟩ | ⟨g, cap, cur, hv, _⟩
    · exact .inl hv
    · exact .inr ⟨g, cap, by simpa using hv⟩
theorem clone53_fn : fnOk Try.prog 53 fn53 = true := by kernel_rfl
theorem clone53_some {en : Env} (hen : en 53 = some (.code fn53)) {e : PV} {es : List PV} (hl : (e :: es).length ≤ lim) : cal en 53 [.list 3 (e :: es)] = some [(.list 3 (e :: es), true)] := by
  have F1 : (es.length + 1 ≤ lim) = True := eq_true (by simpa using hl)
  rw [cal_code hen rfl]
  simp only [fn53]
  simp only [start, z_map_cons, z_map_nil, z_len_cons, z_len_nil, z_repl_zero, z_repl_succ, z_cons_app, z_nil_app, Nat.reduceAdd, Nat.reduceSub]
  simp only [F1, z_nil_app, List.isEmpty_nil, val_pvs, frozen_pvs, msnoc_len, msnoc_get, msnoc_set, msnoc_take, Int.le_refl, take_map_all, Nat.le_refl, St.freezeRows, BV.frozen, List.take_length, List.take_append_drop, z_repl_zero, Int.toNat_zero, true_and, and_true, and_self, eq_self, z_take_zero, List.drop_nil, List.take_nil, vAll, List.foldl_nil, List.foldl_cons, resultsOf, resultList, resultOf, zBV, splice, PV.remade, St.freezeAt, St.freezeBox, St.freezeCap, PV.single, plain, act, dstOf, if_true, if_false, reduceCtorEq, St.get, St.put, St.pvOf, St.putRow, St.consume, St.freeze, St.row, St.elems, St.grab, St.takeRow, St.setRow, St.place, St.optPv, St.setCell, St.setCellRow, binPV, intBin, unPV, BV.val, Nat.reduceEqDiff, bound, consumeAll, buildParts, capsOf, capOf, List.append_nil, Nat.reduceAdd, Nat.reduceLT, Nat.reduceLeDiff, beq_self_eq_true, List.length_map, Nat.beq, dcall, dcallP, List.mapM_cons, St.snapFn, St.snap, St.layAll, St.lay, St.freezeArg, St.freezeArg1]
theorem clone53_ok : ∀ args rs, cloneX 3 args = some rs → callable Try.prog 53 = true ∧ CallOk Try.prog 53 args rs := fun args rs h => by
  unfold cloneX at h
  split at h
  case h_2 => cases h
  rename_i sz es
  split at h
  case isFalse => cases h
  rename_i hc
  obtain ⟨rfl, hl⟩ := hc
  cases h
  cases es with
  | cons e es =>
    obtain ⟨n, hn⟩ := vmCall_of_cal (clone53_some (en := oneEnv 53 fn53) (if_pos rfl) hl)
    exact vmCall_ok (oneEnv_ok clone53_fn) hn
  | nil =>
    refine ⟨by kernel_rfl, fun T0 w vs h1 h2 h3 h4 => ?_⟩
    match vs, h3 with
    | [v], _ =>
      have hv := h4 0 _ v rfl rfl
      obtain ⟨a, c, rfl, hsl⟩ := sl_nil hv
      refine (cempty53 (ok := fun _ => True) hsl (by omega)).mono ?_
      rintro e w' ⟨a', n', c', rfl, hrd, hB⟩
      obtain ⟨v, hv, hb, ⟨xs, hown, _⟩, hnil⟩ := hrd
      obtain rfl : Value.slice a' n' c' = v := by simpa using hv
      rcases hown.2 with ⟨e1, _⟩ | ⟨g, cap, cur, e1, _, hg, _, hm, hs, _⟩
      · refine ⟨_, T0, rfl, hB, fun _ _ => rfl, fun b hb => h2 b (by have := hB.size; omega), #[_], rfl, rfl, fun i r u hr hu => ?_⟩
        cases i with
        | zero => cases hr; cases hu; exact .inl ⟨rfl, none, e1⟩
        | succ i => simp at hr
      · have hg0 : w.heap.size ≤ g := hb g (by rw [e1]; rfl)
        have hgl : g < w'.heap.size := (Array.getElem?_eq_some_iff.1 hg).1
        refine ⟨_, fun b => if b = g then .row (.part 0 0) else T0 b, rfl, hB, fun b hb => if_neg (by omega), fun b hb => ?_, #[_], rfl, rfl, fun i r u hr hu => ?_⟩
        · show (if b = g then _ else T0 b) = _
          rw [if_neg (by omega)]; exact h2 b (by have := hB.size; omega)
        · cases i with
          | zero =>
            cases hr; cases hu
            exact .inr ⟨g, cap, cur, _, e1, if_pos rfl, hg, hs, Nat.zero_le _, hm, (fun e he => by cases he), fun i e j x hi => by simp at hi⟩
          | succ i => simp at hr
end Go.Proofs.Ytpdfhckdmblicaa

namespace Go.Proofs.Ytpdfhckdmblicaa.V
set_option linter.all false

def patchV (i : Nat) (v : List Sec) (l : List Exn) : List Wrt := l.map fun x => ⟨i, x.start, (v.drop x.start.toNat).take x.count.toNat⟩
def patchN (a b : Img) (n : Nat) : List Wrt := (List.range n).flatMap fun i => patchV i (b.getD i []) (volDiff (a.getD i []) (b.getD i []))
def patchOf (a b : Img) : List Wrt := patchN a b a.length
def patchOut (a b : Img) : List Wrt := if pairErr a b = 0 then patchOf a b else []
theorem patchN_succ (a b : Img) (n : Nat) : patchN a b (n + 1) = patchN a b n ++ patchV n (b.getD n []) (volDiff (a.getD n []) (b.getD n [])) := by
  simp [patchN, List.range_succ, List.flatMap_append]
theorem exts_in : ∀ (n : Nat) (l : List Nat), l.length = n → ∀ N : Nat, (∀ i ∈ l, i < N) → ∀ x ∈ exts l, 0 ≤ x.start ∧ 1 ≤ x.count ∧ x.start + x.count ≤ (N : Int) := by
  intro n
  induction n with
  | zero =>
    intro l hl N _ x hx
    rw [List.eq_nil_of_length_eq_zero hl] at hx
    simp [exts] at hx
  | succ n ih =>
    intro l hl N hN x hx
    rcases snoc_cases l with rfl | ⟨p, j, rfl⟩
    · simp at hl
    · have hj := hN j (by simp)
      have ihp := ih p (by simpa using hl) N (fun i hi => hN i (by simp [hi]))
      rw [exts_snoc] at hx
      rcases snoc_cases (exts p) with e | ⟨pre, y, e⟩
      · rw [e] at hx
        simp only [addAt, List.getLast?_nil, List.mem_singleton] at hx
        subst hx
        exact ⟨by simp, by simp, by simp; omega⟩
      · rw [e, addAt_snoc] at hx
        have hy := ihp y (by rw [e]; simp)
        split at hx
        · rename_i h1
          rcases List.mem_append.1 hx with h | h
          · exact ihp x (by rw [e]; simp [h])
          · simp only [List.mem_singleton] at h
            subst h
            simp only
            omega
        · rcases List.mem_append.1 hx with h | h
          · exact ihp x (by rw [e]; exact h)
          · simp only [List.mem_singleton] at h
            subst h
            exact ⟨by simp, by simp, by simp; omega⟩
theorem volDiff_in {a b : List Sec} {x : Exn} (h : x ∈ volDiff a b) : 0 ≤ x.start ∧ 1 ≤ x.count ∧ x.start + x.count ≤ (a.length : Int) :=
  exts_in _ _ rfl a.length (fun i hi => difN_lt hi) x h
theorem exts_len : ∀ (n : Nat) (l : List Nat), l.length = n → (exts l).length ≤ n := by
  intro n
  induction n with
  | zero => intro l hl; rw [List.eq_nil_of_length_eq_zero hl]; simp [exts]
  | succ n ih =>
    intro l hl
    rcases snoc_cases l with rfl | ⟨p, j, rfl⟩
    · simp at hl
    · have h1 := ih p (by simpa using hl)
      rw [exts_snoc]
      rcases snoc_cases (exts p) with e | ⟨pre, y, e⟩
      · rw [e]; simp [addAt]
      · rw [e] at h1 ⊢
        simp only [List.length_append, List.length_singleton] at h1
        rw [addAt_snoc]
        split <;> simp <;> omega
theorem volDiff_len (a b : List Sec) : (volDiff a b).length ≤ a.length := Nat.le_trans (exts_len _ _ rfl) (difN_len a b a.length)
theorem zip_get {a b : Img} {i : Nat} (h1 : i < a.length) (h2 : i < b.length) : (differ a b)[i]? = some (volDiff a[i] b[i]) := by
  have hz : i < (a.zip b).length := by simp; omega
  simp only [differ, List.getElem?_map, List.getElem?_eq_getElem hz, Option.map_some, List.getElem_zip]
theorem differ_len {a b : Img} (h : a.length = b.length) : (differ a b).length = a.length := by simp [differ]; omega
theorem getD_lt {α : Type} {l : List α} {i : Nat} {d : α} (h : i < l.length) : l.getD i d = l[i] := by simp [List.getD_eq_getElem?_getD, List.getElem?_eq_getElem h]
theorem pair_sizes {a b : Img} (c : pairErr a b = 0) : imSizes a = imSizes b := by
  unfold pairErr at c
  split at c
  · omega
  · split at c
    · omega
    · split at c
      · assumption
      · omega
end Go.Proofs.Ytpdfhckdmblicaa.V

namespace Go.Proofs.Ytpdfhckdmblicaa.V
set_option linter.all false
end Go.Proofs.Ytpdfhckdmblicaa.V

namespace Go.Proofs.Ytpdfhckdmblicaa.V
set_option linter.all false
end Go.Proofs.Ytpdfhckdmblicaa.V

namespace Go.Proofs.Ytpdfhckdmblicaa.V
set_option linter.all false

theorem few7_len {im : Img} (h : few7 im = true) : im.length ≤ 9 ∧ ∀ v ∈ im, v.length ≤ 24 := by
  simp only [few7, Bool.and_eq_true, decide_eq_true_eq, List.all_eq_true] at h
  exact h
theorem few7_lim {im : Img} (h : few7 im = true) : im.length ≤ lim ∧ ∀ v ∈ im, v.length ≤ lim := by
  obtain ⟨h1, h2⟩ := few7_len h
  exact ⟨by unfold lim; omega, fun v hv => by have := h2 v hv; unfold lim; omega⟩
theorem readOut_len {im : Img} {v : Int} {e : Exn} (h : ∀ v ∈ im, v.length ≤ lim) : (readOut im v e).length ≤ lim := by
  unfold readOut
  split
  · simp only [List.length_take, List.length_drop, List.getD_eq_getElem?_getD]
    cases hx : im[v.toNat]? with
    | none => simp
    | some x => have := h x (List.mem_of_getElem? hx); simp only [Option.getD_some]; omega
  · simp
end Go.Proofs.Ytpdfhckdmblicaa.V

namespace Go.Proofs.Ytpdfhckdmblicaa.V
set_option linter.all false

theorem patchN_few {a b : Img} (hf : ∀ v ∈ a, v.length ≤ 24) : ∀ n, (patchN a b n).length ≤ 24 * n := by
  intro n
  induction n with
  | zero => simp [patchN]
  | succ n ih =>
    rw [patchN_succ, List.length_append]
    have : (patchV n (b.getD n []) (volDiff (a.getD n []) (b.getD n []))).length ≤ 24 := by
      simp only [patchV, List.length_map]
      refine Nat.le_trans (volDiff_len _ _) ?_
      rw [List.getD_eq_getElem?_getD]
      cases h : a[n]? with
      | none => simp
      | some v => exact hf v (List.mem_of_getElem? h)
    omega
theorem patchOut_few {a b : Img} (ha : few7 a = true) (hb : few7 b = true) : (patchOut a b).length ≤ lim ∧ ∀ x ∈ patchOut a b, x.data.length ≤ 24 := by
  obtain ⟨h1, h2⟩ := few7_len ha
  obtain ⟨h3, h4⟩ := few7_len hb
  unfold patchOut
  split
  · refine ⟨?_, fun x hx => ?_⟩
    · have := patchN_few (b := b) h2 a.length
      unfold patchOf lim; omega
    · simp only [patchOf, patchN, List.mem_flatMap, List.mem_range, patchV, List.mem_map] at hx
      obtain ⟨i, hi, y, hy, rfl⟩ := hx
      simp only [List.length_take, List.length_drop, List.getD_eq_getElem?_getD]
      cases h : b[i]? with
      | none => simp
      | some v => have := h4 v (List.mem_of_getElem? h); simp only [Option.getD_some]; omega
  · exact ⟨by simp [lim], by simp⟩
end Go.Proofs.Ytpdfhckdmblicaa.V

namespace Go.Proofs.Ytpdfhckdmblicaa.V
set_option linter.all false

theorem wrErrs_append (sz : List Int) : ∀ (l m : List Wrt) (i : Nat), wrErrs sz (l ++ m) i = if (wrErrs sz l i).2 = 0 then wrErrs sz m (i + l.length) else wrErrs sz l i
  | [], m, i => by simp [wrErrs]
  | w :: l, m, i => by
    simp only [List.cons_append, wrErrs]
    by_cases h : wrErr sz w = 0
    · simp only [h, ne_eq, not_true, if_false]
      rw [wrErrs_append sz l m (i + 1)]
      simp only [List.length_cons]
      rw [show i + 1 + l.length = i + (l.length + 1) by omega]
    · simp [h]
theorem wrErrs_idx (sz : List Int) : ∀ (l : List Wrt) (i : Nat), (wrErrs sz l i).2 ≠ 0 → (i : Int) ≤ (wrErrs sz l i).1 ∧ (wrErrs sz l i).1 < (i : Int) + l.length
  | [], i, h => by simp [wrErrs] at h
  | w :: l, i, h => by
    unfold wrErrs at h ⊢
    by_cases hw : wrErr sz w = 0
    · simp only [hw, ne_eq, not_true, if_false] at h ⊢
      have := wrErrs_idx sz l (i + 1) h
      simp only [List.length_cons]
      omega
    · simp [hw]; omega
def fewW (l : List Wrt) : Bool := decide (l.length ≤ 40) && !l.any fun w => decide (w.data.length > 30)
theorem fewW_len {l : List Wrt} (h : fewW l = true) : l.length ≤ 40 ∧ ∀ w ∈ l, w.data.length ≤ 30 := by
  simp only [fewW, Bool.and_eq_true, decide_eq_true_eq, Bool.not_eq_true', List.any_eq_false] at h
  exact ⟨h.1, fun w hw => by have := h.2 w hw; simp at this; omega⟩
def okW (l : List Wrt) : Prop := ∀ w ∈ l, i64b w.volume = true ∧ i64b w.start = true
theorem cal33 {im : Img} {l : List Wrt} (hw : okW l) (hl : im.length ≤ 1000000) (hr : ∀ v ∈ im, v.length ≤ 1000000) : cal env 33 [.list 1 (im.map eSecs), .list 3 (l.map eWr)] = some [(.list 1 ((apO im l).map eSecs), false), (.int .i64 (apI im l), false), (.int .i64 (apE im l), false)] :=
  (cal_ext env33).trans (applyX_enc hw hl hr)
theorem szs_small {a b : Img} (h : szsOf a = szsOf b) (hl : b.length ≤ 9) (hr : ∀ v ∈ b, v.length ≤ 24) : a.length ≤ 9 ∧ ∀ v ∈ a, v.length ≤ 24 := by
  obtain ⟨h1, h2⟩ := sizes_inj (a := a) (b := b) h
  refine ⟨by omega, fun v hv => ?_⟩
  obtain ⟨i, hi, rfl⟩ := List.mem_iff_getElem.1 hv
  rw [h2 i hi (by omega)]
  exact hr _ (List.getElem_mem _)
theorem apO_small {im : Img} {l : List Wrt} (hl : im.length ≤ 9) (hr : ∀ v ∈ im, v.length ≤ 24) : (apO im l).length ≤ 9 ∧ ∀ v ∈ apO im l, v.length ≤ 24 := by
  by_cases h : apE im l = 0
  · exact szs_small (apO_sizes h) hl hr
  · unfold apO; rw [if_neg h]; simp
theorem apE_szs {im : Img} {l : List Wrt} (h : apE im l = 0) : szErr (szsOf im) = 0 := by
  unfold apE at h
  split at h
  · rename_i h2; exact absurd h h2
  · omega
theorem ap_steps {im : Img} {l m : List Wrt} (h : apE im l = 0) : apE im (l ++ m) = apE (apO im l) m ∧ apO im (l ++ m) = apO (apO im l) m := by
  have h0 := apE_szs h
  have hs := apO_sizes h
  have e : apE im (l ++ m) = apE (apO im l) m := by
    have h1 := h
    unfold apE at h1 ⊢
    rw [hs]
    simp only [h0, ne_eq, not_true, if_false] at h1 ⊢
    rw [wrErrs_append, if_pos h1, wrErrs_shift _ m _ 0]
  refine ⟨e, ?_⟩
  have e2 : apO im l = l.foldl put1 im := by unfold apO; rw [if_pos h]
  by_cases hz : apE im (l ++ m) = 0
  · unfold apO at *
    rw [if_pos hz]
    rw [if_pos h] at e
    rw [if_pos h, if_pos (by rw [← e]; exact hz), List.foldl_append]
  · rw [show apO im (l ++ m) = [] by unfold apO; rw [if_neg hz]]
    rw [show apO (apO im l) m = [] by rw [apO.eq_def (apO im l) m, if_neg (by rw [← e]; exact hz)]]
theorem ap_first {im : Img} {l m : List Wrt} (h : apE im l ≠ 0) : apE im (l ++ m) = apE im l := by
  unfold apE at h ⊢
  by_cases h0 : szErr (szsOf im) = 0
  · simp only [h0, ne_eq, not_true, if_false] at h ⊢
    rw [wrErrs_append, if_neg h]
  · simp [h0]
theorem apI_lt {im : Img} {l : List Wrt} (h : apE im l ≠ 0) : apI im l < max (l.length : Int) 1 := by
  unfold apE at h
  unfold apI
  by_cases h0 : szErr (szsOf im) = 0
  · simp only [h0, ne_eq, not_true, if_false] at h ⊢
    have := wrErrs_idx _ l 0 h
    omega
  · simp [h0]; omega
theorem apI_lt2 {im : Img} {l : List Wrt} (h : apE im l ≠ 0) (h0 : szErr (szsOf im) = 0) : apI im l < (l.length : Int) := by
  unfold apE at h
  unfold apI
  simp only [h0, ne_eq, not_true, if_false] at h ⊢
  have := wrErrs_idx _ l 0 h
  omega
theorem dif_comm (a b : List Sec) : dif a b = dif b a := by
  funext i; unfold dif
  exact decide_eq_decide.2 ⟨fun h e => h e.symm, fun h e => h e.symm⟩
theorem volDiff_comm {a b : List Sec} (h : a.length = b.length) : volDiff a b = volDiff b a := by
  simp only [volDiff, difs, difN, dif_comm a b, h]
theorem differ_comm {a b : Img} (h : imSizes a = imSizes b) : differ a b = differ b a := by
  obtain ⟨h1, h2⟩ := sizes_inj h
  apply List.ext_getElem
  · simp [differ]; omega
  · intro i hi hj
    simp only [differ, List.length_map, List.length_zip] at hi hj
    simp only [differ, List.getElem_map, List.getElem_zip]
    exact volDiff_comm (h2 i (by omega) (by omega))
end Go.Proofs.Ytpdfhckdmblicaa.V

namespace Go.Proofs.Ytpdfhckdmblicaa.V
set_option linter.all false
--+
theorem loop79 {α : Type} {enc : α → PV} {l : List α} {p : α → Bool} {gf : Nat} {caps : List PV} (hp : ∀ x ∈ l, cal env gf (enc x :: caps) = some [(.bool (p x), false)]) (hs : ∀ x, part (enc x).cells 0 (some 2) = some (enc x)) (hl : l.length ≤ lim)
   {st : St} (h : st.head [0, 1, 7, 8] st.boxes.length = some ⟨[.pv (.list 2 (l.map enc)), .pv (.func gf caps), .any, .any, .any, .any, .any, .pv (.int .i64 l.length), .pv (.int .i64 (0 : Nat)), .any, .any, .any, .any, .any, .any, .any, .any, .any, .any], [], [], none⟩) :
   den env fn79_l1 st = if l.any p then some (.ret, ⟨[.any, .any, .any, .any, .pv (.int .i64 (l.findIdx p)), .any, .any, .any, .any, .any, .any, .any, .any, .any, .any, .any, .any, .any, .any], [], [], none⟩) else some (.normal, ⟨[.any, .any, .any, .any, .any, .any, .any, .any, .any, .any, .any, .any, .any, .any, .any, .any, .any, .any, .any], [], [], none⟩) := by
  unfold fn79_l1
  rw [clean_up l.length (fun i => ⟨[.pv (.list 2 (l.map enc)), .pv (.func gf caps), .any, .any, .any, .any, .any, .pv (.int .i64 l.length), .pv (.int .i64 i), .any, .any, .any, .any, .any, .any, .any, .any, .any, .any], [], [], none⟩)
    (fun i => if (l.drop i).any p then some (.ret, ⟨[.any, .any, .any, .any, .pv (.int .i64 ((i + (l.drop i).findIdx p : Nat) : Int)), .any, .any, .any, .any, .any, .any, .any, .any, .any, .any, .any, .any, .any, .any], [], [], none⟩) else some (.normal, ⟨[.any, .any, .any, .any, .any, .any, .any, .any, .any, .any, .any, .any, .any, .any, .any, .any, .any, .any, .any], [], [], none⟩)) h (fun _ => rfl) (fun _ => rfl) ?_ ?_]
  · simp only [List.drop_zero, Nat.zero_add]
  · intro i rb hi ih
    have hi1 := i64_next hi hl
    have F1 : ((i : Int) < (l.length : Int)) = True := eq_true (by omega)
    simp only [fn79_b0, F1, List.length_map, index_nat hi, List.getElem?_map, List.getElem?_eq_getElem hi, hp _ (List.getElem_mem hi), hs, vAll, List.foldl_nil, List.foldl_cons, resultsOf, resultList, resultOf, zBV, splice, PV.remade, St.freezeAt, St.freezeBox, St.freezeCap, PV.single, plain, act, dstOf, if_true, if_false, reduceCtorEq, St.get, St.put, St.pvOf, St.putRow, St.consume, St.freeze, St.row, St.elems, St.grab, St.takeRow, St.setRow, St.place, St.optPv, St.setCell, St.setCellRow, binPV, intBin, unPV, BV.val, Nat.reduceEqDiff, bound, consumeAll, buildParts, capsOf, capOf, List.append_nil, Nat.reduceAdd, Nat.reduceLT, Nat.reduceLeDiff, beq_self_eq_true, List.length_map, Nat.beq, dcall, dcallP, List.mapM_cons, St.snapFn, St.snap, St.layAll, St.lay, St.freezeArg, St.freezeArg1]
    (try simp only [bcase_bind, bcase_map, tail_bcase]); refine bcase_split (fun hb => ?_) (fun hb => ?_) <;> try simp only [hb,  List.isEmpty_nil, val_pvs, frozen_pvs, msnoc_len, msnoc_get, msnoc_set, msnoc_take, Int.le_refl, take_map_all, Nat.le_refl, St.freezeRows, BV.frozen, List.take_length, List.take_append_drop, z_repl_zero, Int.toNat_zero, true_and, and_true, and_self, eq_self, z_take_zero, List.drop_nil, List.take_nil, vAll, List.foldl_nil, List.foldl_cons, resultsOf, resultList, resultOf, zBV, splice, PV.remade, St.freezeAt, St.freezeBox, St.freezeCap, PV.single, plain, act, dstOf, if_true, if_false, reduceCtorEq, St.get, St.put, St.pvOf, St.putRow, St.consume, St.freeze, St.row, St.elems, St.grab, St.takeRow, St.setRow, St.place, St.optPv, St.setCell, St.setCellRow, binPV, intBin, unPV, BV.val, Nat.reduceEqDiff, bound, consumeAll, buildParts, capsOf, capOf, List.append_nil, Nat.reduceAdd, Nat.reduceLT, Nat.reduceLeDiff, beq_self_eq_true, List.length_map, Nat.beq, dcall, dcallP, List.mapM_cons, St.snapFn, St.snap, St.layAll, St.lay, St.freezeArg, St.freezeArg1]
    · rw [List.drop_eq_getElem_cons hi]
      simp only [List.any_cons, hb, Bool.true_or, if_true, List.findIdx_cons, cond_true, Nat.add_zero]
      rfl
    · rw [ih _ (by simp only [hi1]; rfl), List.drop_eq_getElem_cons hi]
      simp only [List.any_cons, hb, Bool.false_or, List.findIdx_cons, cond_false, Nat.add_assoc, Nat.add_comm 1]
  · intro rb
    simp only [fn79_b0, Int.lt_irrefl, vAll, List.foldl_nil, List.foldl_cons, resultsOf, resultList, resultOf, zBV, splice, PV.remade, St.freezeAt, St.freezeBox, St.freezeCap, PV.single, plain, act, dstOf, if_true, if_false, reduceCtorEq, St.get, St.put, St.pvOf, St.putRow, St.consume, St.freeze, St.row, St.elems, St.grab, St.takeRow, St.setRow, St.place, St.optPv, St.setCell, St.setCellRow, binPV, intBin, unPV, BV.val, Nat.reduceEqDiff, bound, consumeAll, buildParts, capsOf, capOf, List.append_nil, Nat.reduceAdd, Nat.reduceLT, Nat.reduceLeDiff, beq_self_eq_true, List.length_map, Nat.beq, dcall, dcallP, List.mapM_cons, St.snapFn, St.snap, St.layAll, St.lay, St.freezeArg, St.freezeArg1]
    simp only [List.drop_length, List.any_nil, Bool.false_eq_true, if_false]
    rfl
theorem cal79 {α : Type} {enc : α → PV} {l : List α} {p : α → Bool} {gf : Nat} {caps : List PV} (hp : ∀ x ∈ l, cal env gf (enc x :: caps) = some [(.bool (p x), false)]) (hs : ∀ x, part (enc x).cells 0 (some 2) = some (enc x)) (hl : l.length ≤ lim) :
    cal env 79 [.list 2 (l.map enc), .func gf caps] = some [(.int .i64 (idxI p l), false)] := by
  rw [cal_code env79 rfl]; simp only [fn79]; simp only [start, z_map_cons, z_map_nil, z_len_cons, z_len_nil, z_repl_zero, z_repl_succ, z_cons_app, z_nil_app, Nat.reduceAdd, Nat.reduceSub]
  simp only [List.length_map, vAll, List.foldl_nil, List.foldl_cons, resultsOf, resultList, resultOf, zBV, splice, PV.remade, St.freezeAt, St.freezeBox, St.freezeCap, PV.single, plain, act, dstOf, if_true, if_false, reduceCtorEq, St.get, St.put, St.pvOf, St.putRow, St.consume, St.freeze, St.row, St.elems, St.grab, St.takeRow, St.setRow, St.place, St.optPv, St.setCell, St.setCellRow, binPV, intBin, unPV, BV.val, Nat.reduceEqDiff, bound, consumeAll, buildParts, capsOf, capOf, List.append_nil, Nat.reduceAdd, Nat.reduceLT, Nat.reduceLeDiff, beq_self_eq_true, List.length_map, Nat.beq, dcall, dcallP, List.mapM_cons, St.snapFn, St.snap, St.layAll, St.lay, St.freezeArg, St.freezeArg1]
  rw [loop79 hp hs hl]
  rotate_left
  · rfl
  · simp only [idxI]
    split <;> simp only [vAll, List.foldl_nil, List.foldl_cons, resultsOf, resultList, resultOf, zBV, splice, PV.remade, St.freezeAt, St.freezeBox, St.freezeCap, PV.single, plain, act, dstOf, if_true, if_false, reduceCtorEq, St.get, St.put, St.pvOf, St.putRow, St.consume, St.freeze, St.row, St.elems, St.grab, St.takeRow, St.setRow, St.place, St.optPv, St.setCell, St.setCellRow, binPV, intBin, unPV, BV.val, Nat.reduceEqDiff, bound, consumeAll, buildParts, capsOf, capOf, List.append_nil, Nat.reduceAdd, Nat.reduceLT, Nat.reduceLeDiff, beq_self_eq_true, List.length_map, Nat.beq, dcall, dcallP, List.mapM_cons, St.snapFn, St.snap, St.layAll, St.lay, St.freezeArg, St.freezeArg1]
--+
theorem cal35 {α : Type} {enc : α → PV} {l : List α} {p : α → Bool} {gf : Nat} {caps : List PV} (hp : ∀ x ∈ l, cal env gf (enc x :: caps) = some [(.bool (p x), false)]) (hs : ∀ x, part (enc x).cells 0 (some 2) = some (enc x)) (hl : l.length ≤ lim) :
    cal env 35 [.list 2 (l.map enc), .func gf caps] = some [(.bool (l.any p), false)] := by
  rw [cal_code env35 rfl]; simp only [fn35]; simp only [start, z_map_cons, z_map_nil, z_len_cons, z_len_nil, z_repl_zero, z_repl_succ, z_cons_app, z_nil_app, Nat.reduceAdd, Nat.reduceSub]
  simp only [cal79 hp hs hl, idxI_nonneg, vAll, List.foldl_nil, List.foldl_cons, resultsOf, resultList, resultOf, zBV, splice, PV.remade, St.freezeAt, St.freezeBox, St.freezeCap, PV.single, plain, act, dstOf, if_true, if_false, reduceCtorEq, St.get, St.put, St.pvOf, St.putRow, St.consume, St.freeze, St.row, St.elems, St.grab, St.takeRow, St.setRow, St.place, St.optPv, St.setCell, St.setCellRow, binPV, intBin, unPV, BV.val, Nat.reduceEqDiff, bound, consumeAll, buildParts, capsOf, capOf, List.append_nil, Nat.reduceAdd, Nat.reduceLT, Nat.reduceLeDiff, beq_self_eq_true, List.length_map, Nat.beq, dcall, dcallP, List.mapM_cons, St.snapFn, St.snap, St.layAll, St.lay, St.freezeArg, St.freezeArg1]
theorem eqCells_ext (x y : Exn) : eqCells [.int .i64 x.start, .int .i64 x.count] [.int .i64 y.start, .int .i64 y.count] = some (decide (x = y)) := by
  simp only [eqCells, if_true, Option.map_some]
  congr 1
  obtain ⟨a, b⟩ := x
  obtain ⟨c, d⟩ := y
  by_cases h1 : a = c <;> by_cases h2 : b = d <;> simp [h1, h2]
theorem loop65 {a b : List Exn} (hl : a.length ≤ lim) (hab : a.length = b.length) {st : St} (h : st.head [0, 1, 5] st.boxes.length = some ⟨[.pv (.list 2 (a.map eExt)), .pv (.list 2 (b.map eExt)), .any, .any, .any, .pv (.int .i64 (0 : Nat)), .any, .any, .any, .any, .any, .any, .any, .any, .any, .any, .any, .any, .any, .any, .any, .any, .any, .any, .any, .any], [], [], none⟩) :
   den env fn65_l1 st = if a = b then some (.normal, ⟨[.any, .any, .any, .any, .any, .any, .any, .any, .any, .any, .any, .any, .any, .any, .any, .any, .any, .any, .any, .any, .any, .any, .any, .any, .any, .any], [], [], none⟩) else some (.ret, ⟨[.any, .any, .any, .any, .pv (.bool false), .any, .any, .any, .any, .any, .any, .any, .any, .any, .any, .any, .any, .any, .any, .any, .any, .any, .any, .any, .any, .any], [], [], none⟩) := by
  unfold fn65_l1
  rw [ clean_up (env := env) (a.length) (fun i => ⟨[.pv (.list 2 (a.map eExt)), .pv (.list 2 (b.map eExt)), .any, .any, .any, .pv (.int .i64 i), .any, .any, .any, .any, .any, .any, .any, .any, .any, .any, .any, .any, .any, .any, .any, .any, .any, .any, .any, .any], [], [], none⟩) (fun i => if a.drop i = b.drop i then some (.normal, ⟨[.any, .any, .any, .any, .any, .any, .any, .any, .any, .any, .any, .any, .any, .any, .any, .any, .any, .any, .any, .any, .any, .any, .any, .any, .any, .any], [], [], none⟩) else some (.ret, ⟨[.any, .any, .any, .any, .pv (.bool false), .any, .any, .any, .any, .any, .any, .any, .any, .any, .any, .any, .any, .any, .any, .any, .any, .any, .any, .any, .any, .any], [], [], none⟩)) h (fun _ => rfl) (fun _ => rfl) ?_ ?_]
  · first | rfl | simp only [List.drop_zero, List.take_zero, List.map_nil, Nat.zero_add, List.nil_append, List.foldl_nil]
  · intro i rb hi ih

    have hi1 := i64_next hi hl
    have hj : i < b.length := by omega
    have F1 : ((i : Int) < (a.length : Int)) = True := eq_true (by omega)
    have P : ∀ x : Exn, part [PV.int .i64 x.start, .int .i64 x.count] 0 (some 2) = some (.agg [.int .i64 x.start, .int .i64 x.count]) := fun x => rfl
    simp only [fn65_b0, F1, eExt, index_nat hi, index_nat hj, List.getElem?_map, List.getElem?_eq_getElem hi, List.getElem?_eq_getElem hj, P, eqCells_ext, List.length_cons, List.length_nil, List.isEmpty_nil, val_pvs, frozen_pvs, msnoc_len, msnoc_get, msnoc_set, msnoc_take, Int.le_refl, take_map_all, Nat.le_refl, St.freezeRows, BV.frozen, List.take_length, List.take_append_drop, z_repl_zero, Int.toNat_zero, true_and, and_true, and_self, eq_self, z_take_zero, List.drop_nil, List.take_nil, vAll, List.foldl_nil, List.foldl_cons, resultsOf, resultList, resultOf, zBV, splice, PV.remade, St.freezeAt, St.freezeBox, St.freezeCap, PV.single, plain, act, dstOf, if_true, if_false, reduceCtorEq, St.get, St.put, St.pvOf, St.putRow, St.consume, St.freeze, St.row, St.elems, St.grab, St.takeRow, St.setRow, St.place, St.optPv, St.setCell, St.setCellRow, binPV, intBin, unPV, BV.val, Nat.reduceEqDiff, bound, consumeAll, buildParts, capsOf, capOf, List.append_nil, Nat.reduceAdd, Nat.reduceLT, Nat.reduceLeDiff, beq_self_eq_true, List.length_map, Nat.beq, dcall, dcallP, List.mapM_cons, St.snapFn, St.snap, St.layAll, St.lay, St.freezeArg, St.freezeArg1]
    rw [List.drop_eq_getElem_cons hi, List.drop_eq_getElem_cons hj]
    (try simp only [bcase_bind, bcase_map, tail_bcase]); refine bcase_split (fun hb => ?_) (fun hb => ?_) <;> try simp only [hb,  List.isEmpty_nil, val_pvs, frozen_pvs, msnoc_len, msnoc_get, msnoc_set, msnoc_take, Int.le_refl, take_map_all, Nat.le_refl, St.freezeRows, BV.frozen, List.take_length, List.take_append_drop, z_repl_zero, Int.toNat_zero, true_and, and_true, and_self, eq_self, z_take_zero, List.drop_nil, List.take_nil, vAll, List.foldl_nil, List.foldl_cons, resultsOf, resultList, resultOf, zBV, splice, PV.remade, St.freezeAt, St.freezeBox, St.freezeCap, PV.single, plain, act, dstOf, if_true, if_false, reduceCtorEq, St.get, St.put, St.pvOf, St.putRow, St.consume, St.freeze, St.row, St.elems, St.grab, St.takeRow, St.setRow, St.place, St.optPv, St.setCell, St.setCellRow, binPV, intBin, unPV, BV.val, Nat.reduceEqDiff, bound, consumeAll, buildParts, capsOf, capOf, List.append_nil, Nat.reduceAdd, Nat.reduceLT, Nat.reduceLeDiff, beq_self_eq_true, List.length_map, Nat.beq, dcall, dcallP, List.mapM_cons, St.snapFn, St.snap, St.layAll, St.lay, St.freezeArg, St.freezeArg1]
    · rw [ih _ (by simp only [hi1]; rfl)]
      simp only [decide_eq_true_eq] at hb
      simp only [hb, List.cons.injEq, true_and]
    · simp only [decide_eq_false_iff_not] at hb
      simp only [hb, List.cons.injEq, false_and, if_false]
      rfl
  · intro rb

    simp only [fn65_b0, Int.lt_irrefl,  List.isEmpty_nil, val_pvs, frozen_pvs, msnoc_len, msnoc_get, msnoc_set, msnoc_take, Int.le_refl, take_map_all, Nat.le_refl, St.freezeRows, BV.frozen, List.take_length, List.take_append_drop, z_repl_zero, Int.toNat_zero, true_and, and_true, and_self, eq_self, z_take_zero, List.drop_nil, List.take_nil, vAll, List.foldl_nil, List.foldl_cons, resultsOf, resultList, resultOf, zBV, splice, PV.remade, St.freezeAt, St.freezeBox, St.freezeCap, PV.single, plain, act, dstOf, if_true, if_false, reduceCtorEq, St.get, St.put, St.pvOf, St.putRow, St.consume, St.freeze, St.row, St.elems, St.grab, St.takeRow, St.setRow, St.place, St.optPv, St.setCell, St.setCellRow, binPV, intBin, unPV, BV.val, Nat.reduceEqDiff, bound, consumeAll, buildParts, capsOf, capOf, List.append_nil, Nat.reduceAdd, Nat.reduceLT, Nat.reduceLeDiff, beq_self_eq_true, List.length_map, Nat.beq, dcall, dcallP, List.mapM_cons, St.snapFn, St.snap, St.layAll, St.lay, St.freezeArg, St.freezeArg1]
    rw [List.drop_length, hab, List.drop_length, if_pos rfl]
    rfl

theorem cal65 {a b : List Exn} (hl : a.length ≤ lim) : cal env 65 [.list 2 (a.map eExt), .list 2 (b.map eExt)] = some [(.bool (decide (a = b)), false)] := by
  rw [cal_code env65 rfl]; simp only [fn65]; simp only [start, z_map_cons, z_map_nil, z_len_cons, z_len_nil, z_repl_zero, z_repl_succ, z_cons_app, z_nil_app, Nat.reduceAdd, Nat.reduceSub]
  simp only [ List.isEmpty_nil, val_pvs, frozen_pvs, msnoc_len, msnoc_get, msnoc_set, msnoc_take, Int.le_refl, take_map_all, Nat.le_refl, St.freezeRows, BV.frozen, List.take_length, List.take_append_drop, z_repl_zero, Int.toNat_zero, true_and, and_true, and_self, eq_self, z_take_zero, List.drop_nil, List.take_nil, vAll, List.foldl_nil, List.foldl_cons, resultsOf, resultList, resultOf, zBV, splice, PV.remade, St.freezeAt, St.freezeBox, St.freezeCap, PV.single, plain, act, dstOf, if_true, if_false, reduceCtorEq, St.get, St.put, St.pvOf, St.putRow, St.consume, St.freeze, St.row, St.elems, St.grab, St.takeRow, St.setRow, St.place, St.optPv, St.setCell, St.setCellRow, binPV, intBin, unPV, BV.val, Nat.reduceEqDiff, bound, consumeAll, buildParts, capsOf, capOf, List.append_nil, Nat.reduceAdd, Nat.reduceLT, Nat.reduceLeDiff, beq_self_eq_true, List.length_map, Nat.beq, dcall, dcallP, List.mapM_cons, St.snapFn, St.snap, St.layAll, St.lay, St.freezeArg, St.freezeArg1]
  (try simp only [bcase_bind, bcase_map, tail_bcase]); refine bcase_split (fun hb => ?_) (fun hb => ?_) <;> try simp only [hb,  List.isEmpty_nil, val_pvs, frozen_pvs, msnoc_len, msnoc_get, msnoc_set, msnoc_take, Int.le_refl, take_map_all, Nat.le_refl, St.freezeRows, BV.frozen, List.take_length, List.take_append_drop, z_repl_zero, Int.toNat_zero, true_and, and_true, and_self, eq_self, z_take_zero, List.drop_nil, List.take_nil, vAll, List.foldl_nil, List.foldl_cons, resultsOf, resultList, resultOf, zBV, splice, PV.remade, St.freezeAt, St.freezeBox, St.freezeCap, PV.single, plain, act, dstOf, if_true, if_false, reduceCtorEq, St.get, St.put, St.pvOf, St.putRow, St.consume, St.freeze, St.row, St.elems, St.grab, St.takeRow, St.setRow, St.place, St.optPv, St.setCell, St.setCellRow, binPV, intBin, unPV, BV.val, Nat.reduceEqDiff, bound, consumeAll, buildParts, capsOf, capOf, List.append_nil, Nat.reduceAdd, Nat.reduceLT, Nat.reduceLeDiff, beq_self_eq_true, List.length_map, Nat.beq, dcall, dcallP, List.mapM_cons, St.snapFn, St.snap, St.layAll, St.lay, St.freezeArg, St.freezeArg1]
  · have hab : a.length = b.length := by simp at hb; omega
    rw [loop65 hl hab]
    rotate_left
    · rfl
    · by_cases e : a = b <;> simp only [e, vAll, List.foldl_nil, List.foldl_cons, resultsOf, resultList, resultOf, zBV, splice, PV.remade, St.freezeAt, St.freezeBox, St.freezeCap, PV.single, plain, act, dstOf, if_true, if_false, reduceCtorEq, St.get, St.put, St.pvOf, St.putRow, St.consume, St.freeze, St.row, St.elems, St.grab, St.takeRow, St.setRow, St.place, St.optPv, St.setCell, St.setCellRow, binPV, intBin, unPV, BV.val, Nat.reduceEqDiff, bound, consumeAll, buildParts, capsOf, capOf, List.append_nil, Nat.reduceAdd, Nat.reduceLT, Nat.reduceLeDiff, beq_self_eq_true, List.length_map, Nat.beq, dcall, dcallP, List.mapM_cons, St.snapFn, St.snap, St.layAll, St.lay, St.freezeArg, St.freezeArg1]
  · have : a ≠ b := fun e => by subst e; simp at hb
    simp only [this, vAll, List.foldl_nil, List.foldl_cons, resultsOf, resultList, resultOf, zBV, splice, PV.remade, St.freezeAt, St.freezeBox, St.freezeCap, PV.single, plain, act, dstOf, if_true, if_false, reduceCtorEq, St.get, St.put, St.pvOf, St.putRow, St.consume, St.freeze, St.row, St.elems, St.grab, St.takeRow, St.setRow, St.place, St.optPv, St.setCell, St.setCellRow, binPV, intBin, unPV, BV.val, Nat.reduceEqDiff, bound, consumeAll, buildParts, capsOf, capOf, List.append_nil, Nat.reduceAdd, Nat.reduceLT, Nat.reduceLeDiff, beq_self_eq_true, List.length_map, Nat.beq, dcall, dcallP, List.mapM_cons, St.snapFn, St.snap, St.layAll, St.lay, St.freezeArg, St.freezeArg1]
theorem loop26 {a b : List (List Exn)} (hl : a.length ≤ lim) (hr : ∀ v ∈ a, v.length ≤ lim) (hab : a.length = b.length) {st : St} (h : st.head [0, 1, 5] st.boxes.length = some ⟨[.pv (.list 1 (a.map eExts)), .pv (.list 1 (b.map eExts)), .any, .any, .any, .pv (.int .i64 (0 : Nat)), .any, .any, .any, .any, .any, .any, .any, .any, .any, .any, .any, .any, .any, .any, .any, .any, .any, .any, .any, .any, .any], [], [], none⟩) :
   den env fn26_l1 st = if a = b then some (.normal, ⟨[.any, .any, .any, .any, .any, .any, .any, .any, .any, .any, .any, .any, .any, .any, .any, .any, .any, .any, .any, .any, .any, .any, .any, .any, .any, .any, .any], [], [], none⟩) else some (.ret, ⟨[.any, .any, .any, .any, .pv (.bool false), .any, .any, .any, .any, .any, .any, .any, .any, .any, .any, .any, .any, .any, .any, .any, .any, .any, .any, .any, .any, .any, .any], [], [], none⟩) := by
  unfold fn26_l1
  rw [ clean_up (env := env) (a.length) (fun i => ⟨[.pv (.list 1 (a.map eExts)), .pv (.list 1 (b.map eExts)), .any, .any, .any, .pv (.int .i64 i), .any, .any, .any, .any, .any, .any, .any, .any, .any, .any, .any, .any, .any, .any, .any, .any, .any, .any, .any, .any, .any], [], [], none⟩) (fun i => if a.drop i = b.drop i then some (.normal, ⟨[.any, .any, .any, .any, .any, .any, .any, .any, .any, .any, .any, .any, .any, .any, .any, .any, .any, .any, .any, .any, .any, .any, .any, .any, .any, .any, .any], [], [], none⟩) else some (.ret, ⟨[.any, .any, .any, .any, .pv (.bool false), .any, .any, .any, .any, .any, .any, .any, .any, .any, .any, .any, .any, .any, .any, .any, .any, .any, .any, .any, .any, .any, .any], [], [], none⟩)) h (fun _ => rfl) (fun _ => rfl) ?_ ?_]
  · first | rfl | simp only [List.drop_zero, List.take_zero, List.map_nil, Nat.zero_add, List.nil_append, List.foldl_nil]
  · intro i rb hi ih

    have hi1 := i64_next hi hl
    have hj : i < b.length := by omega
    have F1 : ((i : Int) < (a.length : Int)) = True := eq_true (by omega)
    have e1 := cal65 (b := b[i]) (hr _ (List.getElem_mem hi))
    simp only [fn26_b0, F1, e1, eExts, index_nat hi, index_nat hj, List.getElem?_map, List.getElem?_eq_getElem hi, List.getElem?_eq_getElem hj, List.isEmpty_nil, val_pvs, frozen_pvs, msnoc_len, msnoc_get, msnoc_set, msnoc_take, Int.le_refl, take_map_all, Nat.le_refl, St.freezeRows, BV.frozen, List.take_length, List.take_append_drop, z_repl_zero, Int.toNat_zero, true_and, and_true, and_self, eq_self, z_take_zero, List.drop_nil, List.take_nil, vAll, List.foldl_nil, List.foldl_cons, resultsOf, resultList, resultOf, zBV, splice, PV.remade, St.freezeAt, St.freezeBox, St.freezeCap, PV.single, plain, act, dstOf, if_true, if_false, reduceCtorEq, St.get, St.put, St.pvOf, St.putRow, St.consume, St.freeze, St.row, St.elems, St.grab, St.takeRow, St.setRow, St.place, St.optPv, St.setCell, St.setCellRow, binPV, intBin, unPV, BV.val, Nat.reduceEqDiff, bound, consumeAll, buildParts, capsOf, capOf, List.append_nil, Nat.reduceAdd, Nat.reduceLT, Nat.reduceLeDiff, beq_self_eq_true, List.length_map, Nat.beq, dcall, dcallP, List.mapM_cons, St.snapFn, St.snap, St.layAll, St.lay, St.freezeArg, St.freezeArg1]
    rw [List.drop_eq_getElem_cons hi, List.drop_eq_getElem_cons hj]
    (try simp only [bcase_bind, bcase_map, tail_bcase]); refine bcase_split (fun hb => ?_) (fun hb => ?_) <;> try simp only [hb,  List.isEmpty_nil, val_pvs, frozen_pvs, msnoc_len, msnoc_get, msnoc_set, msnoc_take, Int.le_refl, take_map_all, Nat.le_refl, St.freezeRows, BV.frozen, List.take_length, List.take_append_drop, z_repl_zero, Int.toNat_zero, true_and, and_true, and_self, eq_self, z_take_zero, List.drop_nil, List.take_nil, vAll, List.foldl_nil, List.foldl_cons, resultsOf, resultList, resultOf, zBV, splice, PV.remade, St.freezeAt, St.freezeBox, St.freezeCap, PV.single, plain, act, dstOf, if_true, if_false, reduceCtorEq, St.get, St.put, St.pvOf, St.putRow, St.consume, St.freeze, St.row, St.elems, St.grab, St.takeRow, St.setRow, St.place, St.optPv, St.setCell, St.setCellRow, binPV, intBin, unPV, BV.val, Nat.reduceEqDiff, bound, consumeAll, buildParts, capsOf, capOf, List.append_nil, Nat.reduceAdd, Nat.reduceLT, Nat.reduceLeDiff, beq_self_eq_true, List.length_map, Nat.beq, dcall, dcallP, List.mapM_cons, St.snapFn, St.snap, St.layAll, St.lay, St.freezeArg, St.freezeArg1]
    · rw [ih _ (by simp only [hi1]; rfl)]
      simp only [decide_eq_true_eq] at hb
      simp only [hb, List.cons.injEq, true_and]
    · simp only [decide_eq_false_iff_not] at hb
      simp only [hb, List.cons.injEq, false_and, if_false]
      rfl
  · intro rb

    simp only [fn26_b0, Int.lt_irrefl,  List.isEmpty_nil, val_pvs, frozen_pvs, msnoc_len, msnoc_get, msnoc_set, msnoc_take, Int.le_refl, take_map_all, Nat.le_refl, St.freezeRows, BV.frozen, List.take_length, List.take_append_drop, z_repl_zero, Int.toNat_zero, true_and, and_true, and_self, eq_self, z_take_zero, List.drop_nil, List.take_nil, vAll, List.foldl_nil, List.foldl_cons, resultsOf, resultList, resultOf, zBV, splice, PV.remade, St.freezeAt, St.freezeBox, St.freezeCap, PV.single, plain, act, dstOf, if_true, if_false, reduceCtorEq, St.get, St.put, St.pvOf, St.putRow, St.consume, St.freeze, St.row, St.elems, St.grab, St.takeRow, St.setRow, St.place, St.optPv, St.setCell, St.setCellRow, binPV, intBin, unPV, BV.val, Nat.reduceEqDiff, bound, consumeAll, buildParts, capsOf, capOf, List.append_nil, Nat.reduceAdd, Nat.reduceLT, Nat.reduceLeDiff, beq_self_eq_true, List.length_map, Nat.beq, dcall, dcallP, List.mapM_cons, St.snapFn, St.snap, St.layAll, St.lay, St.freezeArg, St.freezeArg1]
    rw [List.drop_length, hab, List.drop_length, if_pos rfl]
    rfl

theorem cal26 {a b : List (List Exn)} (hl : a.length ≤ lim) (hr : ∀ v ∈ a, v.length ≤ lim) : cal env 26 [.list 1 (a.map eExts), .list 1 (b.map eExts)] = some [(.bool (decide (a = b)), false)] := by
  rw [cal_code env26 rfl]; simp only [fn26]; simp only [start, z_map_cons, z_map_nil, z_len_cons, z_len_nil, z_repl_zero, z_repl_succ, z_cons_app, z_nil_app, Nat.reduceAdd, Nat.reduceSub]
  simp only [ List.isEmpty_nil, val_pvs, frozen_pvs, msnoc_len, msnoc_get, msnoc_set, msnoc_take, Int.le_refl, take_map_all, Nat.le_refl, St.freezeRows, BV.frozen, List.take_length, List.take_append_drop, z_repl_zero, Int.toNat_zero, true_and, and_true, and_self, eq_self, z_take_zero, List.drop_nil, List.take_nil, vAll, List.foldl_nil, List.foldl_cons, resultsOf, resultList, resultOf, zBV, splice, PV.remade, St.freezeAt, St.freezeBox, St.freezeCap, PV.single, plain, act, dstOf, if_true, if_false, reduceCtorEq, St.get, St.put, St.pvOf, St.putRow, St.consume, St.freeze, St.row, St.elems, St.grab, St.takeRow, St.setRow, St.place, St.optPv, St.setCell, St.setCellRow, binPV, intBin, unPV, BV.val, Nat.reduceEqDiff, bound, consumeAll, buildParts, capsOf, capOf, List.append_nil, Nat.reduceAdd, Nat.reduceLT, Nat.reduceLeDiff, beq_self_eq_true, List.length_map, Nat.beq, dcall, dcallP, List.mapM_cons, St.snapFn, St.snap, St.layAll, St.lay, St.freezeArg, St.freezeArg1]
  (try simp only [bcase_bind, bcase_map, tail_bcase]); refine bcase_split (fun hb => ?_) (fun hb => ?_) <;> try simp only [hb,  List.isEmpty_nil, val_pvs, frozen_pvs, msnoc_len, msnoc_get, msnoc_set, msnoc_take, Int.le_refl, take_map_all, Nat.le_refl, St.freezeRows, BV.frozen, List.take_length, List.take_append_drop, z_repl_zero, Int.toNat_zero, true_and, and_true, and_self, eq_self, z_take_zero, List.drop_nil, List.take_nil, vAll, List.foldl_nil, List.foldl_cons, resultsOf, resultList, resultOf, zBV, splice, PV.remade, St.freezeAt, St.freezeBox, St.freezeCap, PV.single, plain, act, dstOf, if_true, if_false, reduceCtorEq, St.get, St.put, St.pvOf, St.putRow, St.consume, St.freeze, St.row, St.elems, St.grab, St.takeRow, St.setRow, St.place, St.optPv, St.setCell, St.setCellRow, binPV, intBin, unPV, BV.val, Nat.reduceEqDiff, bound, consumeAll, buildParts, capsOf, capOf, List.append_nil, Nat.reduceAdd, Nat.reduceLT, Nat.reduceLeDiff, beq_self_eq_true, List.length_map, Nat.beq, dcall, dcallP, List.mapM_cons, St.snapFn, St.snap, St.layAll, St.lay, St.freezeArg, St.freezeArg1]
  · have hab : a.length = b.length := by simp at hb; omega
    rw [loop26 hl hr hab]
    rotate_left
    · rfl
    · by_cases e : a = b <;> simp only [e, vAll, List.foldl_nil, List.foldl_cons, resultsOf, resultList, resultOf, zBV, splice, PV.remade, St.freezeAt, St.freezeBox, St.freezeCap, PV.single, plain, act, dstOf, if_true, if_false, reduceCtorEq, St.get, St.put, St.pvOf, St.putRow, St.consume, St.freeze, St.row, St.elems, St.grab, St.takeRow, St.setRow, St.place, St.optPv, St.setCell, St.setCellRow, binPV, intBin, unPV, BV.val, Nat.reduceEqDiff, bound, consumeAll, buildParts, capsOf, capOf, List.append_nil, Nat.reduceAdd, Nat.reduceLT, Nat.reduceLeDiff, beq_self_eq_true, List.length_map, Nat.beq, dcall, dcallP, List.mapM_cons, St.snapFn, St.snap, St.layAll, St.lay, St.freezeArg, St.freezeArg1]
  · have : a ≠ b := fun e => by subst e; simp at hb
    simp only [this, vAll, List.foldl_nil, List.foldl_cons, resultsOf, resultList, resultOf, zBV, splice, PV.remade, St.freezeAt, St.freezeBox, St.freezeCap, PV.single, plain, act, dstOf, if_true, if_false, reduceCtorEq, St.get, St.put, St.pvOf, St.putRow, St.consume, St.freeze, St.row, St.elems, St.grab, St.takeRow, St.setRow, St.place, St.optPv, St.setCell, St.setCellRow, binPV, intBin, unPV, BV.val, Nat.reduceEqDiff, bound, consumeAll, buildParts, capsOf, capOf, List.append_nil, Nat.reduceAdd, Nat.reduceLT, Nat.reduceLeDiff, beq_self_eq_true, List.length_map, Nat.beq, dcall, dcallP, List.mapM_cons, St.snapFn, St.snap, St.layAll, St.lay, St.freezeArg, St.freezeArg1]
def few22 (l : List Wrt) : Bool := (l.take 60).all (fun w => decide (w.data.length ≤ 24)) && decide (l.length ≤ 40)
theorem few22_len {l : List Wrt} (h : few22 l = true) : l.length ≤ 40 ∧ ∀ w ∈ l, w.data.length ≤ 24 := by
  unfold few22 at h
  simp only [Bool.and_eq_true, decide_eq_true_eq] at h
  rw [List.take_of_length_le (by omega)] at h
  exact ⟨h.2, fun w hw => by have := List.all_eq_true.1 h.1 w hw; simpa using this⟩
theorem loop32 {l : List Wrt} {st : St} (h : st.head [0, 3] st.boxes.length = some ⟨[.pv (.list 3 (l.map eWr)), .any, .any, .pv (.int .i64 (0 : Nat)), .any, .any, .any, .any, .any, .any, .any, .any, .any, .any, .any, .any, .any, .any, .any, .any, .any, .any, .any, .any], [], [], none⟩) :
   den env fn32_l1 st = if (l.take 60).all (fun w => decide (w.data.length ≤ 24)) then some (.normal, ⟨[.pv (.list 3 (l.map eWr)), .any, .any, .any, .any, .any, .any, .any, .any, .any, .any, .any, .any, .any, .any, .any, .any, .any, .any, .any, .any, .any, .any, .any], [], [], none⟩) else some (.ret, ⟨[.pv (.list 3 (l.map eWr)), .any, .pv (.bool false), .any, .any, .any, .any, .any, .any, .any, .any, .any, .any, .any, .any, .any, .any, .any, .any, .any, .any, .any, .any, .any], [], [], none⟩) := by
  unfold fn32_l1
  rw [ clean_up (env := env) ((l.take 60).length) (fun i => ⟨[.pv (.list 3 (l.map eWr)), .any, .any, .pv (.int .i64 i), .any, .any, .any, .any, .any, .any, .any, .any, .any, .any, .any, .any, .any, .any, .any, .any, .any, .any, .any, .any], [], [], none⟩) (fun i => if ((l.take 60).drop i).all (fun w => decide (w.data.length ≤ 24)) then some (.normal, ⟨[.pv (.list 3 (l.map eWr)), .any, .any, .any, .any, .any, .any, .any, .any, .any, .any, .any, .any, .any, .any, .any, .any, .any, .any, .any, .any, .any, .any, .any], [], [], none⟩) else some (.ret, ⟨[.pv (.list 3 (l.map eWr)), .any, .pv (.bool false), .any, .any, .any, .any, .any, .any, .any, .any, .any, .any, .any, .any, .any, .any, .any, .any, .any, .any, .any, .any, .any], [], [], none⟩)) h (fun _ => rfl) (fun _ => rfl) ?_ ?_]
  · first | rfl | simp only [List.drop_zero, List.take_zero, List.map_nil, Nat.zero_add, List.nil_append, List.foldl_nil]
  · intro i rb hi ih

    have hlim : lim = 1073741824 := rfl
    have hi60 : i < 60 := by rw [List.length_take] at hi; omega
    have hil : i < l.length := by rw [List.length_take] at hi; omega
    have hi1 := i64_next (show i < i + 1 by omega) (by omega)
    have F1 : ((i : Int) < (l.length : Int)) = True := eq_true (by omega)
    have F2 : ((i : Int) < 60) = True := eq_true (by omega)
    rw [List.drop_eq_getElem_cons hi, List.all_cons]
    have hx : l[i]? = some (l.take 60)[i] := by rw [List.getElem_take]; exact List.getElem?_eq_getElem hil
    generalize (l.take 60)[i] = w at *
    simp only [fn32_b0, F1, F2, hx, eWr, index_nat hil, List.getElem?_map, Option.map_some, List.length_map, List.isEmpty_nil, val_pvs, frozen_pvs, msnoc_len, msnoc_get, msnoc_set, msnoc_take, Int.le_refl, take_map_all, Nat.le_refl, St.freezeRows, BV.frozen, List.take_length, List.take_append_drop, z_repl_zero, Int.toNat_zero, true_and, and_true, and_self, eq_self, z_take_zero, List.drop_nil, List.take_nil, vAll, List.foldl_nil, List.foldl_cons, resultsOf, resultList, resultOf, zBV, splice, PV.remade, St.freezeAt, St.freezeBox, St.freezeCap, PV.single, plain, act, dstOf, if_true, if_false, reduceCtorEq, St.get, St.put, St.pvOf, St.putRow, St.consume, St.freeze, St.row, St.elems, St.grab, St.takeRow, St.setRow, St.place, St.optPv, St.setCell, St.setCellRow, binPV, intBin, unPV, BV.val, Nat.reduceEqDiff, bound, consumeAll, buildParts, capsOf, capOf, List.append_nil, Nat.reduceAdd, Nat.reduceLT, Nat.reduceLeDiff, beq_self_eq_true, List.length_map, Nat.beq, dcall, dcallP, List.mapM_cons, St.snapFn, St.snap, St.layAll, St.lay, St.freezeArg, St.freezeArg1]
    (try simp only [bcase_bind, bcase_map, tail_bcase]); refine bcase_split (fun hb => ?_) (fun hb => ?_) <;> try simp only [hb,  List.isEmpty_nil, val_pvs, frozen_pvs, msnoc_len, msnoc_get, msnoc_set, msnoc_take, Int.le_refl, take_map_all, Nat.le_refl, St.freezeRows, BV.frozen, List.take_length, List.take_append_drop, z_repl_zero, Int.toNat_zero, true_and, and_true, and_self, eq_self, z_take_zero, List.drop_nil, List.take_nil, vAll, List.foldl_nil, List.foldl_cons, resultsOf, resultList, resultOf, zBV, splice, PV.remade, St.freezeAt, St.freezeBox, St.freezeCap, PV.single, plain, act, dstOf, if_true, if_false, reduceCtorEq, St.get, St.put, St.pvOf, St.putRow, St.consume, St.freeze, St.row, St.elems, St.grab, St.takeRow, St.setRow, St.place, St.optPv, St.setCell, St.setCellRow, binPV, intBin, unPV, BV.val, Nat.reduceEqDiff, bound, consumeAll, buildParts, capsOf, capOf, List.append_nil, Nat.reduceAdd, Nat.reduceLT, Nat.reduceLeDiff, beq_self_eq_true, List.length_map, Nat.beq, dcall, dcallP, List.mapM_cons, St.snapFn, St.snap, St.layAll, St.lay, St.freezeArg, St.freezeArg1]
    · rw [decide_eq_false (by simp at hb; omega)]; rfl
    · rw [ih _ (by simp only [hi1]; rfl), decide_eq_true (show w.data.length ≤ 24 by simp at hb; omega), Bool.true_and]
  · intro rb

    rw [List.drop_length]
    by_cases c : l.length < 60
    · have hn : (l.take 60).length = l.length := by rw [List.length_take]; omega
      rw [hn]
      simp only [fn32_b0, Int.lt_irrefl,  List.isEmpty_nil, val_pvs, frozen_pvs, msnoc_len, msnoc_get, msnoc_set, msnoc_take, Int.le_refl, take_map_all, Nat.le_refl, St.freezeRows, BV.frozen, List.take_length, List.take_append_drop, z_repl_zero, Int.toNat_zero, true_and, and_true, and_self, eq_self, z_take_zero, List.drop_nil, List.take_nil, vAll, List.foldl_nil, List.foldl_cons, resultsOf, resultList, resultOf, zBV, splice, PV.remade, St.freezeAt, St.freezeBox, St.freezeCap, PV.single, plain, act, dstOf, if_true, if_false, reduceCtorEq, St.get, St.put, St.pvOf, St.putRow, St.consume, St.freeze, St.row, St.elems, St.grab, St.takeRow, St.setRow, St.place, St.optPv, St.setCell, St.setCellRow, binPV, intBin, unPV, BV.val, Nat.reduceEqDiff, bound, consumeAll, buildParts, capsOf, capOf, List.append_nil, Nat.reduceAdd, Nat.reduceLT, Nat.reduceLeDiff, beq_self_eq_true, List.length_map, Nat.beq, dcall, dcallP, List.mapM_cons, St.snapFn, St.snap, St.layAll, St.lay, St.freezeArg, St.freezeArg1]
      rfl
    · have hn : (l.take 60).length = 60 := by rw [List.length_take]; omega
      rw [hn]
      by_cases c2 : l.length = 60
      · have F1 : (((60 : Nat) : Int) < (l.length : Int)) = False := eq_false (by omega)
        simp only [fn32_b0, F1, List.length_map, List.isEmpty_nil, val_pvs, frozen_pvs, msnoc_len, msnoc_get, msnoc_set, msnoc_take, Int.le_refl, take_map_all, Nat.le_refl, St.freezeRows, BV.frozen, List.take_length, List.take_append_drop, z_repl_zero, Int.toNat_zero, true_and, and_true, and_self, eq_self, z_take_zero, List.drop_nil, List.take_nil, vAll, List.foldl_nil, List.foldl_cons, resultsOf, resultList, resultOf, zBV, splice, PV.remade, St.freezeAt, St.freezeBox, St.freezeCap, PV.single, plain, act, dstOf, if_true, if_false, reduceCtorEq, St.get, St.put, St.pvOf, St.putRow, St.consume, St.freeze, St.row, St.elems, St.grab, St.takeRow, St.setRow, St.place, St.optPv, St.setCell, St.setCellRow, binPV, intBin, unPV, BV.val, Nat.reduceEqDiff, bound, consumeAll, buildParts, capsOf, capOf, List.append_nil, Nat.reduceAdd, Nat.reduceLT, Nat.reduceLeDiff, beq_self_eq_true, List.length_map, Nat.beq, dcall, dcallP, List.mapM_cons, St.snapFn, St.snap, St.layAll, St.lay, St.freezeArg, St.freezeArg1]
        rfl
      · have F1 : (((60 : Nat) : Int) < (l.length : Int)) = True := eq_true (by omega)
        have F2 : (((60 : Nat) : Int) < 60) = False := eq_false (by omega)
        simp only [fn32_b0, F1, F2, List.length_map, List.isEmpty_nil, val_pvs, frozen_pvs, msnoc_len, msnoc_get, msnoc_set, msnoc_take, Int.le_refl, take_map_all, Nat.le_refl, St.freezeRows, BV.frozen, List.take_length, List.take_append_drop, z_repl_zero, Int.toNat_zero, true_and, and_true, and_self, eq_self, z_take_zero, List.drop_nil, List.take_nil, vAll, List.foldl_nil, List.foldl_cons, resultsOf, resultList, resultOf, zBV, splice, PV.remade, St.freezeAt, St.freezeBox, St.freezeCap, PV.single, plain, act, dstOf, if_true, if_false, reduceCtorEq, St.get, St.put, St.pvOf, St.putRow, St.consume, St.freeze, St.row, St.elems, St.grab, St.takeRow, St.setRow, St.place, St.optPv, St.setCell, St.setCellRow, binPV, intBin, unPV, BV.val, Nat.reduceEqDiff, bound, consumeAll, buildParts, capsOf, capOf, List.append_nil, Nat.reduceAdd, Nat.reduceLT, Nat.reduceLeDiff, beq_self_eq_true, List.length_map, Nat.beq, dcall, dcallP, List.mapM_cons, St.snapFn, St.snap, St.layAll, St.lay, St.freezeArg, St.freezeArg1]
        rfl

theorem cal32 {l : List Wrt} : cal env 32 [.list 3 (l.map eWr)] = some [(.bool (few22 l), false)] := by
  rw [cal_code env32 rfl]; simp only [fn32]; simp only [start, z_map_cons, z_map_nil, z_len_cons, z_len_nil, z_repl_zero, z_repl_succ, z_cons_app, z_nil_app, Nat.reduceAdd, Nat.reduceSub]
  simp only [ List.isEmpty_nil, val_pvs, frozen_pvs, msnoc_len, msnoc_get, msnoc_set, msnoc_take, Int.le_refl, take_map_all, Nat.le_refl, St.freezeRows, BV.frozen, List.take_length, List.take_append_drop, z_repl_zero, Int.toNat_zero, true_and, and_true, and_self, eq_self, z_take_zero, List.drop_nil, List.take_nil, vAll, List.foldl_nil, List.foldl_cons, resultsOf, resultList, resultOf, zBV, splice, PV.remade, St.freezeAt, St.freezeBox, St.freezeCap, PV.single, plain, act, dstOf, if_true, if_false, reduceCtorEq, St.get, St.put, St.pvOf, St.putRow, St.consume, St.freeze, St.row, St.elems, St.grab, St.takeRow, St.setRow, St.place, St.optPv, St.setCell, St.setCellRow, binPV, intBin, unPV, BV.val, Nat.reduceEqDiff, bound, consumeAll, buildParts, capsOf, capOf, List.append_nil, Nat.reduceAdd, Nat.reduceLT, Nat.reduceLeDiff, beq_self_eq_true, List.length_map, Nat.beq, dcall, dcallP, List.mapM_cons, St.snapFn, St.snap, St.layAll, St.lay, St.freezeArg, St.freezeArg1]
  rw [loop32 (l := l)]
  rotate_left
  · rfl
  unfold few22
  have F1 : decide ((l.length : Int) ≤ 40) = decide (l.length ≤ 40) := decide_eq_decide.2 (by omega)
  cases (l.take 60).all (fun w => decide (w.data.length ≤ 24)) <;> simp only [F1, if_true, if_false, Bool.false_eq_true, List.isEmpty_nil, val_pvs, frozen_pvs, msnoc_len, msnoc_get, msnoc_set, msnoc_take, Int.le_refl, take_map_all, Nat.le_refl, St.freezeRows, BV.frozen, List.take_length, List.take_append_drop, z_repl_zero, Int.toNat_zero, true_and, and_true, and_self, eq_self, z_take_zero, List.drop_nil, List.take_nil, vAll, List.foldl_nil, List.foldl_cons, resultsOf, resultList, resultOf, zBV, splice, PV.remade, St.freezeAt, St.freezeBox, St.freezeCap, PV.single, plain, act, dstOf, if_true, if_false, reduceCtorEq, St.get, St.put, St.pvOf, St.putRow, St.consume, St.freeze, St.row, St.elems, St.grab, St.takeRow, St.setRow, St.place, St.optPv, St.setCell, St.setCellRow, binPV, intBin, unPV, BV.val, Nat.reduceEqDiff, bound, consumeAll, buildParts, capsOf, capOf, List.append_nil, Nat.reduceAdd, Nat.reduceLT, Nat.reduceLeDiff, beq_self_eq_true, List.length_map, Nat.beq, dcall, dcallP, List.mapM_cons, St.snapFn, St.snap, St.layAll, St.lay, St.freezeArg, St.freezeArg1]
def covP (k : Int) (x : Exn) : Bool := decide (x.start ≤ k) && decide (k - x.start < x.count)
theorem cal36 {x : Exn} {k : Int} (h0 : 0 ≤ x.start) (h1 : 0 ≤ k) (h2 : k ≤ lim) : cal env 36 [eExt x, .iptr [.int .i64 k] 0] = some [(.bool (covP k x), false)] := by
  have hlim : lim = 1073741824 := rfl
  unfold covP
  simp only [eExt]
  by_cases c : x.start ≤ k
  · have W : IntKind.i64.wrap (k - x.start) = k - x.start := i64_fits (by omega)
    have G1 : (k ≥ x.start) = True := eq_true c
    rw [cal_code env36 rfl]; simp only [fn36]; simp only [start, z_map_cons, z_map_nil, z_len_cons, z_len_nil, z_repl_zero, z_repl_succ, z_cons_app, z_nil_app, Nat.reduceAdd, Nat.reduceSub]
    simp only [W, G1, c, List.isEmpty_nil, val_pvs, frozen_pvs, msnoc_len, msnoc_get, msnoc_set, msnoc_take, Int.le_refl, take_map_all, Nat.le_refl, St.freezeRows, BV.frozen, List.take_length, List.take_append_drop, z_repl_zero, Int.toNat_zero, true_and, and_true, and_self, eq_self, z_take_zero, List.drop_nil, List.take_nil, vAll, List.foldl_nil, List.foldl_cons, resultsOf, resultList, resultOf, zBV, splice, PV.remade, St.freezeAt, St.freezeBox, St.freezeCap, PV.single, plain, act, dstOf, if_true, if_false, reduceCtorEq, St.get, St.put, St.pvOf, St.putRow, St.consume, St.freeze, St.row, St.elems, St.grab, St.takeRow, St.setRow, St.place, St.optPv, St.setCell, St.setCellRow, binPV, intBin, unPV, BV.val, Nat.reduceEqDiff, bound, consumeAll, buildParts, capsOf, capOf, List.append_nil, Nat.reduceAdd, Nat.reduceLT, Nat.reduceLeDiff, beq_self_eq_true, List.length_map, Nat.beq, dcall, dcallP, List.mapM_cons, St.snapFn, St.snap, St.layAll, St.lay, St.freezeArg, St.freezeArg1]
  · have G1 : (k ≥ x.start) = False := eq_false c
    rw [cal_code env36 rfl]; simp only [fn36]; simp only [start, z_map_cons, z_map_nil, z_len_cons, z_len_nil, z_repl_zero, z_repl_succ, z_cons_app, z_nil_app, Nat.reduceAdd, Nat.reduceSub]
    simp only [G1, c, List.isEmpty_nil, val_pvs, frozen_pvs, msnoc_len, msnoc_get, msnoc_set, msnoc_take, Int.le_refl, take_map_all, Nat.le_refl, St.freezeRows, BV.frozen, List.take_length, List.take_append_drop, z_repl_zero, Int.toNat_zero, true_and, and_true, and_self, eq_self, z_take_zero, List.drop_nil, List.take_nil, vAll, List.foldl_nil, List.foldl_cons, resultsOf, resultList, resultOf, zBV, splice, PV.remade, St.freezeAt, St.freezeBox, St.freezeCap, PV.single, plain, act, dstOf, if_true, if_false, reduceCtorEq, St.get, St.put, St.pvOf, St.putRow, St.consume, St.freeze, St.row, St.elems, St.grab, St.takeRow, St.setRow, St.place, St.optPv, St.setCell, St.setCellRow, binPV, intBin, unPV, BV.val, Nat.reduceEqDiff, bound, consumeAll, buildParts, capsOf, capOf, List.append_nil, Nat.reduceAdd, Nat.reduceLT, Nat.reduceLeDiff, beq_self_eq_true, List.length_map, Nat.beq, dcall, dcallP, List.mapM_cons, St.snapFn, St.snap, St.layAll, St.lay, St.freezeArg, St.freezeArg1]

theorem exts_any (k : Nat) : ∀ (n : Nat) (l : List Nat), l.length = n → (exts l).any (covP k) = decide (k ∈ l) := by
  intro n
  induction n with
  | zero => intro l hl; rw [List.eq_nil_of_length_eq_zero hl]; rfl
  | succ n ih =>
    intro l hl
    rcases snoc_cases l with rfl | ⟨p, j, rfl⟩
    · simp at hl
    · have ihp := ih p (by simpa using hl)
      rw [exts_snoc]
      have hm : decide (k ∈ p ++ [j]) = (decide (k ∈ p) || decide (k = j)) := by
        by_cases h1 : k ∈ p <;> by_cases h2 : k = j <;> simp [h1, h2]
      rw [hm, ← ihp]
      have hone : covP k ⟨(j : Int), 1⟩ = decide (k = j) := by
        unfold covP
        by_cases h : k = j
        · subst h; simp
        · by_cases h2 : (j : Int) ≤ k
          · simp only [h2, h, decide_true, decide_false, Bool.true_and]
            exact decide_eq_false (by omega)
          · simp only [h2, h, decide_false, Bool.false_and]
      rcases snoc_cases (exts p) with e | ⟨pre, y, e⟩
      · rw [e]
        show [(⟨(j : Int), 1⟩ : Exn)].any (covP k) = _
        simp [hone]
      · rw [e, addAt_snoc]
        split
        · rename_i hy
          have hc : 1 ≤ y.count := by
            rcases snoc_cases p with rfl | ⟨p', j', rfl⟩
            · have : (exts ([] : List Nat)) = [] := rfl
              rw [this] at e; simp at e
            · obtain ⟨pre2, x2, q1, q2, q3, q4, q5⟩ := exts_last _ p' rfl j'
              rw [q1] at e
              have := List.append_inj' e rfl
              have := this.2
              simp at this
              rw [← this]; exact q4
          rw [List.any_append, List.any_append]
          have : covP k ⟨y.start, y.count + 1⟩ = (covP k y || decide (k = j)) := by
            unfold covP
            by_cases h1 : y.start ≤ k
            · simp only [h1, decide_true, Bool.true_and]
              by_cases h2 : (k : Int) - y.start < y.count
              · simp only [h2, decide_true, Bool.true_or]; exact decide_eq_true (by omega)
              · simp only [h2, decide_false, Bool.false_or]; exact decide_eq_decide.2 (by omega)
            · simp only [h1, decide_false, Bool.false_and, Bool.false_or]
              exact (decide_eq_false (by omega)).symm
          simp only [List.any_cons, List.any_nil, Bool.or_false, this, Bool.or_assoc]
        · rw [List.any_append]
          simp only [List.any_cons, List.any_nil, Bool.or_false, hone]
theorem volDiff_any {a b : List Sec} {k : Nat} (ha : k < a.length) (hb : k < b.length) : (volDiff a b).any (covP k) = !decide (a[k] = b[k]) := by
  unfold volDiff
  rw [exts_any k _ _ rfl]
  unfold difs difN dif
  have h : (k ∈ List.filter (fun i => decide (a[i]? ≠ b[i]?)) (List.range a.length)) ↔ ¬ a[k] = b[k] := by
    rw [List.mem_filter, List.mem_range, decide_eq_true_eq, List.getElem?_eq_getElem ha, List.getElem?_eq_getElem hb]
    simp [ha]
  by_cases e : a[k] = b[k]
  · rw [decide_eq_false (fun q => h.1 q e), e]; simp
  · rw [decide_eq_true (h.2 e), decide_eq_false e]; rfl
theorem img_ext {a b : Img} (h : imSizes a = imSizes b) (hg : ∀ i k (h1 : i < a.length) (h2 : i < b.length) (h3 : k < a[i].length) (h4 : k < b[i].length), a[i][k] = b[i][k]) : a = b := by
  obtain ⟨l1, s1⟩ := sizes_inj h
  refine List.ext_getElem l1 fun i h1 h2 => ?_
  exact List.ext_getElem (s1 i h1 h2) fun k h3 h4 => hg i k h1 h2 h3 h4
theorem choose_at {g : Sec → Sec → Sec → Sec} {a b z : Img} (h1 : imSizes a = imSizes z) (h2 : imSizes b = imSizes z) {i k : Nat} (q1 : i < (chooseX g a b z).length) (q2 : k < (chooseX g a b z)[i].length) :
    ∃ (ha : i < a.length) (hb : i < b.length) (hz : i < z.length) (ka : k < a[i].length) (kb : k < b[i].length) (kz : k < z[i].length), (chooseX g a b z)[i][k] = g a[i][k] b[i][k] z[i][k] := by
  obtain ⟨l1, s1⟩ := sizes_inj h1
  obtain ⟨l2, s2⟩ := sizes_inj h2
  have hz : i < z.length := by rw [chooseX_len l1 l2] at q1; exact q1
  have e := chooseX_get (g := g) (a := a) (b := b) (z := z) (i := i) (by omega) (by omega) hz
  rw [List.getElem?_eq_getElem q1] at e
  have e' := Option.some.inj e
  have kz : k < z[i].length := by rw [e', chooseV_len (s1 i (by omega) hz) (s2 i (by omega) hz)] at q2; exact q2
  have ka : k < (a[i]'(by omega)).length := by rw [s1 i (by omega) hz]; exact kz
  have kb : k < (b[i]'(by omega)).length := by rw [s2 i (by omega) hz]; exact kz
  refine ⟨by omega, by omega, hz, ka, kb, kz, ?_⟩
  have f := chooseV_get (g := g) ka kb kz
  have : (chooseX g a b z)[i][k]? = some (g a[i][k] b[i][k] z[i][k]) := by rw [e']; exact f
  rw [List.getElem?_eq_getElem q2] at this
  exact Option.some.inj this
theorem choose_is {g : Sec → Sec → Sec → Sec} {a b z c : Img} (h1 : imSizes a = imSizes z) (h2 : imSizes b = imSizes z) (h3 : imSizes c = imSizes z)
    (h : ∀ i k (ha : i < a.length) (hb : i < b.length) (hz : i < z.length) (hc : i < c.length) (ka : k < a[i].length) (kb : k < b[i].length) (kz : k < z[i].length) (kc : k < c[i].length), g a[i][k] b[i][k] z[i][k] = c[i][k]) : chooseX g a b z = c := by
  refine img_ext ((chooseX_sizes h1 h2).trans h3.symm) fun i k q1 q2 q3 q4 => ?_
  obtain ⟨ha, hb, hz, ka, kb, kz, e⟩ := choose_at h1 h2 q1 q3
  rw [e]
  exact h i k ha hb hz q2 ka kb kz q4
theorem merge_left {a z : Img} (h : imSizes a = imSizes z) : chooseX gMerge a z z = a :=
  choose_is h rfl h fun i k _ _ _ _ _ _ _ _ => by unfold gMerge; split <;> simp_all
theorem merge_right {a z : Img} (h : imSizes a = imSizes z) : chooseX gMerge z a z = a :=
  choose_is rfl h h fun i k _ _ _ _ _ _ _ _ => by unfold gMerge; simp
theorem zeros_at {a b c d z : Img} (h1 : imSizes a = imSizes z) (h2 : imSizes b = imSizes z) (h3 : imSizes c = imSizes z) (h4 : imSizes d = imSizes z) : zerosI a b z = zerosI c d z := by
  refine choose_is h1 h2 (chooseX_sizes h3 h4) fun i k ha hb hz hc ka kb kz kc => ?_
  obtain ⟨_, _, _, _, _, _, e⟩ := choose_at (g := gZero) h3 h4 hc kc
  rw [show (zerosI c d z)[i][k] = _ from e]; rfl
theorem conf_comm (x y z : Sec) : confP y x z = confP x y z := by
  unfold confP
  have : decide (y = x) = decide (x = y) := decide_eq_decide.2 eq_comm
  rw [this]
  cases decide (x = z) <;> cases decide (y = z) <;> simp
theorem marks_comm {a b z : Img} (h1 : imSizes a = imSizes z) (h2 : imSizes b = imSizes z) : marksI b a z = marksI a b z := by
  refine choose_is h2 h1 (chooseX_sizes h1 h2) fun i k ha hb hz hc ka kb kz kc => ?_
  obtain ⟨_, _, _, _, _, _, e⟩ := choose_at (g := gMark) h1 h2 hc kc
  rw [show (marksI a b z)[i][k] = _ from e]
  unfold gMark
  rw [conf_comm]
theorem marks_left {a z : Img} (h : imSizes a = imSizes z) : marksI a z z = zerosI a z z := by
  refine choose_is h rfl (chooseX_sizes h rfl) fun i k ha hb hz hc ka kb kz kc => ?_
  obtain ⟨_, _, _, _, _, _, e⟩ := choose_at (g := gZero) h rfl hc kc
  rw [show (zerosI a z z)[i][k] = _ from e]
  unfold gMark gZero confP
  simp
theorem marks_right {a z : Img} (h : imSizes a = imSizes z) : marksI z a z = zerosI z a z := by
  refine choose_is rfl h (chooseX_sizes rfl h) fun i k ha hb hz hc ka kb kz kc => ?_
  obtain ⟨_, _, _, _, _, _, e⟩ := choose_at (g := gZero) rfl h hc kc
  rw [show (zerosI z a z)[i][k] = _ from e]
  unfold gMark gZero confP
  simp
theorem differ_self (a : Img) : differ a a = a.map fun _ => [] := by
  unfold differ
  apply List.ext_getElem (by simp)
  intro i h1 h2
  simp only [List.getElem_map, List.getElem_zip]
  unfold volDiff difs difN dif
  rw [List.filter_eq_nil_iff.2 (fun _ _ => by simp)]
  rfl
theorem imgs_zero {a b z : Img} (h1 : imSizes a = imSizes z) (h2 : imSizes b = imSizes z) (h3 : imCheck z = 0) : imgsErr a b z = 0 := by
  unfold imgsErr
  rw [check_sizes h1, check_sizes h2, h3, if_neg (by simp), if_neg (by simp), if_neg (by simp), if_pos ⟨h2.trans h1.symm, h1.symm⟩]
theorem conf_any {a b z : Img} (h1 : imSizes a = imSizes z) (h2 : imSizes b = imSizes z) {i k : Nat} (ha : i < a.length) (hb : i < b.length) (hz : i < z.length) (ka : k < a[i].length) (kb : k < b[i].length) (kz : k < z[i].length) :
    ∃ l, (differ (marksI a b z) (zerosI a b z))[i]? = some l ∧ l.any (covP k) = confP a[i][k] b[i][k] z[i][k] ∧ (∀ x ∈ l, 0 ≤ x.start) ∧ l.length ≤ z[i].length := by
  obtain ⟨l1, s1⟩ := sizes_inj h1
  obtain ⟨l2, s2⟩ := sizes_inj h2
  have em : (marksI a b z)[i]? = _ := chooseX_get (g := gMark) (a := a) (b := b) (z := z) (i := i) ha hb hz
  have ez : (zerosI a b z)[i]? = _ := chooseX_get (g := gZero) (a := a) (b := b) (z := z) (i := i) ha hb hz
  refine ⟨volDiff (chooseV gMark a[i] b[i] z[i]) (chooseV gZero a[i] b[i] z[i]), ?_, ?_, fun x hx => (volDiff_in hx).1, ?_⟩
  · unfold differ
    have e : ((marksI a b z).zip (zerosI a b z))[i]? = some (chooseV gMark a[i] b[i] z[i], chooseV gZero a[i] b[i] z[i]) := List.getElem?_zip_eq_some.2 ⟨em, ez⟩
    rw [List.getElem?_map, e]; rfl
  · have lm := chooseV_len (g := gMark) (s1 i ha hz) (s2 i hb hz)
    have lz := chooseV_len (g := gZero) (s1 i ha hz) (s2 i hb hz)
    rw [volDiff_any (by omega) (by omega)]
    have e1 := chooseV_get (g := gMark) ka kb kz
    have e2 := chooseV_get (g := gZero) ka kb kz
    rw [List.getElem?_eq_getElem (by omega)] at e1 e2
    rw [Option.some.inj e1, Option.some.inj e2]
    unfold gMark gZero
    cases confP a[i][k] b[i][k] z[i][k]
    · simp
    · have : oneSec ≠ zSec := by decide
      simp [this]
  · rw [← chooseV_len (g := gMark) (s1 i ha hz) (s2 i hb hz)]
    exact volDiff_len _ _
end Go.Proofs.Ytpdfhckdmblicaa.V
