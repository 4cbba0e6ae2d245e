/-
  Part 10 of the texts that the statement stands on.
-/
import Derived.Test.YtpdfhckdmblicaaZ9
set_option linter.all false
namespace Go.Proofs.Ytpdfhckdmblicaa.V
set_option linter.all false
theorem loop84 {α : Type} {enc : α → PV} {l : List α} {p : α → Bool} {gf : Nat} {caps : List PV} (hp : ∀ x ∈ l, cal env gf (enc x :: caps) = some [(.bool (p x), false)]) (hs : ∀ x, part (enc x).cells 0 (some 8) = some (enc x)) (hl : l.length ≤ lim)
   {st : St} (h : st.head [0, 1, 7, 8] st.boxes.length = some ⟨[.pv (.list 8 (l.map enc)), .pv (.func gf caps), .any, .any, .any, .any, .any, .pv (.int .i64 l.length), .pv (.int .i64 (0 : Nat)), .any, .any, .any, .any, .any, .any, .any, .any, .any, .any], [], [], none⟩) :
   den env fn84_l1 st = if l.any p then some (.ret, ⟨[.any, .any, .any, .any, .pv (.int .i64 (l.findIdx p)), .any, .any, .any, .any, .any, .any, .any, .any, .any, .any, .any, .any, .any, .any], [], [], none⟩) else some (.normal, ⟨[.any, .any, .any, .any, .any, .any, .any, .any, .any, .any, .any, .any, .any, .any, .any, .any, .any, .any, .any], [], [], none⟩) := by
  unfold fn84_l1
  rw [clean_up l.length (fun i => ⟨[.pv (.list 8 (l.map enc)), .pv (.func gf caps), .any, .any, .any, .any, .any, .pv (.int .i64 l.length), .pv (.int .i64 i), .any, .any, .any, .any, .any, .any, .any, .any, .any, .any], [], [], none⟩)
    (fun i => if (l.drop i).any p then some (.ret, ⟨[.any, .any, .any, .any, .pv (.int .i64 ((i + (l.drop i).findIdx p : Nat) : Int)), .any, .any, .any, .any, .any, .any, .any, .any, .any, .any, .any, .any, .any, .any], [], [], none⟩) else some (.normal, ⟨[.any, .any, .any, .any, .any, .any, .any, .any, .any, .any, .any, .any, .any, .any, .any, .any, .any, .any, .any], [], [], none⟩)) h (fun _ => rfl) (fun _ => rfl) ?_ ?_]
  · simp only [List.drop_zero, Nat.zero_add]
  · intro i rb hi ih
    have hi1 := i64_next hi hl
    have F1 : ((i : Int) < (l.length : Int)) = True := eq_true (by omega)
    simp only [fn84_b0, F1, List.length_map, index_nat hi, List.getElem?_map, List.getElem?_eq_getElem hi, hp _ (List.getElem_mem hi), hs, vAll, List.foldl_nil, List.foldl_cons, resultsOf, resultList, resultOf, zBV, splice, PV.remade, St.freezeAt, St.freezeBox, St.freezeCap, PV.single, plain, act, dstOf, if_true, if_false, reduceCtorEq, St.get, St.put, St.pvOf, St.putRow, St.consume, St.freeze, St.row, St.elems, St.grab, St.takeRow, St.setRow, St.place, St.optPv, St.setCell, St.setCellRow, binPV, intBin, unPV, BV.val, Nat.reduceEqDiff, bound, consumeAll, buildParts, capsOf, capOf, List.append_nil, Nat.reduceAdd, Nat.reduceLT, Nat.reduceLeDiff, beq_self_eq_true, List.length_map, Nat.beq, dcall, dcallP, List.mapM_cons, St.snapFn, St.snap, St.layAll, St.lay, St.freezeArg, St.freezeArg1]
    (try simp only [bcase_bind, bcase_map, tail_bcase]); refine bcase_split (fun hb => ?_) (fun hb => ?_) <;> try simp only [hb,  List.isEmpty_nil, val_pvs, frozen_pvs, msnoc_len, msnoc_get, msnoc_set, msnoc_take, Int.le_refl, take_map_all, Nat.le_refl, St.freezeRows, BV.frozen, List.take_length, List.take_append_drop, z_repl_zero, Int.toNat_zero, true_and, and_true, and_self, eq_self, z_take_zero, List.drop_nil, List.take_nil, vAll, List.foldl_nil, List.foldl_cons, resultsOf, resultList, resultOf, zBV, splice, PV.remade, St.freezeAt, St.freezeBox, St.freezeCap, PV.single, plain, act, dstOf, if_true, if_false, reduceCtorEq, St.get, St.put, St.pvOf, St.putRow, St.consume, St.freeze, St.row, St.elems, St.grab, St.takeRow, St.setRow, St.place, St.optPv, St.setCell, St.setCellRow, binPV, intBin, unPV, BV.val, Nat.reduceEqDiff, bound, consumeAll, buildParts, capsOf, capOf, List.append_nil, Nat.reduceAdd, Nat.reduceLT, Nat.reduceLeDiff, beq_self_eq_true, List.length_map, Nat.beq, dcall, dcallP, List.mapM_cons, St.snapFn, St.snap, St.layAll, St.lay, St.freezeArg, St.freezeArg1]
    · rw [List.drop_eq_getElem_cons hi]
      simp only [List.any_cons, hb, Bool.true_or, if_true, List.findIdx_cons, cond_true, Nat.add_zero]
      rfl
    · rw [ih _ (by simp only [hi1]; rfl), List.drop_eq_getElem_cons hi]
      simp only [List.any_cons, hb, Bool.false_or, List.findIdx_cons, cond_false, Nat.add_assoc, Nat.add_comm 1]
  · intro rb
    simp only [fn84_b0, Int.lt_irrefl, vAll, List.foldl_nil, List.foldl_cons, resultsOf, resultList, resultOf, zBV, splice, PV.remade, St.freezeAt, St.freezeBox, St.freezeCap, PV.single, plain, act, dstOf, if_true, if_false, reduceCtorEq, St.get, St.put, St.pvOf, St.putRow, St.consume, St.freeze, St.row, St.elems, St.grab, St.takeRow, St.setRow, St.place, St.optPv, St.setCell, St.setCellRow, binPV, intBin, unPV, BV.val, Nat.reduceEqDiff, bound, consumeAll, buildParts, capsOf, capOf, List.append_nil, Nat.reduceAdd, Nat.reduceLT, Nat.reduceLeDiff, beq_self_eq_true, List.length_map, Nat.beq, dcall, dcallP, List.mapM_cons, St.snapFn, St.snap, St.layAll, St.lay, St.freezeArg, St.freezeArg1]
    simp only [List.drop_length, List.any_nil, Bool.false_eq_true, if_false]
    rfl
theorem cal84 {α : Type} {enc : α → PV} {l : List α} {p : α → Bool} {gf : Nat} {caps : List PV} (hp : ∀ x ∈ l, cal env gf (enc x :: caps) = some [(.bool (p x), false)]) (hs : ∀ x, part (enc x).cells 0 (some 8) = some (enc x)) (hl : l.length ≤ lim) :
    cal env 84 [.list 8 (l.map enc), .func gf caps] = some [(.int .i64 (idxI p l), false)] := by
  rw [cal_code env84 rfl]; simp only [fn84]; simp only [start, z_map_cons, z_map_nil, z_len_cons, z_len_nil, z_repl_zero, z_repl_succ, z_cons_app, z_nil_app, Nat.reduceAdd, Nat.reduceSub]
  simp only [List.length_map, vAll, List.foldl_nil, List.foldl_cons, resultsOf, resultList, resultOf, zBV, splice, PV.remade, St.freezeAt, St.freezeBox, St.freezeCap, PV.single, plain, act, dstOf, if_true, if_false, reduceCtorEq, St.get, St.put, St.pvOf, St.putRow, St.consume, St.freeze, St.row, St.elems, St.grab, St.takeRow, St.setRow, St.place, St.optPv, St.setCell, St.setCellRow, binPV, intBin, unPV, BV.val, Nat.reduceEqDiff, bound, consumeAll, buildParts, capsOf, capOf, List.append_nil, Nat.reduceAdd, Nat.reduceLT, Nat.reduceLeDiff, beq_self_eq_true, List.length_map, Nat.beq, dcall, dcallP, List.mapM_cons, St.snapFn, St.snap, St.layAll, St.lay, St.freezeArg, St.freezeArg1]
  rw [loop84 hp hs hl]
  rotate_left
  · rfl
  · simp only [idxI]
    split <;> simp only [vAll, List.foldl_nil, List.foldl_cons, resultsOf, resultList, resultOf, zBV, splice, PV.remade, St.freezeAt, St.freezeBox, St.freezeCap, PV.single, plain, act, dstOf, if_true, if_false, reduceCtorEq, St.get, St.put, St.pvOf, St.putRow, St.consume, St.freeze, St.row, St.elems, St.grab, St.takeRow, St.setRow, St.place, St.optPv, St.setCell, St.setCellRow, binPV, intBin, unPV, BV.val, Nat.reduceEqDiff, bound, consumeAll, buildParts, capsOf, capOf, List.append_nil, Nat.reduceAdd, Nat.reduceLT, Nat.reduceLeDiff, beq_self_eq_true, List.length_map, Nat.beq, dcall, dcallP, List.mapM_cons, St.snapFn, St.snap, St.layAll, St.lay, St.freezeArg, St.freezeArg1]
theorem cal46 {α : Type} {enc : α → PV} {l : List α} {p : α → Bool} {gf : Nat} {caps : List PV} (hp : ∀ x ∈ l, cal env gf (enc x :: caps) = some [(.bool (p x), false)]) (hs : ∀ x, part (enc x).cells 0 (some 8) = some (enc x)) (hl : l.length ≤ lim) :
    cal env 46 [.list 8 (l.map enc), .func gf caps] = some [(.bool (l.any p), false)] := by
  rw [cal_code env46 rfl]; simp only [fn46]; simp only [start, z_map_cons, z_map_nil, z_len_cons, z_len_nil, z_repl_zero, z_repl_succ, z_cons_app, z_nil_app, Nat.reduceAdd, Nat.reduceSub]
  simp only [cal84 hp hs hl, idxI_nonneg, vAll, List.foldl_nil, List.foldl_cons, resultsOf, resultList, resultOf, zBV, splice, PV.remade, St.freezeAt, St.freezeBox, St.freezeCap, PV.single, plain, act, dstOf, if_true, if_false, reduceCtorEq, St.get, St.put, St.pvOf, St.putRow, St.consume, St.freeze, St.row, St.elems, St.grab, St.takeRow, St.setRow, St.place, St.optPv, St.setCell, St.setCellRow, binPV, intBin, unPV, BV.val, Nat.reduceEqDiff, bound, consumeAll, buildParts, capsOf, capOf, List.append_nil, Nat.reduceAdd, Nat.reduceLT, Nat.reduceLeDiff, beq_self_eq_true, List.length_map, Nat.beq, dcall, dcallP, List.mapM_cons, St.snapFn, St.snap, St.layAll, St.lay, St.freezeArg, St.freezeArg1]
theorem cal47 {s : Sit} : cal env 47 [eSit s] = some [(.bool (decide ((s.lin.length : Int) > 20)), false)] := by
  rw [cal_code env47 rfl]; simp only [fn47]; simp only [start, z_map_cons, z_map_nil, z_len_cons, z_len_nil, z_repl_zero, z_repl_succ, z_cons_app, z_nil_app, Nat.reduceAdd, Nat.reduceSub]
  simp only [eSit, List.length_map, List.isEmpty_nil, val_pvs, frozen_pvs, msnoc_len, msnoc_get, msnoc_set, msnoc_take, Int.le_refl, take_map_all, Nat.le_refl, St.freezeRows, BV.frozen, List.take_length, List.take_append_drop, z_repl_zero, Int.toNat_zero, true_and, and_true, and_self, eq_self, z_take_zero, List.drop_nil, List.take_nil, vAll, List.foldl_nil, List.foldl_cons, resultsOf, resultList, resultOf, zBV, splice, PV.remade, St.freezeAt, St.freezeBox, St.freezeCap, PV.single, plain, act, dstOf, if_true, if_false, reduceCtorEq, St.get, St.put, St.pvOf, St.putRow, St.consume, St.freeze, St.row, St.elems, St.grab, St.takeRow, St.setRow, St.place, St.optPv, St.setCell, St.setCellRow, binPV, intBin, unPV, BV.val, Nat.reduceEqDiff, bound, consumeAll, buildParts, capsOf, capOf, List.append_nil, Nat.reduceAdd, Nat.reduceLT, Nat.reduceLeDiff, beq_self_eq_true, List.length_map, Nat.beq, dcall, dcallP, List.mapM_cons, St.snapFn, St.snap, St.layAll, St.lay, St.freezeArg, St.freezeArg1]
def fewX (l : List Sit) : Bool := decide ((l.length : Int) ≤ 8) && !(l.any fun s => decide ((s.lin.length : Int) > 20))
theorem few_ok {l : List Sit} (h : fewX l = true) : l.length ≤ 8 ∧ ∀ s ∈ l, s.lin.length ≤ 20 := by
  unfold fewX at h
  simp only [Bool.and_eq_true, decide_eq_true_eq, Bool.not_eq_true', List.any_eq_false, decide_eq_false_iff_not] at h
  exact ⟨by omega, fun s hs => by have := h.2 s hs; omega⟩
theorem cal12 {l : List Sit} : cal env 12 [.list 8 (l.map eSit)] = some [(.bool (fewX l), false)] := by
  unfold fewX
  by_cases c1 : (l.length : Int) ≤ 8
  · have G1 : ((l.length : Int) ≤ 8) = True := eq_true c1
    have e1 := cal46 (enc := eSit) (l := l) (p := fun s => decide ((s.lin.length : Int) > 20)) (gf := 47) (caps := []) (fun x _ => cal47) part_sit (by unfold lim; omega)
    rw [cal_code env12 rfl]; simp only [fn12]; simp only [start, z_map_cons, z_map_nil, z_len_cons, z_len_nil, z_repl_zero, z_repl_succ, z_cons_app, z_nil_app, Nat.reduceAdd, Nat.reduceSub]
    simp only [G1, e1, List.length_map, List.isEmpty_nil, val_pvs, frozen_pvs, msnoc_len, msnoc_get, msnoc_set, msnoc_take, Int.le_refl, take_map_all, Nat.le_refl, St.freezeRows, BV.frozen, List.take_length, List.take_append_drop, z_repl_zero, Int.toNat_zero, true_and, and_true, and_self, eq_self, z_take_zero, List.drop_nil, List.take_nil, vAll, List.foldl_nil, List.foldl_cons, resultsOf, resultList, resultOf, zBV, splice, PV.remade, St.freezeAt, St.freezeBox, St.freezeCap, PV.single, plain, act, dstOf, if_true, if_false, reduceCtorEq, St.get, St.put, St.pvOf, St.putRow, St.consume, St.freeze, St.row, St.elems, St.grab, St.takeRow, St.setRow, St.place, St.optPv, St.setCell, St.setCellRow, binPV, intBin, unPV, BV.val, Nat.reduceEqDiff, bound, consumeAll, buildParts, capsOf, capOf, List.append_nil, Nat.reduceAdd, Nat.reduceLT, Nat.reduceLeDiff, beq_self_eq_true, List.length_map, Nat.beq, dcall, dcallP, List.mapM_cons, St.snapFn, St.snap, St.layAll, St.lay, St.freezeArg, St.freezeArg1]
  · have G1 : ((l.length : Int) ≤ 8) = False := eq_false c1
    rw [cal_code env12 rfl]; simp only [fn12]; simp only [start, z_map_cons, z_map_nil, z_len_cons, z_len_nil, z_repl_zero, z_repl_succ, z_cons_app, z_nil_app, Nat.reduceAdd, Nat.reduceSub]
    simp only [G1, List.length_map, List.isEmpty_nil, val_pvs, frozen_pvs, msnoc_len, msnoc_get, msnoc_set, msnoc_take, Int.le_refl, take_map_all, Nat.le_refl, St.freezeRows, BV.frozen, List.take_length, List.take_append_drop, z_repl_zero, Int.toNat_zero, true_and, and_true, and_self, eq_self, z_take_zero, List.drop_nil, List.take_nil, vAll, List.foldl_nil, List.foldl_cons, resultsOf, resultList, resultOf, zBV, splice, PV.remade, St.freezeAt, St.freezeBox, St.freezeCap, PV.single, plain, act, dstOf, if_true, if_false, reduceCtorEq, St.get, St.put, St.pvOf, St.putRow, St.consume, St.freeze, St.row, St.elems, St.grab, St.takeRow, St.setRow, St.place, St.optPv, St.setCell, St.setCellRow, binPV, intBin, unPV, BV.val, Nat.reduceEqDiff, bound, consumeAll, buildParts, capsOf, capOf, List.append_nil, Nat.reduceAdd, Nat.reduceLT, Nat.reduceLeDiff, beq_self_eq_true, List.length_map, Nat.beq, dcall, dcallP, List.mapM_cons, St.snapFn, St.snap, St.layAll, St.lay, St.freezeArg, St.freezeArg1]
theorem cal53 {es : List PV} (hl : es.length ≤ lim) : cal env 53 [.list 3 es] = some [(.list 3 es, true)] := (cal_ext env53).trans (if_pos ⟨rfl, hl⟩)
theorem cal54 {s : Sit} (hl : s.lin.length ≤ lim) : cal env 54 [eSit s] = some [(eSit s, false)] := by
  have G1 : (s.lin.length ≤ lim) = True := eq_true hl
  rw [cal_code env54 rfl]; simp only [fn54]; simp only [start, z_map_cons, z_map_nil, z_len_cons, z_len_nil, z_repl_zero, z_repl_succ, z_cons_app, z_nil_app, Nat.reduceAdd, Nat.reduceSub]
  simp only [G1, eSit, List.length_map, List.isEmpty_nil, val_pvs, frozen_pvs, msnoc_len, msnoc_get, msnoc_set, msnoc_take, Int.le_refl, take_map_all, Nat.le_refl, St.freezeRows, BV.frozen, List.take_length, List.take_append_drop, z_repl_zero, Int.toNat_zero, true_and, and_true, and_self, eq_self, z_take_zero, List.drop_nil, List.take_nil, vAll, List.foldl_nil, List.foldl_cons, resultsOf, resultList, resultOf, zBV, splice, PV.remade, St.freezeAt, St.freezeBox, St.freezeCap, PV.single, plain, act, dstOf, if_true, if_false, reduceCtorEq, St.get, St.put, St.pvOf, St.putRow, St.consume, St.freeze, St.row, St.elems, St.grab, St.takeRow, St.setRow, St.place, St.optPv, St.setCell, St.setCellRow, binPV, intBin, unPV, BV.val, Nat.reduceEqDiff, bound, consumeAll, buildParts, capsOf, capOf, List.append_nil, Nat.reduceAdd, Nat.reduceLT, Nat.reduceLeDiff, beq_self_eq_true, List.length_map, Nat.beq, dcall, dcallP, List.mapM_cons, St.snapFn, St.snap, St.layAll, St.lay, St.freezeArg, St.freezeArg1]
theorem loop55 {l : List Spn} (hl : l.length ≤ lim) {st : St} (h : st.head [0, 1, 5] st.boxes.length = some ⟨[.pv (.list 3 (l.map eSpn)), .pv (.list 3 (l.map eSpn)), .any, .any, .any, .pv (.int .i64 (0 : Nat)), .any, .any, .any, .any, .any, .any, .any, .any, .any, .any, .any, .any, .any, .any, .any, .any, .any, .any, .any, .any], [], [], none⟩) :
   den env fn55_l1 st = some (.normal, ⟨[.any, .any, .any, .any, .any, .any, .any, .any, .any, .any, .any, .any, .any, .any, .any, .any, .any, .any, .any, .any, .any, .any, .any, .any, .any, .any], [], [], none⟩) := by
  unfold fn55_l1
  refine clean_up (env := env) (l.length) (fun i => ⟨[.pv (.list 3 (l.map eSpn)), .pv (.list 3 (l.map eSpn)), .any, .any, .any, .pv (.int .i64 i), .any, .any, .any, .any, .any, .any, .any, .any, .any, .any, .any, .any, .any, .any, .any, .any, .any, .any, .any, .any], [], [], none⟩) (fun i => some (.normal, ⟨[.any, .any, .any, .any, .any, .any, .any, .any, .any, .any, .any, .any, .any, .any, .any, .any, .any, .any, .any, .any, .any, .any, .any, .any, .any, .any], [], [], none⟩)) h (fun _ => rfl) (fun _ => rfl) ?_ ?_
  · intro i rb hi ih

    have hi1 := i64_next hi hl
    have F1 : ((i : Int) < (l.length : Int)) = True := eq_true (by omega)
    have hx : l[i]? = some l[i] := List.getElem?_eq_getElem hi
    generalize l[i] = x at *
    obtain ⟨xe, xf, xt⟩ := x
    simp only [fn55_b0, F1, hx, eSpn, index_nat hi, List.getElem?_map, Option.map_some, List.length_map, eqCells, List.isEmpty_nil, val_pvs, frozen_pvs, msnoc_len, msnoc_get, msnoc_set, msnoc_take, Int.le_refl, take_map_all, Nat.le_refl, St.freezeRows, BV.frozen, List.take_length, List.take_append_drop, z_repl_zero, Int.toNat_zero, true_and, and_true, and_self, eq_self, z_take_zero, List.drop_nil, List.take_nil, vAll, List.foldl_nil, List.foldl_cons, resultsOf, resultList, resultOf, zBV, splice, PV.remade, St.freezeAt, St.freezeBox, St.freezeCap, PV.single, plain, act, dstOf, if_true, if_false, reduceCtorEq, St.get, St.put, St.pvOf, St.putRow, St.consume, St.freeze, St.row, St.elems, St.grab, St.takeRow, St.setRow, St.place, St.optPv, St.setCell, St.setCellRow, binPV, intBin, unPV, BV.val, Nat.reduceEqDiff, bound, consumeAll, buildParts, capsOf, capOf, List.append_nil, Nat.reduceAdd, Nat.reduceLT, Nat.reduceLeDiff, beq_self_eq_true, List.length_map, Nat.beq, dcall, dcallP, List.mapM_cons, St.snapFn, St.snap, St.layAll, St.lay, St.freezeArg, St.freezeArg1]
    rw [ih _ (by simp only [hi1]; rfl)]
  · intro rb

    simp only [fn55_b0, Int.lt_irrefl,  List.isEmpty_nil, val_pvs, frozen_pvs, msnoc_len, msnoc_get, msnoc_set, msnoc_take, Int.le_refl, take_map_all, Nat.le_refl, St.freezeRows, BV.frozen, List.take_length, List.take_append_drop, z_repl_zero, Int.toNat_zero, true_and, and_true, and_self, eq_self, z_take_zero, List.drop_nil, List.take_nil, vAll, List.foldl_nil, List.foldl_cons, resultsOf, resultList, resultOf, zBV, splice, PV.remade, St.freezeAt, St.freezeBox, St.freezeCap, PV.single, plain, act, dstOf, if_true, if_false, reduceCtorEq, St.get, St.put, St.pvOf, St.putRow, St.consume, St.freeze, St.row, St.elems, St.grab, St.takeRow, St.setRow, St.place, St.optPv, St.setCell, St.setCellRow, binPV, intBin, unPV, BV.val, Nat.reduceEqDiff, bound, consumeAll, buildParts, capsOf, capOf, List.append_nil, Nat.reduceAdd, Nat.reduceLT, Nat.reduceLeDiff, beq_self_eq_true, List.length_map, Nat.beq, dcall, dcallP, List.mapM_cons, St.snapFn, St.snap, St.layAll, St.lay, St.freezeArg, St.freezeArg1]
    rfl

theorem cal55 {l : List Spn} (hl : l.length ≤ lim) : cal env 55 [.list 3 (l.map eSpn), .list 3 (l.map eSpn)] = some [(.bool true, false)] := by
  rw [cal_code env55 rfl]; simp only [fn55]; simp only [start, z_map_cons, z_map_nil, z_len_cons, z_len_nil, z_repl_zero, z_repl_succ, z_cons_app, z_nil_app, Nat.reduceAdd, Nat.reduceSub]
  simp only [bne_self_eq_false, List.length_map, List.isEmpty_nil, val_pvs, frozen_pvs, msnoc_len, msnoc_get, msnoc_set, msnoc_take, Int.le_refl, take_map_all, Nat.le_refl, St.freezeRows, BV.frozen, List.take_length, List.take_append_drop, z_repl_zero, Int.toNat_zero, true_and, and_true, and_self, eq_self, z_take_zero, List.drop_nil, List.take_nil, vAll, List.foldl_nil, List.foldl_cons, resultsOf, resultList, resultOf, zBV, splice, PV.remade, St.freezeAt, St.freezeBox, St.freezeCap, PV.single, plain, act, dstOf, if_true, if_false, reduceCtorEq, St.get, St.put, St.pvOf, St.putRow, St.consume, St.freeze, St.row, St.elems, St.grab, St.takeRow, St.setRow, St.place, St.optPv, St.setCell, St.setCellRow, binPV, intBin, unPV, BV.val, Nat.reduceEqDiff, bound, consumeAll, buildParts, capsOf, capOf, List.append_nil, Nat.reduceAdd, Nat.reduceLT, Nat.reduceLeDiff, beq_self_eq_true, List.length_map, Nat.beq, dcall, dcallP, List.mapM_cons, St.snapFn, St.snap, St.layAll, St.lay, St.freezeArg, St.freezeArg1]
  rw [loop55 hl]
  rotate_left
  · rfl
  · simp only [List.isEmpty_nil, val_pvs, frozen_pvs, msnoc_len, msnoc_get, msnoc_set, msnoc_take, Int.le_refl, take_map_all, Nat.le_refl, St.freezeRows, BV.frozen, List.take_length, List.take_append_drop, z_repl_zero, Int.toNat_zero, true_and, and_true, and_self, eq_self, z_take_zero, List.drop_nil, List.take_nil, vAll, List.foldl_nil, List.foldl_cons, resultsOf, resultList, resultOf, zBV, splice, PV.remade, St.freezeAt, St.freezeBox, St.freezeCap, PV.single, plain, act, dstOf, if_true, if_false, reduceCtorEq, St.get, St.put, St.pvOf, St.putRow, St.consume, St.freeze, St.row, St.elems, St.grab, St.takeRow, St.setRow, St.place, St.optPv, St.setCell, St.setCellRow, binPV, intBin, unPV, BV.val, Nat.reduceEqDiff, bound, consumeAll, buildParts, capsOf, capOf, List.append_nil, Nat.reduceAdd, Nat.reduceLT, Nat.reduceLeDiff, beq_self_eq_true, List.length_map, Nat.beq, dcall, dcallP, List.mapM_cons, St.snapFn, St.snap, St.layAll, St.lay, St.freezeArg, St.freezeArg1]
end Go.Proofs.Ytpdfhckdmblicaa.V

namespace Go.Proofs.Ytpdfhckdmblicaa.V
set_option linter.all false
theorem snoc_or {α : Type} (l : List α) : l = [] ∨ ∃ p x, l = p ++ [x] := by
  rcases List.eq_nil_or_concat l with h | ⟨p, x, h⟩
  · exact .inl h
  · exact .inr ⟨p, x, by simpa using h⟩
theorem headOf_snoc (p : List Spn) (x : Spn) : headOf (p ++ [x]) = x := by simp [headOf, lastOf]
theorem headOf_nil : headOf [] = z0 := rfl
theorem cal95 {l : List Spn} (hl : l.length ≤ lim) : cal env 95 [.list 3 (l.map eSpn)] = some [(eSpn (headOf l), false)] := by
  rcases snoc_or l with rfl | ⟨p, ⟨a, b, c⟩, rfl⟩
  · have F1 : (((0 : Nat) : Int) == 0) = true := rfl
    rw [headOf_nil]
    rw [cal_code env95 rfl]; simp only [fn95]; simp only [start, z_map_cons, z_map_nil, z_len_cons, z_len_nil, z_repl_zero, z_repl_succ, z_cons_app, z_nil_app, Nat.reduceAdd, Nat.reduceSub]
    simp only [F1, List.length_nil, List.map_nil, z0, eSpn, List.isEmpty_nil, val_pvs, frozen_pvs, msnoc_len, msnoc_get, msnoc_set, msnoc_take, Int.le_refl, take_map_all, Nat.le_refl, St.freezeRows, BV.frozen, List.take_length, List.take_append_drop, z_repl_zero, Int.toNat_zero, true_and, and_true, and_self, eq_self, z_take_zero, List.drop_nil, List.take_nil, vAll, List.foldl_nil, List.foldl_cons, resultsOf, resultList, resultOf, zBV, splice, PV.remade, St.freezeAt, St.freezeBox, St.freezeCap, PV.single, plain, act, dstOf, if_true, if_false, reduceCtorEq, St.get, St.put, St.pvOf, St.putRow, St.consume, St.freeze, St.row, St.elems, St.grab, St.takeRow, St.setRow, St.place, St.optPv, St.setCell, St.setCellRow, binPV, intBin, unPV, BV.val, Nat.reduceEqDiff, bound, consumeAll, buildParts, capsOf, capOf, List.append_nil, Nat.reduceAdd, Nat.reduceLT, Nat.reduceLeDiff, beq_self_eq_true, List.length_map, Nat.beq, dcall, dcallP, List.mapM_cons, St.snapFn, St.snap, St.layAll, St.lay, St.freezeArg, St.freezeArg1]
  · have hlim : lim = 1073741824 := rfl
    rw [List.length_append, List.length_singleton] at hl
    have F1 : (((p.length + 1 : Nat) : Int) == 0) = false := by rw [beq_eq_false_iff_ne]; omega
    have F2 : IntKind.i64.wrap (((p.length + 1 : Nat) : Int) - 1) = (p.length : Int) := by rw [i64_fits (by omega)]; omega
    have F3 : index (.int .i64 (p.length : Int)) (p.length + 1) = some p.length := index_nat (by omega)
    rw [headOf_snoc, List.map_append]
    rw [cal_code env95 rfl]; simp only [fn95]; simp only [start, z_map_cons, z_map_nil, z_len_cons, z_len_nil, z_repl_zero, z_repl_succ, z_cons_app, z_nil_app, Nat.reduceAdd, Nat.reduceSub]
    simp only [F1, F2, F3, List.map_cons, List.map_nil, eSpn, List.isEmpty_nil, val_pvs, frozen_pvs, msnoc_len, msnoc_get, msnoc_set, msnoc_take, Int.le_refl, take_map_all, Nat.le_refl, St.freezeRows, BV.frozen, List.take_length, List.take_append_drop, z_repl_zero, Int.toNat_zero, true_and, and_true, and_self, eq_self, z_take_zero, List.drop_nil, List.take_nil, vAll, List.foldl_nil, List.foldl_cons, resultsOf, resultList, resultOf, zBV, splice, PV.remade, St.freezeAt, St.freezeBox, St.freezeCap, PV.single, plain, act, dstOf, if_true, if_false, reduceCtorEq, St.get, St.put, St.pvOf, St.putRow, St.consume, St.freeze, St.row, St.elems, St.grab, St.takeRow, St.setRow, St.place, St.optPv, St.setCell, St.setCellRow, binPV, intBin, unPV, BV.val, Nat.reduceEqDiff, bound, consumeAll, buildParts, capsOf, capOf, List.append_nil, Nat.reduceAdd, Nat.reduceLT, Nat.reduceLeDiff, beq_self_eq_true, List.length_map, Nat.beq, dcall, dcallP, List.mapM_cons, St.snapFn, St.snap, St.layAll, St.lay, St.freezeArg, St.freezeArg1]
def extX (l : List Spn) (e c : Int) : List Spn := if l ≠ [] ∧ e = (headOf l).epoch then l.dropLast ++ [⟨e, (headOf l).fr, c⟩] else l ++ [⟨e, (headOf l).to + 1, c⟩]
theorem cal97 {e c : Int} (h1 : inM e) (h2 : inM c) : cal env 97 [.iptr [.int .i64 e] 0, .iptr [.int .i64 c] 0] = some [(.bool true, false)] := by
  have e1 := cal98 h1.1 h1.2
  have e2 := cal98 h2.1 h2.2
  rw [cal_code env97 rfl]; simp only [fn97]; simp only [start, z_map_cons, z_map_nil, z_len_cons, z_len_nil, z_repl_zero, z_repl_succ, z_cons_app, z_nil_app, Nat.reduceAdd, Nat.reduceSub]
  simp only [e1, e2, List.isEmpty_nil, val_pvs, frozen_pvs, msnoc_len, msnoc_get, msnoc_set, msnoc_take, Int.le_refl, take_map_all, Nat.le_refl, St.freezeRows, BV.frozen, List.take_length, List.take_append_drop, z_repl_zero, Int.toNat_zero, true_and, and_true, and_self, eq_self, z_take_zero, List.drop_nil, List.take_nil, vAll, List.foldl_nil, List.foldl_cons, resultsOf, resultList, resultOf, zBV, splice, PV.remade, St.freezeAt, St.freezeBox, St.freezeCap, PV.single, plain, act, dstOf, if_true, if_false, reduceCtorEq, St.get, St.put, St.pvOf, St.putRow, St.consume, St.freeze, St.row, St.elems, St.grab, St.takeRow, St.setRow, St.place, St.optPv, St.setCell, St.setCellRow, binPV, intBin, unPV, BV.val, Nat.reduceEqDiff, bound, consumeAll, buildParts, capsOf, capOf, List.append_nil, Nat.reduceAdd, Nat.reduceLT, Nat.reduceLeDiff, beq_self_eq_true, List.length_map, Nat.beq, dcall, dcallP, List.mapM_cons, St.snapFn, St.snap, St.layAll, St.lay, St.freezeArg, St.freezeArg1]
theorem cal99 {e : Int} {x : Spn} (h : x.epoch ≤ e) : cal env 99 [.iptr [.int .i64 e] 0, pSpn x] = some [(.bool true, false)] := by
  have G1 : (e ≥ x.epoch) = True := eq_true h
  rw [cal_code env99 rfl]; simp only [fn99]; simp only [start, z_map_cons, z_map_nil, z_len_cons, z_len_nil, z_repl_zero, z_repl_succ, z_cons_app, z_nil_app, Nat.reduceAdd, Nat.reduceSub]
  simp only [G1, pSpn, List.isEmpty_nil, val_pvs, frozen_pvs, msnoc_len, msnoc_get, msnoc_set, msnoc_take, Int.le_refl, take_map_all, Nat.le_refl, St.freezeRows, BV.frozen, List.take_length, List.take_append_drop, z_repl_zero, Int.toNat_zero, true_and, and_true, and_self, eq_self, z_take_zero, List.drop_nil, List.take_nil, vAll, List.foldl_nil, List.foldl_cons, resultsOf, resultList, resultOf, zBV, splice, PV.remade, St.freezeAt, St.freezeBox, St.freezeCap, PV.single, plain, act, dstOf, if_true, if_false, reduceCtorEq, St.get, St.put, St.pvOf, St.putRow, St.consume, St.freeze, St.row, St.elems, St.grab, St.takeRow, St.setRow, St.place, St.optPv, St.setCell, St.setCellRow, binPV, intBin, unPV, BV.val, Nat.reduceEqDiff, bound, consumeAll, buildParts, capsOf, capOf, List.append_nil, Nat.reduceAdd, Nat.reduceLT, Nat.reduceLeDiff, beq_self_eq_true, List.length_map, Nat.beq, dcall, dcallP, List.mapM_cons, St.snapFn, St.snap, St.layAll, St.lay, St.freezeArg, St.freezeArg1]
theorem cal100 {c : Int} {x : Spn} (h : x.to < c) : cal env 100 [.iptr [.int .i64 c] 0, pSpn x] = some [(.bool true, false)] := by
  have G1 : (c > x.to) = True := eq_true h
  rw [cal_code env100 rfl]; simp only [fn100]; simp only [start, z_map_cons, z_map_nil, z_len_cons, z_len_nil, z_repl_zero, z_repl_succ, z_cons_app, z_nil_app, Nat.reduceAdd, Nat.reduceSub]
  simp only [G1, pSpn, List.isEmpty_nil, val_pvs, frozen_pvs, msnoc_len, msnoc_get, msnoc_set, msnoc_take, Int.le_refl, take_map_all, Nat.le_refl, St.freezeRows, BV.frozen, List.take_length, List.take_append_drop, z_repl_zero, Int.toNat_zero, true_and, and_true, and_self, eq_self, z_take_zero, List.drop_nil, List.take_nil, vAll, List.foldl_nil, List.foldl_cons, resultsOf, resultList, resultOf, zBV, splice, PV.remade, St.freezeAt, St.freezeBox, St.freezeCap, PV.single, plain, act, dstOf, if_true, if_false, reduceCtorEq, St.get, St.put, St.pvOf, St.putRow, St.consume, St.freeze, St.row, St.elems, St.grab, St.takeRow, St.setRow, St.place, St.optPv, St.setCell, St.setCellRow, binPV, intBin, unPV, BV.val, Nat.reduceEqDiff, bound, consumeAll, buildParts, capsOf, capOf, List.append_nil, Nat.reduceAdd, Nat.reduceLT, Nat.reduceLeDiff, beq_self_eq_true, List.length_map, Nat.beq, dcall, dcallP, List.mapM_cons, St.snapFn, St.snap, St.layAll, St.lay, St.freezeArg, St.freezeArg1]
theorem cal80 {l : List Spn} {e c : Int} (hl : l.length < lim) (hok : linOk l = true) (he : inM e) (hc : inM c) (h1 : (headOf l).epoch ≤ e) (h2 : (headOf l).to < c) : cal env 80 [.list 3 (l.map eSpn), .int .i64 e, .int .i64 c] = some [(.list 3 ((extX l e c).map eSpn), true), (.int .i64 0, false)] := by
  have hlim : lim = 1073741824 := rfl
  have e1 := cal81 (by omega) hok
  have e2 := cal95 (l := l) (by omega)
  have e3 := cal96 (rs := [(97, [.iptr [.int .i64 e] 0, .iptr [.int .i64 c] 0], 2), (99, [.iptr [.int .i64 e] 0, pSpn (headOf l)], 13), (100, [.iptr [.int .i64 c] 0, pSpn (headOf l)], 8)]) (by
    intro r hr
    simp only [List.mem_cons, List.not_mem_nil, or_false] at hr
    rcases hr with rfl | rfl | rfl
    · exact cal97 he hc
    · exact cal99 h1
    · exact cal100 h2) (by unfold lim; simp)
  have e4 := cal53 (es := l.map eSpn) (by simp; omega)
  have B1 : ((0 : Int) != 0) = false := rfl
  unfold extX
  rcases snoc_or l with rfl | ⟨p, ⟨a, b, d⟩, rfl⟩
  · have F1 : (((0 : Nat) : Int) > 0) = False := eq_false (by omega)
    have W1 : IntKind.i64.wrap ((0 : Int) + 1) = 1 := rfl
    have F4 : (1 ≤ lim) = True := eq_true (by omega)
    rw [if_neg (fun h => h.1 rfl)]
    simp only [headOf_nil, z0, eSpn, pSpn, eRule, List.map_cons, List.map_nil, List.nil_append] at e1 e2 e3 e4 ⊢
    rw [cal_code env80 rfl]; simp only [fn80]; simp only [start, z_map_cons, z_map_nil, z_len_cons, z_len_nil, z_repl_zero, z_repl_succ, z_cons_app, z_nil_app, Nat.reduceAdd, Nat.reduceSub]
    simp only [F1, F4, W1, B1, e1, e2, e3, e4, List.length_nil, z_nil_app, List.isEmpty_nil, val_pvs, frozen_pvs, msnoc_len, msnoc_get, msnoc_set, msnoc_take, Int.le_refl, take_map_all, Nat.le_refl, St.freezeRows, BV.frozen, List.take_length, List.take_append_drop, z_repl_zero, Int.toNat_zero, true_and, and_true, and_self, eq_self, z_take_zero, List.drop_nil, List.take_nil, vAll, List.foldl_nil, List.foldl_cons, resultsOf, resultList, resultOf, zBV, splice, PV.remade, St.freezeAt, St.freezeBox, St.freezeCap, PV.single, plain, act, dstOf, if_true, if_false, reduceCtorEq, St.get, St.put, St.pvOf, St.putRow, St.consume, St.freeze, St.row, St.elems, St.grab, St.takeRow, St.setRow, St.place, St.optPv, St.setCell, St.setCellRow, binPV, intBin, unPV, BV.val, Nat.reduceEqDiff, bound, consumeAll, buildParts, capsOf, capOf, List.append_nil, Nat.reduceAdd, Nat.reduceLT, Nat.reduceLeDiff, beq_self_eq_true, List.length_map, Nat.beq, dcall, dcallP, List.mapM_cons, St.snapFn, St.snap, St.layAll, St.lay, St.freezeArg, St.freezeArg1]
    rfl
  · rw [List.length_append, List.length_singleton] at hl
    have hne : p ++ [(⟨a, b, d⟩ : Spn)] ≠ [] := by simp
    have F1 : (((p.length + 1 : Nat) : Int) > 0) = True := eq_true (by omega)
    have F2 : IntKind.i64.wrap (((p.length + 1 : Nat) : Int) - 1) = (p.length : Int) := by rw [i64_fits (by omega)]; omega
    have F3 : index (.int .i64 (p.length : Int)) (p.length + 1) = some p.length := index_nat (by omega)
    have F4 : (p.length + 1 + 1 ≤ lim) = True := eq_true (by omega)
    simp only [headOf_snoc] at h1 h2 e2 e3 ⊢
    have hd : 0 ≤ d := by
      have q1 := (linGo_last _ z0 (by decide) hok).1
      rw [← lastOf_last] at q1
      have q2 : lastOf (p ++ [(⟨a, b, d⟩ : Spn)]) (p ++ [(⟨a, b, d⟩ : Spn)]).length = ⟨a, b, d⟩ := headOf_snoc p _
      rw [q2] at q1
      exact q1
    have W1 : IntKind.i64.wrap (d + 1) = d + 1 := i64_fits (by unfold inM at hc; omega)
    by_cases c1 : e = a
    · rw [if_pos ⟨hne, c1⟩]
      have G1 : (e == a) = true := by simpa using c1
      rw [List.dropLast_concat]
      simp only [eSpn, pSpn, eRule, List.map_append, List.map_cons, List.map_nil] at e1 e2 e3 e4 ⊢
      rw [← c1] at *
      have G2 : (e == e) = true := by simp
      rw [cal_code env80 rfl]; simp only [fn80]; simp only [start, z_map_cons, z_map_nil, z_len_cons, z_len_nil, z_repl_zero, z_repl_succ, z_cons_app, z_nil_app, Nat.reduceAdd, Nat.reduceSub]
      simp only [F1, F2, F3, G2, B1, e1, e2, e3, e4, List.length_append, List.length_map, List.length_cons, List.length_nil, List.isEmpty_nil, val_pvs, frozen_pvs, msnoc_len, msnoc_get, msnoc_set, msnoc_take, Int.le_refl, take_map_all, Nat.le_refl, St.freezeRows, BV.frozen, List.take_length, List.take_append_drop, z_repl_zero, Int.toNat_zero, true_and, and_true, and_self, eq_self, z_take_zero, List.drop_nil, List.take_nil, vAll, List.foldl_nil, List.foldl_cons, resultsOf, resultList, resultOf, zBV, splice, PV.remade, St.freezeAt, St.freezeBox, St.freezeCap, PV.single, plain, act, dstOf, if_true, if_false, reduceCtorEq, St.get, St.put, St.pvOf, St.putRow, St.consume, St.freeze, St.row, St.elems, St.grab, St.takeRow, St.setRow, St.place, St.optPv, St.setCell, St.setCellRow, binPV, intBin, unPV, BV.val, Nat.reduceEqDiff, bound, consumeAll, buildParts, capsOf, capOf, List.append_nil, Nat.reduceAdd, Nat.reduceLT, Nat.reduceLeDiff, beq_self_eq_true, List.length_map, Nat.beq, dcall, dcallP, List.mapM_cons, St.snapFn, St.snap, St.layAll, St.lay, St.freezeArg, St.freezeArg1]
    · rw [if_neg (fun h => c1 h.2)]
      have G1 : (e == a) = false := by simpa using c1
      simp only [eSpn, pSpn, eRule, List.map_append, List.map_cons, List.map_nil] at e1 e2 e3 e4 ⊢
      rw [cal_code env80 rfl]; simp only [fn80]; simp only [start, z_map_cons, z_map_nil, z_len_cons, z_len_nil, z_repl_zero, z_repl_succ, z_cons_app, z_nil_app, Nat.reduceAdd, Nat.reduceSub]
      simp only [F1, F4, W1, G1, B1, e1, e2, e3, e4, List.length_append, List.length_map, List.length_cons, List.length_nil, List.isEmpty_nil, val_pvs, frozen_pvs, msnoc_len, msnoc_get, msnoc_set, msnoc_take, Int.le_refl, take_map_all, Nat.le_refl, St.freezeRows, BV.frozen, List.take_length, List.take_append_drop, z_repl_zero, Int.toNat_zero, true_and, and_true, and_self, eq_self, z_take_zero, List.drop_nil, List.take_nil, vAll, List.foldl_nil, List.foldl_cons, resultsOf, resultList, resultOf, zBV, splice, PV.remade, St.freezeAt, St.freezeBox, St.freezeCap, PV.single, plain, act, dstOf, if_true, if_false, reduceCtorEq, St.get, St.put, St.pvOf, St.putRow, St.consume, St.freeze, St.row, St.elems, St.grab, St.takeRow, St.setRow, St.place, St.optPv, St.setCell, St.setCellRow, binPV, intBin, unPV, BV.val, Nat.reduceEqDiff, bound, consumeAll, buildParts, capsOf, capOf, List.append_nil, Nat.reduceAdd, Nat.reduceLT, Nat.reduceLeDiff, beq_self_eq_true, List.length_map, Nat.beq, dcall, dcallP, List.mapM_cons, St.snapFn, St.snap, St.layAll, St.lay, St.freezeArg, St.freezeArg1]
end Go.Proofs.Ytpdfhckdmblicaa.V

namespace Go.Proofs.Ytpdfhckdmblicaa.V
set_option linter.all false
def cutS (c : Int) (x : Spn) : Spn := ⟨x.epoch, x.fr, if c < x.to then c else x.to⟩
def truncX (c : Int) : List Spn → List Spn
  | [] => []
  | x :: l => if x.fr ≤ c then cutS c x :: truncX c l else truncX c l
def truF (c : Int) (acc : List PV) : List PV → List PV
  | [_, .agg [.int _ e, .int _ f, .int _ t]] => if f ≤ c then acc ++ [.agg [.int .i64 e, .int .i64 f, .int .i64 (if c < t then c else t)]] else acc
  | _ => acc
theorem truF_fold (c : Int) : ∀ (l : List Spn) (p : Spn) (acc : List PV), (begI p l).foldl (truF c) acc = acc ++ (truncX c l).map eSpn
  | [], p, acc => by simp [begI, truncX]
  | x :: l, p, acc => by
    unfold begI truncX
    rw [List.foldl_cons, truF_fold c l x]
    obtain ⟨a, b, d⟩ := x
    simp only [eSpn, truF]
    split
    · simp [cutS, eSpn]
    · rfl
theorem begI_len : ∀ (l : List Spn) (p : Spn), (begI p l).length = l.length
  | [], p => rfl
  | x :: l, p => by simp [begI, begI_len l x]
theorem cal38 {l : List Spn} {c : Int} (hl : l.length ≤ lim) (hok : linOk l = true) : cal env 38 [.list 3 (l.map eSpn), .int .i64 c] = some [(.list 3 ((truncX c l).map eSpn), true)] := by
  have e1 := cal82 (l := l)
  have e2 := cal81 hl hok
  have B1 : ((0 : Int) != 0) = false := rfl
  rw [cal_code env38 rfl]; simp only [fn38]; simp only [start, z_map_cons, z_map_nil, z_len_cons, z_len_nil, z_repl_zero, z_repl_succ, z_cons_app, z_nil_app, Nat.reduceAdd, Nat.reduceSub]
  simp only [e1, e2, B1, List.isEmpty_nil, val_pvs, frozen_pvs, msnoc_len, msnoc_get, msnoc_set, msnoc_take, Int.le_refl, take_map_all, Nat.le_refl, St.freezeRows, BV.frozen, List.take_length, List.take_append_drop, z_repl_zero, Int.toNat_zero, true_and, and_true, and_self, eq_self, z_take_zero, List.drop_nil, List.take_nil, vAll, List.foldl_nil, List.foldl_cons, resultsOf, resultList, resultOf, zBV, splice, PV.remade, St.freezeAt, St.freezeBox, St.freezeCap, PV.single, plain, act, dstOf, if_true, if_false, reduceCtorEq, St.get, St.put, St.pvOf, St.putRow, St.consume, St.freeze, St.row, St.elems, St.grab, St.takeRow, St.setRow, St.place, St.optPv, St.setCell, St.setCellRow, binPV, intBin, unPV, BV.val, Nat.reduceEqDiff, bound, consumeAll, buildParts, capsOf, capOf, List.append_nil, Nat.reduceAdd, Nat.reduceLT, Nat.reduceLeDiff, beq_self_eq_true, List.length_map, Nat.beq, dcall, dcallP, List.mapM_cons, St.snapFn, St.snap, St.layAll, St.lay, St.freezeArg, St.freezeArg1]
  rw [rng_foldP (fun acc => [⟨false, [.pv (.int .i64 c)]⟩, ⟨false, [.row 3 acc]⟩]) (truF c) (fun j acc => acc.length ≤ j) [] rfl (iter105 hl) rfl (Nat.zero_le _) ?_]
  · simp only [truF_fold, List.nil_append, vRng, List.isEmpty_nil, val_pvs, frozen_pvs, msnoc_len, msnoc_get, msnoc_set, msnoc_take, Int.le_refl, take_map_all, Nat.le_refl, St.freezeRows, BV.frozen, List.take_length, List.take_append_drop, z_repl_zero, Int.toNat_zero, true_and, and_true, and_self, eq_self, z_take_zero, List.drop_nil, List.take_nil, vAll, List.foldl_nil, List.foldl_cons, resultsOf, resultList, resultOf, zBV, splice, PV.remade, St.freezeAt, St.freezeBox, St.freezeCap, PV.single, plain, act, dstOf, if_true, if_false, reduceCtorEq, St.get, St.put, St.pvOf, St.putRow, St.consume, St.freeze, St.row, St.elems, St.grab, St.takeRow, St.setRow, St.place, St.optPv, St.setCell, St.setCellRow, binPV, intBin, unPV, BV.val, Nat.reduceEqDiff, bound, consumeAll, buildParts, capsOf, capOf, List.append_nil, Nat.reduceAdd, Nat.reduceLT, Nat.reduceLeDiff, beq_self_eq_true, List.length_map, Nat.beq, dcall, dcallP, List.mapM_cons, St.snapFn, St.snap, St.layAll, St.lay, St.freezeArg, St.freezeArg1]
  · intro j acc x hj hx sl0
    have hjl := (List.getElem?_eq_some_iff.1 hx).1
    rw [begI_len] at hjl
    obtain ⟨p, y, rfl, _, _⟩ := begI_get l z0 j x (by unfold fineS z0; simp) hok hx
    have F1 : (acc.length + 1 ≤ lim) = True := eq_true (by omega)
    obtain ⟨a, b, d⟩ := y
    by_cases h : b ≤ c
    · have G1 : (b ≤ c) = True := eq_true h
      have e4 : truF c acc [eSpn p, eSpn ⟨a, b, d⟩] = acc ++ [.agg [.int .i64 a, .int .i64 b, .int .i64 (if c < d then c else d)]] := by simp only [truF, eSpn, h, if_true]
      rw [e4]
      refine ⟨by simp; omega, ?_⟩
      refine ⟨?_, ?_⟩
      rotate_left
      · simp only [fn38_b0, fn38_b1, eSpn, F1, G1, vRng, List.isEmpty_nil, val_pvs, frozen_pvs, msnoc_len, msnoc_get, msnoc_set, msnoc_take, Int.le_refl, take_map_all, Nat.le_refl, St.freezeRows, BV.frozen, List.take_length, List.take_append_drop, z_repl_zero, Int.toNat_zero, true_and, and_true, and_self, eq_self, z_take_zero, List.drop_nil, List.take_nil, vAll, List.foldl_nil, List.foldl_cons, resultsOf, resultList, resultOf, zBV, splice, PV.remade, St.freezeAt, St.freezeBox, St.freezeCap, PV.single, plain, act, dstOf, if_true, if_false, reduceCtorEq, St.get, St.put, St.pvOf, St.putRow, St.consume, St.freeze, St.row, St.elems, St.grab, St.takeRow, St.setRow, St.place, St.optPv, St.setCell, St.setCellRow, binPV, intBin, unPV, BV.val, Nat.reduceEqDiff, bound, consumeAll, buildParts, capsOf, capOf, List.append_nil, Nat.reduceAdd, Nat.reduceLT, Nat.reduceLeDiff, beq_self_eq_true, List.length_map, Nat.beq, dcall, dcallP, List.mapM_cons, St.snapFn, St.snap, St.layAll, St.lay, St.freezeArg, St.freezeArg1]
        rfl
    · have G1 : (b ≤ c) = False := eq_false h
      have e4 : truF c acc [eSpn p, eSpn ⟨a, b, d⟩] = acc := by simp only [truF, eSpn, h, if_false]
      rw [e4]
      refine ⟨by omega, ?_⟩
      refine ⟨?_, ?_⟩
      rotate_left
      · simp only [fn38_b0, fn38_b1, eSpn, F1, G1, vRng, List.isEmpty_nil, val_pvs, frozen_pvs, msnoc_len, msnoc_get, msnoc_set, msnoc_take, Int.le_refl, take_map_all, Nat.le_refl, St.freezeRows, BV.frozen, List.take_length, List.take_append_drop, z_repl_zero, Int.toNat_zero, true_and, and_true, and_self, eq_self, z_take_zero, List.drop_nil, List.take_nil, vAll, List.foldl_nil, List.foldl_cons, resultsOf, resultList, resultOf, zBV, splice, PV.remade, St.freezeAt, St.freezeBox, St.freezeCap, PV.single, plain, act, dstOf, if_true, if_false, reduceCtorEq, St.get, St.put, St.pvOf, St.putRow, St.consume, St.freeze, St.row, St.elems, St.grab, St.takeRow, St.setRow, St.place, St.optPv, St.setCell, St.setCellRow, binPV, intBin, unPV, BV.val, Nat.reduceEqDiff, bound, consumeAll, buildParts, capsOf, capOf, List.append_nil, Nat.reduceAdd, Nat.reduceLT, Nat.reduceLeDiff, beq_self_eq_true, List.length_map, Nat.beq, dcall, dcallP, List.mapM_cons, St.snapFn, St.snap, St.layAll, St.lay, St.freezeArg, St.freezeArg1]
        rfl
def growGo : List Nat → List Spn → Int → Int → List Spn × Int
  | [], l, _, c => (l, c)
  | s :: r, l, e, c => growGo r (extX l (if s % 3 = 0 then e + 2 else e) (c + ((s % 4 : Nat) + 1))) (if s % 3 = 0 then e + 2 else e) (c + ((s % 4 : Nat) + 1))
def growX (l : List Spn) (steps : List Nat) (odd : Int) : List Spn × Int := growGo steps l ((headOf l).epoch + (2 - (headOf l).epoch.tmod 2 + odd)) (headOf l).to
def eU8n (s : Nat) : PV := .int .u8 (s : Int)
def GrowOk (n i : Nat) (l : List Spn) (e c : Int) : Prop := linOk l = true ∧ l.length ≤ n + i ∧ (headOf l).to = c ∧ (headOf l).epoch ≤ e ∧ 0 ≤ c ∧ c ≤ 4 * (n : Int) + 4 * i ∧ 1 ≤ e ∧ e ≤ 3 + 40 * (n : Int) + 2 * i
theorem linGo_snoc : ∀ (l : List Spn) (p x : Spn), linGo p (l ++ [x]) = (linGo p l && okNext ((p :: l).getLast (by simp)) x)
  | [], p, x => by simp [linGo]
  | y :: l, p, x => by
    rw [List.cons_append]
    unfold linGo
    rw [linGo_snoc l y x, Bool.and_assoc, List.getLast_cons_cons]
theorem linOk_snoc (l : List Spn) (x : Spn) : linOk (l ++ [x]) = (linOk l && okNext (headOf l) x) := by
  unfold linOk headOf
  rw [linGo_snoc, lastOf_last]
theorem extX_ok {l : List Spn} {e c : Int} (hok : linOk l = true) (he : e ≤ 1073741824) (hc : c ≤ 1073741824) (h1 : (headOf l).epoch ≤ e) (h2 : (headOf l).to < c) (h3 : l = [] → 0 < e) : linOk (extX l e c) = true ∧ headOf (extX l e c) = ⟨e, (headOf (extX l e c)).fr, c⟩ ∧ (extX l e c).length ≤ l.length + 1 := by
  unfold extX
  rcases snoc_or l with rfl | ⟨p, x, rfl⟩
  · rw [if_neg (fun h => h.1 rfl)]
    rw [headOf_snoc, linOk_snoc, hok, headOf_nil]
    refine ⟨?_, rfl, by simp⟩
    have h4 : 0 < e := h3 rfl
    have h5 : 0 < c := h2
    show okNext ⟨0, 0, 0⟩ ⟨e, 0 + 1, c⟩ = true
    have q1 : (1 : Int) ≤ c := h5
    simp [okNext, he, hc, h4, q1]
  · rw [headOf_snoc] at h1 h2 ⊢
    rw [linOk_snoc, Bool.and_eq_true] at hok
    have ho := hok.2
    simp only [okNext, Bool.and_eq_true, decide_eq_true_eq] at ho
    by_cases c1 : e = x.epoch
    · rw [if_pos ⟨by simp, c1⟩, List.dropLast_concat, headOf_snoc, linOk_snoc, hok.1]
      refine ⟨?_, rfl, by simp⟩
      simp only [okNext, Bool.and_eq_true, decide_eq_true_eq, true_and]
      omega
    · rw [if_neg (fun h => c1 h.2), headOf_snoc, linOk_snoc, linOk_snoc, hok.1, hok.2, headOf_snoc]
      refine ⟨?_, rfl, by simp⟩
      simp only [okNext, Bool.and_eq_true, decide_eq_true_eq, true_and]
      omega
theorem grow_step {n i s : Nat} {l : List Spn} {e c : Int} (hn : n ≤ 24) (hi : i < 24) (h : GrowOk n i l e c) : GrowOk n (i + 1) (extX l (if s % 3 = 0 then e + 2 else e) (c + ((s % 4 : Nat) + 1))) (if s % 3 = 0 then e + 2 else e) (c + ((s % 4 : Nat) + 1)) := by
  obtain ⟨h1, h2, h3, h4, h5, h6, h7, h8⟩ := h
  have h9 : e ≤ (if s % 3 = 0 then e + 2 else e) ∧ (if s % 3 = 0 then e + 2 else e) ≤ e + 2 := by split <;> omega
  generalize (if s % 3 = 0 then e + 2 else e) = e' at *
  obtain ⟨k1, k2, k3⟩ := extX_ok (l := l) (e := e') (c := c + ((s % 4 : Nat) + 1)) h1 (by omega) (by omega) (by omega) (by omega) (fun _ => by omega)
  unfold GrowOk
  rw [k2]
  exact ⟨k1, by omega, rfl, by simp, by omega, by omega, by omega, by omega⟩
def growT (r : List Nat) (l : List Spn) (e c : Int) : Option (Ex × St) := some (.normal, ⟨[.ref (.slot 14) 0 (growGo r l e c).1.length, .any, .any, .any, .any, .any, .any, .any, .any, .pv (.int .i64 (growGo r l e c).2), .any, .any, .any, .any, .row 3 ((growGo r l e c).1.map eSpn), .any, .any, .any, .any, .any, .any, .any, .any, .any, .any, .any, .any, .any, .any, .any, .any, .any, .any, .any, .any, .any, .any, .any, .any, .any, .any, .any, .any, .any, .any, .any, .any, .any, .any, .any, .any, .any, .any, .any, .any, .any, .any, .any, .any, .any, .any, .any, .any, .any, .any, .ref (.slot 14) 0 (growGo r l e c).1.length, .any, .any, .any], [], [], none⟩)
def growR : Bool → List Nat → List Spn → Int → Int → Option (Ex × St)
  | false, [], l, _, c => some (.normal, ⟨[.pv (.list 3 (l.map eSpn)), .any, .any, .any, .any, .any, .any, .any, .any, .pv (.int .i64 c), .any, .any, .any, .any, .any, .any, .any, .any, .any, .any, .any, .any, .any, .any, .any, .any, .any, .any, .any, .any, .any, .any, .any, .any, .any, .any, .any, .any, .any, .any, .any, .any, .any, .any, .any, .any, .any, .any, .any, .any, .any, .any, .any, .any, .any, .any, .any, .any, .any, .any, .any, .any, .any, .any, .any, .any, .any, .any, .any], [], [], none⟩)
  | false, s :: r, l, e, c => growT (s :: r) l e c
  | true, r, l, e, c => growT r l e c
theorem growR_cons (q : Bool) (s : Nat) (r : List Nat) (l : List Spn) (e c : Int) : growR q (s :: r) l e c = growR true r (extX l (if s % 3 = 0 then e + 2 else e) (c + ((s % 4 : Nat) + 1))) (if s % 3 = 0 then e + 2 else e) (c + ((s % 4 : Nat) + 1)) := by cases q <;> rfl
set_option maxRecDepth 10000 in
theorem loop37 {steps : List Nat} {n : Nat} (hn : n ≤ 12) (hu : ∀ s ∈ steps, s < 256) (hl : steps.length ≤ 12) {l : List Spn} {e c : Int} (hok : GrowOk n 0 l e c)
   {st : St} (h : st.head [0, 1, 9, 10, 14, 39, 40, 41, 61, 65] st.boxes.length = some ⟨[.pv (.list 3 (l.map eSpn)), .pv (.list 1 (steps.map eU8n)), .any, .any, .any, .any, .any, .any, .any, .pv (.int .i64 c), .pv (.int .i64 e), .any, .any, .any, .any, .any, .any, .any, .any, .any, .any, .any, .any, .any, .any, .any, .any, .any, .any, .any, .any, .any, .any, .any, .any, .any, .any, .any, .any, .pv (.list 1 (steps.map eU8n)), .pv (.int .i64 steps.length), .pv (.int .i64 (0 : Nat)), .any, .any, .any, .any, .any, .any, .any, .any, .any, .any, .any, .any, .any, .any, .any, .any, .any, .any, .any, .any, .any, .any, .any, .any, .any, .any, .any], [], [], none⟩) :
   den env fn37_l1 st = growR false steps l e c := by
  unfold fn37_l1
  have := clean_list (l := steps) (fun i (q : Bool × List Spn × Int × Int) => match q.1 with
      | false => ⟨[.pv (.list 3 (q.2.1.map eSpn)), .pv (.list 1 (steps.map eU8n)), .any, .any, .any, .any, .any, .any, .any, .pv (.int .i64 q.2.2.2), .pv (.int .i64 q.2.2.1), .any, .any, .any, .any, .any, .any, .any, .any, .any, .any, .any, .any, .any, .any, .any, .any, .any, .any, .any, .any, .any, .any, .any, .any, .any, .any, .any, .any, .pv (.list 1 (steps.map eU8n)), .pv (.int .i64 steps.length), .pv (.int .i64 i), .any, .any, .any, .any, .any, .any, .any, .any, .any, .any, .any, .any, .any, .any, .any, .any, .any, .any, .any, .any, .any, .any, .any, .any, .any, .any, .any], [], [], none⟩
      | true => ⟨[.ref (.slot 14) 0 q.2.1.length, .pv (.list 1 (steps.map eU8n)), .any, .any, .any, .any, .any, .any, .any, .pv (.int .i64 q.2.2.2), .pv (.int .i64 q.2.2.1), .any, .any, .any, .row 3 (q.2.1.map eSpn), .any, .any, .any, .any, .any, .any, .any, .any, .any, .any, .any, .any, .any, .any, .any, .any, .any, .any, .any, .any, .any, .any, .any, .any, .pv (.list 1 (steps.map eU8n)), .pv (.int .i64 steps.length), .pv (.int .i64 i), .any, .any, .any, .any, .any, .any, .any, .any, .any, .any, .any, .any, .any, .any, .any, .any, .any, .any, .any, .any, .any, .any, .any, .ref (.slot 14) 0 q.2.1.length, .any, .any, .any], [], [], none⟩)
    (fun i r q => growR q.1 r q.2.1 q.2.2.1 q.2.2.2)
    (fun i q => GrowOk n i q.2.1 q.2.2.1 q.2.2.2) (false, l, e, c) h (by unfold lim; omega) hok (nb := 0) (id := 0) (post := [0, 6, 7, 8, 9, 14, 61, 65]) (b := fn37_b0) (by rintro i ⟨q, _⟩; cases q <;> rfl) (by rintro i ⟨q, _⟩; cases q <;> rfl) ?_ ?_
  · exact this
  · rintro i s r ⟨q, l, e, c⟩ rb hi hx hr F1 F2 hp ih
    simp only at hp ih ⊢
    have hs := hu s (List.mem_of_getElem? hx)
    have hg := grow_step (s := s) (by omega) (by omega) hp
    obtain ⟨h1, h2, h3, h4, h5, h6, h7, h8⟩ := hp
    have N3 : ((3 : Int) = 0) = False := eq_false (by omega)
    have N4 : ((4 : Int) = 0) = False := eq_false (by omega)
    have M3 : ((s : Int).tmod 3 == 0) = decide (s % 3 = 0) := by
      by_cases h : s % 3 = 0
      · rw [decide_eq_true h, beq_iff_eq, Int.tmod_eq_emod_of_nonneg (by omega)]; omega
      · rw [decide_eq_false h, beq_eq_false_iff_ne, Int.tmod_eq_emod_of_nonneg (by omega)]; omega
    have W0 : IntKind.i64.wrap (s : Int) = (s : Int) := i64_fits (by omega)
    have M4 : (s : Int).tmod 4 = ((s % 4 : Nat) : Int) := by rw [Int.tmod_eq_emod_of_nonneg (by omega)]; omega
    have W1 : IntKind.i64.wrap (((s % 4 : Nat) : Int) + 1) = ((s % 4 : Nat) : Int) + 1 := i64_fits (by omega)
    have W2 : IntKind.i64.wrap (c + (((s % 4 : Nat) : Int) + 1)) = c + (((s % 4 : Nat) : Int) + 1) := i64_fits (by omega)
    have W3 : IntKind.i64.wrap (e + 2) = e + 2 := i64_fits (by omega)
    have B1 : ((0 : Int) != 0) = false := rfl
    have key : ∀ e', (if s % 3 = 0 then e + 2 else e) = e' → cal env 80 [.list 3 (l.map eSpn), .int .i64 e', .int .i64 (c + (((s % 4 : Nat) : Int) + 1))] = some [(.list 3 ((extX l e' (c + (((s % 4 : Nat) : Int) + 1))).map eSpn), true), (.int .i64 0, false)] := by
      intro e' he
      have h9 : e ≤ e' ∧ e' ≤ e + 2 := by rw [← he]; split <;> omega
      exact cal80 (by unfold lim; omega) h1 (by unfold inM; omega) (by unfold inM; omega) (by omega) (by omega)
    rw [growR_cons]
    by_cases c3 : s % 3 = 0
    · have e1 := key (e + 2) (if_pos c3)
      rw [if_pos c3] at hg ⊢
      rw [decide_eq_true c3] at M3
      generalize extX l (e + 2) (c + (((s % 4 : Nat) : Int) + 1)) = l' at *
      cases q with
      | false =>
        simp only [fn37_b0, F1, F2, hx, N3, N4, M3, W0, M4, W1, W2, W3, B1, e1, eU8n, index_nat hi, List.getElem?_map, Option.map_some, List.isEmpty_nil, val_pvs, frozen_pvs, msnoc_len, msnoc_get, msnoc_set, msnoc_take, Int.le_refl, take_map_all, Nat.le_refl, St.freezeRows, BV.frozen, List.take_length, List.take_append_drop, z_repl_zero, Int.toNat_zero, true_and, and_true, and_self, eq_self, z_take_zero, List.drop_nil, List.take_nil, vAll, List.foldl_nil, List.foldl_cons, resultsOf, resultList, resultOf, zBV, splice, PV.remade, St.freezeAt, St.freezeBox, St.freezeCap, PV.single, plain, act, dstOf, if_true, if_false, reduceCtorEq, St.get, St.put, St.pvOf, St.putRow, St.consume, St.freeze, St.row, St.elems, St.grab, St.takeRow, St.setRow, St.place, St.optPv, St.setCell, St.setCellRow, binPV, intBin, unPV, BV.val, Nat.reduceEqDiff, bound, consumeAll, buildParts, capsOf, capOf, List.append_nil, Nat.reduceAdd, Nat.reduceLT, Nat.reduceLeDiff, beq_self_eq_true, List.length_map, Nat.beq, dcall, dcallP, List.mapM_cons, St.snapFn, St.snap, St.layAll, St.lay, St.freezeArg, St.freezeArg1]
        exact ih (true, l', e + 2, c + (((s % 4 : Nat) : Int) + 1)) _ hg rfl
      | true =>
        simp only [fn37_b0, F1, F2, hx, N3, N4, M3, W0, M4, W1, W2, W3, B1, e1, eU8n, index_nat hi, List.getElem?_map, Option.map_some, List.isEmpty_nil, val_pvs, frozen_pvs, msnoc_len, msnoc_get, msnoc_set, msnoc_take, Int.le_refl, take_map_all, Nat.le_refl, St.freezeRows, BV.frozen, List.take_length, List.take_append_drop, z_repl_zero, Int.toNat_zero, true_and, and_true, and_self, eq_self, z_take_zero, List.drop_nil, List.take_nil, vAll, List.foldl_nil, List.foldl_cons, resultsOf, resultList, resultOf, zBV, splice, PV.remade, St.freezeAt, St.freezeBox, St.freezeCap, PV.single, plain, act, dstOf, if_true, if_false, reduceCtorEq, St.get, St.put, St.pvOf, St.putRow, St.consume, St.freeze, St.row, St.elems, St.grab, St.takeRow, St.setRow, St.place, St.optPv, St.setCell, St.setCellRow, binPV, intBin, unPV, BV.val, Nat.reduceEqDiff, bound, consumeAll, buildParts, capsOf, capOf, List.append_nil, Nat.reduceAdd, Nat.reduceLT, Nat.reduceLeDiff, beq_self_eq_true, List.length_map, Nat.beq, dcall, dcallP, List.mapM_cons, St.snapFn, St.snap, St.layAll, St.lay, St.freezeArg, St.freezeArg1]
        exact ih (true, l', e + 2, c + (((s % 4 : Nat) : Int) + 1)) _ hg rfl
    · have e1 := key e (if_neg c3)
      rw [if_neg c3] at hg ⊢
      rw [decide_eq_false c3] at M3
      generalize extX l e (c + (((s % 4 : Nat) : Int) + 1)) = l' at *
      cases q with
      | false =>
        simp only [fn37_b0, F1, F2, hx, N3, N4, M3, W0, M4, W1, W2, W3, B1, e1, eU8n, index_nat hi, List.getElem?_map, Option.map_some, List.isEmpty_nil, val_pvs, frozen_pvs, msnoc_len, msnoc_get, msnoc_set, msnoc_take, Int.le_refl, take_map_all, Nat.le_refl, St.freezeRows, BV.frozen, List.take_length, List.take_append_drop, z_repl_zero, Int.toNat_zero, true_and, and_true, and_self, eq_self, z_take_zero, List.drop_nil, List.take_nil, vAll, List.foldl_nil, List.foldl_cons, resultsOf, resultList, resultOf, zBV, splice, PV.remade, St.freezeAt, St.freezeBox, St.freezeCap, PV.single, plain, act, dstOf, if_true, if_false, reduceCtorEq, St.get, St.put, St.pvOf, St.putRow, St.consume, St.freeze, St.row, St.elems, St.grab, St.takeRow, St.setRow, St.place, St.optPv, St.setCell, St.setCellRow, binPV, intBin, unPV, BV.val, Nat.reduceEqDiff, bound, consumeAll, buildParts, capsOf, capOf, List.append_nil, Nat.reduceAdd, Nat.reduceLT, Nat.reduceLeDiff, beq_self_eq_true, List.length_map, Nat.beq, dcall, dcallP, List.mapM_cons, St.snapFn, St.snap, St.layAll, St.lay, St.freezeArg, St.freezeArg1]
        exact ih (true, l', e, c + (((s % 4 : Nat) : Int) + 1)) _ hg rfl
      | true =>
        simp only [fn37_b0, F1, F2, hx, N3, N4, M3, W0, M4, W1, W2, W3, B1, e1, eU8n, index_nat hi, List.getElem?_map, Option.map_some, List.isEmpty_nil, val_pvs, frozen_pvs, msnoc_len, msnoc_get, msnoc_set, msnoc_take, Int.le_refl, take_map_all, Nat.le_refl, St.freezeRows, BV.frozen, List.take_length, List.take_append_drop, z_repl_zero, Int.toNat_zero, true_and, and_true, and_self, eq_self, z_take_zero, List.drop_nil, List.take_nil, vAll, List.foldl_nil, List.foldl_cons, resultsOf, resultList, resultOf, zBV, splice, PV.remade, St.freezeAt, St.freezeBox, St.freezeCap, PV.single, plain, act, dstOf, if_true, if_false, reduceCtorEq, St.get, St.put, St.pvOf, St.putRow, St.consume, St.freeze, St.row, St.elems, St.grab, St.takeRow, St.setRow, St.place, St.optPv, St.setCell, St.setCellRow, binPV, intBin, unPV, BV.val, Nat.reduceEqDiff, bound, consumeAll, buildParts, capsOf, capOf, List.append_nil, Nat.reduceAdd, Nat.reduceLT, Nat.reduceLeDiff, beq_self_eq_true, List.length_map, Nat.beq, dcall, dcallP, List.mapM_cons, St.snapFn, St.snap, St.layAll, St.lay, St.freezeArg, St.freezeArg1]
        exact ih (true, l', e, c + (((s % 4 : Nat) : Int) + 1)) _ hg rfl
  · rintro ⟨q, l, e, c⟩ rb hp
    cases q with
    | false =>
      simp only [fn37_b0, Int.lt_irrefl, List.isEmpty_nil, val_pvs, frozen_pvs, msnoc_len, msnoc_get, msnoc_set, msnoc_take, Int.le_refl, take_map_all, Nat.le_refl, St.freezeRows, BV.frozen, List.take_length, List.take_append_drop, z_repl_zero, Int.toNat_zero, true_and, and_true, and_self, eq_self, z_take_zero, List.drop_nil, List.take_nil, vAll, List.foldl_nil, List.foldl_cons, resultsOf, resultList, resultOf, zBV, splice, PV.remade, St.freezeAt, St.freezeBox, St.freezeCap, PV.single, plain, act, dstOf, if_true, if_false, reduceCtorEq, St.get, St.put, St.pvOf, St.putRow, St.consume, St.freeze, St.row, St.elems, St.grab, St.takeRow, St.setRow, St.place, St.optPv, St.setCell, St.setCellRow, binPV, intBin, unPV, BV.val, Nat.reduceEqDiff, bound, consumeAll, buildParts, capsOf, capOf, List.append_nil, Nat.reduceAdd, Nat.reduceLT, Nat.reduceLeDiff, beq_self_eq_true, List.length_map, Nat.beq, dcall, dcallP, List.mapM_cons, St.snapFn, St.snap, St.layAll, St.lay, St.freezeArg, St.freezeArg1]
      rfl
    | true =>
      simp only [fn37_b0, Int.lt_irrefl, List.isEmpty_nil, val_pvs, frozen_pvs, msnoc_len, msnoc_get, msnoc_set, msnoc_take, Int.le_refl, take_map_all, Nat.le_refl, St.freezeRows, BV.frozen, List.take_length, List.take_append_drop, z_repl_zero, Int.toNat_zero, true_and, and_true, and_self, eq_self, z_take_zero, List.drop_nil, List.take_nil, vAll, List.foldl_nil, List.foldl_cons, resultsOf, resultList, resultOf, zBV, splice, PV.remade, St.freezeAt, St.freezeBox, St.freezeCap, PV.single, plain, act, dstOf, if_true, if_false, reduceCtorEq, St.get, St.put, St.pvOf, St.putRow, St.consume, St.freeze, St.row, St.elems, St.grab, St.takeRow, St.setRow, St.place, St.optPv, St.setCell, St.setCellRow, binPV, intBin, unPV, BV.val, Nat.reduceEqDiff, bound, consumeAll, buildParts, capsOf, capOf, List.append_nil, Nat.reduceAdd, Nat.reduceLT, Nat.reduceLeDiff, beq_self_eq_true, List.length_map, Nat.beq, dcall, dcallP, List.mapM_cons, St.snapFn, St.snap, St.layAll, St.lay, St.freezeArg, St.freezeArg1]
      rfl
end Go.Proofs.Ytpdfhckdmblicaa.V

namespace Go.Proofs.Ytpdfhckdmblicaa.V
set_option linter.all false
set_option maxRecDepth 10000 in
theorem cal37 {steps : List Nat} {n : Nat} (hn : n ≤ 12) (hu : ∀ s ∈ steps, s < 256) (hl : steps.length ≤ 12) {l : List Spn} {odd : Int} (ho : 0 ≤ odd ∧ odd ≤ 1) (hok : linOk l = true) (h1 : l.length ≤ n) (h2 : 0 ≤ (headOf l).to ∧ (headOf l).to ≤ 4 * (n : Int)) (h3 : 0 ≤ (headOf l).epoch ∧ (headOf l).epoch ≤ 40 * (n : Int)) :
    cal env 37 [.list 3 (l.map eSpn), .list 1 (steps.map eU8n), .int .i64 odd] = some [(.list 3 ((growX l steps odd).1.map eSpn), !steps.isEmpty), (.int .i64 (growX l steps odd).2, false), (.bool true, false)] := by
  have hlim : lim = 1073741824 := rfl
  have ht : (headOf l).epoch.tmod 2 = (headOf l).epoch % 2 := Int.tmod_eq_emod_of_nonneg h3.1
  have hg : GrowOk n 0 l ((headOf l).epoch + (2 - (headOf l).epoch.tmod 2 + odd)) (headOf l).to := by
    rw [ht]
    exact ⟨hok, by omega, rfl, by omega, h2.1, by omega, by omega, by omega⟩
  have hloop := fun st => loop37 hn hu hl hg (st := st)
  have W1 : IntKind.i64.wrap (2 - (headOf l).epoch.tmod 2) = 2 - (headOf l).epoch.tmod 2 := i64_fits (by rw [ht]; omega)
  have W2 : IntKind.i64.wrap (2 - (headOf l).epoch.tmod 2 + odd) = 2 - (headOf l).epoch.tmod 2 + odd := i64_fits (by rw [ht]; omega)
  have W3 : IntKind.i64.wrap ((headOf l).epoch + (2 - (headOf l).epoch.tmod 2 + odd)) = (headOf l).epoch + (2 - (headOf l).epoch.tmod 2 + odd) := i64_fits (by rw [ht]; omega)
  have N2 : ((2 : Int) = 0) = False := eq_false (by omega)
  have fin : ∀ st : St, st.head [0, 1, 9, 10, 14, 39, 40, 41, 61, 65] st.boxes.length = some ⟨[.pv (.list 3 (l.map eSpn)), .pv (.list 1 (steps.map eU8n)), .any, .any, .any, .any, .any, .any, .any, .pv (.int .i64 (headOf l).to), .pv (.int .i64 ((headOf l).epoch + (2 - (headOf l).epoch.tmod 2 + odd))), .any, .any, .any, .any, .any, .any, .any, .any, .any, .any, .any, .any, .any, .any, .any, .any, .any, .any, .any, .any, .any, .any, .any, .any, .any, .any, .any, .any, .pv (.list 1 (steps.map eU8n)), .pv (.int .i64 steps.length), .pv (.int .i64 (0 : Nat)), .any, .any, .any, .any, .any, .any, .any, .any, .any, .any, .any, .any, .any, .any, .any, .any, .any, .any, .any, .any, .any, .any, .any, .any, .any, .any, .any], [], [], none⟩ →
      ((den env fn37_l1 st).bind (next env (.seq (.ops [.mov 67 (.t 0), .mov 68 (.t 9), .asg 6 (.t 67), .asg 7 (.t 68), .asg 8 (.c (.bool true))]) .ret))).bind (Go.Proofs.Ytpdfhckdmblicaa.fin [.tmp 6, .tmp 7, .tmp 8]) = some [(.list 3 ((growX l steps odd).1.map eSpn), !steps.isEmpty), (.int .i64 (growX l steps odd).2, false), (.bool true, false)] := by
    intro st h
    rw [hloop st h]
    unfold growX
    cases steps with
    | nil =>
      unfold growR growGo
      simp only [List.isEmpty_nil, List.isEmpty_nil, val_pvs, frozen_pvs, msnoc_len, msnoc_get, msnoc_set, msnoc_take, Int.le_refl, take_map_all, Nat.le_refl, St.freezeRows, BV.frozen, List.take_length, List.take_append_drop, z_repl_zero, Int.toNat_zero, true_and, and_true, and_self, eq_self, z_take_zero, List.drop_nil, List.take_nil, vAll, List.foldl_nil, List.foldl_cons, resultsOf, resultList, resultOf, zBV, splice, PV.remade, St.freezeAt, St.freezeBox, St.freezeCap, PV.single, plain, act, dstOf, if_true, if_false, reduceCtorEq, St.get, St.put, St.pvOf, St.putRow, St.consume, St.freeze, St.row, St.elems, St.grab, St.takeRow, St.setRow, St.place, St.optPv, St.setCell, St.setCellRow, binPV, intBin, unPV, BV.val, Nat.reduceEqDiff, bound, consumeAll, buildParts, capsOf, capOf, List.append_nil, Nat.reduceAdd, Nat.reduceLT, Nat.reduceLeDiff, beq_self_eq_true, List.length_map, Nat.beq, dcall, dcallP, List.mapM_cons, St.snapFn, St.snap, St.layAll, St.lay, St.freezeArg, St.freezeArg1]
    | cons s r =>
      unfold growR growT
      simp only [List.isEmpty_cons, List.isEmpty_nil, val_pvs, frozen_pvs, msnoc_len, msnoc_get, msnoc_set, msnoc_take, Int.le_refl, take_map_all, Nat.le_refl, St.freezeRows, BV.frozen, List.take_length, List.take_append_drop, z_repl_zero, Int.toNat_zero, true_and, and_true, and_self, eq_self, z_take_zero, List.drop_nil, List.take_nil, vAll, List.foldl_nil, List.foldl_cons, resultsOf, resultList, resultOf, zBV, splice, PV.remade, St.freezeAt, St.freezeBox, St.freezeCap, PV.single, plain, act, dstOf, if_true, if_false, reduceCtorEq, St.get, St.put, St.pvOf, St.putRow, St.consume, St.freeze, St.row, St.elems, St.grab, St.takeRow, St.setRow, St.place, St.optPv, St.setCell, St.setCellRow, binPV, intBin, unPV, BV.val, Nat.reduceEqDiff, bound, consumeAll, buildParts, capsOf, capOf, List.append_nil, Nat.reduceAdd, Nat.reduceLT, Nat.reduceLeDiff, beq_self_eq_true, List.length_map, Nat.beq, dcall, dcallP, List.mapM_cons, St.snapFn, St.snap, St.layAll, St.lay, St.freezeArg, St.freezeArg1]
      first | done | rfl
  rcases snoc_or l with rfl | ⟨p, ⟨a, b, d⟩, rfl⟩
  · have F1 : (((0 : Nat) : Int) > 0) = False := eq_false (by omega)
    simp only [headOf_nil, z0, List.map_nil, List.length_nil] at W1 W2 W3 fin ⊢
    rw [cal_code env37 rfl]; simp only [fn37]; simp only [start, z_map_cons, z_map_nil, z_len_cons, z_len_nil, z_repl_zero, z_repl_succ, z_cons_app, z_nil_app, Nat.reduceAdd, Nat.reduceSub]
    simp only [F1, W1, W2, W3, N2, List.length_nil, List.isEmpty_nil, val_pvs, frozen_pvs, msnoc_len, msnoc_get, msnoc_set, msnoc_take, Int.le_refl, take_map_all, Nat.le_refl, St.freezeRows, BV.frozen, List.take_length, List.take_append_drop, z_repl_zero, Int.toNat_zero, true_and, and_true, and_self, eq_self, z_take_zero, List.drop_nil, List.take_nil, vAll, List.foldl_nil, List.foldl_cons, resultsOf, resultList, resultOf, zBV, splice, PV.remade, St.freezeAt, St.freezeBox, St.freezeCap, PV.single, plain, act, dstOf, if_true, if_false, reduceCtorEq, St.get, St.put, St.pvOf, St.putRow, St.consume, St.freeze, St.row, St.elems, St.grab, St.takeRow, St.setRow, St.place, St.optPv, St.setCell, St.setCellRow, binPV, intBin, unPV, BV.val, Nat.reduceEqDiff, bound, consumeAll, buildParts, capsOf, capOf, List.append_nil, Nat.reduceAdd, Nat.reduceLT, Nat.reduceLeDiff, beq_self_eq_true, List.length_map, Nat.beq, dcall, dcallP, List.mapM_cons, St.snapFn, St.snap, St.layAll, St.lay, St.freezeArg, St.freezeArg1]
    exact fin _ rfl
  · rw [List.length_append, List.length_singleton] at h1
    have F1 : (((p.length + 1 : Nat) : Int) > 0) = True := eq_true (by omega)
    have F2 : IntKind.i64.wrap (((p.length + 1 : Nat) : Int) - 1) = (p.length : Int) := by rw [i64_fits (by omega)]; omega
    have F3 : index (.int .i64 (p.length : Int)) (p.length + 1) = some p.length := index_nat (by omega)
    simp only [headOf_snoc, List.map_append, List.map_cons, List.map_nil] at W1 W2 W3 fin ⊢
    simp only [eSpn] at fin ⊢
    rw [cal_code env37 rfl]; simp only [fn37]; simp only [start, z_map_cons, z_map_nil, z_len_cons, z_len_nil, z_repl_zero, z_repl_succ, z_cons_app, z_nil_app, Nat.reduceAdd, Nat.reduceSub]
    simp only [F1, F2, F3, W1, W2, W3, N2, eSpn, List.isEmpty_nil, val_pvs, frozen_pvs, msnoc_len, msnoc_get, msnoc_set, msnoc_take, Int.le_refl, take_map_all, Nat.le_refl, St.freezeRows, BV.frozen, List.take_length, List.take_append_drop, z_repl_zero, Int.toNat_zero, true_and, and_true, and_self, eq_self, z_take_zero, List.drop_nil, List.take_nil, vAll, List.foldl_nil, List.foldl_cons, resultsOf, resultList, resultOf, zBV, splice, PV.remade, St.freezeAt, St.freezeBox, St.freezeCap, PV.single, plain, act, dstOf, if_true, if_false, reduceCtorEq, St.get, St.put, St.pvOf, St.putRow, St.consume, St.freeze, St.row, St.elems, St.grab, St.takeRow, St.setRow, St.place, St.optPv, St.setCell, St.setCellRow, binPV, intBin, unPV, BV.val, Nat.reduceEqDiff, bound, consumeAll, buildParts, capsOf, capOf, List.append_nil, Nat.reduceAdd, Nat.reduceLT, Nat.reduceLeDiff, beq_self_eq_true, List.length_map, Nat.beq, dcall, dcallP, List.mapM_cons, St.snapFn, St.snap, St.layAll, St.lay, St.freezeArg, St.freezeArg1]
    exact fin _ rfl
def OnFrom (l0 : List Spn) (odd : Int) (ne : Bool) (l : List Spn) : Prop := ∃ t, l = l0 ++ t ∧ (∀ x ∈ t, x.epoch % 2 = odd) ∧ (t = [] ↔ ne = false)
theorem onFrom_step {l0 l : List Spn} {odd e c : Int} {ne : Bool} (h : OnFrom l0 odd ne l) (he : e % 2 = odd) (h0 : (headOf l0).epoch < e ∨ ne = true) : OnFrom l0 odd true (extX l e c) := by
  obtain ⟨t, rfl, h2, h3⟩ := h
  unfold extX
  rcases snoc_or t with rfl | ⟨t', x, rfl⟩
  · have hn : ne = false := h3.1 rfl
    rw [hn] at h0
    have h4 : (headOf l0).epoch < e := by simpa using h0
    rw [if_neg (by rw [List.append_nil]; intro h; omega), List.append_nil]
    exact ⟨[⟨e, (headOf l0).to + 1, c⟩], rfl, by simpa using he, by simp⟩
  · by_cases c1 : e = x.epoch
    · have : headOf (l0 ++ (t' ++ [x])) = x := by rw [← List.append_assoc, headOf_snoc]
      rw [if_pos ⟨by simp, by rw [this]; exact c1⟩, ← List.append_assoc, List.dropLast_concat, List.append_assoc]
      refine ⟨t' ++ [⟨e, (headOf (l0 ++ t' ++ [x])).fr, c⟩], rfl, ?_, by simp⟩
      intro y hy
      rcases List.mem_append.1 hy with hy | hy
      · exact h2 y (by simp [hy])
      · simp only [List.mem_singleton] at hy; rw [hy]; exact he
    · have : headOf (l0 ++ (t' ++ [x])) = x := by rw [← List.append_assoc, headOf_snoc]
      rw [if_neg (by rw [this]; exact fun h => c1 h.2), List.append_assoc]
      refine ⟨t' ++ [x] ++ [⟨e, (headOf (l0 ++ (t' ++ [x]))).to + 1, c⟩], rfl, ?_, by simp⟩
      intro y hy
      rcases List.mem_append.1 hy with hy | hy
      · exact h2 y hy
      · simp only [List.mem_singleton] at hy; rw [hy]; exact he
theorem growGo_on {l0 : List Spn} {odd : Int} : ∀ (steps : List Nat) (l : List Spn) (e c : Int) (ne : Bool), OnFrom l0 odd ne l → e % 2 = odd → ((headOf l0).epoch < e ∨ ne = true) → OnFrom l0 odd (ne || !steps.isEmpty) (growGo steps l e c).1
  | [], l, e, c, ne, h, _, _ => by simpa [growGo] using h
  | s :: r, l, e, c, ne, h, he, h0 => by
    unfold growGo
    have h9 : e ≤ (if s % 3 = 0 then e + 2 else e) ∧ (if s % 3 = 0 then e + 2 else e) % 2 = odd := by split <;> omega
    generalize (if s % 3 = 0 then e + 2 else e) = e' at *
    have h0' : (headOf l0).epoch < e' ∨ ne = true := by
      rcases h0 with h0 | h0
      · left; omega
      · right; exact h0
    have := growGo_on r (extX l e' (c + ((s % 4 : Nat) + 1))) e' (c + ((s % 4 : Nat) + 1)) true (onFrom_step h h9.2 h0') h9.2 (.inr rfl)
    simpa using this
theorem growGo_ok {n : Nat} (hn : n ≤ 12) : ∀ (steps : List Nat) (l : List Spn) (e c : Int) (i : Nat), i + steps.length ≤ 12 → GrowOk n i l e c → linOk (growGo steps l e c).1 = true ∧ (headOf (growGo steps l e c).1).to = (growGo steps l e c).2 ∧ (growGo steps l e c).1.length ≤ n + i + steps.length ∧ c + steps.length ≤ (growGo steps l e c).2 ∧ (growGo steps l e c).2 ≤ 4 * (n : Int) + 4 * (i + steps.length : Nat) ∧ (headOf (growGo steps l e c).1).epoch ≤ 3 + 40 * (n : Int) + 2 * (i + steps.length : Nat)
  | [], l, e, c, i, hi, h => by
    obtain ⟨h1, h2, h3, h4, h5, h6, h7, h8⟩ := h
    unfold growGo
    simp only [List.length_nil, Nat.add_zero]
    exact ⟨h1, h3, h2, by omega, h6, by omega⟩
  | s :: r, l, e, c, i, hi, h => by
    unfold growGo
    simp only [List.length_cons] at hi ⊢
    have := growGo_ok hn r _ _ _ (i + 1) (by omega) (grow_step (s := s) (by omega) (by omega) h)
    obtain ⟨k1, k2, k3, k4, k5, k6⟩ := this
    exact ⟨k1, k2, by omega, by omega, by omega, by omega⟩
def lastS : Spn → List Spn → Spn
  | p, [] => p
  | _, x :: l => lastS x l
theorem lastS_get : ∀ (l : List Spn) (p : Spn), (p :: l).getLast (by simp) = lastS p l
  | [], p => rfl
  | x :: l, p => by rw [List.getLast_cons_cons]; exact lastS_get l x
theorem head_last (l : List Spn) : headOf l = lastS z0 l := (lastOf_last l).trans (lastS_get l z0)
theorem lastS_app : ∀ (l : List Spn) (p : Spn) (t : List Spn), lastS p (l ++ t) = lastS (lastS p l) t
  | [], p, t => rfl
  | x :: l, p, t => lastS_app l x t
theorem linGo_app : ∀ (l : List Spn) (p : Spn) (t : List Spn), linGo p (l ++ t) = (linGo p l && linGo (lastS p l) t)
  | [], p, t => by simp [linGo, lastS]
  | y :: l, p, t => by
    show (okNext p y && linGo y (l ++ t)) = (okNext p y && linGo y l && linGo (lastS y l) t)
    rw [linGo_app l y t, Bool.and_assoc]
theorem linGo_lt : ∀ (t : List Spn) (p : Spn), linGo p t = true → t ≠ [] → p.to < (lastS p t).to
  | [], p, _, h => absurd rfl h
  | x :: t, p, h, _ => by
    simp only [linGo, Bool.and_eq_true] at h
    obtain ⟨h1, h2⟩ := h
    simp only [okNext, Bool.and_eq_true, decide_eq_true_eq] at h1
    show p.to < (lastS x t).to
    cases t with
    | nil => show p.to < x.to; omega
    | cons y t => have := linGo_lt (y :: t) x h2 (by simp); omega
theorem ancR_pre : ∀ (l : List Spn) (p : Spn) (t1 t2 : List Spn), ancR p (l ++ t1) (l ++ t2) = ancR (lastS p l) t1 t2
  | [], p, t1, t2 => rfl
  | x :: l, p, t1, t2 => by
    rw [List.cons_append, List.cons_append]
    rw [ancR]
    simp only [if_true]
    exact ancR_pre l x t1 t2
theorem ancR_part {p : Spn} {t1 t2 : List Spn} (h : ∀ x ∈ t1, ∀ y ∈ t2, x.epoch ≠ y.epoch) : (ancR p t1 t2).2.1 = p.to := by
  cases t1 with
  | nil => cases t2 <;> rfl
  | cons x t1 =>
    cases t2 with
    | nil => rfl
    | cons y t2 =>
      unfold ancR
      rw [if_neg (h x (by simp) y (by simp))]
theorem endOf_head (l : List Spn) : endOf l = (headOf l).to := rfl
theorem fork_on {l t1 t2 : List Spn} (h1 : linOk (l ++ t1) = true) (h2 : linOk (l ++ t2) = true) (hd : ∀ x ∈ t1, ∀ y ∈ t2, x.epoch ≠ y.epoch) : forkX (l ++ t1) (l ++ t2) = ((headOf l).to, !t1.isEmpty && !t2.isEmpty) := by
  have ha : (ancX (l ++ t1) (l ++ t2)).1 = (headOf l).to := by
    unfold ancX
    rw [h1, h2, ancR_pre]
    simp only [Bool.and_self, if_true]
    rw [ancR_part hd, head_last]
  have he : ∀ t, linOk (l ++ t) = true → decide ((headOf l).to < endOf (l ++ t)) = !t.isEmpty := by
    intro t ht
    unfold linOk at ht
    rw [linGo_app, Bool.and_eq_true] at ht
    rw [endOf_head, head_last (l ++ t), lastS_app, head_last l]
    cases t with
    | nil => simp [lastS]
    | cons x t =>
      have := linGo_lt _ _ ht.2 (by simp)
      simp only [List.isEmpty_cons, Bool.not_false, decide_eq_true_eq]
      exact this
  unfold forkX
  rw [h1, h2, ha, he t1 h1, he t2 h2]
  simp only [Bool.and_self, if_true]
theorem trunc_none {c : Int} : ∀ (a : List Spn) (p : Spn), linGo p a = true → c ≤ p.to → truncX c a = []
  | [], p, _, _ => rfl
  | x :: a, p, h, hc => by
    simp only [linGo, Bool.and_eq_true] at h
    have h1 := h.1
    simp only [okNext, Bool.and_eq_true, decide_eq_true_eq] at h1
    unfold truncX
    rw [if_neg (by omega)]
    exact trunc_none a x h.2 (by omega)
theorem trunc_fork {c : Int} : ∀ (a : List Spn) (p : Spn), linGo p a = true → p.to ≤ c → c ≤ (lastS p a).to → linGo p (truncX c a) = true ∧ (lastS p (truncX c a)).to = c ∧ (ancR p a (truncX c a)).2.1 = c
  | [], p, h, h1, h2 => by
    have h3 : c ≤ p.to := h2
    have h4 : p.to = c := by omega
    exact ⟨rfl, h4, h4⟩
  | x :: a, p, h, h1, h2 => by
    simp only [linGo, Bool.and_eq_true] at h
    obtain ⟨g1, g2⟩ := h
    have g3 := g1
    simp only [okNext, Bool.and_eq_true, decide_eq_true_eq] at g3
    have h2' : c ≤ (lastS x a).to := h2
    by_cases hc : x.fr ≤ c
    · have ht : truncX c (x :: a) = cutS c x :: truncX c a := by
        conv => lhs; unfold truncX
        rw [if_pos hc]
      by_cases hx : c < x.to
      · have hcut : cutS c x = ⟨x.epoch, x.fr, c⟩ := by unfold cutS; rw [if_pos hx]
        rw [ht, trunc_none a x g2 (by omega), hcut]
        refine ⟨?_, rfl, ?_⟩
        · simp only [linGo, Bool.and_true, okNext, Bool.and_eq_true, decide_eq_true_eq]; omega
        · unfold ancR
          rw [if_pos rfl, if_neg (by simp only; omega)]
          simp only
          rw [if_pos hx]
      · have hcut : cutS c x = x := by unfold cutS; rw [if_neg hx]
        obtain ⟨k1, k2, k3⟩ := trunc_fork a x g2 (by omega) h2'
        rw [ht, hcut]
        refine ⟨?_, k2, ?_⟩
        · simp only [linGo, Bool.and_eq_true]; exact ⟨g1, k1⟩
        · unfold ancR
          rw [if_pos rfl, if_pos rfl]; exact k3
    · have hpc : p.to = c := by omega
      have ht : truncX c (x :: a) = [] := trunc_none (x :: a) p (by simp only [linGo, Bool.and_eq_true]; exact ⟨g1, g2⟩) (by omega)
      rw [ht]
      exact ⟨rfl, hpc, hpc⟩
theorem fork_trunc {c : Int} {a : List Spn} (h : linOk a = true) (h0 : 0 ≤ c) (h1 : c ≤ (headOf a).to) : forkX a (truncX c a) = (c, false) ∧ linOk (truncX c a) = true := by
  rw [head_last] at h1
  obtain ⟨k1, k2, k3⟩ := trunc_fork a z0 h h0 h1
  have k1' : linOk (truncX c a) = true := k1
  refine ⟨?_, k1'⟩
  unfold forkX ancX
  rw [h, k1']
  simp only [Bool.and_self, if_true]
  rw [k3, endOf_head (truncX c a), head_last (truncX c a), k2]
  simp
theorem trunc_len (c : Int) : ∀ l : List Spn, (truncX c l).length ≤ l.length
  | [] => Nat.le_refl _
  | x :: l => by
    unfold truncX
    have := trunc_len c l
    split <;> simp <;> omega
end Go.Proofs.Ytpdfhckdmblicaa.V
