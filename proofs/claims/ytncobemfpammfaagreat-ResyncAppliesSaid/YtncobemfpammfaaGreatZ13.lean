/-
  Part 13 of the texts that the statement stands on.
-/
import Derived.Test.YtncobemfpammfaaGreatZ12
set_option linter.all false
namespace Go.Proofs.YtncobemfpammfaaGreat.V
theorem cal30 {es : List PV} (hl : es.length ≤ lim) : cal env 30 [.list 1 es] = some [(.list 1 es, true)] := (cal_ext env30).trans (if_pos ⟨rfl, hl⟩)
theorem cal32 {i : Int} {v : List Sec} : cal env 32 [.int .i64 i, eSecs v] = some [(eI v.length, false)] := by
  unfold eSecs eI
  rw [cal_code env32 rfl]; simp only [fn32]; simp only [start, z_map_cons, z_map_nil, z_len_cons, z_len_nil, z_repl_zero, z_repl_succ, z_cons_app, z_nil_app, Nat.reduceAdd, Nat.reduceSub]
  simp only [ List.isEmpty_nil, val_pvs, frozen_pvs, msnoc_len, msnoc_get, msnoc_set, msnoc_take, Int.le_refl, take_map_all, Nat.le_refl, St.freezeRows, BV.frozen, List.take_length, List.take_append_drop, z_repl_zero, Int.toNat_zero, true_and, and_true, and_self, eq_self, z_take_zero, List.drop_nil, List.take_nil, vAll, List.foldl_nil, List.foldl_cons, resultsOf, resultList, resultOf, zBV, splice, PV.remade, St.freezeAt, St.freezeBox, St.freezeCap, PV.single, plain, act, dstOf, if_true, if_false, reduceCtorEq, St.get, St.put, St.pvOf, St.putRow, St.consume, St.freeze, St.row, St.elems, St.grab, St.takeRow, St.setRow, St.place, St.optPv, St.setCell, St.setCellRow, binPV, intBin, unPV, BV.val, Nat.reduceEqDiff, bound, consumeAll, buildParts, capsOf, capOf, List.append_nil, Nat.reduceAdd, Nat.reduceLT, Nat.reduceLeDiff, beq_self_eq_true, List.length_map, Nat.beq, dcall, dcallP, List.mapM_cons, St.snapFn, St.snap, St.layAll, St.lay, St.freezeArg, St.freezeArg1]
theorem loop31 {im : Img} (hl : im.length ≤ lim)
   {st : St} (h : st.head [0, 1, 5, 8, 9, 10, 21] st.boxes.length = some ⟨[.pv (.list 1 (im.map eSecs)), .pv (.func 32 []), .any, .any, .any, .row 1 [], .any, .any, .pv (.list 1 (im.map eSecs)), .pv (.int .i64 im.length), .pv (.int .i64 (0 : Nat)), .any, .any, .any, .any, .any, .any, .any, .any, .any, .any, .any, .any, .any], [], [], none⟩) :
   den env fn31_l1 st = some (.normal, ⟨[.any, .any, .any, .any, .any, .row 1 ((imSizes im).map eI), .any, .any, .any, .any, .any, .any, .any, .any, .any, .any, .any, .any, .any, .any, .any, .any, .any, .any], [], [], none⟩) := by
  unfold fn31_l1
  rw [clean_up im.length (fun i => ⟨[.pv (.list 1 (im.map eSecs)), .pv (.func 32 []), .any, .any, .any, .row 1 ((im.take i).map fun v => eI (v.length : Int)), .any, .any, .pv (.list 1 (im.map eSecs)), .pv (.int .i64 im.length), .pv (.int .i64 i), .any, .any, .any, .any, .any, .any, .any, .any, .any, .any, .any, .any, .any], [], [], none⟩)
    (fun i => some (.normal, ⟨[.any, .any, .any, .any, .any, .row 1 ((imSizes im).map eI), .any, .any, .any, .any, .any, .any, .any, .any, .any, .any, .any, .any, .any, .any, .any, .any, .any, .any], [], [], none⟩)) h (fun _ => rfl) (fun _ => rfl) ?_ ?_]
  · intro i rb hi ih
    have hi1 := i64_next hi hl
    have F1 : ((i : Int) < (im.length : Int)) = True := eq_true (by omega)
    have F2 : ((im.take i).length + 1 ≤ lim) = True := eq_true (by rw [List.length_take]; omega)
    have hpi : cal env 32 [.int .i64 (i : Nat), .list 8 (im[i].map eSec)] = some [(.int .i64 (im[i].length : Int), false)] := cal32
    simp only [fn31_b0, F1, F2, eSecs, index_nat hi, List.getElem?_map, List.getElem?_eq_getElem hi, hpi, List.isEmpty_nil, val_pvs, frozen_pvs, msnoc_len, msnoc_get, msnoc_set, msnoc_take, Int.le_refl, take_map_all, Nat.le_refl, St.freezeRows, BV.frozen, List.take_length, List.take_append_drop, z_repl_zero, Int.toNat_zero, true_and, and_true, and_self, eq_self, z_take_zero, List.drop_nil, List.take_nil, vAll, List.foldl_nil, List.foldl_cons, resultsOf, resultList, resultOf, zBV, splice, PV.remade, St.freezeAt, St.freezeBox, St.freezeCap, PV.single, plain, act, dstOf, if_true, if_false, reduceCtorEq, St.get, St.put, St.pvOf, St.putRow, St.consume, St.freeze, St.row, St.elems, St.grab, St.takeRow, St.setRow, St.place, St.optPv, St.setCell, St.setCellRow, binPV, intBin, unPV, BV.val, Nat.reduceEqDiff, bound, consumeAll, buildParts, capsOf, capOf, List.append_nil, Nat.reduceAdd, Nat.reduceLT, Nat.reduceLeDiff, beq_self_eq_true, List.length_map, Nat.beq, dcall, dcallP, List.mapM_cons, St.snapFn, St.snap, St.layAll, St.lay, St.freezeArg, St.freezeArg1]
    rw [ih _ (by simp only [hi1]; rw [← take_map_succ _ hi]; rfl)]
  · intro rb
    have hz : ((im.take im.length).map fun v => eI (v.length : Int)) = (imSizes im).map eI := by simp [imSizes]
    simp only [fn31_b0, Int.lt_irrefl, hz, vAll, List.foldl_nil, List.foldl_cons, resultsOf, resultList, resultOf, zBV, splice, PV.remade, St.freezeAt, St.freezeBox, St.freezeCap, PV.single, plain, act, dstOf, if_true, if_false, reduceCtorEq, St.get, St.put, St.pvOf, St.putRow, St.consume, St.freeze, St.row, St.elems, St.grab, St.takeRow, St.setRow, St.place, St.optPv, St.setCell, St.setCellRow, binPV, intBin, unPV, BV.val, Nat.reduceEqDiff, bound, consumeAll, buildParts, capsOf, capOf, List.append_nil, Nat.reduceAdd, Nat.reduceLT, Nat.reduceLeDiff, beq_self_eq_true, List.length_map, Nat.beq, dcall, dcallP, List.mapM_cons, St.snapFn, St.snap, St.layAll, St.lay, St.freezeArg, St.freezeArg1]
    rfl
theorem cal31 {im : Img} (hl : im.length ≤ lim) : cal env 31 [.list 1 (im.map eSecs), .func 32 []] = some [(.list 1 ((imSizes im).map eI), true)] := by
  rw [cal_code env31 rfl]; simp only [fn31]; simp only [start, z_map_cons, z_map_nil, z_len_cons, z_len_nil, z_repl_zero, z_repl_succ, z_cons_app, z_nil_app, Nat.reduceAdd, Nat.reduceSub]
  simp only [List.length_map, List.isEmpty_nil, val_pvs, frozen_pvs, msnoc_len, msnoc_get, msnoc_set, msnoc_take, Int.le_refl, take_map_all, Nat.le_refl, St.freezeRows, BV.frozen, List.take_length, List.take_append_drop, z_repl_zero, Int.toNat_zero, true_and, and_true, and_self, eq_self, z_take_zero, List.drop_nil, List.take_nil, vAll, List.foldl_nil, List.foldl_cons, resultsOf, resultList, resultOf, zBV, splice, PV.remade, St.freezeAt, St.freezeBox, St.freezeCap, PV.single, plain, act, dstOf, if_true, if_false, reduceCtorEq, St.get, St.put, St.pvOf, St.putRow, St.consume, St.freeze, St.row, St.elems, St.grab, St.takeRow, St.setRow, St.place, St.optPv, St.setCell, St.setCellRow, binPV, intBin, unPV, BV.val, Nat.reduceEqDiff, bound, consumeAll, buildParts, capsOf, capOf, List.append_nil, Nat.reduceAdd, Nat.reduceLT, Nat.reduceLeDiff, beq_self_eq_true, List.length_map, Nat.beq, dcall, dcallP, List.mapM_cons, St.snapFn, St.snap, St.layAll, St.lay, St.freezeArg, St.freezeArg1]
  rw [loop31 hl]
  rotate_left
  · rfl
  · simp only [List.isEmpty_nil, val_pvs, frozen_pvs, msnoc_len, msnoc_get, msnoc_set, msnoc_take, Int.le_refl, take_map_all, Nat.le_refl, St.freezeRows, BV.frozen, List.take_length, List.take_append_drop, z_repl_zero, Int.toNat_zero, true_and, and_true, and_self, eq_self, z_take_zero, List.drop_nil, List.take_nil, vAll, List.foldl_nil, List.foldl_cons, resultsOf, resultList, resultOf, zBV, splice, PV.remade, St.freezeAt, St.freezeBox, St.freezeCap, PV.single, plain, act, dstOf, if_true, if_false, reduceCtorEq, St.get, St.put, St.pvOf, St.putRow, St.consume, St.freeze, St.row, St.elems, St.grab, St.takeRow, St.setRow, St.place, St.optPv, St.setCell, St.setCellRow, binPV, intBin, unPV, BV.val, Nat.reduceEqDiff, bound, consumeAll, buildParts, capsOf, capOf, List.append_nil, Nat.reduceAdd, Nat.reduceLT, Nat.reduceLeDiff, beq_self_eq_true, List.length_map, Nat.beq, dcall, dcallP, List.mapM_cons, St.snapFn, St.snap, St.layAll, St.lay, St.freezeArg, St.freezeArg1]
def zCyc : PV := .agg [.int .i64 0, .int .i64 0, .int .i64 0, .list 0 [], .list 0 []]
def cyE (im : Img) (l : List (List Exn)) (b n t : Int) (p : List Int) : Int := if wrE im l ≠ 0 then wrE im l else cycE b n t p
def cyO (im : Img) (l : List (List Exn)) (b n t : Int) (p : List Int) : PV := if cyE im l b n t p = 0 then eCyc b n t p (wrL im l) else zCyc
theorem wrE_zero {im : Img} {l : List (List Exn)} (h : wrE im l = 0) : imCheck im = 0 ∧ fitE im l = 0 := by
  unfold wrE at h
  split at h
  · omega
  · rename_i c; exact ⟨by omega, h⟩
theorem cal10 {im : Img} {l : List (List Exn)} {b n t : Int} {p : List Int} (hi : im.length ≤ lim) (hri : ∀ v ∈ im, v.length ≤ 1000000) (ho : ∀ x ∈ l, okEs x) (hr : ∀ x ∈ l, x.length ≤ 10000) (hl : l.length ≤ lim) (hL : fitE im l = 0 → (wrL im l).length ≤ 1000000) (hp : p.length ≤ 20) :
    cal env 10 [.list 1 (im.map eSecs), .list 1 (l.map eExts), .int .i64 b, .int .i64 n, .int .i64 t, .list 1 (p.map eI)] = some [(cyO im l b n t p, false), (.int .i64 (cyE im l b n t p), false)] := by
  have e1 := cal8 hi hri ho hr hl hL
  have e2 := cal30 (es := p.map eI) (by simp; unfold lim; omega)
  have e3 := cal31 hi
  have Z : ((0 : Int) != 0) = false := rfl
  unfold cyO cyE
  by_cases c1 : wrE im l = 0
  · obtain ⟨d1, d2⟩ := wrE_zero c1
    have e4 := cal33 (b := b) (n := n) (t := t) (wrL_seq d2) d1 hi hri (Nat.le_trans (hL d2) (by decide)) hp
    have n1 : (if wrE im l ≠ 0 then wrE im l else cycE b n t p) = cycE b n t p := if_neg (by simpa using c1)
    rw [n1]
    unfold wrO at e1
    rw [if_pos c1, c1] at e1
    unfold eCyc zCyc at *
    by_cases c2 : cycE b n t p = 0
    · rw [c2] at e4
      rw [if_pos c2, c2]
      rw [cal_code env10 rfl]; simp only [fn10]; simp only [start, z_map_cons, z_map_nil, z_len_cons, z_len_nil, z_repl_zero, z_repl_succ, z_cons_app, z_nil_app, Nat.reduceAdd, Nat.reduceSub]
      simp only [e1, e2, e3, e4, Z, List.isEmpty_nil, val_pvs, frozen_pvs, msnoc_len, msnoc_get, msnoc_set, msnoc_take, Int.le_refl, take_map_all, Nat.le_refl, St.freezeRows, BV.frozen, List.take_length, List.take_append_drop, z_repl_zero, Int.toNat_zero, true_and, and_true, and_self, eq_self, z_take_zero, List.drop_nil, List.take_nil, vAll, List.foldl_nil, List.foldl_cons, resultsOf, resultList, resultOf, zBV, splice, PV.remade, St.freezeAt, St.freezeBox, St.freezeCap, PV.single, plain, act, dstOf, if_true, if_false, reduceCtorEq, St.get, St.put, St.pvOf, St.putRow, St.consume, St.freeze, St.row, St.elems, St.grab, St.takeRow, St.setRow, St.place, St.optPv, St.setCell, St.setCellRow, binPV, intBin, unPV, BV.val, Nat.reduceEqDiff, bound, consumeAll, buildParts, capsOf, capOf, List.append_nil, Nat.reduceAdd, Nat.reduceLT, Nat.reduceLeDiff, beq_self_eq_true, List.length_map, Nat.beq, dcall, dcallP, List.mapM_cons, St.snapFn, St.snap, St.layAll, St.lay, St.freezeArg, St.freezeArg1]
      all_goals rfl
    · have G : (cycE b n t p != 0) = true := by simp [c2]
      rw [if_neg c2]
      rw [cal_code env10 rfl]; simp only [fn10]; simp only [start, z_map_cons, z_map_nil, z_len_cons, z_len_nil, z_repl_zero, z_repl_succ, z_cons_app, z_nil_app, Nat.reduceAdd, Nat.reduceSub]
      simp only [e1, e2, e3, e4, G, Z, List.isEmpty_nil, val_pvs, frozen_pvs, msnoc_len, msnoc_get, msnoc_set, msnoc_take, Int.le_refl, take_map_all, Nat.le_refl, St.freezeRows, BV.frozen, List.take_length, List.take_append_drop, z_repl_zero, Int.toNat_zero, true_and, and_true, and_self, eq_self, z_take_zero, List.drop_nil, List.take_nil, vAll, List.foldl_nil, List.foldl_cons, resultsOf, resultList, resultOf, zBV, splice, PV.remade, St.freezeAt, St.freezeBox, St.freezeCap, PV.single, plain, act, dstOf, if_true, if_false, reduceCtorEq, St.get, St.put, St.pvOf, St.putRow, St.consume, St.freeze, St.row, St.elems, St.grab, St.takeRow, St.setRow, St.place, St.optPv, St.setCell, St.setCellRow, binPV, intBin, unPV, BV.val, Nat.reduceEqDiff, bound, consumeAll, buildParts, capsOf, capOf, List.append_nil, Nat.reduceAdd, Nat.reduceLT, Nat.reduceLeDiff, beq_self_eq_true, List.length_map, Nat.beq, dcall, dcallP, List.mapM_cons, St.snapFn, St.snap, St.layAll, St.lay, St.freezeArg, St.freezeArg1]
      all_goals rfl
  · have G : (wrE im l != 0) = true := by simp [c1]
    have n1 : (if wrE im l ≠ 0 then wrE im l else cycE b n t p) = wrE im l := if_pos c1
    rw [n1, if_neg c1]
    unfold zCyc
    rw [cal_code env10 rfl]; simp only [fn10]; simp only [start, z_map_cons, z_map_nil, z_len_cons, z_len_nil, z_repl_zero, z_repl_succ, z_cons_app, z_nil_app, Nat.reduceAdd, Nat.reduceSub]
    simp only [e1, G, List.isEmpty_nil, val_pvs, frozen_pvs, msnoc_len, msnoc_get, msnoc_set, msnoc_take, Int.le_refl, take_map_all, Nat.le_refl, St.freezeRows, BV.frozen, List.take_length, List.take_append_drop, z_repl_zero, Int.toNat_zero, true_and, and_true, and_self, eq_self, z_take_zero, List.drop_nil, List.take_nil, vAll, List.foldl_nil, List.foldl_cons, resultsOf, resultList, resultOf, zBV, splice, PV.remade, St.freezeAt, St.freezeBox, St.freezeCap, PV.single, plain, act, dstOf, if_true, if_false, reduceCtorEq, St.get, St.put, St.pvOf, St.putRow, St.consume, St.freeze, St.row, St.elems, St.grab, St.takeRow, St.setRow, St.place, St.optPv, St.setCell, St.setCellRow, binPV, intBin, unPV, BV.val, Nat.reduceEqDiff, bound, consumeAll, buildParts, capsOf, capOf, List.append_nil, Nat.reduceAdd, Nat.reduceLT, Nat.reduceLeDiff, beq_self_eq_true, List.length_map, Nat.beq, dcall, dcallP, List.mapM_cons, St.snapFn, St.snap, St.layAll, St.lay, St.freezeArg, St.freezeArg1]
    all_goals rfl
end Go.Proofs.YtncobemfpammfaaGreat.V

namespace Go.Proofs.YtncobemfpammfaaGreat.V
theorem loop15 {l : List Int} {sz : Nat} (hz : l = [] ∨ sz = 1) (hl : l.length ≤ lim) {st : St} (h : st.head [0, 1, 5] st.boxes.length = some ⟨[.pv (.list sz (l.map eI)), .pv (.list sz (l.map eI)), .any, .any, .any, .pv (.int .i64 (0 : Nat)), .any, .any, .any, .any, .any, .any, .any, .any, .any, .any, .any, .any, .any, .any, .any, .any, .any, .any, .any, .any], [], [], none⟩) :
   den env fn15_l1 st = some (.normal, ⟨[.any, .any, .any, .any, .any, .any, .any, .any, .any, .any, .any, .any, .any, .any, .any, .any, .any, .any, .any, .any, .any, .any, .any, .any, .any, .any], [], [], none⟩) := by
  unfold fn15_l1
  refine clean_up (env := env) (l.length) (fun i => ⟨[.pv (.list sz (l.map eI)), .pv (.list sz (l.map eI)), .any, .any, .any, .pv (.int .i64 i), .any, .any, .any, .any, .any, .any, .any, .any, .any, .any, .any, .any, .any, .any, .any, .any, .any, .any, .any, .any], [], [], none⟩) (fun i => some (.normal, ⟨[.any, .any, .any, .any, .any, .any, .any, .any, .any, .any, .any, .any, .any, .any, .any, .any, .any, .any, .any, .any, .any, .any, .any, .any, .any, .any], [], [], none⟩)) h (fun _ => rfl) (fun _ => rfl) ?_ ?_
  · intro i rb hi ih

    have hi1 := i64_next hi hl
    have hsz : sz = 1 := by
      rcases hz with e | e
      · exfalso; rw [e] at hi; exact Nat.not_lt_zero _ hi
      · exact e
    subst hsz
    have F1 : ((i : Int) < (l.length : Int)) = True := eq_true (by omega)
    have F2 : ∀ n : Int, (n != n) = false := fun n => by simp
    simp only [fn15_b0, F1, F2, eI, index_nat hi, List.getElem?_map, List.getElem?_eq_getElem hi, List.isEmpty_nil, val_pvs, frozen_pvs, msnoc_len, msnoc_get, msnoc_set, msnoc_take, Int.le_refl, take_map_all, Nat.le_refl, St.freezeRows, BV.frozen, List.take_length, List.take_append_drop, z_repl_zero, Int.toNat_zero, true_and, and_true, and_self, eq_self, z_take_zero, List.drop_nil, List.take_nil, vAll, List.foldl_nil, List.foldl_cons, resultsOf, resultList, resultOf, zBV, splice, PV.remade, St.freezeAt, St.freezeBox, St.freezeCap, PV.single, plain, act, dstOf, if_true, if_false, reduceCtorEq, St.get, St.put, St.pvOf, St.putRow, St.consume, St.freeze, St.row, St.elems, St.grab, St.takeRow, St.setRow, St.place, St.optPv, St.setCell, St.setCellRow, binPV, intBin, unPV, BV.val, Nat.reduceEqDiff, bound, consumeAll, buildParts, capsOf, capOf, List.append_nil, Nat.reduceAdd, Nat.reduceLT, Nat.reduceLeDiff, beq_self_eq_true, List.length_map, Nat.beq, dcall, dcallP, List.mapM_cons, St.snapFn, St.snap, St.layAll, St.lay, St.freezeArg, St.freezeArg1]
    rw [ih _ (by simp only [hi1]; rfl)]
  · intro rb

    simp only [fn15_b0, Int.lt_irrefl,  List.isEmpty_nil, val_pvs, frozen_pvs, msnoc_len, msnoc_get, msnoc_set, msnoc_take, Int.le_refl, take_map_all, Nat.le_refl, St.freezeRows, BV.frozen, List.take_length, List.take_append_drop, z_repl_zero, Int.toNat_zero, true_and, and_true, and_self, eq_self, z_take_zero, List.drop_nil, List.take_nil, vAll, List.foldl_nil, List.foldl_cons, resultsOf, resultList, resultOf, zBV, splice, PV.remade, St.freezeAt, St.freezeBox, St.freezeCap, PV.single, plain, act, dstOf, if_true, if_false, reduceCtorEq, St.get, St.put, St.pvOf, St.putRow, St.consume, St.freeze, St.row, St.elems, St.grab, St.takeRow, St.setRow, St.place, St.optPv, St.setCell, St.setCellRow, binPV, intBin, unPV, BV.val, Nat.reduceEqDiff, bound, consumeAll, buildParts, capsOf, capOf, List.append_nil, Nat.reduceAdd, Nat.reduceLT, Nat.reduceLeDiff, beq_self_eq_true, List.length_map, Nat.beq, dcall, dcallP, List.mapM_cons, St.snapFn, St.snap, St.layAll, St.lay, St.freezeArg, St.freezeArg1]
    rfl

theorem cal15 {l : List Int} {sz : Nat} (hz : l = [] ∨ sz = 1) (hl : l.length ≤ lim) : cal env 15 [.list sz (l.map eI), .list sz (l.map eI)] = some [(.bool true, false)] := by
  have G : (((l.length : Int)) != (l.length : Int)) = false := by simp
  rw [cal_code env15 rfl]; simp only [fn15]; simp only [start, z_map_cons, z_map_nil, z_len_cons, z_len_nil, z_repl_zero, z_repl_succ, z_cons_app, z_nil_app, Nat.reduceAdd, Nat.reduceSub]
  simp only [G, List.length_map, List.isEmpty_nil, val_pvs, frozen_pvs, msnoc_len, msnoc_get, msnoc_set, msnoc_take, Int.le_refl, take_map_all, Nat.le_refl, St.freezeRows, BV.frozen, List.take_length, List.take_append_drop, z_repl_zero, Int.toNat_zero, true_and, and_true, and_self, eq_self, z_take_zero, List.drop_nil, List.take_nil, vAll, List.foldl_nil, List.foldl_cons, resultsOf, resultList, resultOf, zBV, splice, PV.remade, St.freezeAt, St.freezeBox, St.freezeCap, PV.single, plain, act, dstOf, if_true, if_false, reduceCtorEq, St.get, St.put, St.pvOf, St.putRow, St.consume, St.freeze, St.row, St.elems, St.grab, St.takeRow, St.setRow, St.place, St.optPv, St.setCell, St.setCellRow, binPV, intBin, unPV, BV.val, Nat.reduceEqDiff, bound, consumeAll, buildParts, capsOf, capOf, List.append_nil, Nat.reduceAdd, Nat.reduceLT, Nat.reduceLeDiff, beq_self_eq_true, List.length_map, Nat.beq, dcall, dcallP, List.mapM_cons, St.snapFn, St.snap, St.layAll, St.lay, St.freezeArg, St.freezeArg1]
  rw [loop15 hz hl]
  rotate_left
  · rfl
  · simp only [List.isEmpty_nil, val_pvs, frozen_pvs, msnoc_len, msnoc_get, msnoc_set, msnoc_take, Int.le_refl, take_map_all, Nat.le_refl, St.freezeRows, BV.frozen, List.take_length, List.take_append_drop, z_repl_zero, Int.toNat_zero, true_and, and_true, and_self, eq_self, z_take_zero, List.drop_nil, List.take_nil, vAll, List.foldl_nil, List.foldl_cons, resultsOf, resultList, resultOf, zBV, splice, PV.remade, St.freezeAt, St.freezeBox, St.freezeCap, PV.single, plain, act, dstOf, if_true, if_false, reduceCtorEq, St.get, St.put, St.pvOf, St.putRow, St.consume, St.freeze, St.row, St.elems, St.grab, St.takeRow, St.setRow, St.place, St.optPv, St.setCell, St.setCellRow, binPV, intBin, unPV, BV.val, Nat.reduceEqDiff, bound, consumeAll, buildParts, capsOf, capOf, List.append_nil, Nat.reduceAdd, Nat.reduceLT, Nat.reduceLeDiff, beq_self_eq_true, List.length_map, Nat.beq, dcall, dcallP, List.mapM_cons, St.snapFn, St.snap, St.layAll, St.lay, St.freezeArg, St.freezeArg1]
end Go.Proofs.YtncobemfpammfaaGreat.V

namespace Go.Proofs.YtncobemfpammfaaGreat.V
def sK (n : UInt8) : Sec := #v[n, 0, 0, 0, 0, 0, 0, 0]
theorem eS0 : eSec (sK 0) = .agg [.int .u8 0, .int .u8 0, .int .u8 0, .int .u8 0, .int .u8 0, .int .u8 0, .int .u8 0, .int .u8 0] := rfl
theorem eS1 : eSec (sK 1) = .agg [.int .u8 1, .int .u8 0, .int .u8 0, .int .u8 0, .int .u8 0, .int .u8 0, .int .u8 0, .int .u8 0] := rfl
theorem eS2 : eSec (sK 2) = .agg [.int .u8 2, .int .u8 0, .int .u8 0, .int .u8 0, .int .u8 0, .int .u8 0, .int .u8 0, .int .u8 0] := rfl
theorem eS3 : eSec (sK 3) = .agg [.int .u8 3, .int .u8 0, .int .u8 0, .int .u8 0, .int .u8 0, .int .u8 0, .int .u8 0, .int .u8 0] := rfl
def awS : Img := [[sK 1, sK 2, sK 0, sK 0, sK 3]]
def awT : Img := [[sK 0, sK 2, sK 0, sK 0, sK 0]]
def awL : List (List Exn) := [[⟨0, 2⟩, ⟨4, 1⟩]]
def awN : List (List Exn) := [[⟨0, 1⟩, ⟨4, 1⟩]]
def awW : List Wrt := [⟨0, 0, [sK 1, sK 2]⟩, ⟨0, 4, [sK 3]⟩]
theorem xW : wrO awS awL = awW := by kernel_rfl
theorem xWe : wrE awS awL = 0 := by kernel_rfl
theorem xN : needO awS awT awL = awN := by kernel_rfl
theorem xNe : needE awS awT awL = 0 := by kernel_rfl
theorem xNe2 : needE awS awT awN = 0 := by kernel_rfl
theorem xE1 : exactB awS awT awN = true := by kernel_rfl
theorem xE2 : exactB awS awT awL = false := by kernel_rfl
theorem xC1 : costL awL = 3 := by kernel_rfl
theorem xC2 : costL awN = 2 := by kernel_rfl
theorem okL : ∀ x ∈ awL, okEs x := by unfold awL okEs okE; decide
theorem okN : ∀ x ∈ awN, okEs x := by unfold awN okEs okE; decide
theorem shL : ∀ x ∈ awL, x.length ≤ 10000 := by decide
theorem shN : ∀ x ∈ awN, x.length ≤ 10000 := by decide
theorem shS : ∀ v ∈ awS, v.length ≤ 4096 := by unfold awS; intro v hv; simp only [List.mem_singleton] at hv; subst hv; decide
set_option maxRecDepth 20000 in
theorem calAwake : cal env 7 [] = some [(.bool true, false)] := by
  have w1 := cal8 (im := awS) (l := awL) (by decide) (fun v hv => Nat.le_trans (shS v hv) (by decide)) okL shL (by decide) (fun _ => by decide)
  rw [xW, xWe] at w1
  have n1 := cal20 (a := awS) (b := awT) (l := awL) (by decide) (by decide) shS okL shL (by decide)
  rw [xN, xNe] at n1
  have d1 := cal21 (a := awS) (b := awT) (l := awN) (by decide) (by decide) shS okN shN (by decide)
  rw [xE1, xNe2] at d1
  have d2 := cal21 (a := awS) (b := awT) (l := awL) (by decide) (by decide) shS okL shL (by decide)
  rw [xE2, xNe] at d2
  have s1 := cal12 (a := awW) (by decide) (by decide)
  have s2 := cal22 (l := awN) (m := awN) (by decide) (by decide)
  rw [decide_eq_true rfl] at s2
  have c1 := cal23 (l := awL) okL shL (by decide)
  rw [xC1] at c1
  have c2 := cal23 (l := awN) okN shN (by decide)
  rw [xC2] at c2
  simp only [awS, awT, awL, awN, awW, eWr, eSecs, eExts, eExt, eS0, eS1, eS2, eS3, List.map_cons, List.map_nil] at w1 n1 d1 d2 s1 s2 c1 c2
  have L1 : (1 ≤ lim) = True := eq_true (by decide)
  have L2 : (2 ≤ lim) = True := eq_true (by decide)
  have L3 : (3 ≤ lim) = True := eq_true (by decide)
  have L5 : (5 ≤ lim) = True := eq_true (by decide)
  have W0 : IntKind.i64.wrap 0 = 0 := by kernel_rfl
  have Z0 : ((0 : Int) != 0) = false := rfl
  have Q3 : ((3 : Int) == 3) = true := rfl
  have Q2 : ((2 : Int) == 2) = true := rfl
  rw [cal_code env7 rfl]; simp only [fn7, slAll, Nat.reduceBEq, Nat.reduceLeDiff, Nat.reduceAdd, List.length_cons, List.length_nil]
  simp only [W0, Z0, Q3, Q2, Int.add_zero, w1, n1, d1, d2, s1, s2, c1, c2, L1, L2, L3, L5, List.length_cons, List.length_nil, slAll, Nat.reduceMul, Nat.reduceBEq, Nat.reduceLT, Nat.reduceLeDiff, Nat.zero_le, List.take_zero, List.take_nil, List.take_succ_cons, List.length_cons, List.length_nil, Nat.le_refl, List.isEmpty_nil, val_pvs, frozen_pvs, msnoc_len, msnoc_get, msnoc_set, msnoc_take, Int.le_refl, take_map_all, Nat.le_refl, St.freezeRows, BV.frozen, List.take_length, List.take_append_drop, z_repl_zero, Int.toNat_zero, true_and, and_true, and_self, eq_self, z_take_zero, List.drop_nil, List.take_nil, vAll, List.foldl_nil, List.foldl_cons, resultsOf, resultList, resultOf, zBV, splice, PV.remade, St.freezeAt, St.freezeBox, St.freezeCap, PV.single, plain, act, dstOf, if_true, if_false, reduceCtorEq, St.get, St.put, St.pvOf, St.putRow, St.consume, St.freeze, St.row, St.elems, St.grab, St.takeRow, St.setRow, St.place, St.optPv, St.setCell, St.setCellRow, binPV, intBin, unPV, BV.val, Nat.reduceEqDiff, bound, consumeAll, buildParts, capsOf, capOf, List.append_nil, Nat.reduceAdd, Nat.reduceLT, Nat.reduceLeDiff, beq_self_eq_true, List.length_map, Nat.beq, dcall, dcallP, List.mapM_cons, St.snapFn, St.snap, St.layAll, St.lay, St.freezeArg, St.freezeArg1]
end Go.Proofs.YtncobemfpammfaaGreat.V
