/-
  Part 10 of the texts that the statement stands on.
-/
import Derived.Test.YtpdfhckdmblicaaZ9
set_option linter.all false
namespace Go.Proofs.Ytpdfhckdmblicaa.V
set_option linter.all false

def idxI {α : Type} (p : α → Bool) (l : List α) : Int := if l.any p then (l.findIdx p : Int) else -1
theorem idxI_nonneg {α : Type} (p : α → Bool) (l : List α) : decide (idxI p l ≥ 0) = l.any p := by
  unfold idxI
  cases l.any p
  · rfl
  · simp only [if_true]; exact decide_eq_true (by omega)
theorem isEqv_cons {α β : Type} (eq : α → β → Bool) (x : α) (y : β) (l : List α) (m : List β) : (l.length = m.length) → ((x :: l).zip (y :: m)).all (fun q => eq q.1 q.2) = (eq x y && (l.zip m).all (fun q => eq q.1 q.2)) := fun _ => by
  simp
def eqF {α β : Type} (eq : α → β → Bool) (l : List α) (m : List β) : Bool := decide (l.length = m.length) && (l.zip m).all fun q => eq q.1 q.2
theorem loop73 {α : Type} {enc : α → PV} {l : List α} {p : α → Bool} {gf : Nat} {caps : List PV} (hp : ∀ x ∈ l, cal env gf (enc x :: caps) = some [(.bool (p x), false)]) (hs : ∀ x, part (enc x).cells 0 none = some (enc x)) (hl : l.length ≤ lim)
   {st : St} (h : st.head [0, 1, 7, 8] st.boxes.length = some ⟨[.pv (.list 1 (l.map enc)), .pv (.func gf caps), .any, .any, .any, .any, .any, .pv (.int .i64 l.length), .pv (.int .i64 (0 : Nat)), .any, .any, .any, .any, .any, .any, .any, .any, .any, .any], [], [], none⟩) :
   den env fn73_l1 st = if l.any p then some (.ret, ⟨[.any, .any, .any, .any, .pv (.int .i64 (l.findIdx p)), .any, .any, .any, .any, .any, .any, .any, .any, .any, .any, .any, .any, .any, .any], [], [], none⟩) else some (.normal, ⟨[.any, .any, .any, .any, .any, .any, .any, .any, .any, .any, .any, .any, .any, .any, .any, .any, .any, .any, .any], [], [], none⟩) := by
  unfold fn73_l1
  rw [clean_up l.length (fun i => ⟨[.pv (.list 1 (l.map enc)), .pv (.func gf caps), .any, .any, .any, .any, .any, .pv (.int .i64 l.length), .pv (.int .i64 i), .any, .any, .any, .any, .any, .any, .any, .any, .any, .any], [], [], none⟩)
    (fun i => if (l.drop i).any p then some (.ret, ⟨[.any, .any, .any, .any, .pv (.int .i64 ((i + (l.drop i).findIdx p : Nat) : Int)), .any, .any, .any, .any, .any, .any, .any, .any, .any, .any, .any, .any, .any, .any], [], [], none⟩) else some (.normal, ⟨[.any, .any, .any, .any, .any, .any, .any, .any, .any, .any, .any, .any, .any, .any, .any, .any, .any, .any, .any], [], [], none⟩)) h (fun _ => rfl) (fun _ => rfl) ?_ ?_]
  · simp only [List.drop_zero, Nat.zero_add]
  · intro i rb hi ih
    have hi1 := i64_next hi hl
    have F1 : ((i : Int) < (l.length : Int)) = True := eq_true (by omega)
    simp only [fn73_b0, F1, List.length_map, index_nat hi, List.getElem?_map, List.getElem?_eq_getElem hi, hp _ (List.getElem_mem hi), hs, vAll, List.foldl_nil, List.foldl_cons, resultsOf, resultList, resultOf, zBV, splice, PV.remade, St.freezeAt, St.freezeBox, St.freezeCap, PV.single, plain, act, dstOf, if_true, if_false, reduceCtorEq, St.get, St.put, St.pvOf, St.putRow, St.consume, St.freeze, St.row, St.elems, St.grab, St.takeRow, St.setRow, St.place, St.optPv, St.setCell, St.setCellRow, binPV, intBin, unPV, BV.val, Nat.reduceEqDiff, bound, consumeAll, buildParts, capsOf, capOf, List.append_nil, Nat.reduceAdd, Nat.reduceLT, Nat.reduceLeDiff, beq_self_eq_true, List.length_map, Nat.beq, dcall, dcallP, List.mapM_cons, St.snapFn, St.snap, St.layAll, St.lay, St.freezeArg, St.freezeArg1]
    (try simp only [bcase_bind, bcase_map, tail_bcase]); refine bcase_split (fun hb => ?_) (fun hb => ?_) <;> try simp only [hb,  List.isEmpty_nil, val_pvs, frozen_pvs, msnoc_len, msnoc_get, msnoc_set, msnoc_take, Int.le_refl, take_map_all, Nat.le_refl, St.freezeRows, BV.frozen, List.take_length, List.take_append_drop, z_repl_zero, Int.toNat_zero, true_and, and_true, and_self, eq_self, z_take_zero, List.drop_nil, List.take_nil, vAll, List.foldl_nil, List.foldl_cons, resultsOf, resultList, resultOf, zBV, splice, PV.remade, St.freezeAt, St.freezeBox, St.freezeCap, PV.single, plain, act, dstOf, if_true, if_false, reduceCtorEq, St.get, St.put, St.pvOf, St.putRow, St.consume, St.freeze, St.row, St.elems, St.grab, St.takeRow, St.setRow, St.place, St.optPv, St.setCell, St.setCellRow, binPV, intBin, unPV, BV.val, Nat.reduceEqDiff, bound, consumeAll, buildParts, capsOf, capOf, List.append_nil, Nat.reduceAdd, Nat.reduceLT, Nat.reduceLeDiff, beq_self_eq_true, List.length_map, Nat.beq, dcall, dcallP, List.mapM_cons, St.snapFn, St.snap, St.layAll, St.lay, St.freezeArg, St.freezeArg1]
    · rw [List.drop_eq_getElem_cons hi]
      simp only [List.any_cons, hb, Bool.true_or, if_true, List.findIdx_cons, cond_true, Nat.add_zero]
      rfl
    · rw [ih _ (by simp only [hi1]; rfl), List.drop_eq_getElem_cons hi]
      simp only [List.any_cons, hb, Bool.false_or, List.findIdx_cons, cond_false, Nat.add_assoc, Nat.add_comm 1]
  · intro rb
    simp only [fn73_b0, Int.lt_irrefl, vAll, List.foldl_nil, List.foldl_cons, resultsOf, resultList, resultOf, zBV, splice, PV.remade, St.freezeAt, St.freezeBox, St.freezeCap, PV.single, plain, act, dstOf, if_true, if_false, reduceCtorEq, St.get, St.put, St.pvOf, St.putRow, St.consume, St.freeze, St.row, St.elems, St.grab, St.takeRow, St.setRow, St.place, St.optPv, St.setCell, St.setCellRow, binPV, intBin, unPV, BV.val, Nat.reduceEqDiff, bound, consumeAll, buildParts, capsOf, capOf, List.append_nil, Nat.reduceAdd, Nat.reduceLT, Nat.reduceLeDiff, beq_self_eq_true, List.length_map, Nat.beq, dcall, dcallP, List.mapM_cons, St.snapFn, St.snap, St.layAll, St.lay, St.freezeArg, St.freezeArg1]
    simp only [List.drop_length, List.any_nil, Bool.false_eq_true, if_false]
    rfl
theorem cal73 {α : Type} {enc : α → PV} {l : List α} {p : α → Bool} {gf : Nat} {caps : List PV} (hp : ∀ x ∈ l, cal env gf (enc x :: caps) = some [(.bool (p x), false)]) (hs : ∀ x, part (enc x).cells 0 none = some (enc x)) (hl : l.length ≤ lim) :
    cal env 73 [.list 1 (l.map enc), .func gf caps] = some [(.int .i64 (idxI p l), false)] := by
  rw [cal_code env73 rfl]; simp only [fn73]; simp only [start, z_map_cons, z_map_nil, z_len_cons, z_len_nil, z_repl_zero, z_repl_succ, z_cons_app, z_nil_app, Nat.reduceAdd, Nat.reduceSub]
  simp only [List.length_map, vAll, List.foldl_nil, List.foldl_cons, resultsOf, resultList, resultOf, zBV, splice, PV.remade, St.freezeAt, St.freezeBox, St.freezeCap, PV.single, plain, act, dstOf, if_true, if_false, reduceCtorEq, St.get, St.put, St.pvOf, St.putRow, St.consume, St.freeze, St.row, St.elems, St.grab, St.takeRow, St.setRow, St.place, St.optPv, St.setCell, St.setCellRow, binPV, intBin, unPV, BV.val, Nat.reduceEqDiff, bound, consumeAll, buildParts, capsOf, capOf, List.append_nil, Nat.reduceAdd, Nat.reduceLT, Nat.reduceLeDiff, beq_self_eq_true, List.length_map, Nat.beq, dcall, dcallP, List.mapM_cons, St.snapFn, St.snap, St.layAll, St.lay, St.freezeArg, St.freezeArg1]
  rw [loop73 hp hs hl]
  rotate_left
  · rfl
  · simp only [idxI]
    split <;> simp only [vAll, List.foldl_nil, List.foldl_cons, resultsOf, resultList, resultOf, zBV, splice, PV.remade, St.freezeAt, St.freezeBox, St.freezeCap, PV.single, plain, act, dstOf, if_true, if_false, reduceCtorEq, St.get, St.put, St.pvOf, St.putRow, St.consume, St.freeze, St.row, St.elems, St.grab, St.takeRow, St.setRow, St.place, St.optPv, St.setCell, St.setCellRow, binPV, intBin, unPV, BV.val, Nat.reduceEqDiff, bound, consumeAll, buildParts, capsOf, capOf, List.append_nil, Nat.reduceAdd, Nat.reduceLT, Nat.reduceLeDiff, beq_self_eq_true, List.length_map, Nat.beq, dcall, dcallP, List.mapM_cons, St.snapFn, St.snap, St.layAll, St.lay, St.freezeArg, St.freezeArg1]
theorem cal30 {α : Type} {enc : α → PV} {l : List α} {p : α → Bool} {gf : Nat} {caps : List PV} (hp : ∀ x ∈ l, cal env gf (enc x :: caps) = some [(.bool (p x), false)]) (hs : ∀ x, part (enc x).cells 0 none = some (enc x)) (hl : l.length ≤ lim) :
    cal env 30 [.list 1 (l.map enc), .func gf caps] = some [(.bool (l.any p), false)] := by
  rw [cal_code env30 rfl]; simp only [fn30]; simp only [start, z_map_cons, z_map_nil, z_len_cons, z_len_nil, z_repl_zero, z_repl_succ, z_cons_app, z_nil_app, Nat.reduceAdd, Nat.reduceSub]
  simp only [cal73 hp hs hl, idxI_nonneg, vAll, List.foldl_nil, List.foldl_cons, resultsOf, resultList, resultOf, zBV, splice, PV.remade, St.freezeAt, St.freezeBox, St.freezeCap, PV.single, plain, act, dstOf, if_true, if_false, reduceCtorEq, St.get, St.put, St.pvOf, St.putRow, St.consume, St.freeze, St.row, St.elems, St.grab, St.takeRow, St.setRow, St.place, St.optPv, St.setCell, St.setCellRow, binPV, intBin, unPV, BV.val, Nat.reduceEqDiff, bound, consumeAll, buildParts, capsOf, capOf, List.append_nil, Nat.reduceAdd, Nat.reduceLT, Nat.reduceLeDiff, beq_self_eq_true, List.length_map, Nat.beq, dcall, dcallP, List.mapM_cons, St.snapFn, St.snap, St.layAll, St.lay, St.freezeArg, St.freezeArg1]
theorem loop20 {l m : List Int} (hlm : l.length = m.length) (hl : l.length ≤ lim)
   {st : St} (h : st.head [0, 1, 12, 13] st.boxes.length = some ⟨[.pv (.list 1 (l.map eI)), .pv (.list 1 (m.map eI)), .any, .any, .any, .any, .any, .any, .any, .any, .any, .any, .pv (.int .i64 l.length), .pv (.int .i64 (0 : Nat)), .any, .any, .any, .any, .any, .any, .any, .any, .any, .any, .any, .any], [], [], none⟩) :
   den env fn20_l1 st = if l = m then some (.normal, ⟨[.any, .any, .any, .any, .any, .any, .any, .any, .any, .any, .any, .any, .any, .any, .any, .any, .any, .any, .any, .any, .any, .any, .any, .any, .any, .any], [], [], none⟩) else some (.ret, ⟨[.any, .any, .any, .any, .pv (.bool false), .any, .any, .any, .any, .any, .any, .any, .any, .any, .any, .any, .any, .any, .any, .any, .any, .any, .any, .any, .any, .any], [], [], none⟩) := by
  unfold fn20_l1
  rw [clean_up l.length (fun i => ⟨[.pv (.list 1 (l.map eI)), .pv (.list 1 (m.map eI)), .any, .any, .any, .any, .any, .any, .any, .any, .any, .any, .pv (.int .i64 l.length), .pv (.int .i64 i), .any, .any, .any, .any, .any, .any, .any, .any, .any, .any, .any, .any], [], [], none⟩)
    (fun i => if l.drop i = m.drop i then some (.normal, ⟨[.any, .any, .any, .any, .any, .any, .any, .any, .any, .any, .any, .any, .any, .any, .any, .any, .any, .any, .any, .any, .any, .any, .any, .any, .any, .any], [], [], none⟩) else some (.ret, ⟨[.any, .any, .any, .any, .pv (.bool false), .any, .any, .any, .any, .any, .any, .any, .any, .any, .any, .any, .any, .any, .any, .any, .any, .any, .any, .any, .any, .any], [], [], none⟩)) h (fun _ => rfl) (fun _ => rfl) ?_ ?_]
  · simp only [List.drop_zero]
  · intro i rb hi ih
    have hi1 := i64_next hi hl
    have hj : i < m.length := by omega
    have F1 : ((i : Int) < (l.length : Int)) = True := eq_true (by omega)
    simp only [fn20_b0, F1, List.length_map, index_nat hi, index_nat hj, List.getElem?_map, List.getElem?_eq_getElem hi, List.getElem?_eq_getElem hj, eI, eSec, eExt, part_sec, secPV_length, eqCells_sec, eqCells, vAll, List.foldl_nil, List.foldl_cons, resultsOf, resultList, resultOf, zBV, splice, PV.remade, St.freezeAt, St.freezeBox, St.freezeCap, PV.single, plain, act, dstOf, if_true, if_false, reduceCtorEq, St.get, St.put, St.pvOf, St.putRow, St.consume, St.freeze, St.row, St.elems, St.grab, St.takeRow, St.setRow, St.place, St.optPv, St.setCell, St.setCellRow, binPV, intBin, unPV, BV.val, Nat.reduceEqDiff, bound, consumeAll, buildParts, capsOf, capOf, List.append_nil, Nat.reduceAdd, Nat.reduceLT, Nat.reduceLeDiff, beq_self_eq_true, List.length_map, Nat.beq, dcall, dcallP, List.mapM_cons, St.snapFn, St.snap, St.layAll, St.lay, St.freezeArg, St.freezeArg1]
    (try simp only [bcase_bind, bcase_map, tail_bcase]); refine bcase_split (fun hb => ?_) (fun hb => ?_) <;> try simp only [hb,  List.isEmpty_nil, val_pvs, frozen_pvs, msnoc_len, msnoc_get, msnoc_set, msnoc_take, Int.le_refl, take_map_all, Nat.le_refl, St.freezeRows, BV.frozen, List.take_length, List.take_append_drop, z_repl_zero, Int.toNat_zero, true_and, and_true, and_self, eq_self, z_take_zero, List.drop_nil, List.take_nil, vAll, List.foldl_nil, List.foldl_cons, resultsOf, resultList, resultOf, zBV, splice, PV.remade, St.freezeAt, St.freezeBox, St.freezeCap, PV.single, plain, act, dstOf, if_true, if_false, reduceCtorEq, St.get, St.put, St.pvOf, St.putRow, St.consume, St.freeze, St.row, St.elems, St.grab, St.takeRow, St.setRow, St.place, St.optPv, St.setCell, St.setCellRow, binPV, intBin, unPV, BV.val, Nat.reduceEqDiff, bound, consumeAll, buildParts, capsOf, capOf, List.append_nil, Nat.reduceAdd, Nat.reduceLT, Nat.reduceLeDiff, beq_self_eq_true, List.length_map, Nat.beq, dcall, dcallP, List.mapM_cons, St.snapFn, St.snap, St.layAll, St.lay, St.freezeArg, St.freezeArg1]
    · rw [ih _ (by simp only [hi1]; rfl), List.drop_eq_getElem_cons hi, List.drop_eq_getElem_cons hj]
      have e : l[i] = m[i] := by
        revert hb
        generalize l[i] = x
        generalize m[i] = y
        first | (intro hb; simpa using hb) | (cases x; cases y; intro hb; simpa using hb)
      simp only [e, List.cons.injEq, true_and]
    · rw [List.drop_eq_getElem_cons hi, List.drop_eq_getElem_cons hj, if_neg (fun e => ?_)]
      · rfl
      · have e := (List.cons.inj e).1
        rw [e] at hb
        simp at hb
  · intro rb
    simp only [fn20_b0, Int.lt_irrefl, vAll, List.foldl_nil, List.foldl_cons, resultsOf, resultList, resultOf, zBV, splice, PV.remade, St.freezeAt, St.freezeBox, St.freezeCap, PV.single, plain, act, dstOf, if_true, if_false, reduceCtorEq, St.get, St.put, St.pvOf, St.putRow, St.consume, St.freeze, St.row, St.elems, St.grab, St.takeRow, St.setRow, St.place, St.optPv, St.setCell, St.setCellRow, binPV, intBin, unPV, BV.val, Nat.reduceEqDiff, bound, consumeAll, buildParts, capsOf, capOf, List.append_nil, Nat.reduceAdd, Nat.reduceLT, Nat.reduceLeDiff, beq_self_eq_true, List.length_map, Nat.beq, dcall, dcallP, List.mapM_cons, St.snapFn, St.snap, St.layAll, St.lay, St.freezeArg, St.freezeArg1]
    rw [List.drop_length, hlm, List.drop_length, if_pos rfl]
    rfl
theorem cal20 {l m : List Int} (hl : l.length ≤ lim) :
    cal env 20 [.list 1 (l.map eI), .list 1 (m.map eI)] = some [(.bool (decide (l = m)), false)] := by
  rw [cal_code env20 rfl]; simp only [fn20]; simp only [start, z_map_cons, z_map_nil, z_len_cons, z_len_nil, z_repl_zero, z_repl_succ, z_cons_app, z_nil_app, Nat.reduceAdd, Nat.reduceSub]
  simp only [List.length_map, vAll, List.foldl_nil, List.foldl_cons, resultsOf, resultList, resultOf, zBV, splice, PV.remade, St.freezeAt, St.freezeBox, St.freezeCap, PV.single, plain, act, dstOf, if_true, if_false, reduceCtorEq, St.get, St.put, St.pvOf, St.putRow, St.consume, St.freeze, St.row, St.elems, St.grab, St.takeRow, St.setRow, St.place, St.optPv, St.setCell, St.setCellRow, binPV, intBin, unPV, BV.val, Nat.reduceEqDiff, bound, consumeAll, buildParts, capsOf, capOf, List.append_nil, Nat.reduceAdd, Nat.reduceLT, Nat.reduceLeDiff, beq_self_eq_true, List.length_map, Nat.beq, dcall, dcallP, List.mapM_cons, St.snapFn, St.snap, St.layAll, St.lay, St.freezeArg, St.freezeArg1]
  (try simp only [bcase_bind, bcase_map, tail_bcase]); refine bcase_split (fun hb => ?_) (fun hb => ?_) <;> try simp only [hb,  List.isEmpty_nil, val_pvs, frozen_pvs, msnoc_len, msnoc_get, msnoc_set, msnoc_take, Int.le_refl, take_map_all, Nat.le_refl, St.freezeRows, BV.frozen, List.take_length, List.take_append_drop, z_repl_zero, Int.toNat_zero, true_and, and_true, and_self, eq_self, z_take_zero, List.drop_nil, List.take_nil, vAll, List.foldl_nil, List.foldl_cons, resultsOf, resultList, resultOf, zBV, splice, PV.remade, St.freezeAt, St.freezeBox, St.freezeCap, PV.single, plain, act, dstOf, if_true, if_false, reduceCtorEq, St.get, St.put, St.pvOf, St.putRow, St.consume, St.freeze, St.row, St.elems, St.grab, St.takeRow, St.setRow, St.place, St.optPv, St.setCell, St.setCellRow, binPV, intBin, unPV, BV.val, Nat.reduceEqDiff, bound, consumeAll, buildParts, capsOf, capOf, List.append_nil, Nat.reduceAdd, Nat.reduceLT, Nat.reduceLeDiff, beq_self_eq_true, List.length_map, Nat.beq, dcall, dcallP, List.mapM_cons, St.snapFn, St.snap, St.layAll, St.lay, St.freezeArg, St.freezeArg1]
  · have hlm : l.length = m.length := by simp at hb; omega
    rw [loop20 hlm hl]
    rotate_left
    · rfl
    · by_cases e : l = m
      · simp only [e, vAll, List.foldl_nil, List.foldl_cons, resultsOf, resultList, resultOf, zBV, splice, PV.remade, St.freezeAt, St.freezeBox, St.freezeCap, PV.single, plain, act, dstOf, if_true, if_false, reduceCtorEq, St.get, St.put, St.pvOf, St.putRow, St.consume, St.freeze, St.row, St.elems, St.grab, St.takeRow, St.setRow, St.place, St.optPv, St.setCell, St.setCellRow, binPV, intBin, unPV, BV.val, Nat.reduceEqDiff, bound, consumeAll, buildParts, capsOf, capOf, List.append_nil, Nat.reduceAdd, Nat.reduceLT, Nat.reduceLeDiff, beq_self_eq_true, List.length_map, Nat.beq, dcall, dcallP, List.mapM_cons, St.snapFn, St.snap, St.layAll, St.lay, St.freezeArg, St.freezeArg1]
      · simp only [e, vAll, List.foldl_nil, List.foldl_cons, resultsOf, resultList, resultOf, zBV, splice, PV.remade, St.freezeAt, St.freezeBox, St.freezeCap, PV.single, plain, act, dstOf, if_true, if_false, reduceCtorEq, St.get, St.put, St.pvOf, St.putRow, St.consume, St.freeze, St.row, St.elems, St.grab, St.takeRow, St.setRow, St.place, St.optPv, St.setCell, St.setCellRow, binPV, intBin, unPV, BV.val, Nat.reduceEqDiff, bound, consumeAll, buildParts, capsOf, capOf, List.append_nil, Nat.reduceAdd, Nat.reduceLT, Nat.reduceLeDiff, beq_self_eq_true, List.length_map, Nat.beq, dcall, dcallP, List.mapM_cons, St.snapFn, St.snap, St.layAll, St.lay, St.freezeArg, St.freezeArg1]
  · have : l ≠ m := fun e => by subst e; simp at hb
    simp only [this, vAll, List.foldl_nil, List.foldl_cons, resultsOf, resultList, resultOf, zBV, splice, PV.remade, St.freezeAt, St.freezeBox, St.freezeCap, PV.single, plain, act, dstOf, if_true, if_false, reduceCtorEq, St.get, St.put, St.pvOf, St.putRow, St.consume, St.freeze, St.row, St.elems, St.grab, St.takeRow, St.setRow, St.place, St.optPv, St.setCell, St.setCellRow, binPV, intBin, unPV, BV.val, Nat.reduceEqDiff, bound, consumeAll, buildParts, capsOf, capOf, List.append_nil, Nat.reduceAdd, Nat.reduceLT, Nat.reduceLeDiff, beq_self_eq_true, List.length_map, Nat.beq, dcall, dcallP, List.mapM_cons, St.snapFn, St.snap, St.layAll, St.lay, St.freezeArg, St.freezeArg1]
theorem loop78 {l m : List Sec} (hlm : l.length = m.length) (hl : l.length ≤ lim)
   {st : St} (h : st.head [0, 1, 12, 13] st.boxes.length = some ⟨[.pv (.list 8 (l.map eSec)), .pv (.list 8 (m.map eSec)), .any, .any, .any, .any, .any, .any, .any, .any, .any, .any, .pv (.int .i64 l.length), .pv (.int .i64 (0 : Nat)), .any, .any, .any, .any, .any, .any, .any, .any, .any, .any, .any, .any], [], [], none⟩) :
   den env fn78_l1 st = if l = m then some (.normal, ⟨[.any, .any, .any, .any, .any, .any, .any, .any, .any, .any, .any, .any, .any, .any, .any, .any, .any, .any, .any, .any, .any, .any, .any, .any, .any, .any], [], [], none⟩) else some (.ret, ⟨[.any, .any, .any, .any, .pv (.bool false), .any, .any, .any, .any, .any, .any, .any, .any, .any, .any, .any, .any, .any, .any, .any, .any, .any, .any, .any, .any, .any], [], [], none⟩) := by
  unfold fn78_l1
  rw [clean_up l.length (fun i => ⟨[.pv (.list 8 (l.map eSec)), .pv (.list 8 (m.map eSec)), .any, .any, .any, .any, .any, .any, .any, .any, .any, .any, .pv (.int .i64 l.length), .pv (.int .i64 i), .any, .any, .any, .any, .any, .any, .any, .any, .any, .any, .any, .any], [], [], none⟩)
    (fun i => if l.drop i = m.drop i then some (.normal, ⟨[.any, .any, .any, .any, .any, .any, .any, .any, .any, .any, .any, .any, .any, .any, .any, .any, .any, .any, .any, .any, .any, .any, .any, .any, .any, .any], [], [], none⟩) else some (.ret, ⟨[.any, .any, .any, .any, .pv (.bool false), .any, .any, .any, .any, .any, .any, .any, .any, .any, .any, .any, .any, .any, .any, .any, .any, .any, .any, .any, .any, .any], [], [], none⟩)) h (fun _ => rfl) (fun _ => rfl) ?_ ?_]
  · simp only [List.drop_zero]
  · intro i rb hi ih
    have hi1 := i64_next hi hl
    have hj : i < m.length := by omega
    have F1 : ((i : Int) < (l.length : Int)) = True := eq_true (by omega)
    simp only [fn78_b0, F1, List.length_map, index_nat hi, index_nat hj, List.getElem?_map, List.getElem?_eq_getElem hi, List.getElem?_eq_getElem hj, eI, eSec, eExt, part_sec, secPV_length, eqCells_sec, eqCells, vAll, List.foldl_nil, List.foldl_cons, resultsOf, resultList, resultOf, zBV, splice, PV.remade, St.freezeAt, St.freezeBox, St.freezeCap, PV.single, plain, act, dstOf, if_true, if_false, reduceCtorEq, St.get, St.put, St.pvOf, St.putRow, St.consume, St.freeze, St.row, St.elems, St.grab, St.takeRow, St.setRow, St.place, St.optPv, St.setCell, St.setCellRow, binPV, intBin, unPV, BV.val, Nat.reduceEqDiff, bound, consumeAll, buildParts, capsOf, capOf, List.append_nil, Nat.reduceAdd, Nat.reduceLT, Nat.reduceLeDiff, beq_self_eq_true, List.length_map, Nat.beq, dcall, dcallP, List.mapM_cons, St.snapFn, St.snap, St.layAll, St.lay, St.freezeArg, St.freezeArg1]
    (try simp only [bcase_bind, bcase_map, tail_bcase]); refine bcase_split (fun hb => ?_) (fun hb => ?_) <;> try simp only [hb,  List.isEmpty_nil, val_pvs, frozen_pvs, msnoc_len, msnoc_get, msnoc_set, msnoc_take, Int.le_refl, take_map_all, Nat.le_refl, St.freezeRows, BV.frozen, List.take_length, List.take_append_drop, z_repl_zero, Int.toNat_zero, true_and, and_true, and_self, eq_self, z_take_zero, List.drop_nil, List.take_nil, vAll, List.foldl_nil, List.foldl_cons, resultsOf, resultList, resultOf, zBV, splice, PV.remade, St.freezeAt, St.freezeBox, St.freezeCap, PV.single, plain, act, dstOf, if_true, if_false, reduceCtorEq, St.get, St.put, St.pvOf, St.putRow, St.consume, St.freeze, St.row, St.elems, St.grab, St.takeRow, St.setRow, St.place, St.optPv, St.setCell, St.setCellRow, binPV, intBin, unPV, BV.val, Nat.reduceEqDiff, bound, consumeAll, buildParts, capsOf, capOf, List.append_nil, Nat.reduceAdd, Nat.reduceLT, Nat.reduceLeDiff, beq_self_eq_true, List.length_map, Nat.beq, dcall, dcallP, List.mapM_cons, St.snapFn, St.snap, St.layAll, St.lay, St.freezeArg, St.freezeArg1]
    · rw [ih _ (by simp only [hi1]; rfl), List.drop_eq_getElem_cons hi, List.drop_eq_getElem_cons hj]
      have e : l[i] = m[i] := by
        revert hb
        generalize l[i] = x
        generalize m[i] = y
        first | (intro hb; simpa using hb) | (cases x; cases y; intro hb; simpa using hb)
      simp only [e, List.cons.injEq, true_and]
    · rw [List.drop_eq_getElem_cons hi, List.drop_eq_getElem_cons hj, if_neg (fun e => ?_)]
      · rfl
      · have e := (List.cons.inj e).1
        rw [e] at hb
        simp at hb
  · intro rb
    simp only [fn78_b0, Int.lt_irrefl, vAll, List.foldl_nil, List.foldl_cons, resultsOf, resultList, resultOf, zBV, splice, PV.remade, St.freezeAt, St.freezeBox, St.freezeCap, PV.single, plain, act, dstOf, if_true, if_false, reduceCtorEq, St.get, St.put, St.pvOf, St.putRow, St.consume, St.freeze, St.row, St.elems, St.grab, St.takeRow, St.setRow, St.place, St.optPv, St.setCell, St.setCellRow, binPV, intBin, unPV, BV.val, Nat.reduceEqDiff, bound, consumeAll, buildParts, capsOf, capOf, List.append_nil, Nat.reduceAdd, Nat.reduceLT, Nat.reduceLeDiff, beq_self_eq_true, List.length_map, Nat.beq, dcall, dcallP, List.mapM_cons, St.snapFn, St.snap, St.layAll, St.lay, St.freezeArg, St.freezeArg1]
    rw [List.drop_length, hlm, List.drop_length, if_pos rfl]
    rfl
theorem cal78 {l m : List Sec} (hl : l.length ≤ lim) :
    cal env 78 [.list 8 (l.map eSec), .list 8 (m.map eSec)] = some [(.bool (decide (l = m)), false)] := by
  rw [cal_code env78 rfl]; simp only [fn78]; simp only [start, z_map_cons, z_map_nil, z_len_cons, z_len_nil, z_repl_zero, z_repl_succ, z_cons_app, z_nil_app, Nat.reduceAdd, Nat.reduceSub]
  simp only [List.length_map, vAll, List.foldl_nil, List.foldl_cons, resultsOf, resultList, resultOf, zBV, splice, PV.remade, St.freezeAt, St.freezeBox, St.freezeCap, PV.single, plain, act, dstOf, if_true, if_false, reduceCtorEq, St.get, St.put, St.pvOf, St.putRow, St.consume, St.freeze, St.row, St.elems, St.grab, St.takeRow, St.setRow, St.place, St.optPv, St.setCell, St.setCellRow, binPV, intBin, unPV, BV.val, Nat.reduceEqDiff, bound, consumeAll, buildParts, capsOf, capOf, List.append_nil, Nat.reduceAdd, Nat.reduceLT, Nat.reduceLeDiff, beq_self_eq_true, List.length_map, Nat.beq, dcall, dcallP, List.mapM_cons, St.snapFn, St.snap, St.layAll, St.lay, St.freezeArg, St.freezeArg1]
  (try simp only [bcase_bind, bcase_map, tail_bcase]); refine bcase_split (fun hb => ?_) (fun hb => ?_) <;> try simp only [hb,  List.isEmpty_nil, val_pvs, frozen_pvs, msnoc_len, msnoc_get, msnoc_set, msnoc_take, Int.le_refl, take_map_all, Nat.le_refl, St.freezeRows, BV.frozen, List.take_length, List.take_append_drop, z_repl_zero, Int.toNat_zero, true_and, and_true, and_self, eq_self, z_take_zero, List.drop_nil, List.take_nil, vAll, List.foldl_nil, List.foldl_cons, resultsOf, resultList, resultOf, zBV, splice, PV.remade, St.freezeAt, St.freezeBox, St.freezeCap, PV.single, plain, act, dstOf, if_true, if_false, reduceCtorEq, St.get, St.put, St.pvOf, St.putRow, St.consume, St.freeze, St.row, St.elems, St.grab, St.takeRow, St.setRow, St.place, St.optPv, St.setCell, St.setCellRow, binPV, intBin, unPV, BV.val, Nat.reduceEqDiff, bound, consumeAll, buildParts, capsOf, capOf, List.append_nil, Nat.reduceAdd, Nat.reduceLT, Nat.reduceLeDiff, beq_self_eq_true, List.length_map, Nat.beq, dcall, dcallP, List.mapM_cons, St.snapFn, St.snap, St.layAll, St.lay, St.freezeArg, St.freezeArg1]
  · have hlm : l.length = m.length := by simp at hb; omega
    rw [loop78 hlm hl]
    rotate_left
    · rfl
    · by_cases e : l = m
      · simp only [e, vAll, List.foldl_nil, List.foldl_cons, resultsOf, resultList, resultOf, zBV, splice, PV.remade, St.freezeAt, St.freezeBox, St.freezeCap, PV.single, plain, act, dstOf, if_true, if_false, reduceCtorEq, St.get, St.put, St.pvOf, St.putRow, St.consume, St.freeze, St.row, St.elems, St.grab, St.takeRow, St.setRow, St.place, St.optPv, St.setCell, St.setCellRow, binPV, intBin, unPV, BV.val, Nat.reduceEqDiff, bound, consumeAll, buildParts, capsOf, capOf, List.append_nil, Nat.reduceAdd, Nat.reduceLT, Nat.reduceLeDiff, beq_self_eq_true, List.length_map, Nat.beq, dcall, dcallP, List.mapM_cons, St.snapFn, St.snap, St.layAll, St.lay, St.freezeArg, St.freezeArg1]
      · simp only [e, vAll, List.foldl_nil, List.foldl_cons, resultsOf, resultList, resultOf, zBV, splice, PV.remade, St.freezeAt, St.freezeBox, St.freezeCap, PV.single, plain, act, dstOf, if_true, if_false, reduceCtorEq, St.get, St.put, St.pvOf, St.putRow, St.consume, St.freeze, St.row, St.elems, St.grab, St.takeRow, St.setRow, St.place, St.optPv, St.setCell, St.setCellRow, binPV, intBin, unPV, BV.val, Nat.reduceEqDiff, bound, consumeAll, buildParts, capsOf, capOf, List.append_nil, Nat.reduceAdd, Nat.reduceLT, Nat.reduceLeDiff, beq_self_eq_true, List.length_map, Nat.beq, dcall, dcallP, List.mapM_cons, St.snapFn, St.snap, St.layAll, St.lay, St.freezeArg, St.freezeArg1]
  · have : l ≠ m := fun e => by subst e; simp at hb
    simp only [this, vAll, List.foldl_nil, List.foldl_cons, resultsOf, resultList, resultOf, zBV, splice, PV.remade, St.freezeAt, St.freezeBox, St.freezeCap, PV.single, plain, act, dstOf, if_true, if_false, reduceCtorEq, St.get, St.put, St.pvOf, St.putRow, St.consume, St.freeze, St.row, St.elems, St.grab, St.takeRow, St.setRow, St.place, St.optPv, St.setCell, St.setCellRow, binPV, intBin, unPV, BV.val, Nat.reduceEqDiff, bound, consumeAll, buildParts, capsOf, capOf, List.append_nil, Nat.reduceAdd, Nat.reduceLT, Nat.reduceLeDiff, beq_self_eq_true, List.length_map, Nat.beq, dcall, dcallP, List.mapM_cons, St.snapFn, St.snap, St.layAll, St.lay, St.freezeArg, St.freezeArg1]
theorem loop77 {α β : Type} {enc : α → PV} {enc2 : β → PV} {eq : α → β → Bool} {l : List α} {m : List β} {gf : Nat} {caps : List PV} (hp : ∀ x ∈ l, ∀ y ∈ m, cal env gf (enc x :: enc2 y :: caps) = some [(.bool (eq x y), false)]) (hs : ∀ x, part (enc x).cells 0 none = some (enc x)) (hs2 : ∀ x, part (enc2 x).cells 0 none = some (enc2 x)) (hlm : l.length = m.length) (hl : l.length ≤ lim)
   {st : St} (h : st.head [0, 1, 2, 15, 16, 17] st.boxes.length = some ⟨[.pv (.list 1 (l.map enc)), .pv (.list 1 (m.map enc2)), .pv (.func gf caps), .any, .any, .any, .any, .any, .any, .any, .any, .any, .any, .any, .any, .pv (.list 1 (l.map enc)), .pv (.int .i64 l.length), .pv (.int .i64 (0 : Nat)), .any, .any, .any, .any, .any, .any, .any, .any, .any, .any, .any, .any, .any, .any], [], [], none⟩) :
   den env fn77_l1 st = if (l.zip m).all (fun q => eq q.1 q.2) then some (.normal, ⟨[.any, .any, .any, .any, .any, .any, .any, .any, .any, .any, .any, .any, .any, .any, .any, .any, .any, .any, .any, .any, .any, .any, .any, .any, .any, .any, .any, .any, .any, .any, .any, .any], [], [], none⟩) else some (.ret, ⟨[.any, .any, .any, .any, .any, .any, .pv (.bool false), .any, .any, .any, .any, .any, .any, .any, .any, .any, .any, .any, .any, .any, .any, .any, .any, .any, .any, .any, .any, .any, .any, .any, .any, .any], [], [], none⟩) := by
  unfold fn77_l1
  rw [clean_up l.length (fun i => ⟨[.pv (.list 1 (l.map enc)), .pv (.list 1 (m.map enc2)), .pv (.func gf caps), .any, .any, .any, .any, .any, .any, .any, .any, .any, .any, .any, .any, .pv (.list 1 (l.map enc)), .pv (.int .i64 l.length), .pv (.int .i64 i), .any, .any, .any, .any, .any, .any, .any, .any, .any, .any, .any, .any, .any, .any], [], [], none⟩)
    (fun i => if ((l.drop i).zip (m.drop i)).all (fun q => eq q.1 q.2) then some (.normal, ⟨[.any, .any, .any, .any, .any, .any, .any, .any, .any, .any, .any, .any, .any, .any, .any, .any, .any, .any, .any, .any, .any, .any, .any, .any, .any, .any, .any, .any, .any, .any, .any, .any], [], [], none⟩) else some (.ret, ⟨[.any, .any, .any, .any, .any, .any, .pv (.bool false), .any, .any, .any, .any, .any, .any, .any, .any, .any, .any, .any, .any, .any, .any, .any, .any, .any, .any, .any, .any, .any, .any, .any, .any, .any], [], [], none⟩)) h (fun _ => rfl) (fun _ => rfl) ?_ ?_]
  · simp only [List.drop_zero]
  · intro i rb hi ih
    have hi1 := i64_next hi hl
    have hj : i < m.length := by omega
    have F1 : ((i : Int) < (l.length : Int)) = True := eq_true (by omega)
    simp only [fn77_b0, F1, List.length_map, index_nat hi, index_nat hj, List.getElem?_map, List.getElem?_eq_getElem hi, List.getElem?_eq_getElem hj, hs, hs2, hp _ (List.getElem_mem hi) _ (List.getElem_mem hj), vAll, List.foldl_nil, List.foldl_cons, resultsOf, resultList, resultOf, zBV, splice, PV.remade, St.freezeAt, St.freezeBox, St.freezeCap, PV.single, plain, act, dstOf, if_true, if_false, reduceCtorEq, St.get, St.put, St.pvOf, St.putRow, St.consume, St.freeze, St.row, St.elems, St.grab, St.takeRow, St.setRow, St.place, St.optPv, St.setCell, St.setCellRow, binPV, intBin, unPV, BV.val, Nat.reduceEqDiff, bound, consumeAll, buildParts, capsOf, capOf, List.append_nil, Nat.reduceAdd, Nat.reduceLT, Nat.reduceLeDiff, beq_self_eq_true, List.length_map, Nat.beq, dcall, dcallP, List.mapM_cons, St.snapFn, St.snap, St.layAll, St.lay, St.freezeArg, St.freezeArg1]
    (try simp only [bcase_bind, bcase_map, tail_bcase]); refine bcase_split (fun hb => ?_) (fun hb => ?_) <;> try simp only [hb,  List.isEmpty_nil, val_pvs, frozen_pvs, msnoc_len, msnoc_get, msnoc_set, msnoc_take, Int.le_refl, take_map_all, Nat.le_refl, St.freezeRows, BV.frozen, List.take_length, List.take_append_drop, z_repl_zero, Int.toNat_zero, true_and, and_true, and_self, eq_self, z_take_zero, List.drop_nil, List.take_nil, vAll, List.foldl_nil, List.foldl_cons, resultsOf, resultList, resultOf, zBV, splice, PV.remade, St.freezeAt, St.freezeBox, St.freezeCap, PV.single, plain, act, dstOf, if_true, if_false, reduceCtorEq, St.get, St.put, St.pvOf, St.putRow, St.consume, St.freeze, St.row, St.elems, St.grab, St.takeRow, St.setRow, St.place, St.optPv, St.setCell, St.setCellRow, binPV, intBin, unPV, BV.val, Nat.reduceEqDiff, bound, consumeAll, buildParts, capsOf, capOf, List.append_nil, Nat.reduceAdd, Nat.reduceLT, Nat.reduceLeDiff, beq_self_eq_true, List.length_map, Nat.beq, dcall, dcallP, List.mapM_cons, St.snapFn, St.snap, St.layAll, St.lay, St.freezeArg, St.freezeArg1]
    · rw [ih _ (by simp only [hi1]; rfl), List.drop_eq_getElem_cons hi, List.drop_eq_getElem_cons hj]
      simp only [List.zip_cons_cons, List.all_cons, hb, Bool.true_and]
    · rw [List.drop_eq_getElem_cons hi, List.drop_eq_getElem_cons hj]
      simp only [List.zip_cons_cons, List.all_cons, hb, Bool.false_and, Bool.false_eq_true, if_false]
      rfl
  · intro rb
    simp only [fn77_b0, Int.lt_irrefl, vAll, List.foldl_nil, List.foldl_cons, resultsOf, resultList, resultOf, zBV, splice, PV.remade, St.freezeAt, St.freezeBox, St.freezeCap, PV.single, plain, act, dstOf, if_true, if_false, reduceCtorEq, St.get, St.put, St.pvOf, St.putRow, St.consume, St.freeze, St.row, St.elems, St.grab, St.takeRow, St.setRow, St.place, St.optPv, St.setCell, St.setCellRow, binPV, intBin, unPV, BV.val, Nat.reduceEqDiff, bound, consumeAll, buildParts, capsOf, capOf, List.append_nil, Nat.reduceAdd, Nat.reduceLT, Nat.reduceLeDiff, beq_self_eq_true, List.length_map, Nat.beq, dcall, dcallP, List.mapM_cons, St.snapFn, St.snap, St.layAll, St.lay, St.freezeArg, St.freezeArg1]
    rw [List.drop_length]
    rfl
theorem cal77 {α β : Type} {enc : α → PV} {enc2 : β → PV} {eq : α → β → Bool} {l : List α} {m : List β} {gf : Nat} {caps : List PV} (hp : ∀ x ∈ l, ∀ y ∈ m, cal env gf (enc x :: enc2 y :: caps) = some [(.bool (eq x y), false)]) (hs : ∀ x, part (enc x).cells 0 none = some (enc x)) (hs2 : ∀ x, part (enc2 x).cells 0 none = some (enc2 x)) (hl : l.length ≤ lim) :
    cal env 77 [.list 1 (l.map enc), .list 1 (m.map enc2), .func gf caps] = some [(.bool (eqF eq l m), false)] := by
  rw [cal_code env77 rfl]; simp only [fn77]; simp only [start, z_map_cons, z_map_nil, z_len_cons, z_len_nil, z_repl_zero, z_repl_succ, z_cons_app, z_nil_app, Nat.reduceAdd, Nat.reduceSub]
  simp only [List.length_map, vAll, List.foldl_nil, List.foldl_cons, resultsOf, resultList, resultOf, zBV, splice, PV.remade, St.freezeAt, St.freezeBox, St.freezeCap, PV.single, plain, act, dstOf, if_true, if_false, reduceCtorEq, St.get, St.put, St.pvOf, St.putRow, St.consume, St.freeze, St.row, St.elems, St.grab, St.takeRow, St.setRow, St.place, St.optPv, St.setCell, St.setCellRow, binPV, intBin, unPV, BV.val, Nat.reduceEqDiff, bound, consumeAll, buildParts, capsOf, capOf, List.append_nil, Nat.reduceAdd, Nat.reduceLT, Nat.reduceLeDiff, beq_self_eq_true, List.length_map, Nat.beq, dcall, dcallP, List.mapM_cons, St.snapFn, St.snap, St.layAll, St.lay, St.freezeArg, St.freezeArg1]
  (try simp only [bcase_bind, bcase_map, tail_bcase]); refine bcase_split (fun hb => ?_) (fun hb => ?_) <;> try simp only [hb,  List.isEmpty_nil, val_pvs, frozen_pvs, msnoc_len, msnoc_get, msnoc_set, msnoc_take, Int.le_refl, take_map_all, Nat.le_refl, St.freezeRows, BV.frozen, List.take_length, List.take_append_drop, z_repl_zero, Int.toNat_zero, true_and, and_true, and_self, eq_self, z_take_zero, List.drop_nil, List.take_nil, vAll, List.foldl_nil, List.foldl_cons, resultsOf, resultList, resultOf, zBV, splice, PV.remade, St.freezeAt, St.freezeBox, St.freezeCap, PV.single, plain, act, dstOf, if_true, if_false, reduceCtorEq, St.get, St.put, St.pvOf, St.putRow, St.consume, St.freeze, St.row, St.elems, St.grab, St.takeRow, St.setRow, St.place, St.optPv, St.setCell, St.setCellRow, binPV, intBin, unPV, BV.val, Nat.reduceEqDiff, bound, consumeAll, buildParts, capsOf, capOf, List.append_nil, Nat.reduceAdd, Nat.reduceLT, Nat.reduceLeDiff, beq_self_eq_true, List.length_map, Nat.beq, dcall, dcallP, List.mapM_cons, St.snapFn, St.snap, St.layAll, St.lay, St.freezeArg, St.freezeArg1]
  · have hlm : l.length = m.length := by simp at hb; omega
    rw [loop77 hp hs hs2 hlm hl]
    rotate_left
    · rfl
    · simp only [eqF, decide_eq_true hlm, Bool.true_and]
      cases (l.zip m).all (fun q => eq q.1 q.2) <;> simp only [vAll, List.foldl_nil, List.foldl_cons, resultsOf, resultList, resultOf, zBV, splice, PV.remade, St.freezeAt, St.freezeBox, St.freezeCap, PV.single, plain, act, dstOf, if_true, if_false, reduceCtorEq, St.get, St.put, St.pvOf, St.putRow, St.consume, St.freeze, St.row, St.elems, St.grab, St.takeRow, St.setRow, St.place, St.optPv, St.setCell, St.setCellRow, binPV, intBin, unPV, BV.val, Nat.reduceEqDiff, bound, consumeAll, buildParts, capsOf, capOf, List.append_nil, Nat.reduceAdd, Nat.reduceLT, Nat.reduceLeDiff, beq_self_eq_true, List.length_map, Nat.beq, dcall, dcallP, List.mapM_cons, St.snapFn, St.snap, St.layAll, St.lay, St.freezeArg, St.freezeArg1]
  · have : ¬ l.length = m.length := fun e => by rw [e] at hb; simp at hb
    simp only [eqF, decide_eq_false this, vAll, List.foldl_nil, List.foldl_cons, resultsOf, resultList, resultOf, zBV, splice, PV.remade, St.freezeAt, St.freezeBox, St.freezeCap, PV.single, plain, act, dstOf, if_true, if_false, reduceCtorEq, St.get, St.put, St.pvOf, St.putRow, St.consume, St.freeze, St.row, St.elems, St.grab, St.takeRow, St.setRow, St.place, St.optPv, St.setCell, St.setCellRow, binPV, intBin, unPV, BV.val, Nat.reduceEqDiff, bound, consumeAll, buildParts, capsOf, capOf, List.append_nil, Nat.reduceAdd, Nat.reduceLT, Nat.reduceLeDiff, beq_self_eq_true, List.length_map, Nat.beq, dcall, dcallP, List.mapM_cons, St.snapFn, St.snap, St.layAll, St.lay, St.freezeArg, St.freezeArg1]
theorem cal94 {es : List PV} (hl : es.length ≤ lim) : cal env 94 [.list 8 es] = some [(.list 8 es, true)] := (cal_ext env94).trans (if_pos ⟨rfl, hl⟩)
end Go.Proofs.Ytpdfhckdmblicaa.V

namespace Go.Proofs.Ytpdfhckdmblicaa.V
set_option linter.all false
theorem loop84 {α : Type} {enc : α → PV} {l : List α} {p : α → Bool} {gf : Nat} {caps : List PV} (hp : ∀ x ∈ l, cal env gf (enc x :: caps) = some [(.bool (p x), false)]) (hs : ∀ x, part (enc x).cells 0 (some 8) = some (enc x)) (hl : l.length ≤ lim)
   {st : St} (h : st.head [0, 1, 7, 8] st.boxes.length = some ⟨[.pv (.list 8 (l.map enc)), .pv (.func gf caps), .any, .any, .any, .any, .any, .pv (.int .i64 l.length), .pv (.int .i64 (0 : Nat)), .any, .any, .any, .any, .any, .any, .any, .any, .any, .any], [], [], none⟩) :
   den env fn84_l1 st = if l.any p then some (.ret, ⟨[.any, .any, .any, .any, .pv (.int .i64 (l.findIdx p)), .any, .any, .any, .any, .any, .any, .any, .any, .any, .any, .any, .any, .any, .any], [], [], none⟩) else some (.normal, ⟨[.any, .any, .any, .any, .any, .any, .any, .any, .any, .any, .any, .any, .any, .any, .any, .any, .any, .any, .any], [], [], none⟩) := by
  unfold fn84_l1
  rw [clean_up l.length (fun i => ⟨[.pv (.list 8 (l.map enc)), .pv (.func gf caps), .any, .any, .any, .any, .any, .pv (.int .i64 l.length), .pv (.int .i64 i), .any, .any, .any, .any, .any, .any, .any, .any, .any, .any], [], [], none⟩)
    (fun i => if (l.drop i).any p then some (.ret, ⟨[.any, .any, .any, .any, .pv (.int .i64 ((i + (l.drop i).findIdx p : Nat) : Int)), .any, .any, .any, .any, .any, .any, .any, .any, .any, .any, .any, .any, .any, .any], [], [], none⟩) else some (.normal, ⟨[.any, .any, .any, .any, .any, .any, .any, .any, .any, .any, .any, .any, .any, .any, .any, .any, .any, .any, .any], [], [], none⟩)) h (fun _ => rfl) (fun _ => rfl) ?_ ?_]
  · simp only [List.drop_zero, Nat.zero_add]
  · intro i rb hi ih
    have hi1 := i64_next hi hl
    have F1 : ((i : Int) < (l.length : Int)) = True := eq_true (by omega)
    simp only [fn84_b0, F1, List.length_map, index_nat hi, List.getElem?_map, List.getElem?_eq_getElem hi, hp _ (List.getElem_mem hi), hs, vAll, List.foldl_nil, List.foldl_cons, resultsOf, resultList, resultOf, zBV, splice, PV.remade, St.freezeAt, St.freezeBox, St.freezeCap, PV.single, plain, act, dstOf, if_true, if_false, reduceCtorEq, St.get, St.put, St.pvOf, St.putRow, St.consume, St.freeze, St.row, St.elems, St.grab, St.takeRow, St.setRow, St.place, St.optPv, St.setCell, St.setCellRow, binPV, intBin, unPV, BV.val, Nat.reduceEqDiff, bound, consumeAll, buildParts, capsOf, capOf, List.append_nil, Nat.reduceAdd, Nat.reduceLT, Nat.reduceLeDiff, beq_self_eq_true, List.length_map, Nat.beq, dcall, dcallP, List.mapM_cons, St.snapFn, St.snap, St.layAll, St.lay, St.freezeArg, St.freezeArg1]
    (try simp only [bcase_bind, bcase_map, tail_bcase]); refine bcase_split (fun hb => ?_) (fun hb => ?_) <;> try simp only [hb,  List.isEmpty_nil, val_pvs, frozen_pvs, msnoc_len, msnoc_get, msnoc_set, msnoc_take, Int.le_refl, take_map_all, Nat.le_refl, St.freezeRows, BV.frozen, List.take_length, List.take_append_drop, z_repl_zero, Int.toNat_zero, true_and, and_true, and_self, eq_self, z_take_zero, List.drop_nil, List.take_nil, vAll, List.foldl_nil, List.foldl_cons, resultsOf, resultList, resultOf, zBV, splice, PV.remade, St.freezeAt, St.freezeBox, St.freezeCap, PV.single, plain, act, dstOf, if_true, if_false, reduceCtorEq, St.get, St.put, St.pvOf, St.putRow, St.consume, St.freeze, St.row, St.elems, St.grab, St.takeRow, St.setRow, St.place, St.optPv, St.setCell, St.setCellRow, binPV, intBin, unPV, BV.val, Nat.reduceEqDiff, bound, consumeAll, buildParts, capsOf, capOf, List.append_nil, Nat.reduceAdd, Nat.reduceLT, Nat.reduceLeDiff, beq_self_eq_true, List.length_map, Nat.beq, dcall, dcallP, List.mapM_cons, St.snapFn, St.snap, St.layAll, St.lay, St.freezeArg, St.freezeArg1]
    · rw [List.drop_eq_getElem_cons hi]
      simp only [List.any_cons, hb, Bool.true_or, if_true, List.findIdx_cons, cond_true, Nat.add_zero]
      rfl
    · rw [ih _ (by simp only [hi1]; rfl), List.drop_eq_getElem_cons hi]
      simp only [List.any_cons, hb, Bool.false_or, List.findIdx_cons, cond_false, Nat.add_assoc, Nat.add_comm 1]
  · intro rb
    simp only [fn84_b0, Int.lt_irrefl, vAll, List.foldl_nil, List.foldl_cons, resultsOf, resultList, resultOf, zBV, splice, PV.remade, St.freezeAt, St.freezeBox, St.freezeCap, PV.single, plain, act, dstOf, if_true, if_false, reduceCtorEq, St.get, St.put, St.pvOf, St.putRow, St.consume, St.freeze, St.row, St.elems, St.grab, St.takeRow, St.setRow, St.place, St.optPv, St.setCell, St.setCellRow, binPV, intBin, unPV, BV.val, Nat.reduceEqDiff, bound, consumeAll, buildParts, capsOf, capOf, List.append_nil, Nat.reduceAdd, Nat.reduceLT, Nat.reduceLeDiff, beq_self_eq_true, List.length_map, Nat.beq, dcall, dcallP, List.mapM_cons, St.snapFn, St.snap, St.layAll, St.lay, St.freezeArg, St.freezeArg1]
    simp only [List.drop_length, List.any_nil, Bool.false_eq_true, if_false]
    rfl
theorem cal84 {α : Type} {enc : α → PV} {l : List α} {p : α → Bool} {gf : Nat} {caps : List PV} (hp : ∀ x ∈ l, cal env gf (enc x :: caps) = some [(.bool (p x), false)]) (hs : ∀ x, part (enc x).cells 0 (some 8) = some (enc x)) (hl : l.length ≤ lim) :
    cal env 84 [.list 8 (l.map enc), .func gf caps] = some [(.int .i64 (idxI p l), false)] := by
  rw [cal_code env84 rfl]; simp only [fn84]; simp only [start, z_map_cons, z_map_nil, z_len_cons, z_len_nil, z_repl_zero, z_repl_succ, z_cons_app, z_nil_app, Nat.reduceAdd, Nat.reduceSub]
  simp only [List.length_map, vAll, List.foldl_nil, List.foldl_cons, resultsOf, resultList, resultOf, zBV, splice, PV.remade, St.freezeAt, St.freezeBox, St.freezeCap, PV.single, plain, act, dstOf, if_true, if_false, reduceCtorEq, St.get, St.put, St.pvOf, St.putRow, St.consume, St.freeze, St.row, St.elems, St.grab, St.takeRow, St.setRow, St.place, St.optPv, St.setCell, St.setCellRow, binPV, intBin, unPV, BV.val, Nat.reduceEqDiff, bound, consumeAll, buildParts, capsOf, capOf, List.append_nil, Nat.reduceAdd, Nat.reduceLT, Nat.reduceLeDiff, beq_self_eq_true, List.length_map, Nat.beq, dcall, dcallP, List.mapM_cons, St.snapFn, St.snap, St.layAll, St.lay, St.freezeArg, St.freezeArg1]
  rw [loop84 hp hs hl]
  rotate_left
  · rfl
  · simp only [idxI]
    split <;> simp only [vAll, List.foldl_nil, List.foldl_cons, resultsOf, resultList, resultOf, zBV, splice, PV.remade, St.freezeAt, St.freezeBox, St.freezeCap, PV.single, plain, act, dstOf, if_true, if_false, reduceCtorEq, St.get, St.put, St.pvOf, St.putRow, St.consume, St.freeze, St.row, St.elems, St.grab, St.takeRow, St.setRow, St.place, St.optPv, St.setCell, St.setCellRow, binPV, intBin, unPV, BV.val, Nat.reduceEqDiff, bound, consumeAll, buildParts, capsOf, capOf, List.append_nil, Nat.reduceAdd, Nat.reduceLT, Nat.reduceLeDiff, beq_self_eq_true, List.length_map, Nat.beq, dcall, dcallP, List.mapM_cons, St.snapFn, St.snap, St.layAll, St.lay, St.freezeArg, St.freezeArg1]
theorem cal46 {α : Type} {enc : α → PV} {l : List α} {p : α → Bool} {gf : Nat} {caps : List PV} (hp : ∀ x ∈ l, cal env gf (enc x :: caps) = some [(.bool (p x), false)]) (hs : ∀ x, part (enc x).cells 0 (some 8) = some (enc x)) (hl : l.length ≤ lim) :
    cal env 46 [.list 8 (l.map enc), .func gf caps] = some [(.bool (l.any p), false)] := by
  rw [cal_code env46 rfl]; simp only [fn46]; simp only [start, z_map_cons, z_map_nil, z_len_cons, z_len_nil, z_repl_zero, z_repl_succ, z_cons_app, z_nil_app, Nat.reduceAdd, Nat.reduceSub]
  simp only [cal84 hp hs hl, idxI_nonneg, vAll, List.foldl_nil, List.foldl_cons, resultsOf, resultList, resultOf, zBV, splice, PV.remade, St.freezeAt, St.freezeBox, St.freezeCap, PV.single, plain, act, dstOf, if_true, if_false, reduceCtorEq, St.get, St.put, St.pvOf, St.putRow, St.consume, St.freeze, St.row, St.elems, St.grab, St.takeRow, St.setRow, St.place, St.optPv, St.setCell, St.setCellRow, binPV, intBin, unPV, BV.val, Nat.reduceEqDiff, bound, consumeAll, buildParts, capsOf, capOf, List.append_nil, Nat.reduceAdd, Nat.reduceLT, Nat.reduceLeDiff, beq_self_eq_true, List.length_map, Nat.beq, dcall, dcallP, List.mapM_cons, St.snapFn, St.snap, St.layAll, St.lay, St.freezeArg, St.freezeArg1]
theorem cal47 {s : Sit} : cal env 47 [eSit s] = some [(.bool (decide ((s.lin.length : Int) > 20)), false)] := by
  rw [cal_code env47 rfl]; simp only [fn47]; simp only [start, z_map_cons, z_map_nil, z_len_cons, z_len_nil, z_repl_zero, z_repl_succ, z_cons_app, z_nil_app, Nat.reduceAdd, Nat.reduceSub]
  simp only [eSit, List.length_map, List.isEmpty_nil, val_pvs, frozen_pvs, msnoc_len, msnoc_get, msnoc_set, msnoc_take, Int.le_refl, take_map_all, Nat.le_refl, St.freezeRows, BV.frozen, List.take_length, List.take_append_drop, z_repl_zero, Int.toNat_zero, true_and, and_true, and_self, eq_self, z_take_zero, List.drop_nil, List.take_nil, vAll, List.foldl_nil, List.foldl_cons, resultsOf, resultList, resultOf, zBV, splice, PV.remade, St.freezeAt, St.freezeBox, St.freezeCap, PV.single, plain, act, dstOf, if_true, if_false, reduceCtorEq, St.get, St.put, St.pvOf, St.putRow, St.consume, St.freeze, St.row, St.elems, St.grab, St.takeRow, St.setRow, St.place, St.optPv, St.setCell, St.setCellRow, binPV, intBin, unPV, BV.val, Nat.reduceEqDiff, bound, consumeAll, buildParts, capsOf, capOf, List.append_nil, Nat.reduceAdd, Nat.reduceLT, Nat.reduceLeDiff, beq_self_eq_true, List.length_map, Nat.beq, dcall, dcallP, List.mapM_cons, St.snapFn, St.snap, St.layAll, St.lay, St.freezeArg, St.freezeArg1]
def fewX (l : List Sit) : Bool := decide ((l.length : Int) ≤ 8) && !(l.any fun s => decide ((s.lin.length : Int) > 20))
theorem few_ok {l : List Sit} (h : fewX l = true) : l.length ≤ 8 ∧ ∀ s ∈ l, s.lin.length ≤ 20 := by
  unfold fewX at h
  simp only [Bool.and_eq_true, decide_eq_true_eq, Bool.not_eq_true', List.any_eq_false, decide_eq_false_iff_not] at h
  exact ⟨by omega, fun s hs => by have := h.2 s hs; omega⟩
theorem cal12 {l : List Sit} : cal env 12 [.list 8 (l.map eSit)] = some [(.bool (fewX l), false)] := by
  unfold fewX
  by_cases c1 : (l.length : Int) ≤ 8
  · have G1 : ((l.length : Int) ≤ 8) = True := eq_true c1
    have e1 := cal46 (enc := eSit) (l := l) (p := fun s => decide ((s.lin.length : Int) > 20)) (gf := 47) (caps := []) (fun x _ => cal47) part_sit (by unfold lim; omega)
    rw [cal_code env12 rfl]; simp only [fn12]; simp only [start, z_map_cons, z_map_nil, z_len_cons, z_len_nil, z_repl_zero, z_repl_succ, z_cons_app, z_nil_app, Nat.reduceAdd, Nat.reduceSub]
    simp only [G1, e1, List.length_map, List.isEmpty_nil, val_pvs, frozen_pvs, msnoc_len, msnoc_get, msnoc_set, msnoc_take, Int.le_refl, take_map_all, Nat.le_refl, St.freezeRows, BV.frozen, List.take_length, List.take_append_drop, z_repl_zero, Int.toNat_zero, true_and, and_true, and_self, eq_self, z_take_zero, List.drop_nil, List.take_nil, vAll, List.foldl_nil, List.foldl_cons, resultsOf, resultList, resultOf, zBV, splice, PV.remade, St.freezeAt, St.freezeBox, St.freezeCap, PV.single, plain, act, dstOf, if_true, if_false, reduceCtorEq, St.get, St.put, St.pvOf, St.putRow, St.consume, St.freeze, St.row, St.elems, St.grab, St.takeRow, St.setRow, St.place, St.optPv, St.setCell, St.setCellRow, binPV, intBin, unPV, BV.val, Nat.reduceEqDiff, bound, consumeAll, buildParts, capsOf, capOf, List.append_nil, Nat.reduceAdd, Nat.reduceLT, Nat.reduceLeDiff, beq_self_eq_true, List.length_map, Nat.beq, dcall, dcallP, List.mapM_cons, St.snapFn, St.snap, St.layAll, St.lay, St.freezeArg, St.freezeArg1]
  · have G1 : ((l.length : Int) ≤ 8) = False := eq_false c1
    rw [cal_code env12 rfl]; simp only [fn12]; simp only [start, z_map_cons, z_map_nil, z_len_cons, z_len_nil, z_repl_zero, z_repl_succ, z_cons_app, z_nil_app, Nat.reduceAdd, Nat.reduceSub]
    simp only [G1, List.length_map, List.isEmpty_nil, val_pvs, frozen_pvs, msnoc_len, msnoc_get, msnoc_set, msnoc_take, Int.le_refl, take_map_all, Nat.le_refl, St.freezeRows, BV.frozen, List.take_length, List.take_append_drop, z_repl_zero, Int.toNat_zero, true_and, and_true, and_self, eq_self, z_take_zero, List.drop_nil, List.take_nil, vAll, List.foldl_nil, List.foldl_cons, resultsOf, resultList, resultOf, zBV, splice, PV.remade, St.freezeAt, St.freezeBox, St.freezeCap, PV.single, plain, act, dstOf, if_true, if_false, reduceCtorEq, St.get, St.put, St.pvOf, St.putRow, St.consume, St.freeze, St.row, St.elems, St.grab, St.takeRow, St.setRow, St.place, St.optPv, St.setCell, St.setCellRow, binPV, intBin, unPV, BV.val, Nat.reduceEqDiff, bound, consumeAll, buildParts, capsOf, capOf, List.append_nil, Nat.reduceAdd, Nat.reduceLT, Nat.reduceLeDiff, beq_self_eq_true, List.length_map, Nat.beq, dcall, dcallP, List.mapM_cons, St.snapFn, St.snap, St.layAll, St.lay, St.freezeArg, St.freezeArg1]
theorem cal53 {es : List PV} (hl : es.length ≤ lim) : cal env 53 [.list 3 es] = some [(.list 3 es, true)] := (cal_ext env53).trans (if_pos ⟨rfl, hl⟩)
theorem cal54 {s : Sit} (hl : s.lin.length ≤ lim) : cal env 54 [eSit s] = some [(eSit s, false)] := by
  have G1 : (s.lin.length ≤ lim) = True := eq_true hl
  rw [cal_code env54 rfl]; simp only [fn54]; simp only [start, z_map_cons, z_map_nil, z_len_cons, z_len_nil, z_repl_zero, z_repl_succ, z_cons_app, z_nil_app, Nat.reduceAdd, Nat.reduceSub]
  simp only [G1, eSit, List.length_map, List.isEmpty_nil, val_pvs, frozen_pvs, msnoc_len, msnoc_get, msnoc_set, msnoc_take, Int.le_refl, take_map_all, Nat.le_refl, St.freezeRows, BV.frozen, List.take_length, List.take_append_drop, z_repl_zero, Int.toNat_zero, true_and, and_true, and_self, eq_self, z_take_zero, List.drop_nil, List.take_nil, vAll, List.foldl_nil, List.foldl_cons, resultsOf, resultList, resultOf, zBV, splice, PV.remade, St.freezeAt, St.freezeBox, St.freezeCap, PV.single, plain, act, dstOf, if_true, if_false, reduceCtorEq, St.get, St.put, St.pvOf, St.putRow, St.consume, St.freeze, St.row, St.elems, St.grab, St.takeRow, St.setRow, St.place, St.optPv, St.setCell, St.setCellRow, binPV, intBin, unPV, BV.val, Nat.reduceEqDiff, bound, consumeAll, buildParts, capsOf, capOf, List.append_nil, Nat.reduceAdd, Nat.reduceLT, Nat.reduceLeDiff, beq_self_eq_true, List.length_map, Nat.beq, dcall, dcallP, List.mapM_cons, St.snapFn, St.snap, St.layAll, St.lay, St.freezeArg, St.freezeArg1]
theorem loop55 {l : List Spn} (hl : l.length ≤ lim) {st : St} (h : st.head [0, 1, 5] st.boxes.length = some ⟨[.pv (.list 3 (l.map eSpn)), .pv (.list 3 (l.map eSpn)), .any, .any, .any, .pv (.int .i64 (0 : Nat)), .any, .any, .any, .any, .any, .any, .any, .any, .any, .any, .any, .any, .any, .any, .any, .any, .any, .any, .any, .any], [], [], none⟩) :
   den env fn55_l1 st = some (.normal, ⟨[.any, .any, .any, .any, .any, .any, .any, .any, .any, .any, .any, .any, .any, .any, .any, .any, .any, .any, .any, .any, .any, .any, .any, .any, .any, .any], [], [], none⟩) := by
  unfold fn55_l1
  refine clean_up (env := env) (l.length) (fun i => ⟨[.pv (.list 3 (l.map eSpn)), .pv (.list 3 (l.map eSpn)), .any, .any, .any, .pv (.int .i64 i), .any, .any, .any, .any, .any, .any, .any, .any, .any, .any, .any, .any, .any, .any, .any, .any, .any, .any, .any, .any], [], [], none⟩) (fun i => some (.normal, ⟨[.any, .any, .any, .any, .any, .any, .any, .any, .any, .any, .any, .any, .any, .any, .any, .any, .any, .any, .any, .any, .any, .any, .any, .any, .any, .any], [], [], none⟩)) h (fun _ => rfl) (fun _ => rfl) ?_ ?_
  · intro i rb hi ih

    have hi1 := i64_next hi hl
    have F1 : ((i : Int) < (l.length : Int)) = True := eq_true (by omega)
    have hx : l[i]? = some l[i] := List.getElem?_eq_getElem hi
    generalize l[i] = x at *
    obtain ⟨xe, xf, xt⟩ := x
    simp only [fn55_b0, F1, hx, eSpn, index_nat hi, List.getElem?_map, Option.map_some, List.length_map, eqCells, List.isEmpty_nil, val_pvs, frozen_pvs, msnoc_len, msnoc_get, msnoc_set, msnoc_take, Int.le_refl, take_map_all, Nat.le_refl, St.freezeRows, BV.frozen, List.take_length, List.take_append_drop, z_repl_zero, Int.toNat_zero, true_and, and_true, and_self, eq_self, z_take_zero, List.drop_nil, List.take_nil, vAll, List.foldl_nil, List.foldl_cons, resultsOf, resultList, resultOf, zBV, splice, PV.remade, St.freezeAt, St.freezeBox, St.freezeCap, PV.single, plain, act, dstOf, if_true, if_false, reduceCtorEq, St.get, St.put, St.pvOf, St.putRow, St.consume, St.freeze, St.row, St.elems, St.grab, St.takeRow, St.setRow, St.place, St.optPv, St.setCell, St.setCellRow, binPV, intBin, unPV, BV.val, Nat.reduceEqDiff, bound, consumeAll, buildParts, capsOf, capOf, List.append_nil, Nat.reduceAdd, Nat.reduceLT, Nat.reduceLeDiff, beq_self_eq_true, List.length_map, Nat.beq, dcall, dcallP, List.mapM_cons, St.snapFn, St.snap, St.layAll, St.lay, St.freezeArg, St.freezeArg1]
    rw [ih _ (by simp only [hi1]; rfl)]
  · intro rb

    simp only [fn55_b0, Int.lt_irrefl,  List.isEmpty_nil, val_pvs, frozen_pvs, msnoc_len, msnoc_get, msnoc_set, msnoc_take, Int.le_refl, take_map_all, Nat.le_refl, St.freezeRows, BV.frozen, List.take_length, List.take_append_drop, z_repl_zero, Int.toNat_zero, true_and, and_true, and_self, eq_self, z_take_zero, List.drop_nil, List.take_nil, vAll, List.foldl_nil, List.foldl_cons, resultsOf, resultList, resultOf, zBV, splice, PV.remade, St.freezeAt, St.freezeBox, St.freezeCap, PV.single, plain, act, dstOf, if_true, if_false, reduceCtorEq, St.get, St.put, St.pvOf, St.putRow, St.consume, St.freeze, St.row, St.elems, St.grab, St.takeRow, St.setRow, St.place, St.optPv, St.setCell, St.setCellRow, binPV, intBin, unPV, BV.val, Nat.reduceEqDiff, bound, consumeAll, buildParts, capsOf, capOf, List.append_nil, Nat.reduceAdd, Nat.reduceLT, Nat.reduceLeDiff, beq_self_eq_true, List.length_map, Nat.beq, dcall, dcallP, List.mapM_cons, St.snapFn, St.snap, St.layAll, St.lay, St.freezeArg, St.freezeArg1]
    rfl

theorem cal55 {l : List Spn} (hl : l.length ≤ lim) : cal env 55 [.list 3 (l.map eSpn), .list 3 (l.map eSpn)] = some [(.bool true, false)] := by
  rw [cal_code env55 rfl]; simp only [fn55]; simp only [start, z_map_cons, z_map_nil, z_len_cons, z_len_nil, z_repl_zero, z_repl_succ, z_cons_app, z_nil_app, Nat.reduceAdd, Nat.reduceSub]
  simp only [bne_self_eq_false, List.length_map, List.isEmpty_nil, val_pvs, frozen_pvs, msnoc_len, msnoc_get, msnoc_set, msnoc_take, Int.le_refl, take_map_all, Nat.le_refl, St.freezeRows, BV.frozen, List.take_length, List.take_append_drop, z_repl_zero, Int.toNat_zero, true_and, and_true, and_self, eq_self, z_take_zero, List.drop_nil, List.take_nil, vAll, List.foldl_nil, List.foldl_cons, resultsOf, resultList, resultOf, zBV, splice, PV.remade, St.freezeAt, St.freezeBox, St.freezeCap, PV.single, plain, act, dstOf, if_true, if_false, reduceCtorEq, St.get, St.put, St.pvOf, St.putRow, St.consume, St.freeze, St.row, St.elems, St.grab, St.takeRow, St.setRow, St.place, St.optPv, St.setCell, St.setCellRow, binPV, intBin, unPV, BV.val, Nat.reduceEqDiff, bound, consumeAll, buildParts, capsOf, capOf, List.append_nil, Nat.reduceAdd, Nat.reduceLT, Nat.reduceLeDiff, beq_self_eq_true, List.length_map, Nat.beq, dcall, dcallP, List.mapM_cons, St.snapFn, St.snap, St.layAll, St.lay, St.freezeArg, St.freezeArg1]
  rw [loop55 hl]
  rotate_left
  · rfl
  · simp only [List.isEmpty_nil, val_pvs, frozen_pvs, msnoc_len, msnoc_get, msnoc_set, msnoc_take, Int.le_refl, take_map_all, Nat.le_refl, St.freezeRows, BV.frozen, List.take_length, List.take_append_drop, z_repl_zero, Int.toNat_zero, true_and, and_true, and_self, eq_self, z_take_zero, List.drop_nil, List.take_nil, vAll, List.foldl_nil, List.foldl_cons, resultsOf, resultList, resultOf, zBV, splice, PV.remade, St.freezeAt, St.freezeBox, St.freezeCap, PV.single, plain, act, dstOf, if_true, if_false, reduceCtorEq, St.get, St.put, St.pvOf, St.putRow, St.consume, St.freeze, St.row, St.elems, St.grab, St.takeRow, St.setRow, St.place, St.optPv, St.setCell, St.setCellRow, binPV, intBin, unPV, BV.val, Nat.reduceEqDiff, bound, consumeAll, buildParts, capsOf, capOf, List.append_nil, Nat.reduceAdd, Nat.reduceLT, Nat.reduceLeDiff, beq_self_eq_true, List.length_map, Nat.beq, dcall, dcallP, List.mapM_cons, St.snapFn, St.snap, St.layAll, St.lay, St.freezeArg, St.freezeArg1]
end Go.Proofs.Ytpdfhckdmblicaa.V

namespace Go.Proofs.Ytpdfhckdmblicaa.V
set_option linter.all false
theorem cal19 {s : Sit} (hl : s.lin.length ≤ lim) : cal env 19 [eSit s, eSit s] = some [(.bool true, false)] := by
  have e1 := cal55 hl
  rw [cal_code env19 rfl]; simp only [fn19]; simp only [start, z_map_cons, z_map_nil, z_len_cons, z_len_nil, z_repl_zero, z_repl_succ, z_cons_app, z_nil_app, Nat.reduceAdd, Nat.reduceSub]
  simp only [e1, eSit, List.isEmpty_nil, val_pvs, frozen_pvs, msnoc_len, msnoc_get, msnoc_set, msnoc_take, Int.le_refl, take_map_all, Nat.le_refl, St.freezeRows, BV.frozen, List.take_length, List.take_append_drop, z_repl_zero, Int.toNat_zero, true_and, and_true, and_self, eq_self, z_take_zero, List.drop_nil, List.take_nil, vAll, List.foldl_nil, List.foldl_cons, resultsOf, resultList, resultOf, zBV, splice, PV.remade, St.freezeAt, St.freezeBox, St.freezeCap, PV.single, plain, act, dstOf, if_true, if_false, reduceCtorEq, St.get, St.put, St.pvOf, St.putRow, St.consume, St.freeze, St.row, St.elems, St.grab, St.takeRow, St.setRow, St.place, St.optPv, St.setCell, St.setCellRow, binPV, intBin, unPV, BV.val, Nat.reduceEqDiff, bound, consumeAll, buildParts, capsOf, capOf, List.append_nil, Nat.reduceAdd, Nat.reduceLT, Nat.reduceLeDiff, beq_self_eq_true, List.length_map, Nat.beq, dcall, dcallP, List.mapM_cons, St.snapFn, St.snap, St.layAll, St.lay, St.freezeArg, St.freezeArg1]
theorem loop18 {eq : Sit → Sit → Bool} {l m : List Sit} {gf : Nat} {caps : List PV} (hp : ∀ q ∈ l.zip m, cal env gf (eSit q.1 :: eSit q.2 :: caps) = some [(.bool (eq q.1 q.2), false)]) (hlm : l.length = m.length) (hl : l.length ≤ lim)
   {st : St} (h : st.head [0, 1, 2, 15, 16, 17] st.boxes.length = some ⟨[.pv (.list 8 (l.map eSit)), .pv (.list 8 (m.map eSit)), .pv (.func gf caps), .any, .any, .any, .any, .any, .any, .any, .any, .any, .any, .any, .any, .pv (.list 8 (l.map eSit)), .pv (.int .i64 l.length), .pv (.int .i64 (0 : Nat)), .any, .any, .any, .any, .any, .any, .any, .any, .any, .any, .any, .any, .any, .any], [], [], none⟩) :
   den env fn18_l1 st = if (l.zip m).all (fun q => eq q.1 q.2) = true then some (.normal, ⟨[.any, .any, .any, .any, .any, .any, .any, .any, .any, .any, .any, .any, .any, .any, .any, .any, .any, .any, .any, .any, .any, .any, .any, .any, .any, .any, .any, .any, .any, .any, .any, .any], [], [], none⟩) else some (.ret, ⟨[.any, .any, .any, .any, .any, .any, .pv (.bool false), .any, .any, .any, .any, .any, .any, .any, .any, .any, .any, .any, .any, .any, .any, .any, .any, .any, .any, .any, .any, .any, .any, .any, .any, .any], [], [], none⟩) := by
  unfold fn18_l1
  have hz : (l.zip m).length = l.length := by simp [hlm]
  refine clean_list (l := l.zip m) (fun i (_ : Unit) => ⟨[.pv (.list 8 (l.map eSit)), .pv (.list 8 (m.map eSit)), .pv (.func gf caps), .any, .any, .any, .any, .any, .any, .any, .any, .any, .any, .any, .any, .pv (.list 8 (l.map eSit)), .pv (.int .i64 l.length), .pv (.int .i64 i), .any, .any, .any, .any, .any, .any, .any, .any, .any, .any, .any, .any, .any, .any], [], [], none⟩)
    (fun i r _ => if r.all (fun q => eq q.1 q.2) = true then some (.normal, ⟨[.any, .any, .any, .any, .any, .any, .any, .any, .any, .any, .any, .any, .any, .any, .any, .any, .any, .any, .any, .any, .any, .any, .any, .any, .any, .any, .any, .any, .any, .any, .any, .any], [], [], none⟩) else some (.ret, ⟨[.any, .any, .any, .any, .any, .any, .pv (.bool false), .any, .any, .any, .any, .any, .any, .any, .any, .any, .any, .any, .any, .any, .any, .any, .any, .any, .any, .any, .any, .any, .any, .any, .any, .any], [], [], none⟩)) (fun _ _ => True) () h (by rw [hz]; exact hl) trivial (fun _ _ => rfl) (fun _ _ => rfl) ?_ ?_
  · rintro i ⟨x, y⟩ r c rb hi hx hr F1 F2 hP ih
    rw [hz] at hi F1
    have hj : i < m.length := by omega
    have e1 := hp (x, y) (List.mem_of_getElem? hx)
    rw [List.getElem?_zip_eq_some] at hx
    obtain ⟨hx, hy⟩ := hx
    rw [List.all_cons]
    simp only at e1 hx hy ⊢
    generalize eq x y = t at e1 ⊢
    obtain ⟨a1, a2, a3, a4, a5, a6, a7, a8⟩ := x
    obtain ⟨b1, b2, b3, b4, b5, b6, b7, b8⟩ := y
    simp only [eSit] at e1
    cases t with
    | true =>
      simp only [fn18_b0, F1, F2, hx, hy, e1, eSit, index_nat hi, index_nat hj, List.getElem?_map, Option.map_some, List.isEmpty_nil, val_pvs, frozen_pvs, msnoc_len, msnoc_get, msnoc_set, msnoc_take, Int.le_refl, take_map_all, Nat.le_refl, St.freezeRows, BV.frozen, List.take_length, List.take_append_drop, z_repl_zero, Int.toNat_zero, true_and, and_true, and_self, eq_self, z_take_zero, List.drop_nil, List.take_nil, vAll, List.foldl_nil, List.foldl_cons, resultsOf, resultList, resultOf, zBV, splice, PV.remade, St.freezeAt, St.freezeBox, St.freezeCap, PV.single, plain, act, dstOf, if_true, if_false, reduceCtorEq, St.get, St.put, St.pvOf, St.putRow, St.consume, St.freeze, St.row, St.elems, St.grab, St.takeRow, St.setRow, St.place, St.optPv, St.setCell, St.setCellRow, binPV, intBin, unPV, BV.val, Nat.reduceEqDiff, bound, consumeAll, buildParts, capsOf, capOf, List.append_nil, Nat.reduceAdd, Nat.reduceLT, Nat.reduceLeDiff, beq_self_eq_true, List.length_map, Nat.beq, dcall, dcallP, List.mapM_cons, St.snapFn, St.snap, St.layAll, St.lay, St.freezeArg, St.freezeArg1]
      exact ih () _ trivial rfl
    | false =>
      simp only [fn18_b0, F1, F2, hx, hy, e1, eSit, index_nat hi, index_nat hj, List.getElem?_map, Option.map_some, List.isEmpty_nil, val_pvs, frozen_pvs, msnoc_len, msnoc_get, msnoc_set, msnoc_take, Int.le_refl, take_map_all, Nat.le_refl, St.freezeRows, BV.frozen, List.take_length, List.take_append_drop, z_repl_zero, Int.toNat_zero, true_and, and_true, and_self, eq_self, z_take_zero, List.drop_nil, List.take_nil, vAll, List.foldl_nil, List.foldl_cons, resultsOf, resultList, resultOf, zBV, splice, PV.remade, St.freezeAt, St.freezeBox, St.freezeCap, PV.single, plain, act, dstOf, if_true, if_false, reduceCtorEq, St.get, St.put, St.pvOf, St.putRow, St.consume, St.freeze, St.row, St.elems, St.grab, St.takeRow, St.setRow, St.place, St.optPv, St.setCell, St.setCellRow, binPV, intBin, unPV, BV.val, Nat.reduceEqDiff, bound, consumeAll, buildParts, capsOf, capOf, List.append_nil, Nat.reduceAdd, Nat.reduceLT, Nat.reduceLeDiff, beq_self_eq_true, List.length_map, Nat.beq, dcall, dcallP, List.mapM_cons, St.snapFn, St.snap, St.layAll, St.lay, St.freezeArg, St.freezeArg1]
      rfl
  · intro c rb hp
    rw [hz]
    simp only [fn18_b0, Int.lt_irrefl, List.isEmpty_nil, val_pvs, frozen_pvs, msnoc_len, msnoc_get, msnoc_set, msnoc_take, Int.le_refl, take_map_all, Nat.le_refl, St.freezeRows, BV.frozen, List.take_length, List.take_append_drop, z_repl_zero, Int.toNat_zero, true_and, and_true, and_self, eq_self, z_take_zero, List.drop_nil, List.take_nil, vAll, List.foldl_nil, List.foldl_cons, resultsOf, resultList, resultOf, zBV, splice, PV.remade, St.freezeAt, St.freezeBox, St.freezeCap, PV.single, plain, act, dstOf, if_true, if_false, reduceCtorEq, St.get, St.put, St.pvOf, St.putRow, St.consume, St.freeze, St.row, St.elems, St.grab, St.takeRow, St.setRow, St.place, St.optPv, St.setCell, St.setCellRow, binPV, intBin, unPV, BV.val, Nat.reduceEqDiff, bound, consumeAll, buildParts, capsOf, capOf, List.append_nil, Nat.reduceAdd, Nat.reduceLT, Nat.reduceLeDiff, beq_self_eq_true, List.length_map, Nat.beq, dcall, dcallP, List.mapM_cons, St.snapFn, St.snap, St.layAll, St.lay, St.freezeArg, St.freezeArg1]
    rfl
theorem cal18 {eq : Sit → Sit → Bool} {l m : List Sit} {gf : Nat} {caps : List PV} (hp : ∀ q ∈ l.zip m, cal env gf (eSit q.1 :: eSit q.2 :: caps) = some [(.bool (eq q.1 q.2), false)]) (hl : l.length ≤ lim) :
    cal env 18 [.list 8 (l.map eSit), .list 8 (m.map eSit), .func gf caps] = some [(.bool (eqF eq l m), false)] := by
  rw [cal_code env18 rfl]; simp only [fn18]; simp only [start, z_map_cons, z_map_nil, z_len_cons, z_len_nil, z_repl_zero, z_repl_succ, z_cons_app, z_nil_app, Nat.reduceAdd, Nat.reduceSub]
  simp only [ List.isEmpty_nil, val_pvs, frozen_pvs, msnoc_len, msnoc_get, msnoc_set, msnoc_take, Int.le_refl, take_map_all, Nat.le_refl, St.freezeRows, BV.frozen, List.take_length, List.take_append_drop, z_repl_zero, Int.toNat_zero, true_and, and_true, and_self, eq_self, z_take_zero, List.drop_nil, List.take_nil, vAll, List.foldl_nil, List.foldl_cons, resultsOf, resultList, resultOf, zBV, splice, PV.remade, St.freezeAt, St.freezeBox, St.freezeCap, PV.single, plain, act, dstOf, if_true, if_false, reduceCtorEq, St.get, St.put, St.pvOf, St.putRow, St.consume, St.freeze, St.row, St.elems, St.grab, St.takeRow, St.setRow, St.place, St.optPv, St.setCell, St.setCellRow, binPV, intBin, unPV, BV.val, Nat.reduceEqDiff, bound, consumeAll, buildParts, capsOf, capOf, List.append_nil, Nat.reduceAdd, Nat.reduceLT, Nat.reduceLeDiff, beq_self_eq_true, List.length_map, Nat.beq, dcall, dcallP, List.mapM_cons, St.snapFn, St.snap, St.layAll, St.lay, St.freezeArg, St.freezeArg1]
  (try simp only [bcase_bind, bcase_map, tail_bcase]); refine bcase_split (fun hb => ?_) (fun hb => ?_) <;> try simp only [hb,  List.isEmpty_nil, val_pvs, frozen_pvs, msnoc_len, msnoc_get, msnoc_set, msnoc_take, Int.le_refl, take_map_all, Nat.le_refl, St.freezeRows, BV.frozen, List.take_length, List.take_append_drop, z_repl_zero, Int.toNat_zero, true_and, and_true, and_self, eq_self, z_take_zero, List.drop_nil, List.take_nil, vAll, List.foldl_nil, List.foldl_cons, resultsOf, resultList, resultOf, zBV, splice, PV.remade, St.freezeAt, St.freezeBox, St.freezeCap, PV.single, plain, act, dstOf, if_true, if_false, reduceCtorEq, St.get, St.put, St.pvOf, St.putRow, St.consume, St.freeze, St.row, St.elems, St.grab, St.takeRow, St.setRow, St.place, St.optPv, St.setCell, St.setCellRow, binPV, intBin, unPV, BV.val, Nat.reduceEqDiff, bound, consumeAll, buildParts, capsOf, capOf, List.append_nil, Nat.reduceAdd, Nat.reduceLT, Nat.reduceLeDiff, beq_self_eq_true, List.length_map, Nat.beq, dcall, dcallP, List.mapM_cons, St.snapFn, St.snap, St.layAll, St.lay, St.freezeArg, St.freezeArg1]
  · have hlm : l.length = m.length := by simp at hb; omega
    rw [loop18 hp hlm hl]
    rotate_left
    · rfl
    · simp only [eqF, decide_eq_true hlm, Bool.true_and]
      cases (l.zip m).all (fun q => eq q.1 q.2) <;> simp only [List.isEmpty_nil, val_pvs, frozen_pvs, msnoc_len, msnoc_get, msnoc_set, msnoc_take, Int.le_refl, take_map_all, Nat.le_refl, St.freezeRows, BV.frozen, List.take_length, List.take_append_drop, z_repl_zero, Int.toNat_zero, true_and, and_true, and_self, eq_self, z_take_zero, List.drop_nil, List.take_nil, vAll, List.foldl_nil, List.foldl_cons, resultsOf, resultList, resultOf, zBV, splice, PV.remade, St.freezeAt, St.freezeBox, St.freezeCap, PV.single, plain, act, dstOf, if_true, if_false, reduceCtorEq, St.get, St.put, St.pvOf, St.putRow, St.consume, St.freeze, St.row, St.elems, St.grab, St.takeRow, St.setRow, St.place, St.optPv, St.setCell, St.setCellRow, binPV, intBin, unPV, BV.val, Nat.reduceEqDiff, bound, consumeAll, buildParts, capsOf, capOf, List.append_nil, Nat.reduceAdd, Nat.reduceLT, Nat.reduceLeDiff, beq_self_eq_true, List.length_map, Nat.beq, dcall, dcallP, List.mapM_cons, St.snapFn, St.snap, St.layAll, St.lay, St.freezeArg, St.freezeArg1]
  · have : ¬ l.length = m.length := fun e => by rw [e] at hb; simp at hb
    simp only [eqF, decide_eq_false this, Bool.false_and, List.isEmpty_nil, val_pvs, frozen_pvs, msnoc_len, msnoc_get, msnoc_set, msnoc_take, Int.le_refl, take_map_all, Nat.le_refl, St.freezeRows, BV.frozen, List.take_length, List.take_append_drop, z_repl_zero, Int.toNat_zero, true_and, and_true, and_self, eq_self, z_take_zero, List.drop_nil, List.take_nil, vAll, List.foldl_nil, List.foldl_cons, resultsOf, resultList, resultOf, zBV, splice, PV.remade, St.freezeAt, St.freezeBox, St.freezeCap, PV.single, plain, act, dstOf, if_true, if_false, reduceCtorEq, St.get, St.put, St.pvOf, St.putRow, St.consume, St.freeze, St.row, St.elems, St.grab, St.takeRow, St.setRow, St.place, St.optPv, St.setCell, St.setCellRow, binPV, intBin, unPV, BV.val, Nat.reduceEqDiff, bound, consumeAll, buildParts, capsOf, capOf, List.append_nil, Nat.reduceAdd, Nat.reduceLT, Nat.reduceLeDiff, beq_self_eq_true, List.length_map, Nat.beq, dcall, dcallP, List.mapM_cons, St.snapFn, St.snap, St.layAll, St.lay, St.freezeArg, St.freezeArg1]
theorem loop17 {l : List (List Int)} {q : List Int} {i : Nat} (hi : i < l.length) (hq : l[i]? = some q) (hl : q.length ≤ lim)
   {st : St} (h : st.head [0, 1, 5, 6] st.boxes.length = some ⟨[.pv (.list 1 (l.map fun q => .list 1 (q.map eI))), .pv (.list 1 (l.map fun q => .list 1 (q.map eI))), .any, .any, .any, .pv (.int .i64 i), .pv (.int .i64 (0 : Nat)), .any, .any, .any, .any, .any, .any, .any, .any, .any, .any, .any, .any, .any, .any, .any, .any, .any, .any, .any, .any, .any, .any, .any, .any, .any, .any, .any, .any, .any, .any, .any, .any, .any, .any, .any, .any, .any, .any, .any, .any, .any, .any, .any, .any, .any, .any], [], [], none⟩) :
   den env fn17_l1 st = some (.normal, ⟨[.pv (.list 1 (l.map fun q => .list 1 (q.map eI))), .pv (.list 1 (l.map fun q => .list 1 (q.map eI))), .any, .any, .any, .pv (.int .i64 i), .any, .any, .any, .any, .any, .any, .any, .any, .any, .any, .any, .any, .any, .any, .any, .any, .any, .any, .any, .any, .any, .any, .any, .any, .any, .any, .any, .any, .any, .any, .any, .any, .any, .any, .any, .any, .any, .any, .any, .any, .any, .any, .any, .any, .any, .any, .any], [], [], none⟩) := by
  unfold fn17_l1
  refine clean_list (l := q) (fun k _ => ⟨[.pv (.list 1 (l.map fun q => .list 1 (q.map eI))), .pv (.list 1 (l.map fun q => .list 1 (q.map eI))), .any, .any, .any, .pv (.int .i64 i), .pv (.int .i64 k), .any, .any, .any, .any, .any, .any, .any, .any, .any, .any, .any, .any, .any, .any, .any, .any, .any, .any, .any, .any, .any, .any, .any, .any, .any, .any, .any, .any, .any, .any, .any, .any, .any, .any, .any, .any, .any, .any, .any, .any, .any, .any, .any, .any, .any, .any], [], [], none⟩) (fun _ _ _ => some (.normal, ⟨[.pv (.list 1 (l.map fun q => .list 1 (q.map eI))), .pv (.list 1 (l.map fun q => .list 1 (q.map eI))), .any, .any, .any, .pv (.int .i64 i), .any, .any, .any, .any, .any, .any, .any, .any, .any, .any, .any, .any, .any, .any, .any, .any, .any, .any, .any, .any, .any, .any, .any, .any, .any, .any, .any, .any, .any, .any, .any, .any, .any, .any, .any, .any, .any, .any, .any, .any, .any, .any, .any, .any, .any, .any, .any], [], [], none⟩))
    (fun _ _ => True) () h hl trivial (fun _ _ => rfl) (fun _ _ => rfl) ?_ ?_
  · intro k x r c rb hk hx hr F1 F2 hp ih
    simp only [fn17_b0, F1, F2, hq, hx, eI, bne_self_eq_false, index_nat hi, index_nat hk, List.getElem?_map, Option.map_some, List.isEmpty_nil, val_pvs, frozen_pvs, msnoc_len, msnoc_get, msnoc_set, msnoc_take, Int.le_refl, take_map_all, Nat.le_refl, St.freezeRows, BV.frozen, List.take_length, List.take_append_drop, z_repl_zero, Int.toNat_zero, true_and, and_true, and_self, eq_self, z_take_zero, List.drop_nil, List.take_nil, vAll, List.foldl_nil, List.foldl_cons, resultsOf, resultList, resultOf, zBV, splice, PV.remade, St.freezeAt, St.freezeBox, St.freezeCap, PV.single, plain, act, dstOf, if_true, if_false, reduceCtorEq, St.get, St.put, St.pvOf, St.putRow, St.consume, St.freeze, St.row, St.elems, St.grab, St.takeRow, St.setRow, St.place, St.optPv, St.setCell, St.setCellRow, binPV, intBin, unPV, BV.val, Nat.reduceEqDiff, bound, consumeAll, buildParts, capsOf, capOf, List.append_nil, Nat.reduceAdd, Nat.reduceLT, Nat.reduceLeDiff, beq_self_eq_true, List.length_map, Nat.beq, dcall, dcallP, List.mapM_cons, St.snapFn, St.snap, St.layAll, St.lay, St.freezeArg, St.freezeArg1]
    exact ih () _ trivial rfl
  · intro c rb hp
    simp only [fn17_b0, hq, eI, Int.lt_irrefl, index_nat hi, List.getElem?_map, Option.map_some, List.isEmpty_nil, val_pvs, frozen_pvs, msnoc_len, msnoc_get, msnoc_set, msnoc_take, Int.le_refl, take_map_all, Nat.le_refl, St.freezeRows, BV.frozen, List.take_length, List.take_append_drop, z_repl_zero, Int.toNat_zero, true_and, and_true, and_self, eq_self, z_take_zero, List.drop_nil, List.take_nil, vAll, List.foldl_nil, List.foldl_cons, resultsOf, resultList, resultOf, zBV, splice, PV.remade, St.freezeAt, St.freezeBox, St.freezeCap, PV.single, plain, act, dstOf, if_true, if_false, reduceCtorEq, St.get, St.put, St.pvOf, St.putRow, St.consume, St.freeze, St.row, St.elems, St.grab, St.takeRow, St.setRow, St.place, St.optPv, St.setCell, St.setCellRow, binPV, intBin, unPV, BV.val, Nat.reduceEqDiff, bound, consumeAll, buildParts, capsOf, capOf, List.append_nil, Nat.reduceAdd, Nat.reduceLT, Nat.reduceLeDiff, beq_self_eq_true, List.length_map, Nat.beq, dcall, dcallP, List.mapM_cons, St.snapFn, St.snap, St.layAll, St.lay, St.freezeArg, St.freezeArg1]
    rfl
theorem loop17b {l : List (List Int)} (hl : l.length ≤ lim) (hok : ∀ q ∈ l, q.length ≤ lim)
   {st : St} (h : st.head [0, 1, 5] st.boxes.length = some ⟨[.pv (.list 1 (l.map fun q => .list 1 (q.map eI))), .pv (.list 1 (l.map fun q => .list 1 (q.map eI))), .any, .any, .any, .pv (.int .i64 (0 : Nat)), .any, .any, .any, .any, .any, .any, .any, .any, .any, .any, .any, .any, .any, .any, .any, .any, .any, .any, .any, .any, .any, .any, .any, .any, .any, .any, .any, .any, .any, .any, .any, .any, .any, .any, .any, .any, .any, .any, .any, .any, .any, .any, .any, .any, .any, .any, .any], [], [], none⟩) :
   den env fn17_l3 st = some (.normal, ⟨[.any, .any, .any, .any, .any, .any, .any, .any, .any, .any, .any, .any, .any, .any, .any, .any, .any, .any, .any, .any, .any, .any, .any, .any, .any, .any, .any, .any, .any, .any, .any, .any, .any, .any, .any, .any, .any, .any, .any, .any, .any, .any, .any, .any, .any, .any, .any, .any, .any, .any, .any, .any, .any], [], [], none⟩) := by
  unfold fn17_l3
  refine clean_list (l := l) (fun i _ => ⟨[.pv (.list 1 (l.map fun q => .list 1 (q.map eI))), .pv (.list 1 (l.map fun q => .list 1 (q.map eI))), .any, .any, .any, .pv (.int .i64 i), .any, .any, .any, .any, .any, .any, .any, .any, .any, .any, .any, .any, .any, .any, .any, .any, .any, .any, .any, .any, .any, .any, .any, .any, .any, .any, .any, .any, .any, .any, .any, .any, .any, .any, .any, .any, .any, .any, .any, .any, .any, .any, .any, .any, .any, .any, .any], [], [], none⟩) (fun _ _ _ => some (.normal, ⟨[.any, .any, .any, .any, .any, .any, .any, .any, .any, .any, .any, .any, .any, .any, .any, .any, .any, .any, .any, .any, .any, .any, .any, .any, .any, .any, .any, .any, .any, .any, .any, .any, .any, .any, .any, .any, .any, .any, .any, .any, .any, .any, .any, .any, .any, .any, .any, .any, .any, .any, .any, .any, .any], [], [], none⟩))
    (fun _ _ => True) () h hl trivial (fun _ _ => rfl) (fun _ _ => rfl) ?_ ?_
  · intro i q r c rb hi hq hr F1 F2 hp ih
    simp only [fn17_b2, F1, F2, hq, bne_self_eq_false, index_nat hi, List.getElem?_map, Option.map_some, List.isEmpty_nil, val_pvs, frozen_pvs, msnoc_len, msnoc_get, msnoc_set, msnoc_take, Int.le_refl, take_map_all, Nat.le_refl, St.freezeRows, BV.frozen, List.take_length, List.take_append_drop, z_repl_zero, Int.toNat_zero, true_and, and_true, and_self, eq_self, z_take_zero, List.drop_nil, List.take_nil, vAll, List.foldl_nil, List.foldl_cons, resultsOf, resultList, resultOf, zBV, splice, PV.remade, St.freezeAt, St.freezeBox, St.freezeCap, PV.single, plain, act, dstOf, if_true, if_false, reduceCtorEq, St.get, St.put, St.pvOf, St.putRow, St.consume, St.freeze, St.row, St.elems, St.grab, St.takeRow, St.setRow, St.place, St.optPv, St.setCell, St.setCellRow, binPV, intBin, unPV, BV.val, Nat.reduceEqDiff, bound, consumeAll, buildParts, capsOf, capOf, List.append_nil, Nat.reduceAdd, Nat.reduceLT, Nat.reduceLeDiff, beq_self_eq_true, List.length_map, Nat.beq, dcall, dcallP, List.mapM_cons, St.snapFn, St.snap, St.layAll, St.lay, St.freezeArg, St.freezeArg1]
    rw [loop17 hi hq (hok q (List.mem_of_getElem? hq))]
    rotate_left
    · rfl
    simp only [fn17_b2, F1, F2, hq, bne_self_eq_false, index_nat hi, List.getElem?_map, Option.map_some, List.isEmpty_nil, val_pvs, frozen_pvs, msnoc_len, msnoc_get, msnoc_set, msnoc_take, Int.le_refl, take_map_all, Nat.le_refl, St.freezeRows, BV.frozen, List.take_length, List.take_append_drop, z_repl_zero, Int.toNat_zero, true_and, and_true, and_self, eq_self, z_take_zero, List.drop_nil, List.take_nil, vAll, List.foldl_nil, List.foldl_cons, resultsOf, resultList, resultOf, zBV, splice, PV.remade, St.freezeAt, St.freezeBox, St.freezeCap, PV.single, plain, act, dstOf, if_true, if_false, reduceCtorEq, St.get, St.put, St.pvOf, St.putRow, St.consume, St.freeze, St.row, St.elems, St.grab, St.takeRow, St.setRow, St.place, St.optPv, St.setCell, St.setCellRow, binPV, intBin, unPV, BV.val, Nat.reduceEqDiff, bound, consumeAll, buildParts, capsOf, capOf, List.append_nil, Nat.reduceAdd, Nat.reduceLT, Nat.reduceLeDiff, beq_self_eq_true, List.length_map, Nat.beq, dcall, dcallP, List.mapM_cons, St.snapFn, St.snap, St.layAll, St.lay, St.freezeArg, St.freezeArg1]
    exact ih () _ trivial rfl
  · intro c rb hp
    simp only [fn17_b2, Int.lt_irrefl, List.isEmpty_nil, val_pvs, frozen_pvs, msnoc_len, msnoc_get, msnoc_set, msnoc_take, Int.le_refl, take_map_all, Nat.le_refl, St.freezeRows, BV.frozen, List.take_length, List.take_append_drop, z_repl_zero, Int.toNat_zero, true_and, and_true, and_self, eq_self, z_take_zero, List.drop_nil, List.take_nil, vAll, List.foldl_nil, List.foldl_cons, resultsOf, resultList, resultOf, zBV, splice, PV.remade, St.freezeAt, St.freezeBox, St.freezeCap, PV.single, plain, act, dstOf, if_true, if_false, reduceCtorEq, St.get, St.put, St.pvOf, St.putRow, St.consume, St.freeze, St.row, St.elems, St.grab, St.takeRow, St.setRow, St.place, St.optPv, St.setCell, St.setCellRow, binPV, intBin, unPV, BV.val, Nat.reduceEqDiff, bound, consumeAll, buildParts, capsOf, capOf, List.append_nil, Nat.reduceAdd, Nat.reduceLT, Nat.reduceLeDiff, beq_self_eq_true, List.length_map, Nat.beq, dcall, dcallP, List.mapM_cons, St.snapFn, St.snap, St.layAll, St.lay, St.freezeArg, St.freezeArg1]
    rfl
theorem cal17 {l : List (List Int)} (hl : l.length ≤ lim) (hok : ∀ q ∈ l, q.length ≤ lim) : cal env 17 [.list 1 (l.map fun q => .list 1 (q.map eI)), .list 1 (l.map fun q => .list 1 (q.map eI))] = some [(.bool true, false)] := by
  rw [cal_code env17 rfl]; simp only [fn17]; simp only [start, z_map_cons, z_map_nil, z_len_cons, z_len_nil, z_repl_zero, z_repl_succ, z_cons_app, z_nil_app, Nat.reduceAdd, Nat.reduceSub]
  simp only [bne_self_eq_false, List.isEmpty_nil, val_pvs, frozen_pvs, msnoc_len, msnoc_get, msnoc_set, msnoc_take, Int.le_refl, take_map_all, Nat.le_refl, St.freezeRows, BV.frozen, List.take_length, List.take_append_drop, z_repl_zero, Int.toNat_zero, true_and, and_true, and_self, eq_self, z_take_zero, List.drop_nil, List.take_nil, vAll, List.foldl_nil, List.foldl_cons, resultsOf, resultList, resultOf, zBV, splice, PV.remade, St.freezeAt, St.freezeBox, St.freezeCap, PV.single, plain, act, dstOf, if_true, if_false, reduceCtorEq, St.get, St.put, St.pvOf, St.putRow, St.consume, St.freeze, St.row, St.elems, St.grab, St.takeRow, St.setRow, St.place, St.optPv, St.setCell, St.setCellRow, binPV, intBin, unPV, BV.val, Nat.reduceEqDiff, bound, consumeAll, buildParts, capsOf, capOf, List.append_nil, Nat.reduceAdd, Nat.reduceLT, Nat.reduceLeDiff, beq_self_eq_true, List.length_map, Nat.beq, dcall, dcallP, List.mapM_cons, St.snapFn, St.snap, St.layAll, St.lay, St.freezeArg, St.freezeArg1]
  rw [loop17b hl hok]
  rotate_left
  · rfl
  simp only [bne_self_eq_false, List.isEmpty_nil, val_pvs, frozen_pvs, msnoc_len, msnoc_get, msnoc_set, msnoc_take, Int.le_refl, take_map_all, Nat.le_refl, St.freezeRows, BV.frozen, List.take_length, List.take_append_drop, z_repl_zero, Int.toNat_zero, true_and, and_true, and_self, eq_self, z_take_zero, List.drop_nil, List.take_nil, vAll, List.foldl_nil, List.foldl_cons, resultsOf, resultList, resultOf, zBV, splice, PV.remade, St.freezeAt, St.freezeBox, St.freezeCap, PV.single, plain, act, dstOf, if_true, if_false, reduceCtorEq, St.get, St.put, St.pvOf, St.putRow, St.consume, St.freeze, St.row, St.elems, St.grab, St.takeRow, St.setRow, St.place, St.optPv, St.setCell, St.setCellRow, binPV, intBin, unPV, BV.val, Nat.reduceEqDiff, bound, consumeAll, buildParts, capsOf, capOf, List.append_nil, Nat.reduceAdd, Nat.reduceLT, Nat.reduceLeDiff, beq_self_eq_true, List.length_map, Nat.beq, dcall, dcallP, List.mapM_cons, St.snapFn, St.snap, St.layAll, St.lay, St.freezeArg, St.freezeArg1]
theorem rowGo_all {x : Sit} {i : Nat} : ∀ (r : List Sit) (k : Nat) (acc : List PV), (∀ q ∈ acc, ∃ a b : Int, q = .list 1 ([a, b].map eI)) → ∀ q ∈ rowGo x i k r acc, ∃ a b : Int, q = .list 1 ([a, b].map eI)
  | [], k, acc, h => h
  | y :: r, k, acc, h => by
    unfold rowGo
    refine rowGo_all r (k + 1) _ ?_
    intro q hq
    split at hq
    · rcases List.mem_append.1 hq with hq | hq
      · exact h q hq
      · simp only [List.mem_singleton] at hq; exact ⟨i, k, hq⟩
    · exact h q hq
theorem pairsGo_all : ∀ (r : List Sit) (i : Nat) (acc : List PV), (∀ q ∈ acc, ∃ a b : Int, q = .list 1 ([a, b].map eI)) → ∀ q ∈ pairsGo i r acc, ∃ a b : Int, q = .list 1 ([a, b].map eI)
  | [], i, acc, h => h
  | x :: r, i, acc, h => by unfold pairsGo; exact pairsGo_all r (i + 1) _ (rowGo_all r (i + 1) acc h)
theorem pairsGo_len : ∀ (r : List Sit) (i : Nat) (acc : List PV), (pairsGo i r acc).length ≤ acc.length + r.length * r.length
  | [], i, acc => by simp [pairsGo]
  | x :: r, i, acc => by
    unfold pairsGo
    have h1 := pairsGo_len r (i + 1) (rowGo x i (i + 1) r acc)
    have h2 := rowGo_len x i r (i + 1) acc
    rw [List.length_cons, Nat.succ_mul, Nat.mul_succ]
    omega
theorem divX_of (l : List Sit) (hl : l.length ≤ 8) : ∃ m : List (List Int), divX l = m.map (fun q => .list 1 (q.map eI)) ∧ m.length ≤ lim ∧ ∀ q ∈ m, q.length ≤ lim := by
  have key : ∀ es : List PV, (∀ q ∈ es, ∃ a b : Int, q = .list 1 ([a, b].map eI)) → ∃ m : List (List Int), es = m.map (fun q => .list 1 (q.map eI)) ∧ m.length = es.length ∧ ∀ q ∈ m, q.length ≤ lim := by
    intro es
    induction es with
    | nil => exact fun _ => ⟨[], rfl, rfl, by simp⟩
    | cons e es ih =>
      intro h
      obtain ⟨a, b, e1⟩ := h e (by simp)
      obtain ⟨m, h1, h2, h3⟩ := ih fun q hq => h q (by simp [hq])
      refine ⟨[a, b] :: m, by rw [h1, e1]; rfl, by simp [h2], ?_⟩
      intro q hq
      rcases List.mem_cons.1 hq with rfl | hq
      · show 2 ≤ lim; unfold lim; omega
      · exact h3 q hq
  have h1 : (divX l).length ≤ 64 := by
    unfold divX
    split
    · simp
    · have := pairsGo_len l 0 []
      have h3 : l.length * l.length ≤ 8 * 8 := Nat.mul_le_mul hl hl
      simp only [List.length_nil] at this
      unfold pairsX; omega
  obtain ⟨m, e, h2, h3⟩ := key (divX l) (by
    unfold divX
    split
    · simp
    · exact pairsGo_all l 0 [] (by simp))
  exact ⟨m, e, by unfold lim; omega, h3⟩
theorem samePairs_divX {l : List Sit} (hl : l.length ≤ 8) : cal env 17 [.list 1 (divX l), .list 1 (divX l)] = some [(.bool true, false)] := by
  obtain ⟨m, e, h2, h3⟩ := divX_of l hl
  rw [e]
  exact cal17 h2 h3
end Go.Proofs.Ytpdfhckdmblicaa.V

namespace Go.Proofs.Ytpdfhckdmblicaa.V
set_option linter.all false
def losP (w : Int) (best : Sit) (i : Nat) (x : Sit) : Bool := ((i : Int) != w) && ((x.role == 1) || apartX x best)
def fenced (best x : Sit) : Sit := { x with role := 5, src := -1, epoch := if x.epoch < best.epoch then best.epoch else x.epoch }
def resS (w : Int) (best : Sit) (i : Nat) (x : Sit) : Sit := if losP w best i x = true then fenced best x else x
def resGo (w : Int) (best : Sit) : Nat → List Sit → Bool × List PV × List PV → Bool × List PV × List PV
  | _, [], c => c
  | i, x :: r, (z, out, los) => resGo w best (i + 1) r (if losP w best i x = true then (true, out ++ [eSit (fenced best x)], los ++ [.int .i64 i]) else (z, out ++ [eSit x], los))
set_option maxHeartbeats 2000000 in
theorem loop15 {l : List Sit} {w : Int} {best : Sit} (hok : ∀ x ∈ l, x.lin.length ≤ lim) (hb : best.lin.length ≤ lim) (hl : l.length ≤ 8) (S : Nat → Bool × List PV × List PV → St)
   (hS : ∀ IX c, S IX c = ⟨[.pv (.list 8 (l.map eSit)), .pv (.int .i64 w), .any, .any, .any, .any, .any, .any, .pbox 0 0, .row 8 c.2.1, .row 1 c.2.2, .any, .any, .any, .any, .any, .any, .any, .any, .any, .any, .any, .any, .any, .any, .any, .any, .any, .any, .any, .any, .any, .any, .any, .any, .any, .any, .any, .any, .any, .any, .any, .any, .pv (.list 8 (l.map eSit)), .pv (.int .i64 l.length), .pv (.int .i64 IX), .any, .any, .any, .any, .any, .any, .any, .any, .any, .any, .any, .any, .any, .any, .any, .any, .any, .any, .any, .any, .any, .any, .any, .any, .any, .any, .any, .any, .any, .any, .any, .any, .any, .any, .any, .any, .any, .any, .any, .any], [⟨c.1, bSit best⟩], [], none⟩)
   {st : St} (h : st.head [0, 1, 8, 9, 10, 43, 44, 45, 78, 82] st.boxes.length = some (S 0 (false, [], []))) :
   den env fn15_l1 st = some (.normal, ⟨[.any, .any, .any, .any, .any, .any, .any, .any, .any, .row 8 (resGo w best 0 l (false, [], [])).2.1, .row 1 (resGo w best 0 l (false, [], [])).2.2, .any, .any, .any, .any, .any, .any, .any, .any, .any, .any, .any, .any, .any, .any, .any, .any, .any, .any, .any, .any, .any, .any, .any, .any, .any, .any, .any, .any, .any, .any, .any, .any, .any, .any, .any, .any, .any, .any, .any, .any, .any, .any, .any, .any, .any, .any, .any, .any, .any, .any, .any, .any, .any, .any, .any, .any, .any, .any, .any, .any, .any, .any, .any, .any, .any, .any, .any, .any, .any, .any, .any, .any, .any, .any, .any], [⟨(resGo w best 0 l (false, [], [])).1, bSit best⟩], [], none⟩) := by
  unfold fn15_l1
  refine clean_list (l := l) S (fun i r c => some (.normal, ⟨[.any, .any, .any, .any, .any, .any, .any, .any, .any, .row 8 (resGo w best i r c).2.1, .row 1 (resGo w best i r c).2.2, .any, .any, .any, .any, .any, .any, .any, .any, .any, .any, .any, .any, .any, .any, .any, .any, .any, .any, .any, .any, .any, .any, .any, .any, .any, .any, .any, .any, .any, .any, .any, .any, .any, .any, .any, .any, .any, .any, .any, .any, .any, .any, .any, .any, .any, .any, .any, .any, .any, .any, .any, .any, .any, .any, .any, .any, .any, .any, .any, .any, .any, .any, .any, .any, .any, .any, .any, .any, .any, .any, .any, .any, .any, .any, .any], [⟨(resGo w best i r c).1, bSit best⟩], [], none⟩)) (fun i c => c.2.1.length ≤ i ∧ c.2.2.length ≤ i) (false, [], []) h (by unfold lim; omega) (by simp) (fun _ _ => by rw [hS]; rfl) (fun _ _ => by rw [hS]; rfl) ?_ ?_
  · rintro i x r ⟨z, out, los⟩ rb hi hx hr F1 F2 ⟨p1, p2⟩ ih
    have hlim : lim = 1073741824 := rfl
    have hx0 := hok x (List.mem_of_getElem? hx)
    simp only at p1 p2
    have F3 : (out.length + 1 ≤ lim) = True := eq_true (by omega)
    have F4 : (los.length + 1 ≤ lim) = True := eq_true (by omega)
    have e1 := (fun x : Sit => cal53 (es := x.lin.map eSpn)) x (by simpa using hx0)
    have e2 := cal50 hx0 hb
    simp only [hS] at ih ⊢
    unfold resGo
    cases c1 : ((i : Int) != w) with
    | false =>
      have c2 : losP w best i x = false := by simp only [losP, c1, Bool.false_and]
      simp only [c2, Bool.false_eq_true, if_false]
      obtain ⟨a1, a2, a3, a4, a5, a6, a7, a8⟩ := x
      simp only [eSit] at e1 e2 ⊢
      simp only [fn15_b0, F1, F2, F3, F4, c1, hx, e1, eSit, bSit, index_nat hi, List.getElem?_map, Option.map_some, List.isEmpty_nil, val_pvs, frozen_pvs, msnoc_len, msnoc_get, msnoc_set, msnoc_take, Int.le_refl, take_map_all, Nat.le_refl, St.freezeRows, BV.frozen, List.take_length, List.take_append_drop, z_repl_zero, Int.toNat_zero, true_and, and_true, and_self, eq_self, z_take_zero, List.drop_nil, List.take_nil, vAll, List.foldl_nil, List.foldl_cons, resultsOf, resultList, resultOf, zBV, splice, PV.remade, St.freezeAt, St.freezeBox, St.freezeCap, PV.single, plain, act, dstOf, if_true, if_false, reduceCtorEq, St.get, St.put, St.pvOf, St.putRow, St.consume, St.freeze, St.row, St.elems, St.grab, St.takeRow, St.setRow, St.place, St.optPv, St.setCell, St.setCellRow, binPV, intBin, unPV, BV.val, Nat.reduceEqDiff, bound, consumeAll, buildParts, capsOf, capOf, List.append_nil, Nat.reduceAdd, Nat.reduceLT, Nat.reduceLeDiff, beq_self_eq_true, List.length_map, Nat.beq, dcall, dcallP, List.mapM_cons, St.snapFn, St.snap, St.layAll, St.lay, St.freezeArg, St.freezeArg1]
      exact ih (z, out ++ [eSit ⟨a1, a2, a3, a4, a5, a6, a7, a8⟩], los) _ ⟨by simp; omega, by simp only; omega⟩ rfl
    | true =>
    cases c2 : ((x.role == 1) || apartX x best) with
    | false =>
      have c3 : losP w best i x = false := by simp only [losP, c1, c2, Bool.true_and]
      simp only [c3, Bool.false_eq_true, if_false]
      obtain ⟨c4, c5⟩ := Bool.or_eq_false_iff.1 c2
      rw [c5] at e2
      obtain ⟨a1, a2, a3, a4, a5, a6, a7, a8⟩ := x
      simp only [eSit] at e1 e2 c4 ⊢
      simp only [fn15_b0, F1, F2, F3, F4, c1, c4, hx, e1, e2, eSit, bSit, index_nat hi, List.getElem?_map, Option.map_some, List.isEmpty_nil, val_pvs, frozen_pvs, msnoc_len, msnoc_get, msnoc_set, msnoc_take, Int.le_refl, take_map_all, Nat.le_refl, St.freezeRows, BV.frozen, List.take_length, List.take_append_drop, z_repl_zero, Int.toNat_zero, true_and, and_true, and_self, eq_self, z_take_zero, List.drop_nil, List.take_nil, vAll, List.foldl_nil, List.foldl_cons, resultsOf, resultList, resultOf, zBV, splice, PV.remade, St.freezeAt, St.freezeBox, St.freezeCap, PV.single, plain, act, dstOf, if_true, if_false, reduceCtorEq, St.get, St.put, St.pvOf, St.putRow, St.consume, St.freeze, St.row, St.elems, St.grab, St.takeRow, St.setRow, St.place, St.optPv, St.setCell, St.setCellRow, binPV, intBin, unPV, BV.val, Nat.reduceEqDiff, bound, consumeAll, buildParts, capsOf, capOf, List.append_nil, Nat.reduceAdd, Nat.reduceLT, Nat.reduceLeDiff, beq_self_eq_true, List.length_map, Nat.beq, dcall, dcallP, List.mapM_cons, St.snapFn, St.snap, St.layAll, St.lay, St.freezeArg, St.freezeArg1]
      exact ih (z, out ++ [eSit ⟨a1, a2, a3, a4, a5, a6, a7, a8⟩], los) _ ⟨by simp; omega, by simp only; omega⟩ rfl
    | true =>
      have c3 : losP w best i x = true := by simp only [losP, c1, c2, Bool.true_and]
      simp only [c3, if_true]
      obtain ⟨a1, a2, a3, a4, a5, a6, a7, a8⟩ := x
      cases c4 : (a2 == 1) with
      | true =>
        simp only [eSit] at e1 e2 ⊢
        simp only [fn15_b0, F1, F2, F3, F4, c1, c4, hx, e1, eSit, bSit, index_nat hi, List.getElem?_map, Option.map_some, List.isEmpty_nil, val_pvs, frozen_pvs, msnoc_len, msnoc_get, msnoc_set, msnoc_take, Int.le_refl, take_map_all, Nat.le_refl, St.freezeRows, BV.frozen, List.take_length, List.take_append_drop, z_repl_zero, Int.toNat_zero, true_and, and_true, and_self, eq_self, z_take_zero, List.drop_nil, List.take_nil, vAll, List.foldl_nil, List.foldl_cons, resultsOf, resultList, resultOf, zBV, splice, PV.remade, St.freezeAt, St.freezeBox, St.freezeCap, PV.single, plain, act, dstOf, if_true, if_false, reduceCtorEq, St.get, St.put, St.pvOf, St.putRow, St.consume, St.freeze, St.row, St.elems, St.grab, St.takeRow, St.setRow, St.place, St.optPv, St.setCell, St.setCellRow, binPV, intBin, unPV, BV.val, Nat.reduceEqDiff, bound, consumeAll, buildParts, capsOf, capOf, List.append_nil, Nat.reduceAdd, Nat.reduceLT, Nat.reduceLeDiff, beq_self_eq_true, List.length_map, Nat.beq, dcall, dcallP, List.mapM_cons, St.snapFn, St.snap, St.layAll, St.lay, St.freezeArg, St.freezeArg1]
        rw [ih (true, out ++ [eSit (fenced best ⟨a1, a2, a3, a4, a5, a6, a7, a8⟩)], los ++ [.int .i64 i]) _ ⟨by simp; omega, by simp; omega⟩ (by rfl)]
        rfl
      | false =>
        simp only [c4, Bool.false_or] at c2
        rw [c2] at e2
        simp only [eSit] at e1 e2 ⊢
        simp only [fn15_b0, F1, F2, F3, F4, c1, c4, hx, e1, e2, eSit, bSit, index_nat hi, List.getElem?_map, Option.map_some, List.isEmpty_nil, val_pvs, frozen_pvs, msnoc_len, msnoc_get, msnoc_set, msnoc_take, Int.le_refl, take_map_all, Nat.le_refl, St.freezeRows, BV.frozen, List.take_length, List.take_append_drop, z_repl_zero, Int.toNat_zero, true_and, and_true, and_self, eq_self, z_take_zero, List.drop_nil, List.take_nil, vAll, List.foldl_nil, List.foldl_cons, resultsOf, resultList, resultOf, zBV, splice, PV.remade, St.freezeAt, St.freezeBox, St.freezeCap, PV.single, plain, act, dstOf, if_true, if_false, reduceCtorEq, St.get, St.put, St.pvOf, St.putRow, St.consume, St.freeze, St.row, St.elems, St.grab, St.takeRow, St.setRow, St.place, St.optPv, St.setCell, St.setCellRow, binPV, intBin, unPV, BV.val, Nat.reduceEqDiff, bound, consumeAll, buildParts, capsOf, capOf, List.append_nil, Nat.reduceAdd, Nat.reduceLT, Nat.reduceLeDiff, beq_self_eq_true, List.length_map, Nat.beq, dcall, dcallP, List.mapM_cons, St.snapFn, St.snap, St.layAll, St.lay, St.freezeArg, St.freezeArg1]
        rw [ih (true, out ++ [eSit (fenced best ⟨a1, a2, a3, a4, a5, a6, a7, a8⟩)], los ++ [.int .i64 i]) _ ⟨by simp; omega, by simp; omega⟩ (by rfl)]
        rfl
  · rintro ⟨z, out, los⟩ rb hp
    simp only [hS]
    simp only [fn15_b0, Int.lt_irrefl, List.isEmpty_nil, val_pvs, frozen_pvs, msnoc_len, msnoc_get, msnoc_set, msnoc_take, Int.le_refl, take_map_all, Nat.le_refl, St.freezeRows, BV.frozen, List.take_length, List.take_append_drop, z_repl_zero, Int.toNat_zero, true_and, and_true, and_self, eq_self, z_take_zero, List.drop_nil, List.take_nil, vAll, List.foldl_nil, List.foldl_cons, resultsOf, resultList, resultOf, zBV, splice, PV.remade, St.freezeAt, St.freezeBox, St.freezeCap, PV.single, plain, act, dstOf, if_true, if_false, reduceCtorEq, St.get, St.put, St.pvOf, St.putRow, St.consume, St.freeze, St.row, St.elems, St.grab, St.takeRow, St.setRow, St.place, St.optPv, St.setCell, St.setCellRow, binPV, intBin, unPV, BV.val, Nat.reduceEqDiff, bound, consumeAll, buildParts, capsOf, capOf, List.append_nil, Nat.reduceAdd, Nat.reduceLT, Nat.reduceLeDiff, beq_self_eq_true, List.length_map, Nat.beq, dcall, dcallP, List.mapM_cons, St.snapFn, St.snap, St.layAll, St.lay, St.freezeArg, St.freezeArg1]
    rfl
set_option maxHeartbeats 2000000 in
theorem loop16 {l : List Sit} {w : Int} {best : Sit} (hok : ∀ x ∈ l, x.lin.length ≤ lim) (hb : best.lin.length ≤ lim) (hl : l.length ≤ 8) (S : Nat → Bool × List PV × List PV → St)
   (hS : ∀ IX c, S IX c = ⟨[.pv (.list 8 (l.map eSit)), .pv (.int .i64 w), .any, .any, .any, .any, .any, .any, .pbox 0 0, .row 8 c.2.1, .row 1 c.2.2, .pv (.int .i64 IX), .any, .any, .any, .any, .any, .any, .any, .any, .any, .any, .any, .any, .any, .any, .any, .any, .any, .any, .any, .any, .any, .any, .any, .any, .any, .any, .any, .any, .any, .any, .any, .any, .any, .any, .any, .any, .any, .any, .any, .any, .any, .any, .any, .any, .any, .any, .any, .any, .any, .any, .any, .any, .any, .any, .any, .any, .any, .any, .any, .any, .any, .any, .any, .any, .any, .any, .any, .any, .any, .any, .any, .any, .any], [⟨c.1, bSit best⟩], [], none⟩)
   {st : St} (h : st.head [0, 1, 8, 9, 10, 11, 78, 82] st.boxes.length = some (S 0 (false, [], []))) :
   den env fn16_l1 st = some (.normal, ⟨[.any, .any, .any, .any, .any, .any, .any, .any, .any, .row 8 (resGo w best 0 l (false, [], [])).2.1, .row 1 (resGo w best 0 l (false, [], [])).2.2, .any, .any, .any, .any, .any, .any, .any, .any, .any, .any, .any, .any, .any, .any, .any, .any, .any, .any, .any, .any, .any, .any, .any, .any, .any, .any, .any, .any, .any, .any, .any, .any, .any, .any, .any, .any, .any, .any, .any, .any, .any, .any, .any, .any, .any, .any, .any, .any, .any, .any, .any, .any, .any, .any, .any, .any, .any, .any, .any, .any, .any, .any, .any, .any, .any, .any, .any, .any, .any, .any, .any, .any, .any, .any], [⟨(resGo w best 0 l (false, [], [])).1, bSit best⟩], [], none⟩) := by
  unfold fn16_l1
  refine clean_list (l := l) S (fun i r c => some (.normal, ⟨[.any, .any, .any, .any, .any, .any, .any, .any, .any, .row 8 (resGo w best i r c).2.1, .row 1 (resGo w best i r c).2.2, .any, .any, .any, .any, .any, .any, .any, .any, .any, .any, .any, .any, .any, .any, .any, .any, .any, .any, .any, .any, .any, .any, .any, .any, .any, .any, .any, .any, .any, .any, .any, .any, .any, .any, .any, .any, .any, .any, .any, .any, .any, .any, .any, .any, .any, .any, .any, .any, .any, .any, .any, .any, .any, .any, .any, .any, .any, .any, .any, .any, .any, .any, .any, .any, .any, .any, .any, .any, .any, .any, .any, .any, .any, .any], [⟨(resGo w best i r c).1, bSit best⟩], [], none⟩)) (fun i c => c.2.1.length ≤ i ∧ c.2.2.length ≤ i) (false, [], []) h (by unfold lim; omega) (by simp) (fun _ _ => by rw [hS]; rfl) (fun _ _ => by rw [hS]; rfl) ?_ ?_
  · rintro i x r ⟨z, out, los⟩ rb hi hx hr F1 F2 ⟨p1, p2⟩ ih
    have hlim : lim = 1073741824 := rfl
    have hx0 := hok x (List.mem_of_getElem? hx)
    simp only at p1 p2
    have F3 : (out.length + 1 ≤ lim) = True := eq_true (by omega)
    have F4 : (los.length + 1 ≤ lim) = True := eq_true (by omega)
    have e1 := (fun x : Sit => fun h : (x.lin.map eSpn).length ≤ lim => cal54 (s := x) (by simpa using h)) x (by simpa using hx0)
    have e2 := cal52 hx0 hb
    simp only [hS] at ih ⊢
    unfold resGo
    cases c1 : ((i : Int) != w) with
    | false =>
      have c2 : losP w best i x = false := by simp only [losP, c1, Bool.false_and]
      simp only [c2, Bool.false_eq_true, if_false]
      obtain ⟨a1, a2, a3, a4, a5, a6, a7, a8⟩ := x
      simp only [eSit] at e1 e2 ⊢
      simp only [fn16_b0, F1, F2, F3, F4, c1, hx, e1, eSit, bSit, index_nat hi, List.getElem?_map, Option.map_some, List.isEmpty_nil, val_pvs, frozen_pvs, msnoc_len, msnoc_get, msnoc_set, msnoc_take, Int.le_refl, take_map_all, Nat.le_refl, St.freezeRows, BV.frozen, List.take_length, List.take_append_drop, z_repl_zero, Int.toNat_zero, true_and, and_true, and_self, eq_self, z_take_zero, List.drop_nil, List.take_nil, vAll, List.foldl_nil, List.foldl_cons, resultsOf, resultList, resultOf, zBV, splice, PV.remade, St.freezeAt, St.freezeBox, St.freezeCap, PV.single, plain, act, dstOf, if_true, if_false, reduceCtorEq, St.get, St.put, St.pvOf, St.putRow, St.consume, St.freeze, St.row, St.elems, St.grab, St.takeRow, St.setRow, St.place, St.optPv, St.setCell, St.setCellRow, binPV, intBin, unPV, BV.val, Nat.reduceEqDiff, bound, consumeAll, buildParts, capsOf, capOf, List.append_nil, Nat.reduceAdd, Nat.reduceLT, Nat.reduceLeDiff, beq_self_eq_true, List.length_map, Nat.beq, dcall, dcallP, List.mapM_cons, St.snapFn, St.snap, St.layAll, St.lay, St.freezeArg, St.freezeArg1]
      exact ih (z, out ++ [eSit ⟨a1, a2, a3, a4, a5, a6, a7, a8⟩], los) _ ⟨by simp; omega, by simp only; omega⟩ rfl
    | true =>
    cases c2 : ((x.role == 1) || apartX x best) with
    | false =>
      have c3 : losP w best i x = false := by simp only [losP, c1, c2, Bool.true_and]
      simp only [c3, Bool.false_eq_true, if_false]
      obtain ⟨c4, c5⟩ := Bool.or_eq_false_iff.1 c2
      rw [c5] at e2
      obtain ⟨a1, a2, a3, a4, a5, a6, a7, a8⟩ := x
      simp only [eSit] at e1 e2 c4 ⊢
      simp only [fn16_b0, F1, F2, F3, F4, c1, c4, hx, e1, e2, eSit, bSit, index_nat hi, List.getElem?_map, Option.map_some, List.isEmpty_nil, val_pvs, frozen_pvs, msnoc_len, msnoc_get, msnoc_set, msnoc_take, Int.le_refl, take_map_all, Nat.le_refl, St.freezeRows, BV.frozen, List.take_length, List.take_append_drop, z_repl_zero, Int.toNat_zero, true_and, and_true, and_self, eq_self, z_take_zero, List.drop_nil, List.take_nil, vAll, List.foldl_nil, List.foldl_cons, resultsOf, resultList, resultOf, zBV, splice, PV.remade, St.freezeAt, St.freezeBox, St.freezeCap, PV.single, plain, act, dstOf, if_true, if_false, reduceCtorEq, St.get, St.put, St.pvOf, St.putRow, St.consume, St.freeze, St.row, St.elems, St.grab, St.takeRow, St.setRow, St.place, St.optPv, St.setCell, St.setCellRow, binPV, intBin, unPV, BV.val, Nat.reduceEqDiff, bound, consumeAll, buildParts, capsOf, capOf, List.append_nil, Nat.reduceAdd, Nat.reduceLT, Nat.reduceLeDiff, beq_self_eq_true, List.length_map, Nat.beq, dcall, dcallP, List.mapM_cons, St.snapFn, St.snap, St.layAll, St.lay, St.freezeArg, St.freezeArg1]
      exact ih (z, out ++ [eSit ⟨a1, a2, a3, a4, a5, a6, a7, a8⟩], los) _ ⟨by simp; omega, by simp only; omega⟩ rfl
    | true =>
      have c3 : losP w best i x = true := by simp only [losP, c1, c2, Bool.true_and]
      simp only [c3, if_true]
      obtain ⟨a1, a2, a3, a4, a5, a6, a7, a8⟩ := x
      cases c4 : (a2 == 1) with
      | true =>
        simp only [eSit] at e1 e2 ⊢
        simp only [fn16_b0, F1, F2, F3, F4, c1, c4, hx, e1, eSit, bSit, index_nat hi, List.getElem?_map, Option.map_some, List.isEmpty_nil, val_pvs, frozen_pvs, msnoc_len, msnoc_get, msnoc_set, msnoc_take, Int.le_refl, take_map_all, Nat.le_refl, St.freezeRows, BV.frozen, List.take_length, List.take_append_drop, z_repl_zero, Int.toNat_zero, true_and, and_true, and_self, eq_self, z_take_zero, List.drop_nil, List.take_nil, vAll, List.foldl_nil, List.foldl_cons, resultsOf, resultList, resultOf, zBV, splice, PV.remade, St.freezeAt, St.freezeBox, St.freezeCap, PV.single, plain, act, dstOf, if_true, if_false, reduceCtorEq, St.get, St.put, St.pvOf, St.putRow, St.consume, St.freeze, St.row, St.elems, St.grab, St.takeRow, St.setRow, St.place, St.optPv, St.setCell, St.setCellRow, binPV, intBin, unPV, BV.val, Nat.reduceEqDiff, bound, consumeAll, buildParts, capsOf, capOf, List.append_nil, Nat.reduceAdd, Nat.reduceLT, Nat.reduceLeDiff, beq_self_eq_true, List.length_map, Nat.beq, dcall, dcallP, List.mapM_cons, St.snapFn, St.snap, St.layAll, St.lay, St.freezeArg, St.freezeArg1]
        rw [ih (true, out ++ [eSit (fenced best ⟨a1, a2, a3, a4, a5, a6, a7, a8⟩)], los ++ [.int .i64 i]) _ ⟨by simp; omega, by simp; omega⟩ (by rfl)]
        rfl
      | false =>
        simp only [c4, Bool.false_or] at c2
        rw [c2] at e2
        simp only [eSit] at e1 e2 ⊢
        simp only [fn16_b0, F1, F2, F3, F4, c1, c4, hx, e1, e2, eSit, bSit, index_nat hi, List.getElem?_map, Option.map_some, List.isEmpty_nil, val_pvs, frozen_pvs, msnoc_len, msnoc_get, msnoc_set, msnoc_take, Int.le_refl, take_map_all, Nat.le_refl, St.freezeRows, BV.frozen, List.take_length, List.take_append_drop, z_repl_zero, Int.toNat_zero, true_and, and_true, and_self, eq_self, z_take_zero, List.drop_nil, List.take_nil, vAll, List.foldl_nil, List.foldl_cons, resultsOf, resultList, resultOf, zBV, splice, PV.remade, St.freezeAt, St.freezeBox, St.freezeCap, PV.single, plain, act, dstOf, if_true, if_false, reduceCtorEq, St.get, St.put, St.pvOf, St.putRow, St.consume, St.freeze, St.row, St.elems, St.grab, St.takeRow, St.setRow, St.place, St.optPv, St.setCell, St.setCellRow, binPV, intBin, unPV, BV.val, Nat.reduceEqDiff, bound, consumeAll, buildParts, capsOf, capOf, List.append_nil, Nat.reduceAdd, Nat.reduceLT, Nat.reduceLeDiff, beq_self_eq_true, List.length_map, Nat.beq, dcall, dcallP, List.mapM_cons, St.snapFn, St.snap, St.layAll, St.lay, St.freezeArg, St.freezeArg1]
        rw [ih (true, out ++ [eSit (fenced best ⟨a1, a2, a3, a4, a5, a6, a7, a8⟩)], los ++ [.int .i64 i]) _ ⟨by simp; omega, by simp; omega⟩ (by rfl)]
        rfl
  · rintro ⟨z, out, los⟩ rb hp
    simp only [hS]
    simp only [fn16_b0, Int.lt_irrefl, List.isEmpty_nil, val_pvs, frozen_pvs, msnoc_len, msnoc_get, msnoc_set, msnoc_take, Int.le_refl, take_map_all, Nat.le_refl, St.freezeRows, BV.frozen, List.take_length, List.take_append_drop, z_repl_zero, Int.toNat_zero, true_and, and_true, and_self, eq_self, z_take_zero, List.drop_nil, List.take_nil, vAll, List.foldl_nil, List.foldl_cons, resultsOf, resultList, resultOf, zBV, splice, PV.remade, St.freezeAt, St.freezeBox, St.freezeCap, PV.single, plain, act, dstOf, if_true, if_false, reduceCtorEq, St.get, St.put, St.pvOf, St.putRow, St.consume, St.freeze, St.row, St.elems, St.grab, St.takeRow, St.setRow, St.place, St.optPv, St.setCell, St.setCellRow, binPV, intBin, unPV, BV.val, Nat.reduceEqDiff, bound, consumeAll, buildParts, capsOf, capOf, List.append_nil, Nat.reduceAdd, Nat.reduceLT, Nat.reduceLeDiff, beq_self_eq_true, List.length_map, Nat.beq, dcall, dcallP, List.mapM_cons, St.snapFn, St.snap, St.layAll, St.lay, St.freezeArg, St.freezeArg1]
    rfl
def winE (l : List Sit) (w : Int) : Int := if (sitesErr54 l != 0) = true then sitesErr54 l else if (decide (w < 0) || decide (w ≥ (l.length : Int))) = true then 7 else if ((((l.getD w.toNat zSit).role != 1) && ((l.getD w.toNat zSit).role != 2)) && ((l.getD w.toNat zSit).role != 3)) = true then 18 else 0
def resX (l : List Sit) (w : Int) : Bool × List PV × List PV := if (winE l w != 0) = true then (false, [], []) else resGo w (l.getD w.toNat zSit) 0 l (false, [], [])
set_option maxHeartbeats 2000000 in
theorem cal15 {l : List Sit} {w : Int} (hok : ∀ x ∈ l, x.lin.length ≤ lim) (hl : l.length ≤ 8) : cal env 15 [.list 8 (l.map eSit), .int .i64 w] = some [(.list 8 (resX l w).2.1, true), (.list 1 (resX l w).2.2, true), (.int .i64 (winE l w), false)] := by
  have e1 := cal48 hok (by unfold lim; omega)
  cases hc : (sitesErr54 l != 0) with
  | true =>
    have hw : winE l w = sitesErr54 l := by unfold winE; rw [hc, if_pos rfl]
    have hr : resX l w = (false, [], []) := by unfold resX; rw [hw, hc, if_pos rfl]
    rw [hw, hr]
    rw [cal_code env15 rfl]; simp only [fn15]; simp only [start, z_map_cons, z_map_nil, z_len_cons, z_len_nil, z_repl_zero, z_repl_succ, z_cons_app, z_nil_app, Nat.reduceAdd, Nat.reduceSub]
    simp only [e1, hc, List.isEmpty_nil, val_pvs, frozen_pvs, msnoc_len, msnoc_get, msnoc_set, msnoc_take, Int.le_refl, take_map_all, Nat.le_refl, St.freezeRows, BV.frozen, List.take_length, List.take_append_drop, z_repl_zero, Int.toNat_zero, true_and, and_true, and_self, eq_self, z_take_zero, List.drop_nil, List.take_nil, vAll, List.foldl_nil, List.foldl_cons, resultsOf, resultList, resultOf, zBV, splice, PV.remade, St.freezeAt, St.freezeBox, St.freezeCap, PV.single, plain, act, dstOf, if_true, if_false, reduceCtorEq, St.get, St.put, St.pvOf, St.putRow, St.consume, St.freeze, St.row, St.elems, St.grab, St.takeRow, St.setRow, St.place, St.optPv, St.setCell, St.setCellRow, binPV, intBin, unPV, BV.val, Nat.reduceEqDiff, bound, consumeAll, buildParts, capsOf, capOf, List.append_nil, Nat.reduceAdd, Nat.reduceLT, Nat.reduceLeDiff, beq_self_eq_true, List.length_map, Nat.beq, dcall, dcallP, List.mapM_cons, St.snapFn, St.snap, St.layAll, St.lay, St.freezeArg, St.freezeArg1]
  | false =>
  have h0 : sitesErr54 l = 0 := by simpa using hc
  cases hd : (decide (w < 0) || decide (w ≥ (l.length : Int))) with
  | true =>
    have hw : winE l w = 7 := by unfold winE; rw [hc, if_neg (by simp), hd, if_pos rfl]
    have hr : resX l w = (false, [], []) := by unfold resX; rw [hw]; rfl
    rw [hw, hr]
    by_cases c1 : w < 0
    · have G1 : (w < 0) = True := eq_true c1
      rw [cal_code env15 rfl]; simp only [fn15]; simp only [start, z_map_cons, z_map_nil, z_len_cons, z_len_nil, z_repl_zero, z_repl_succ, z_cons_app, z_nil_app, Nat.reduceAdd, Nat.reduceSub]
      simp only [e1, hc, G1, List.isEmpty_nil, val_pvs, frozen_pvs, msnoc_len, msnoc_get, msnoc_set, msnoc_take, Int.le_refl, take_map_all, Nat.le_refl, St.freezeRows, BV.frozen, List.take_length, List.take_append_drop, z_repl_zero, Int.toNat_zero, true_and, and_true, and_self, eq_self, z_take_zero, List.drop_nil, List.take_nil, vAll, List.foldl_nil, List.foldl_cons, resultsOf, resultList, resultOf, zBV, splice, PV.remade, St.freezeAt, St.freezeBox, St.freezeCap, PV.single, plain, act, dstOf, if_true, if_false, reduceCtorEq, St.get, St.put, St.pvOf, St.putRow, St.consume, St.freeze, St.row, St.elems, St.grab, St.takeRow, St.setRow, St.place, St.optPv, St.setCell, St.setCellRow, binPV, intBin, unPV, BV.val, Nat.reduceEqDiff, bound, consumeAll, buildParts, capsOf, capOf, List.append_nil, Nat.reduceAdd, Nat.reduceLT, Nat.reduceLeDiff, beq_self_eq_true, List.length_map, Nat.beq, dcall, dcallP, List.mapM_cons, St.snapFn, St.snap, St.layAll, St.lay, St.freezeArg, St.freezeArg1]
    · have G1 : (w < 0) = False := eq_false c1
      have G2 : (w ≥ (l.length : Int)) = True := by simp [c1] at hd; exact eq_true hd
      rw [cal_code env15 rfl]; simp only [fn15]; simp only [start, z_map_cons, z_map_nil, z_len_cons, z_len_nil, z_repl_zero, z_repl_succ, z_cons_app, z_nil_app, Nat.reduceAdd, Nat.reduceSub]
      simp only [e1, hc, G1, G2, List.isEmpty_nil, val_pvs, frozen_pvs, msnoc_len, msnoc_get, msnoc_set, msnoc_take, Int.le_refl, take_map_all, Nat.le_refl, St.freezeRows, BV.frozen, List.take_length, List.take_append_drop, z_repl_zero, Int.toNat_zero, true_and, and_true, and_self, eq_self, z_take_zero, List.drop_nil, List.take_nil, vAll, List.foldl_nil, List.foldl_cons, resultsOf, resultList, resultOf, zBV, splice, PV.remade, St.freezeAt, St.freezeBox, St.freezeCap, PV.single, plain, act, dstOf, if_true, if_false, reduceCtorEq, St.get, St.put, St.pvOf, St.putRow, St.consume, St.freeze, St.row, St.elems, St.grab, St.takeRow, St.setRow, St.place, St.optPv, St.setCell, St.setCellRow, binPV, intBin, unPV, BV.val, Nat.reduceEqDiff, bound, consumeAll, buildParts, capsOf, capOf, List.append_nil, Nat.reduceAdd, Nat.reduceLT, Nat.reduceLeDiff, beq_self_eq_true, List.length_map, Nat.beq, dcall, dcallP, List.mapM_cons, St.snapFn, St.snap, St.layAll, St.lay, St.freezeArg, St.freezeArg1]
  | false =>
  obtain ⟨c1, c2⟩ := Bool.or_eq_false_iff.1 hd
  have G1 : (w < 0) = False := eq_false (of_decide_eq_false c1)
  have G2 : (w ≥ (l.length : Int)) = False := eq_false (of_decide_eq_false c2)
  obtain ⟨j, rfl⟩ : ∃ j : Nat, w = (j : Int) := ⟨w.toNat, by have := of_decide_eq_false c1; omega⟩
  have hj : j < l.length := by have := of_decide_eq_false c2; omega
  have hx : l[j]? = some l[j] := List.getElem?_eq_getElem hj
  have hg : l.getD (j : Int).toNat zSit = l[j] := by rw [Int.toNat_natCast, List.getD_eq_getElem?_getD, hx]; rfl
  have hj0 := hok _ (List.getElem_mem hj)
  have hw : winE l j = if (((l[j].role != 1) && (l[j].role != 2)) && (l[j].role != 3)) = true then 18 else 0 := by
    unfold winE
    rw [hc, if_neg (by simp), hd, if_neg (by simp), hg]
  have hr : resX l j = if (winE l j != 0) = true then (false, [], []) else resGo j l[j] 0 l (false, [], []) := by
    unfold resX; rw [hg]
  rw [hr, hw]
  clear hr hw hg hd
  generalize l[j] = x at *
  obtain ⟨a1, a2, a3, a4, a5, a6, a7, a8⟩ := x
  simp only
  rw [cal_code env15 rfl]; simp only [fn15]; simp only [start, z_map_cons, z_map_nil, z_len_cons, z_len_nil, z_repl_zero, z_repl_succ, z_cons_app, z_nil_app, Nat.reduceAdd, Nat.reduceSub]
  simp only [e1, hc, G1, G2, hx, eSit, index_nat hj, List.getElem?_map, Option.map_some, List.isEmpty_nil, val_pvs, frozen_pvs, msnoc_len, msnoc_get, msnoc_set, msnoc_take, Int.le_refl, take_map_all, Nat.le_refl, St.freezeRows, BV.frozen, List.take_length, List.take_append_drop, z_repl_zero, Int.toNat_zero, true_and, and_true, and_self, eq_self, z_take_zero, List.drop_nil, List.take_nil, vAll, List.foldl_nil, List.foldl_cons, resultsOf, resultList, resultOf, zBV, splice, PV.remade, St.freezeAt, St.freezeBox, St.freezeCap, PV.single, plain, act, dstOf, if_true, if_false, reduceCtorEq, St.get, St.put, St.pvOf, St.putRow, St.consume, St.freeze, St.row, St.elems, St.grab, St.takeRow, St.setRow, St.place, St.optPv, St.setCell, St.setCellRow, binPV, intBin, unPV, BV.val, Nat.reduceEqDiff, bound, consumeAll, buildParts, capsOf, capOf, List.append_nil, Nat.reduceAdd, Nat.reduceLT, Nat.reduceLeDiff, beq_self_eq_true, List.length_map, Nat.beq, dcall, dcallP, List.mapM_cons, St.snapFn, St.snap, St.layAll, St.lay, St.freezeArg, St.freezeArg1]
  repeat' ((try simp only [bcase_bind, bcase_map, tail_bcase]); refine bcase_split (fun hb => ?_) (fun hb => ?_) <;> try simp only [hb, e1, hc, G1, G2, hx, eSit, index_nat hj, List.getElem?_map, Option.map_some, List.isEmpty_nil, val_pvs, frozen_pvs, msnoc_len, msnoc_get, msnoc_set, msnoc_take, Int.le_refl, take_map_all, Nat.le_refl, St.freezeRows, BV.frozen, List.take_length, List.take_append_drop, z_repl_zero, Int.toNat_zero, true_and, and_true, and_self, eq_self, z_take_zero, List.drop_nil, List.take_nil, vAll, List.foldl_nil, List.foldl_cons, resultsOf, resultList, resultOf, zBV, splice, PV.remade, St.freezeAt, St.freezeBox, St.freezeCap, PV.single, plain, act, dstOf, if_true, if_false, reduceCtorEq, St.get, St.put, St.pvOf, St.putRow, St.consume, St.freeze, St.row, St.elems, St.grab, St.takeRow, St.setRow, St.place, St.optPv, St.setCell, St.setCellRow, binPV, intBin, unPV, BV.val, Nat.reduceEqDiff, bound, consumeAll, buildParts, capsOf, capOf, List.append_nil, Nat.reduceAdd, Nat.reduceLT, Nat.reduceLeDiff, beq_self_eq_true, List.length_map, Nat.beq, dcall, dcallP, List.mapM_cons, St.snapFn, St.snap, St.layAll, St.lay, St.freezeArg, St.freezeArg1])
  all_goals first
    | (have hK : ((a2 != 1 && a2 != 2) && a2 != 3) = true := by simp_all
       rw [hK]
       rfl)
    | (have hK : ((a2 != 1 && a2 != 2) && a2 != 3) = false := by simp_all
       rw [hK]
       rw [loop15 (w := j) (best := ⟨a1, a2, a3, a4, a5, a6, a7, a8⟩) hok hj0 hl (fun IX c => ⟨[.pv (.list 8 (l.map eSit)), .pv (.int .i64 j), .any, .any, .any, .any, .any, .any, .pbox 0 0, .row 8 c.2.1, .row 1 c.2.2, .any, .any, .any, .any, .any, .any, .any, .any, .any, .any, .any, .any, .any, .any, .any, .any, .any, .any, .any, .any, .any, .any, .any, .any, .any, .any, .any, .any, .any, .any, .any, .any, .pv (.list 8 (l.map eSit)), .pv (.int .i64 l.length), .pv (.int .i64 IX), .any, .any, .any, .any, .any, .any, .any, .any, .any, .any, .any, .any, .any, .any, .any, .any, .any, .any, .any, .any, .any, .any, .any, .any, .any, .any, .any, .any, .any, .any, .any, .any, .any, .any, .any, .any, .any, .any, .any, .any], [⟨c.1, bSit ⟨a1, a2, a3, a4, a5, a6, a7, a8⟩⟩], [], none⟩) (fun _ _ => rfl)]
       rotate_left
       · rfl
       · generalize resGo _ _ _ _ _ = rg
         simp only [e1, hc, G1, G2, hx, eSit, index_nat hj, List.getElem?_map, Option.map_some, List.isEmpty_nil, val_pvs, frozen_pvs, msnoc_len, msnoc_get, msnoc_set, msnoc_take, Int.le_refl, take_map_all, Nat.le_refl, St.freezeRows, BV.frozen, List.take_length, List.take_append_drop, z_repl_zero, Int.toNat_zero, true_and, and_true, and_self, eq_self, z_take_zero, List.drop_nil, List.take_nil, vAll, List.foldl_nil, List.foldl_cons, resultsOf, resultList, resultOf, zBV, splice, PV.remade, St.freezeAt, St.freezeBox, St.freezeCap, PV.single, plain, act, dstOf, if_true, if_false, reduceCtorEq, St.get, St.put, St.pvOf, St.putRow, St.consume, St.freeze, St.row, St.elems, St.grab, St.takeRow, St.setRow, St.place, St.optPv, St.setCell, St.setCellRow, binPV, intBin, unPV, BV.val, Nat.reduceEqDiff, bound, consumeAll, buildParts, capsOf, capOf, List.append_nil, Nat.reduceAdd, Nat.reduceLT, Nat.reduceLeDiff, beq_self_eq_true, List.length_map, Nat.beq, dcall, dcallP, List.mapM_cons, St.snapFn, St.snap, St.layAll, St.lay, St.freezeArg, St.freezeArg1]
         rfl)
    | (exfalso; simp_all; done)
set_option maxHeartbeats 2000000 in
theorem cal16 {l : List Sit} {w : Int} (hok : ∀ x ∈ l, x.lin.length ≤ lim) (hl : l.length ≤ 8) : cal env 16 [.list 8 (l.map eSit), .int .i64 w] = some [(.list 8 (resX l w).2.1, true), (.list 1 (resX l w).2.2, true), (.int .i64 (winE l w), false)] := by
  have e1 := cal51 hok (by unfold lim; omega)
  cases hc : (sitesErr54 l != 0) with
  | true =>
    have hw : winE l w = sitesErr54 l := by unfold winE; rw [hc, if_pos rfl]
    have hr : resX l w = (false, [], []) := by unfold resX; rw [hw, hc, if_pos rfl]
    rw [hw, hr]
    rw [cal_code env16 rfl]; simp only [fn16]; simp only [start, z_map_cons, z_map_nil, z_len_cons, z_len_nil, z_repl_zero, z_repl_succ, z_cons_app, z_nil_app, Nat.reduceAdd, Nat.reduceSub]
    simp only [e1, hc, List.isEmpty_nil, val_pvs, frozen_pvs, msnoc_len, msnoc_get, msnoc_set, msnoc_take, Int.le_refl, take_map_all, Nat.le_refl, St.freezeRows, BV.frozen, List.take_length, List.take_append_drop, z_repl_zero, Int.toNat_zero, true_and, and_true, and_self, eq_self, z_take_zero, List.drop_nil, List.take_nil, vAll, List.foldl_nil, List.foldl_cons, resultsOf, resultList, resultOf, zBV, splice, PV.remade, St.freezeAt, St.freezeBox, St.freezeCap, PV.single, plain, act, dstOf, if_true, if_false, reduceCtorEq, St.get, St.put, St.pvOf, St.putRow, St.consume, St.freeze, St.row, St.elems, St.grab, St.takeRow, St.setRow, St.place, St.optPv, St.setCell, St.setCellRow, binPV, intBin, unPV, BV.val, Nat.reduceEqDiff, bound, consumeAll, buildParts, capsOf, capOf, List.append_nil, Nat.reduceAdd, Nat.reduceLT, Nat.reduceLeDiff, beq_self_eq_true, List.length_map, Nat.beq, dcall, dcallP, List.mapM_cons, St.snapFn, St.snap, St.layAll, St.lay, St.freezeArg, St.freezeArg1]
  | false =>
  have h0 : sitesErr54 l = 0 := by simpa using hc
  cases hd : (decide (w < 0) || decide (w ≥ (l.length : Int))) with
  | true =>
    have hw : winE l w = 7 := by unfold winE; rw [hc, if_neg (by simp), hd, if_pos rfl]
    have hr : resX l w = (false, [], []) := by unfold resX; rw [hw]; rfl
    rw [hw, hr]
    by_cases c1 : w < 0
    · have G1 : (w < 0) = True := eq_true c1
      rw [cal_code env16 rfl]; simp only [fn16]; simp only [start, z_map_cons, z_map_nil, z_len_cons, z_len_nil, z_repl_zero, z_repl_succ, z_cons_app, z_nil_app, Nat.reduceAdd, Nat.reduceSub]
      simp only [e1, hc, G1, List.isEmpty_nil, val_pvs, frozen_pvs, msnoc_len, msnoc_get, msnoc_set, msnoc_take, Int.le_refl, take_map_all, Nat.le_refl, St.freezeRows, BV.frozen, List.take_length, List.take_append_drop, z_repl_zero, Int.toNat_zero, true_and, and_true, and_self, eq_self, z_take_zero, List.drop_nil, List.take_nil, vAll, List.foldl_nil, List.foldl_cons, resultsOf, resultList, resultOf, zBV, splice, PV.remade, St.freezeAt, St.freezeBox, St.freezeCap, PV.single, plain, act, dstOf, if_true, if_false, reduceCtorEq, St.get, St.put, St.pvOf, St.putRow, St.consume, St.freeze, St.row, St.elems, St.grab, St.takeRow, St.setRow, St.place, St.optPv, St.setCell, St.setCellRow, binPV, intBin, unPV, BV.val, Nat.reduceEqDiff, bound, consumeAll, buildParts, capsOf, capOf, List.append_nil, Nat.reduceAdd, Nat.reduceLT, Nat.reduceLeDiff, beq_self_eq_true, List.length_map, Nat.beq, dcall, dcallP, List.mapM_cons, St.snapFn, St.snap, St.layAll, St.lay, St.freezeArg, St.freezeArg1]
    · have G1 : (w < 0) = False := eq_false c1
      have G2 : (w ≥ (l.length : Int)) = True := by simp [c1] at hd; exact eq_true hd
      rw [cal_code env16 rfl]; simp only [fn16]; simp only [start, z_map_cons, z_map_nil, z_len_cons, z_len_nil, z_repl_zero, z_repl_succ, z_cons_app, z_nil_app, Nat.reduceAdd, Nat.reduceSub]
      simp only [e1, hc, G1, G2, List.isEmpty_nil, val_pvs, frozen_pvs, msnoc_len, msnoc_get, msnoc_set, msnoc_take, Int.le_refl, take_map_all, Nat.le_refl, St.freezeRows, BV.frozen, List.take_length, List.take_append_drop, z_repl_zero, Int.toNat_zero, true_and, and_true, and_self, eq_self, z_take_zero, List.drop_nil, List.take_nil, vAll, List.foldl_nil, List.foldl_cons, resultsOf, resultList, resultOf, zBV, splice, PV.remade, St.freezeAt, St.freezeBox, St.freezeCap, PV.single, plain, act, dstOf, if_true, if_false, reduceCtorEq, St.get, St.put, St.pvOf, St.putRow, St.consume, St.freeze, St.row, St.elems, St.grab, St.takeRow, St.setRow, St.place, St.optPv, St.setCell, St.setCellRow, binPV, intBin, unPV, BV.val, Nat.reduceEqDiff, bound, consumeAll, buildParts, capsOf, capOf, List.append_nil, Nat.reduceAdd, Nat.reduceLT, Nat.reduceLeDiff, beq_self_eq_true, List.length_map, Nat.beq, dcall, dcallP, List.mapM_cons, St.snapFn, St.snap, St.layAll, St.lay, St.freezeArg, St.freezeArg1]
  | false =>
  obtain ⟨c1, c2⟩ := Bool.or_eq_false_iff.1 hd
  have G1 : (w < 0) = False := eq_false (of_decide_eq_false c1)
  have G2 : (w ≥ (l.length : Int)) = False := eq_false (of_decide_eq_false c2)
  obtain ⟨j, rfl⟩ : ∃ j : Nat, w = (j : Int) := ⟨w.toNat, by have := of_decide_eq_false c1; omega⟩
  have hj : j < l.length := by have := of_decide_eq_false c2; omega
  have hx : l[j]? = some l[j] := List.getElem?_eq_getElem hj
  have hg : l.getD (j : Int).toNat zSit = l[j] := by rw [Int.toNat_natCast, List.getD_eq_getElem?_getD, hx]; rfl
  have hj0 := hok _ (List.getElem_mem hj)
  have hw : winE l j = if (((l[j].role != 1) && (l[j].role != 2)) && (l[j].role != 3)) = true then 18 else 0 := by
    unfold winE
    rw [hc, if_neg (by simp), hd, if_neg (by simp), hg]
  have hr : resX l j = if (winE l j != 0) = true then (false, [], []) else resGo j l[j] 0 l (false, [], []) := by
    unfold resX; rw [hg]
  rw [hr, hw]
  clear hr hw hg hd
  generalize l[j] = x at *
  obtain ⟨a1, a2, a3, a4, a5, a6, a7, a8⟩ := x
  simp only
  rw [cal_code env16 rfl]; simp only [fn16]; simp only [start, z_map_cons, z_map_nil, z_len_cons, z_len_nil, z_repl_zero, z_repl_succ, z_cons_app, z_nil_app, Nat.reduceAdd, Nat.reduceSub]
  simp only [e1, hc, G1, G2, hx, eSit, index_nat hj, List.getElem?_map, Option.map_some, List.isEmpty_nil, val_pvs, frozen_pvs, msnoc_len, msnoc_get, msnoc_set, msnoc_take, Int.le_refl, take_map_all, Nat.le_refl, St.freezeRows, BV.frozen, List.take_length, List.take_append_drop, z_repl_zero, Int.toNat_zero, true_and, and_true, and_self, eq_self, z_take_zero, List.drop_nil, List.take_nil, vAll, List.foldl_nil, List.foldl_cons, resultsOf, resultList, resultOf, zBV, splice, PV.remade, St.freezeAt, St.freezeBox, St.freezeCap, PV.single, plain, act, dstOf, if_true, if_false, reduceCtorEq, St.get, St.put, St.pvOf, St.putRow, St.consume, St.freeze, St.row, St.elems, St.grab, St.takeRow, St.setRow, St.place, St.optPv, St.setCell, St.setCellRow, binPV, intBin, unPV, BV.val, Nat.reduceEqDiff, bound, consumeAll, buildParts, capsOf, capOf, List.append_nil, Nat.reduceAdd, Nat.reduceLT, Nat.reduceLeDiff, beq_self_eq_true, List.length_map, Nat.beq, dcall, dcallP, List.mapM_cons, St.snapFn, St.snap, St.layAll, St.lay, St.freezeArg, St.freezeArg1]
  repeat' ((try simp only [bcase_bind, bcase_map, tail_bcase]); refine bcase_split (fun hb => ?_) (fun hb => ?_) <;> try simp only [hb, e1, hc, G1, G2, hx, eSit, index_nat hj, List.getElem?_map, Option.map_some, List.isEmpty_nil, val_pvs, frozen_pvs, msnoc_len, msnoc_get, msnoc_set, msnoc_take, Int.le_refl, take_map_all, Nat.le_refl, St.freezeRows, BV.frozen, List.take_length, List.take_append_drop, z_repl_zero, Int.toNat_zero, true_and, and_true, and_self, eq_self, z_take_zero, List.drop_nil, List.take_nil, vAll, List.foldl_nil, List.foldl_cons, resultsOf, resultList, resultOf, zBV, splice, PV.remade, St.freezeAt, St.freezeBox, St.freezeCap, PV.single, plain, act, dstOf, if_true, if_false, reduceCtorEq, St.get, St.put, St.pvOf, St.putRow, St.consume, St.freeze, St.row, St.elems, St.grab, St.takeRow, St.setRow, St.place, St.optPv, St.setCell, St.setCellRow, binPV, intBin, unPV, BV.val, Nat.reduceEqDiff, bound, consumeAll, buildParts, capsOf, capOf, List.append_nil, Nat.reduceAdd, Nat.reduceLT, Nat.reduceLeDiff, beq_self_eq_true, List.length_map, Nat.beq, dcall, dcallP, List.mapM_cons, St.snapFn, St.snap, St.layAll, St.lay, St.freezeArg, St.freezeArg1])
  all_goals first
    | (have hK : ((a2 != 1 && a2 != 2) && a2 != 3) = true := by simp_all
       rw [hK]
       rfl)
    | (have hK : ((a2 != 1 && a2 != 2) && a2 != 3) = false := by simp_all
       rw [hK]
       rw [loop16 (w := j) (best := ⟨a1, a2, a3, a4, a5, a6, a7, a8⟩) hok hj0 hl (fun IX c => ⟨[.pv (.list 8 (l.map eSit)), .pv (.int .i64 j), .any, .any, .any, .any, .any, .any, .pbox 0 0, .row 8 c.2.1, .row 1 c.2.2, .pv (.int .i64 IX), .any, .any, .any, .any, .any, .any, .any, .any, .any, .any, .any, .any, .any, .any, .any, .any, .any, .any, .any, .any, .any, .any, .any, .any, .any, .any, .any, .any, .any, .any, .any, .any, .any, .any, .any, .any, .any, .any, .any, .any, .any, .any, .any, .any, .any, .any, .any, .any, .any, .any, .any, .any, .any, .any, .any, .any, .any, .any, .any, .any, .any, .any, .any, .any, .any, .any, .any, .any, .any, .any, .any, .any, .any], [⟨c.1, bSit ⟨a1, a2, a3, a4, a5, a6, a7, a8⟩⟩], [], none⟩) (fun _ _ => rfl)]
       rotate_left
       · rfl
       · generalize resGo _ _ _ _ _ = rg
         simp only [e1, hc, G1, G2, hx, eSit, index_nat hj, List.getElem?_map, Option.map_some, List.isEmpty_nil, val_pvs, frozen_pvs, msnoc_len, msnoc_get, msnoc_set, msnoc_take, Int.le_refl, take_map_all, Nat.le_refl, St.freezeRows, BV.frozen, List.take_length, List.take_append_drop, z_repl_zero, Int.toNat_zero, true_and, and_true, and_self, eq_self, z_take_zero, List.drop_nil, List.take_nil, vAll, List.foldl_nil, List.foldl_cons, resultsOf, resultList, resultOf, zBV, splice, PV.remade, St.freezeAt, St.freezeBox, St.freezeCap, PV.single, plain, act, dstOf, if_true, if_false, reduceCtorEq, St.get, St.put, St.pvOf, St.putRow, St.consume, St.freeze, St.row, St.elems, St.grab, St.takeRow, St.setRow, St.place, St.optPv, St.setCell, St.setCellRow, binPV, intBin, unPV, BV.val, Nat.reduceEqDiff, bound, consumeAll, buildParts, capsOf, capOf, List.append_nil, Nat.reduceAdd, Nat.reduceLT, Nat.reduceLeDiff, beq_self_eq_true, List.length_map, Nat.beq, dcall, dcallP, List.mapM_cons, St.snapFn, St.snap, St.layAll, St.lay, St.freezeArg, St.freezeArg1]
         rfl)
    | (exfalso; simp_all; done)
end Go.Proofs.Ytpdfhckdmblicaa.V
