/-
  Part 11 of the texts that the statement stands on.
-/
import Derived.Test.YtncobemfpammfaaGreatZ10
set_option linter.all false
namespace Go.Proofs.YtncobemfpammfaaGreat.V
theorem chkGo_in {size : Int} : ∀ (l : List Exn) (nx : Int), chkGo size nx l = 0 → ∀ e ∈ l, 0 ≤ e.start ∧ 1 ≤ e.count ∧ e.start + e.count ≤ size
  | [], _, _, e, he => by cases he
  | x :: l, nx, h, e, he => by
    unfold chkGo at h
    split at h
    · omega
    · split at h
      · omega
      · split at h
        · omega
        · rcases List.mem_cons.1 he with rfl | he
          · omega
          · exact chkGo_in l _ h e he
theorem chkX_in {l : List Exn} {size : Int} (h : chkX l size = 0) : ∀ e ∈ l, 0 ≤ e.start ∧ 1 ≤ e.count ∧ e.start + e.count ≤ size := by
  unfold chkX at h
  split at h
  · omega
  · exact chkGo_in l 0 h
theorem fit_at {im : Img} {l : List (List Exn)} (h : fitE im l = 0) {i : Nat} (hi : i < l.length) (hj : i < im.length) : chkX l[i] (im[i].length : Int) = 0 := by
  unfold fitE at h
  split at h
  · omega
  · split at h
    · omega
    · rename_i c
      have h2 : (fitB im l)[i]? = some (decide (chkX l[i] (im[i].length : Int) = 0)) := by simp [fitB, eachX, hi, hj]
      cases hd : decide (chkX l[i] (im[i].length : Int) = 0) with
      | true => simpa using hd
      | false =>
        rw [hd] at h2
        exact absurd (List.contains_iff_mem.2 (List.mem_of_getElem? h2)) c
def wOf (im : Img) (v : Nat) (e : Exn) : Wrt := ⟨v, e.start, ((im.getD v []).drop e.start.toNat).take e.count.toNat⟩
def wrV (im : Img) (v : Nat) (x : List Exn) : List Wrt := x.map (wOf im v)
def wrN (im : Img) (l : List (List Exn)) (n : Nat) : List Wrt := (List.range n).flatMap fun v => wrV im v (l.getD v [])
def wrL (im : Img) (l : List (List Exn)) : List Wrt := wrN im l l.length
def wrE (im : Img) (l : List (List Exn)) : Int := if imCheck im ≠ 0 then imCheck im else fitE im l
def wrO (im : Img) (l : List (List Exn)) : List Wrt := if wrE im l = 0 then wrL im l else []
theorem wrN_succ (im : Img) (l : List (List Exn)) (n : Nat) : wrN im l (n + 1) = wrN im l n ++ wrV im n (l.getD n []) := by simp [wrN, List.range_succ]
def volY (v : Nat) (x : List Exn) : List (List PV) := x.map fun e => [.int .i64 (v : Int), eExt e]
def volN (l : List (List Exn)) (n : Nat) : List (List PV) := (List.range n).flatMap fun v => volY v (l.getD v [])
theorem volN_succ (l : List (List Exn)) (n : Nat) : volN l (n + 1) = volN l n ++ volY n (l.getD n []) := by simp [volN, List.range_succ]
theorem loop58 {l : List (List Exn)} {v : Nat} {x : List Exn} (hl : x.length ≤ lim) {ys : List (List PV)}
   {st : St} (h : st.head [0, 3, 4, 7, 8, 9, 13, 14, 15, 16] st.boxes.length = some ⟨[.yld, .any, .any, .pv (.int .i64 v), .pv (.list 2 (x.map eExt)), .any, .any, .pv (.list 1 (l.map eExts)), .pv (.int .i64 l.length), .pv (.int .i64 v), .any, .any, .any, .pv (.list 2 (x.map eExt)), .pv (.list 2 (x.map eExt)), .pv (.int .i64 x.length), .pv (.int .i64 (0 : Nat)), .any, .any, .any, .any, .any, .any, .any, .any, .any, .any], [], ys, some none⟩) :
   den env fn58_l1 st = some (.normal, ⟨[.yld, .any, .any, .any, .any, .any, .any, .pv (.list 1 (l.map eExts)), .pv (.int .i64 l.length), .pv (.int .i64 v), .any, .any, .any, .any, .any, .any, .any, .any, .any, .any, .any, .any, .any, .any, .any, .any, .any], [], ys ++ volY v x, some none⟩) := by
  unfold fn58_l1
  refine clean_up (env := env) x.length (fun i => ⟨[.yld, .any, .any, .pv (.int .i64 v), .pv (.list 2 (x.map eExt)), .any, .any, .pv (.list 1 (l.map eExts)), .pv (.int .i64 l.length), .pv (.int .i64 v), .any, .any, .any, .pv (.list 2 (x.map eExt)), .pv (.list 2 (x.map eExt)), .pv (.int .i64 x.length), .pv (.int .i64 i), .any, .any, .any, .any, .any, .any, .any, .any, .any, .any], [], ys ++ volY v (x.take i), some none⟩)
    (fun _ => some (.normal, ⟨[.yld, .any, .any, .any, .any, .any, .any, .pv (.list 1 (l.map eExts)), .pv (.int .i64 l.length), .pv (.int .i64 v), .any, .any, .any, .any, .any, .any, .any, .any, .any, .any, .any, .any, .any, .any, .any, .any, .any], [], ys ++ volY v x, some none⟩)) (by rw [h]; simp [volY]) (fun _ => rfl) (fun _ => rfl) ?_ ?_
  · intro i rb hi ih
    have hi1 := i64_next hi hl
    have F1 : ((i : Int) < (x.length : Int)) = True := eq_true (by omega)
    have P : ∀ x : Exn, part [PV.int .i64 x.start, .int .i64 x.count] 0 (some 2) = some (.agg [.int .i64 x.start, .int .i64 x.count]) := fun x => rfl
    have e2 : ys ++ volY v (x.take (i + 1)) = ys ++ volY v (x.take i) ++ [[.int .i64 (v : Int), .agg [.int .i64 x[i].start, .int .i64 x[i].count]]] := by
      rw [List.take_succ_eq_append_getElem hi]; simp only [volY, List.map_append, List.map_cons, List.map_nil, List.append_assoc, eExt]
    simp only [fn58_b0, F1, P, eExt, index_nat hi, List.getElem?_map, List.getElem?_eq_getElem hi, Option.map_some, List.length_cons, List.length_nil, List.isEmpty_nil, val_pvs, frozen_pvs, msnoc_len, msnoc_get, msnoc_set, msnoc_take, Int.le_refl, take_map_all, Nat.le_refl, St.freezeRows, BV.frozen, List.take_length, List.take_append_drop, z_repl_zero, Int.toNat_zero, true_and, and_true, and_self, eq_self, z_take_zero, List.drop_nil, List.take_nil, vAll, List.foldl_nil, List.foldl_cons, resultsOf, resultList, resultOf, zBV, splice, PV.remade, St.freezeAt, St.freezeBox, St.freezeCap, PV.single, plain, act, dstOf, if_true, if_false, reduceCtorEq, St.get, St.put, St.pvOf, St.putRow, St.consume, St.freeze, St.row, St.elems, St.grab, St.takeRow, St.setRow, St.place, St.optPv, St.setCell, St.setCellRow, binPV, intBin, unPV, BV.val, Nat.reduceEqDiff, bound, consumeAll, buildParts, capsOf, capOf, List.append_nil, Nat.reduceAdd, Nat.reduceLT, Nat.reduceLeDiff, beq_self_eq_true, List.length_map, Nat.beq, dcall, dcallP, List.mapM_cons, St.snapFn, St.snap, St.layAll, St.lay, St.freezeArg, St.freezeArg1]
    rw [ih _ (by simp only [hi1]; rw [e2]; rfl)]
  · intro rb
    simp only [fn58_b0, Int.lt_irrefl, List.isEmpty_nil, val_pvs, frozen_pvs, msnoc_len, msnoc_get, msnoc_set, msnoc_take, Int.le_refl, take_map_all, Nat.le_refl, St.freezeRows, BV.frozen, List.take_length, List.take_append_drop, z_repl_zero, Int.toNat_zero, true_and, and_true, and_self, eq_self, z_take_zero, List.drop_nil, List.take_nil, vAll, List.foldl_nil, List.foldl_cons, resultsOf, resultList, resultOf, zBV, splice, PV.remade, St.freezeAt, St.freezeBox, St.freezeCap, PV.single, plain, act, dstOf, if_true, if_false, reduceCtorEq, St.get, St.put, St.pvOf, St.putRow, St.consume, St.freeze, St.row, St.elems, St.grab, St.takeRow, St.setRow, St.place, St.optPv, St.setCell, St.setCellRow, binPV, intBin, unPV, BV.val, Nat.reduceEqDiff, bound, consumeAll, buildParts, capsOf, capOf, List.append_nil, Nat.reduceAdd, Nat.reduceLT, Nat.reduceLeDiff, beq_self_eq_true, List.length_map, Nat.beq, dcall, dcallP, List.mapM_cons, St.snapFn, St.snap, St.layAll, St.lay, St.freezeArg, St.freezeArg1]
    rfl
theorem loop58b {l : List (List Exn)} (hl : l.length ≤ lim) (hr : ∀ x ∈ l, x.length ≤ lim)
   {st : St} (h : st.head [0, 7, 8, 9] st.boxes.length = some ⟨[.yld, .any, .any, .any, .any, .any, .any, .pv (.list 1 (l.map eExts)), .pv (.int .i64 l.length), .pv (.int .i64 (0 : Nat)), .any, .any, .any, .any, .any, .any, .any, .any, .any, .any, .any, .any, .any, .any, .any, .any, .any], [], volN l 0, some none⟩) :
   den env fn58_l3 st = some (.normal, ⟨[.any, .any, .any, .any, .any, .any, .any, .any, .any, .any, .any, .any, .any, .any, .any, .any, .any, .any, .any, .any, .any, .any, .any, .any, .any, .any, .any], [], volN l l.length, some none⟩) := by
  unfold fn58_l3
  refine clean_up (env := env) l.length (fun i => ⟨[.yld, .any, .any, .any, .any, .any, .any, .pv (.list 1 (l.map eExts)), .pv (.int .i64 l.length), .pv (.int .i64 i), .any, .any, .any, .any, .any, .any, .any, .any, .any, .any, .any, .any, .any, .any, .any, .any, .any], [], volN l i, some none⟩) (fun _ => some (.normal, ⟨[.any, .any, .any, .any, .any, .any, .any, .any, .any, .any, .any, .any, .any, .any, .any, .any, .any, .any, .any, .any, .any, .any, .any, .any, .any, .any, .any], [], volN l l.length, some none⟩)) h (fun _ => rfl) (fun _ => rfl) ?_ ?_
  · intro i rb hi ih
    have hi1 := i64_next hi hl
    have F1 : ((i : Int) < (l.length : Int)) = True := eq_true (by omega)
    have e2 : l.getD i [] = l[i] := by simp [hi]
    rw [volN_succ, e2] at ih
    simp only [fn58_b2, F1, eExts, index_nat hi, List.getElem?_map, List.getElem?_eq_getElem hi, Option.map_some, List.length_map, List.isEmpty_nil, val_pvs, frozen_pvs, msnoc_len, msnoc_get, msnoc_set, msnoc_take, Int.le_refl, take_map_all, Nat.le_refl, St.freezeRows, BV.frozen, List.take_length, List.take_append_drop, z_repl_zero, Int.toNat_zero, true_and, and_true, and_self, eq_self, z_take_zero, List.drop_nil, List.take_nil, vAll, List.foldl_nil, List.foldl_cons, resultsOf, resultList, resultOf, zBV, splice, PV.remade, St.freezeAt, St.freezeBox, St.freezeCap, PV.single, plain, act, dstOf, if_true, if_false, reduceCtorEq, St.get, St.put, St.pvOf, St.putRow, St.consume, St.freeze, St.row, St.elems, St.grab, St.takeRow, St.setRow, St.place, St.optPv, St.setCell, St.setCellRow, binPV, intBin, unPV, BV.val, Nat.reduceEqDiff, bound, consumeAll, buildParts, capsOf, capOf, List.append_nil, Nat.reduceAdd, Nat.reduceLT, Nat.reduceLeDiff, beq_self_eq_true, List.length_map, Nat.beq, dcall, dcallP, List.mapM_cons, St.snapFn, St.snap, St.layAll, St.lay, St.freezeArg, St.freezeArg1]
    rw [loop58 (l := l) (v := i) (x := l[i]) (hr _ (List.getElem_mem hi))]
    rotate_left
    · rfl
    simp only [List.isEmpty_nil, val_pvs, frozen_pvs, msnoc_len, msnoc_get, msnoc_set, msnoc_take, Int.le_refl, take_map_all, Nat.le_refl, St.freezeRows, BV.frozen, List.take_length, List.take_append_drop, z_repl_zero, Int.toNat_zero, true_and, and_true, and_self, eq_self, z_take_zero, List.drop_nil, List.take_nil, vAll, List.foldl_nil, List.foldl_cons, resultsOf, resultList, resultOf, zBV, splice, PV.remade, St.freezeAt, St.freezeBox, St.freezeCap, PV.single, plain, act, dstOf, if_true, if_false, reduceCtorEq, St.get, St.put, St.pvOf, St.putRow, St.consume, St.freeze, St.row, St.elems, St.grab, St.takeRow, St.setRow, St.place, St.optPv, St.setCell, St.setCellRow, binPV, intBin, unPV, BV.val, Nat.reduceEqDiff, bound, consumeAll, buildParts, capsOf, capOf, List.append_nil, Nat.reduceAdd, Nat.reduceLT, Nat.reduceLeDiff, beq_self_eq_true, List.length_map, Nat.beq, dcall, dcallP, List.mapM_cons, St.snapFn, St.snap, St.layAll, St.lay, St.freezeArg, St.freezeArg1]
    rw [ih _ (by simp only [hi1]; rfl)]
  · intro rb
    simp only [fn58_b2, Int.lt_irrefl, List.isEmpty_nil, val_pvs, frozen_pvs, msnoc_len, msnoc_get, msnoc_set, msnoc_take, Int.le_refl, take_map_all, Nat.le_refl, St.freezeRows, BV.frozen, List.take_length, List.take_append_drop, z_repl_zero, Int.toNat_zero, true_and, and_true, and_self, eq_self, z_take_zero, List.drop_nil, List.take_nil, vAll, List.foldl_nil, List.foldl_cons, resultsOf, resultList, resultOf, zBV, splice, PV.remade, St.freezeAt, St.freezeBox, St.freezeCap, PV.single, plain, act, dstOf, if_true, if_false, reduceCtorEq, St.get, St.put, St.pvOf, St.putRow, St.consume, St.freeze, St.row, St.elems, St.grab, St.takeRow, St.setRow, St.place, St.optPv, St.setCell, St.setCellRow, binPV, intBin, unPV, BV.val, Nat.reduceEqDiff, bound, consumeAll, buildParts, capsOf, capOf, List.append_nil, Nat.reduceAdd, Nat.reduceLT, Nat.reduceLeDiff, beq_self_eq_true, List.length_map, Nat.beq, dcall, dcallP, List.mapM_cons, St.snapFn, St.snap, St.layAll, St.lay, St.freezeArg, St.freezeArg1]
    rfl
theorem iter58 {l : List (List Exn)} (hl : l.length ≤ lim) (hr : ∀ x ∈ l, x.length ≤ lim) : iter env 58 [.iptr [.list 1 (l.map eExts)] 0] none = some (volN l l.length) := by
  rw [iter_code env58 rfl rfl]
  simp only [fn58, ystart, z_map_cons, z_map_nil, z_len_cons, z_len_nil, z_repl_zero, z_repl_succ, z_cons_app, z_nil_app, Nat.reduceAdd, Nat.reduceSub]
  simp only [List.length_map, List.isEmpty_nil, val_pvs, frozen_pvs, msnoc_len, msnoc_get, msnoc_set, msnoc_take, Int.le_refl, take_map_all, Nat.le_refl, St.freezeRows, BV.frozen, List.take_length, List.take_append_drop, z_repl_zero, Int.toNat_zero, true_and, and_true, and_self, eq_self, z_take_zero, List.drop_nil, List.take_nil, vAll, List.foldl_nil, List.foldl_cons, resultsOf, resultList, resultOf, zBV, splice, PV.remade, St.freezeAt, St.freezeBox, St.freezeCap, PV.single, plain, act, dstOf, if_true, if_false, reduceCtorEq, St.get, St.put, St.pvOf, St.putRow, St.consume, St.freeze, St.row, St.elems, St.grab, St.takeRow, St.setRow, St.place, St.optPv, St.setCell, St.setCellRow, binPV, intBin, unPV, BV.val, Nat.reduceEqDiff, bound, consumeAll, buildParts, capsOf, capOf, List.append_nil, Nat.reduceAdd, Nat.reduceLT, Nat.reduceLeDiff, beq_self_eq_true, List.length_map, Nat.beq, dcall, dcallP, List.mapM_cons, St.snapFn, St.snap, St.layAll, St.lay, St.freezeArg, St.freezeArg1]
  rw [loop58b hl hr]
  rotate_left
  · rfl
  simp only [vRng, List.isEmpty_nil, val_pvs, frozen_pvs, msnoc_len, msnoc_get, msnoc_set, msnoc_take, Int.le_refl, take_map_all, Nat.le_refl, St.freezeRows, BV.frozen, List.take_length, List.take_append_drop, z_repl_zero, Int.toNat_zero, true_and, and_true, and_self, eq_self, z_take_zero, List.drop_nil, List.take_nil, vAll, List.foldl_nil, List.foldl_cons, resultsOf, resultList, resultOf, zBV, splice, PV.remade, St.freezeAt, St.freezeBox, St.freezeCap, PV.single, plain, act, dstOf, if_true, if_false, reduceCtorEq, St.get, St.put, St.pvOf, St.putRow, St.consume, St.freeze, St.row, St.elems, St.grab, St.takeRow, St.setRow, St.place, St.optPv, St.setCell, St.setCellRow, binPV, intBin, unPV, BV.val, Nat.reduceEqDiff, bound, consumeAll, buildParts, capsOf, capOf, List.append_nil, Nat.reduceAdd, Nat.reduceLT, Nat.reduceLeDiff, beq_self_eq_true, List.length_map, Nat.beq, dcall, dcallP, List.mapM_cons, St.snapFn, St.snap, St.layAll, St.lay, St.freezeArg, St.freezeArg1]
theorem cal26 {l : List PV} : cal env 26 [.list 1 l] = some [(.func 58 [.iptr [.list 1 l] 0], false)] := by
  rw [cal_code env26 rfl]; simp only [fn26]; simp only [start, z_map_cons, z_map_nil, z_len_cons, z_len_nil, z_repl_zero, z_repl_succ, z_cons_app, z_nil_app, Nat.reduceAdd, Nat.reduceSub]
  simp only [ List.isEmpty_nil, val_pvs, frozen_pvs, msnoc_len, msnoc_get, msnoc_set, msnoc_take, Int.le_refl, take_map_all, Nat.le_refl, St.freezeRows, BV.frozen, List.take_length, List.take_append_drop, z_repl_zero, Int.toNat_zero, true_and, and_true, and_self, eq_self, z_take_zero, List.drop_nil, List.take_nil, vAll, List.foldl_nil, List.foldl_cons, resultsOf, resultList, resultOf, zBV, splice, PV.remade, St.freezeAt, St.freezeBox, St.freezeCap, PV.single, plain, act, dstOf, if_true, if_false, reduceCtorEq, St.get, St.put, St.pvOf, St.putRow, St.consume, St.freeze, St.row, St.elems, St.grab, St.takeRow, St.setRow, St.place, St.optPv, St.setCell, St.setCellRow, binPV, intBin, unPV, BV.val, Nat.reduceEqDiff, bound, consumeAll, buildParts, capsOf, capOf, List.append_nil, Nat.reduceAdd, Nat.reduceLT, Nat.reduceLeDiff, beq_self_eq_true, List.length_map, Nat.beq, dcall, dcallP, List.mapM_cons, St.snapFn, St.snap, St.layAll, St.lay, St.freezeArg, St.freezeArg1]
def wF (im : Img) (acc : List Wrt) : List PV → List Wrt
  | [.int _ v, .agg [.int _ s, .int _ c]] => acc ++ [wOf im v.toNat ⟨s, c⟩]
  | _ => acc
theorem fold_volY (im : Img) (v : Nat) : ∀ (x : List Exn) (acc : List Wrt), (volY v x).foldl (wF im) acc = acc ++ wrV im v x
  | [], acc => by simp [volY, wrV]
  | e :: x, acc => by
    have h := fold_volY im v x (acc ++ [wOf im v e])
    have e2 : volY v (e :: x) = [.int .i64 (v : Int), eExt e] :: volY v x := rfl
    have e3 : wF im acc [.int .i64 (v : Int), eExt e] = acc ++ [wOf im v e] := by simp [wF, eExt]
    rw [e2, List.foldl_cons, e3, h]
    simp [wrV]
theorem fold_volN (im : Img) (l : List (List Exn)) : ∀ n, (volN l n).foldl (wF im) [] = wrN im l n
  | 0 => by simp [volN, wrN]
  | n + 1 => by rw [volN_succ, List.foldl_append, fold_volN im l n, fold_volY, wrN_succ]
theorem volN_len (im : Img) (l : List (List Exn)) (n : Nat) : (volN l n).length = (wrN im l n).length := by
  induction n with
  | zero => simp [volN, wrN]
  | succ n ih => rw [volN_succ, wrN_succ, List.length_append, List.length_append, ih]; simp [volY, wrV]
theorem volN_mem {l : List (List Exn)} {n : Nat} {x : List PV} (h : x ∈ volN l n) : ∃ v, v < n ∧ ∃ e ∈ l.getD v [], x = [.int .i64 (v : Int), eExt e] := by
  simp only [volN, List.mem_flatMap, List.mem_range] at h
  obtain ⟨v, hv, hx⟩ := h
  simp only [volY, List.mem_map] at hx
  obtain ⟨e, he, rfl⟩ := hx
  exact ⟨v, hv, e, he, rfl⟩
theorem cal8 {im : Img} {l : List (List Exn)} (hi : im.length ≤ lim) (hri : ∀ v ∈ im, v.length ≤ 1000000) (ho : ∀ x ∈ l, okEs x) (hr : ∀ x ∈ l, x.length ≤ 10000) (hl : l.length ≤ lim) (hL : fitE im l = 0 → (wrL im l).length ≤ 1000000) :
    cal env 8 [.list 1 (im.map eSecs), .list 1 (l.map eExts)] = some [(.list 3 ((wrO im l).map eWr), true), (.int .i64 (wrE im l), false)] := by
  have e1 := cal24 hi
  have e2 := cal25 (im := im) ho hr hl
  have e3 := cal26 (l := l.map eExts)
  unfold wrO wrE
  by_cases c1 : imCheck im = 0
  · rw [c1] at e1
    have n1 : (if imCheck im ≠ 0 then imCheck im else fitE im l) = fitE im l := if_neg (by simpa using c1)
    rw [n1]
    have Z : ((0 : Int) != 0) = false := rfl
    by_cases c2 : fitE im l = 0
    · have hL := hL c2
      have hfl := fit_len c2
      rw [c2] at e2
      rw [c2]
      have hlim : lim = 1073741824 := rfl
      have hvl : (volN l l.length).length = (wrL im l).length := volN_len im l l.length
      rw [cal_code env8 rfl]; simp only [fn8]; simp only [start, z_map_cons, z_map_nil, z_len_cons, z_len_nil, z_repl_zero, z_repl_succ, z_cons_app, z_nil_app, Nat.reduceAdd, Nat.reduceSub]
      simp only [e1, e2, e3, Z, List.isEmpty_nil, val_pvs, frozen_pvs, msnoc_len, msnoc_get, msnoc_set, msnoc_take, Int.le_refl, take_map_all, Nat.le_refl, St.freezeRows, BV.frozen, List.take_length, List.take_append_drop, z_repl_zero, Int.toNat_zero, true_and, and_true, and_self, eq_self, z_take_zero, List.drop_nil, List.take_nil, vAll, List.foldl_nil, List.foldl_cons, resultsOf, resultList, resultOf, zBV, splice, PV.remade, St.freezeAt, St.freezeBox, St.freezeCap, PV.single, plain, act, dstOf, if_true, if_false, reduceCtorEq, St.get, St.put, St.pvOf, St.putRow, St.consume, St.freeze, St.row, St.elems, St.grab, St.takeRow, St.setRow, St.place, St.optPv, St.setCell, St.setCellRow, binPV, intBin, unPV, BV.val, Nat.reduceEqDiff, bound, consumeAll, buildParts, capsOf, capOf, List.append_nil, Nat.reduceAdd, Nat.reduceLT, Nat.reduceLeDiff, beq_self_eq_true, List.length_map, Nat.beq, dcall, dcallP, List.mapM_cons, St.snapFn, St.snap, St.layAll, St.lay, St.freezeArg, St.freezeArg1]
      rw [rng_foldP (fun acc => [⟨false, [.pv (.list 1 (im.map eSecs))]⟩, ⟨false, [.row 3 (acc.map eWr)]⟩]) (wF im) (fun j acc => acc.length ≤ j) [] rfl (iter58 hl (fun x hx => Nat.le_trans (hr x hx) (by decide))) rfl (Nat.zero_le _) ?_]
      · have hz : (volN l l.length).foldl (wF im) [] = wrL im l := fold_volN im l l.length
        simp only [hz, vRng, List.isEmpty_nil, val_pvs, frozen_pvs, msnoc_len, msnoc_get, msnoc_set, msnoc_take, Int.le_refl, take_map_all, Nat.le_refl, St.freezeRows, BV.frozen, List.take_length, List.take_append_drop, z_repl_zero, Int.toNat_zero, true_and, and_true, and_self, eq_self, z_take_zero, List.drop_nil, List.take_nil, vAll, List.foldl_nil, List.foldl_cons, resultsOf, resultList, resultOf, zBV, splice, PV.remade, St.freezeAt, St.freezeBox, St.freezeCap, PV.single, plain, act, dstOf, if_true, if_false, reduceCtorEq, St.get, St.put, St.pvOf, St.putRow, St.consume, St.freeze, St.row, St.elems, St.grab, St.takeRow, St.setRow, St.place, St.optPv, St.setCell, St.setCellRow, binPV, intBin, unPV, BV.val, Nat.reduceEqDiff, bound, consumeAll, buildParts, capsOf, capOf, List.append_nil, Nat.reduceAdd, Nat.reduceLT, Nat.reduceLeDiff, beq_self_eq_true, List.length_map, Nat.beq, dcall, dcallP, List.mapM_cons, St.snapFn, St.snap, St.layAll, St.lay, St.freezeArg, St.freezeArg1]
      · intro j acc x hb hx sl0
        have hj := (List.getElem?_eq_some_iff.1 hx).1
        obtain ⟨v, hv, e, he, rfl⟩ := volN_mem (List.mem_of_getElem? hx)
        have hvi : v < im.length := by omega
        have e4 : l.getD v [] = l[v] := by simp [hv]
        rw [e4] at he
        obtain ⟨q1, q2, q3⟩ := chkX_in (fit_at c2 hv hvi) e he
        have hvlen := hri _ (List.getElem_mem hvi)
        have F1 : (acc.length + 1 ≤ lim) = True := eq_true (by omega)
        have W : IntKind.i64.wrap (e.start + e.count) = e.start + e.count := i64_fits (by omega)
        have B1 : (0 ≤ e.start ∧ e.start ≤ ((e.start + e.count).toNat : Int)) = True := eq_true (by omega)
        have B2 : (0 ≤ e.start + e.count ∧ e.start + e.count ≤ (im[v].length : Int)) = True := eq_true (by omega)
        have hcl := cal27 (es := ((im[v].map eSec).drop e.start.toNat).take ((e.start + e.count).toNat - e.start.toNat)) (by simp; omega)
        have e5 : wF im acc [.int .i64 (v : Int), eExt e] = acc ++ [wOf im v e] := by simp [wF, eExt]
        have e6 : (e.start + e.count).toNat - e.start.toNat = e.count.toNat := by omega
        have e7 : ((im[v].map eSec).drop e.start.toNat).take e.count.toNat = ((im[v].drop e.start.toNat).take e.count.toNat).map eSec := by simp [List.map_take, List.map_drop]
        have e8 : im.getD v [] = im[v] := by simp [hvi]
        rw [e6, e7] at hcl
        rw [e5]
        refine ⟨by simp; omega, ?_⟩
        refine ⟨?_, ?_⟩
        rotate_left
        · simp only [fn8_b0, fn8_b1, F1, W, B1, B2, e6, e7, hcl, eSecs, eExt, eWr, wOf, e8, index_nat hvi, List.getElem?_map, List.getElem?_eq_getElem hvi, Option.map_some, List.length_map, List.map_append, List.map_cons, List.map_nil, vRng, List.isEmpty_nil, val_pvs, frozen_pvs, msnoc_len, msnoc_get, msnoc_set, msnoc_take, Int.le_refl, take_map_all, Nat.le_refl, St.freezeRows, BV.frozen, List.take_length, List.take_append_drop, z_repl_zero, Int.toNat_zero, true_and, and_true, and_self, eq_self, z_take_zero, List.drop_nil, List.take_nil, vAll, List.foldl_nil, List.foldl_cons, resultsOf, resultList, resultOf, zBV, splice, PV.remade, St.freezeAt, St.freezeBox, St.freezeCap, PV.single, plain, act, dstOf, if_true, if_false, reduceCtorEq, St.get, St.put, St.pvOf, St.putRow, St.consume, St.freeze, St.row, St.elems, St.grab, St.takeRow, St.setRow, St.place, St.optPv, St.setCell, St.setCellRow, binPV, intBin, unPV, BV.val, Nat.reduceEqDiff, bound, consumeAll, buildParts, capsOf, capOf, List.append_nil, Nat.reduceAdd, Nat.reduceLT, Nat.reduceLeDiff, beq_self_eq_true, List.length_map, Nat.beq, dcall, dcallP, List.mapM_cons, St.snapFn, St.snap, St.layAll, St.lay, St.freezeArg, St.freezeArg1]
          rfl
    · have G : (fitE im l != 0) = true := by simp [c2]
      rw [if_neg c2]
      rw [cal_code env8 rfl]; simp only [fn8]; simp only [start, z_map_cons, z_map_nil, z_len_cons, z_len_nil, z_repl_zero, z_repl_succ, z_cons_app, z_nil_app, Nat.reduceAdd, Nat.reduceSub]
      simp only [e1, e2, G, Z, List.isEmpty_nil, val_pvs, frozen_pvs, msnoc_len, msnoc_get, msnoc_set, msnoc_take, Int.le_refl, take_map_all, Nat.le_refl, St.freezeRows, BV.frozen, List.take_length, List.take_append_drop, z_repl_zero, Int.toNat_zero, true_and, and_true, and_self, eq_self, z_take_zero, List.drop_nil, List.take_nil, vAll, List.foldl_nil, List.foldl_cons, resultsOf, resultList, resultOf, zBV, splice, PV.remade, St.freezeAt, St.freezeBox, St.freezeCap, PV.single, plain, act, dstOf, if_true, if_false, reduceCtorEq, St.get, St.put, St.pvOf, St.putRow, St.consume, St.freeze, St.row, St.elems, St.grab, St.takeRow, St.setRow, St.place, St.optPv, St.setCell, St.setCellRow, binPV, intBin, unPV, BV.val, Nat.reduceEqDiff, bound, consumeAll, buildParts, capsOf, capOf, List.append_nil, Nat.reduceAdd, Nat.reduceLT, Nat.reduceLeDiff, beq_self_eq_true, List.length_map, Nat.beq, dcall, dcallP, List.mapM_cons, St.snapFn, St.snap, St.layAll, St.lay, St.freezeArg, St.freezeArg1]
      all_goals rfl
  · have G : (imCheck im != 0) = true := by simp [c1]
    have n1 : (if imCheck im ≠ 0 then imCheck im else fitE im l) = imCheck im := if_pos c1
    rw [n1, if_neg c1]
    rw [cal_code env8 rfl]; simp only [fn8]; simp only [start, z_map_cons, z_map_nil, z_len_cons, z_len_nil, z_repl_zero, z_repl_succ, z_cons_app, z_nil_app, Nat.reduceAdd, Nat.reduceSub]
    simp only [e1, G, List.isEmpty_nil, val_pvs, frozen_pvs, msnoc_len, msnoc_get, msnoc_set, msnoc_take, Int.le_refl, take_map_all, Nat.le_refl, St.freezeRows, BV.frozen, List.take_length, List.take_append_drop, z_repl_zero, Int.toNat_zero, true_and, and_true, and_self, eq_self, z_take_zero, List.drop_nil, List.take_nil, vAll, List.foldl_nil, List.foldl_cons, resultsOf, resultList, resultOf, zBV, splice, PV.remade, St.freezeAt, St.freezeBox, St.freezeCap, PV.single, plain, act, dstOf, if_true, if_false, reduceCtorEq, St.get, St.put, St.pvOf, St.putRow, St.consume, St.freeze, St.row, St.elems, St.grab, St.takeRow, St.setRow, St.place, St.optPv, St.setCell, St.setCellRow, binPV, intBin, unPV, BV.val, Nat.reduceEqDiff, bound, consumeAll, buildParts, capsOf, capOf, List.append_nil, Nat.reduceAdd, Nat.reduceLT, Nat.reduceLeDiff, beq_self_eq_true, List.length_map, Nat.beq, dcall, dcallP, List.mapM_cons, St.snapFn, St.snap, St.layAll, St.lay, St.freezeArg, St.freezeArg1]
    all_goals rfl
end Go.Proofs.YtncobemfpammfaaGreat.V
