/-
  Part 12 of the texts that the statement stands on.
-/
import Derived.Test.YtncobemfpammfaaGreatZ11
set_option linter.all false
namespace Go.Proofs.YtncobemfpammfaaGreat.V
theorem cal62 {n a b : Int} : cal env 62 [.int .i64 n, .int .i64 a, .int .i64 b] = some [(.bool (decide (a ≤ n) && decide (n ≤ b)), false)] := by
  by_cases h : a ≤ n
  · have F1 : (a ≤ n) = True := eq_true h
    rw [cal_code env62 rfl]; simp only [fn62, slAll, Nat.reduceBEq, Nat.reduceLeDiff, Nat.reduceAdd, List.length_cons, List.length_nil]
    simp only [F1, slAll, Nat.reduceMul, Nat.reduceBEq, Nat.reduceLT, Nat.reduceLeDiff, Nat.zero_le, List.take_zero, List.take_nil, List.take_succ_cons, List.length_cons, List.length_nil, Nat.le_refl, List.isEmpty_nil, val_pvs, frozen_pvs, msnoc_len, msnoc_get, msnoc_set, msnoc_take, Int.le_refl, take_map_all, Nat.le_refl, St.freezeRows, BV.frozen, List.take_length, List.take_append_drop, z_repl_zero, Int.toNat_zero, true_and, and_true, and_self, eq_self, z_take_zero, List.drop_nil, List.take_nil, vAll, List.foldl_nil, List.foldl_cons, resultsOf, resultList, resultOf, zBV, splice, PV.remade, St.freezeAt, St.freezeBox, St.freezeCap, PV.single, plain, act, dstOf, if_true, if_false, reduceCtorEq, St.get, St.put, St.pvOf, St.putRow, St.consume, St.freeze, St.row, St.elems, St.grab, St.takeRow, St.setRow, St.place, St.optPv, St.setCell, St.setCellRow, binPV, intBin, unPV, BV.val, Nat.reduceEqDiff, bound, consumeAll, buildParts, capsOf, capOf, List.append_nil, Nat.reduceAdd, Nat.reduceLT, Nat.reduceLeDiff, beq_self_eq_true, List.length_map, Nat.beq, dcall, dcallP, List.mapM_cons, St.snapFn, St.snap, St.layAll, St.lay, St.freezeArg, St.freezeArg1]
  · have F1 : (a ≤ n) = False := eq_false h
    rw [cal_code env62 rfl]; simp only [fn62, slAll, Nat.reduceBEq, Nat.reduceLeDiff, Nat.reduceAdd, List.length_cons, List.length_nil]
    simp only [F1, slAll, Nat.reduceMul, Nat.reduceBEq, Nat.reduceLT, Nat.reduceLeDiff, Nat.zero_le, List.take_zero, List.take_nil, List.take_succ_cons, List.length_cons, List.length_nil, Nat.le_refl, List.isEmpty_nil, val_pvs, frozen_pvs, msnoc_len, msnoc_get, msnoc_set, msnoc_take, Int.le_refl, take_map_all, Nat.le_refl, St.freezeRows, BV.frozen, List.take_length, List.take_append_drop, z_repl_zero, Int.toNat_zero, true_and, and_true, and_self, eq_self, z_take_zero, List.drop_nil, List.take_nil, vAll, List.foldl_nil, List.foldl_cons, resultsOf, resultList, resultOf, zBV, splice, PV.remade, St.freezeAt, St.freezeBox, St.freezeCap, PV.single, plain, act, dstOf, if_true, if_false, reduceCtorEq, St.get, St.put, St.pvOf, St.putRow, St.consume, St.freeze, St.row, St.elems, St.grab, St.takeRow, St.setRow, St.place, St.optPv, St.setCell, St.setCellRow, binPV, intBin, unPV, BV.val, Nat.reduceEqDiff, bound, consumeAll, buildParts, capsOf, capOf, List.append_nil, Nat.reduceAdd, Nat.reduceLT, Nat.reduceLeDiff, beq_self_eq_true, List.length_map, Nat.beq, dcall, dcallP, List.mapM_cons, St.snapFn, St.snap, St.layAll, St.lay, St.freezeArg, St.freezeArg1]
def badT (n : Int) : Bool := !(decide (0 ≤ n) && decide (n ≤ 1073741824))
def posE (l : List Int) : Int := if 8 < l.length then 6 else if l.any badT then 2 else 0
theorem cal86 {n : Int} : cal env 86 [eI n] = some [(.bool (badT n), false)] := by
  have e1 := cal62 (n := n) (a := 0) (b := 1073741824)
  unfold eI
  rw [cal_code env86 rfl]; simp only [fn86, slAll, Nat.reduceBEq, Nat.reduceLeDiff, Nat.reduceAdd, List.length_cons, List.length_nil]
  simp only [e1, badT, slAll, Nat.reduceMul, Nat.reduceBEq, Nat.reduceLT, Nat.reduceLeDiff, Nat.zero_le, List.take_zero, List.take_nil, List.take_succ_cons, List.length_cons, List.length_nil, Nat.le_refl, List.isEmpty_nil, val_pvs, frozen_pvs, msnoc_len, msnoc_get, msnoc_set, msnoc_take, Int.le_refl, take_map_all, Nat.le_refl, St.freezeRows, BV.frozen, List.take_length, List.take_append_drop, z_repl_zero, Int.toNat_zero, true_and, and_true, and_self, eq_self, z_take_zero, List.drop_nil, List.take_nil, vAll, List.foldl_nil, List.foldl_cons, resultsOf, resultList, resultOf, zBV, splice, PV.remade, St.freezeAt, St.freezeBox, St.freezeCap, PV.single, plain, act, dstOf, if_true, if_false, reduceCtorEq, St.get, St.put, St.pvOf, St.putRow, St.consume, St.freeze, St.row, St.elems, St.grab, St.takeRow, St.setRow, St.place, St.optPv, St.setCell, St.setCellRow, binPV, intBin, unPV, BV.val, Nat.reduceEqDiff, bound, consumeAll, buildParts, capsOf, capOf, List.append_nil, Nat.reduceAdd, Nat.reduceLT, Nat.reduceLeDiff, beq_self_eq_true, List.length_map, Nat.beq, dcall, dcallP, List.mapM_cons, St.snapFn, St.snap, St.layAll, St.lay, St.freezeArg, St.freezeArg1]
theorem cal63 {l : List Int} (hl : l.length ≤ 20) : cal env 63 [.list 1 (l.map eI), .int .i64 0] = some [(.int .i64 (posE l), false)] := by
  have e1 := cal62 (n := (l.length : Int)) (a := 0) (b := 8)
  have e2 := cal78 (l := l) (enc := eI) (caps := []) (fun x _ => cal86 (n := x)) (fun x => rfl) (Nat.le_trans hl (by decide))
  unfold posE
  by_cases h : 8 < l.length
  · have G : (decide ((0 : Int) ≤ l.length) && decide ((l.length : Int) ≤ 8)) = false := by simp; omega
    rw [G] at e1
    rw [if_pos h]
    rw [cal_code env63 rfl]; simp only [fn63, slAll, Nat.reduceBEq, Nat.reduceLeDiff, Nat.reduceAdd, List.length_cons, List.length_nil]
    simp only [e1, List.length_map, slAll, Nat.reduceMul, Nat.reduceBEq, Nat.reduceLT, Nat.reduceLeDiff, Nat.zero_le, List.take_zero, List.take_nil, List.take_succ_cons, List.length_cons, List.length_nil, Nat.le_refl, List.isEmpty_nil, val_pvs, frozen_pvs, msnoc_len, msnoc_get, msnoc_set, msnoc_take, Int.le_refl, take_map_all, Nat.le_refl, St.freezeRows, BV.frozen, List.take_length, List.take_append_drop, z_repl_zero, Int.toNat_zero, true_and, and_true, and_self, eq_self, z_take_zero, List.drop_nil, List.take_nil, vAll, List.foldl_nil, List.foldl_cons, resultsOf, resultList, resultOf, zBV, splice, PV.remade, St.freezeAt, St.freezeBox, St.freezeCap, PV.single, plain, act, dstOf, if_true, if_false, reduceCtorEq, St.get, St.put, St.pvOf, St.putRow, St.consume, St.freeze, St.row, St.elems, St.grab, St.takeRow, St.setRow, St.place, St.optPv, St.setCell, St.setCellRow, binPV, intBin, unPV, BV.val, Nat.reduceEqDiff, bound, consumeAll, buildParts, capsOf, capOf, List.append_nil, Nat.reduceAdd, Nat.reduceLT, Nat.reduceLeDiff, beq_self_eq_true, List.length_map, Nat.beq, dcall, dcallP, List.mapM_cons, St.snapFn, St.snap, St.layAll, St.lay, St.freezeArg, St.freezeArg1]
  · have G : (decide ((0 : Int) ≤ l.length) && decide ((l.length : Int) ≤ 8)) = true := by simp; omega
    rw [G] at e1
    rw [if_neg h]
    cases hb : l.any badT with
    | true =>
      rw [hb] at e2
      rw [cal_code env63 rfl]; simp only [fn63, slAll, Nat.reduceBEq, Nat.reduceLeDiff, Nat.reduceAdd, List.length_cons, List.length_nil]
      simp only [e1, e2, List.length_map, slAll, Nat.reduceMul, Nat.reduceBEq, Nat.reduceLT, Nat.reduceLeDiff, Nat.zero_le, List.take_zero, List.take_nil, List.take_succ_cons, List.length_cons, List.length_nil, Nat.le_refl, List.isEmpty_nil, val_pvs, frozen_pvs, msnoc_len, msnoc_get, msnoc_set, msnoc_take, Int.le_refl, take_map_all, Nat.le_refl, St.freezeRows, BV.frozen, List.take_length, List.take_append_drop, z_repl_zero, Int.toNat_zero, true_and, and_true, and_self, eq_self, z_take_zero, List.drop_nil, List.take_nil, vAll, List.foldl_nil, List.foldl_cons, resultsOf, resultList, resultOf, zBV, splice, PV.remade, St.freezeAt, St.freezeBox, St.freezeCap, PV.single, plain, act, dstOf, if_true, if_false, reduceCtorEq, St.get, St.put, St.pvOf, St.putRow, St.consume, St.freeze, St.row, St.elems, St.grab, St.takeRow, St.setRow, St.place, St.optPv, St.setCell, St.setCellRow, binPV, intBin, unPV, BV.val, Nat.reduceEqDiff, bound, consumeAll, buildParts, capsOf, capOf, List.append_nil, Nat.reduceAdd, Nat.reduceLT, Nat.reduceLeDiff, beq_self_eq_true, List.length_map, Nat.beq, dcall, dcallP, List.mapM_cons, St.snapFn, St.snap, St.layAll, St.lay, St.freezeArg, St.freezeArg1]
    | false =>
      rw [hb] at e2
      rw [cal_code env63 rfl]; simp only [fn63, slAll, Nat.reduceBEq, Nat.reduceLeDiff, Nat.reduceAdd, List.length_cons, List.length_nil]
      simp only [e1, e2, List.length_map, slAll, Nat.reduceMul, Nat.reduceBEq, Nat.reduceLT, Nat.reduceLeDiff, Nat.zero_le, List.take_zero, List.take_nil, List.take_succ_cons, List.length_cons, List.length_nil, Nat.le_refl, List.isEmpty_nil, val_pvs, frozen_pvs, msnoc_len, msnoc_get, msnoc_set, msnoc_take, Int.le_refl, take_map_all, Nat.le_refl, St.freezeRows, BV.frozen, List.take_length, List.take_append_drop, z_repl_zero, Int.toNat_zero, true_and, and_true, and_self, eq_self, z_take_zero, List.drop_nil, List.take_nil, vAll, List.foldl_nil, List.foldl_cons, resultsOf, resultList, resultOf, zBV, splice, PV.remade, St.freezeAt, St.freezeBox, St.freezeCap, PV.single, plain, act, dstOf, if_true, if_false, reduceCtorEq, St.get, St.put, St.pvOf, St.putRow, St.consume, St.freeze, St.row, St.elems, St.grab, St.takeRow, St.setRow, St.place, St.optPv, St.setCell, St.setCellRow, binPV, intBin, unPV, BV.val, Nat.reduceEqDiff, bound, consumeAll, buildParts, capsOf, capOf, List.append_nil, Nat.reduceAdd, Nat.reduceLT, Nat.reduceLeDiff, beq_self_eq_true, List.length_map, Nat.beq, dcall, dcallP, List.mapM_cons, St.snapFn, St.snap, St.layAll, St.lay, St.freezeArg, St.freezeArg1]
def ordW (x w : Wrt) : Prop := x.volume < w.volume ∨ x.volume = w.volume ∧ x.start + x.data.length < w.start
def seqW (im : Img) (l : List Wrt) : Prop := (∀ w ∈ l, fitsErr im w = 0) ∧ ∀ i (h : i + 1 < l.length), ordW l[i] l[i + 1]
theorem fits_in {im : Img} {w : Wrt} (h : fitsErr im w = 0) : 0 ≤ w.volume ∧ w.volume < im.length ∧ 0 ≤ w.start ∧ w.start + w.data.length ≤ ((im.getD w.volume.toNat []).length : Int) := by
  unfold fitsErr at h
  split at h
  · omega
  · split at h
    · omega
    · split at h
      · omega
      · omega
theorem getD_len {im : Img} (hr : ∀ v ∈ im, v.length ≤ 1000000) (v : Nat) : (im.getD v []).length ≤ 1000000 := by
  by_cases h : v < im.length
  · have e : im.getD v [] = im[v] := by simp [h]
    rw [e]; exact hr _ (List.getElem_mem h)
  · have e : im.getD v [] = [] := by simp [List.getD_eq_getElem?_getD, List.getElem?_eq_none (Nat.le_of_not_lt h)]
    rw [e]; simp
theorem newImg_sizes (im : Img) : newImg (imSizes im) = im.map fun v => List.replicate v.length zSec := by simp [newImg, imSizes]
theorem newImg_len (im : Img) : (newImg (imSizes im)).length = im.length := by rw [newImg_sizes]; simp
theorem newImg_imSizes (im : Img) : imSizes (newImg (imSizes im)) = imSizes im := by rw [newImg_sizes]; simp [imSizes]
theorem newImg_fits {im : Img} {w : Wrt} (h : imCheck im = 0) : imFits (newImg (imSizes im)) w = fitsErr im w := by
  have h1 : imCheck (newImg (imSizes im)) = 0 := by unfold imCheck at h ⊢; rw [newImg_imSizes]; exact h
  have h2 : ∀ v : Nat, ((newImg (imSizes im)).getD v []).length = (im.getD v []).length := fun v => by
    rw [newImg_sizes]
    by_cases hv : v < im.length <;> simp [List.getD_eq_getElem?_getD, hv]
  unfold imFits
  rw [if_neg (by simpa using h1)]
  unfold fitsErr
  rw [newImg_len, h2]
theorem cal88 {im : Img} {w : Wrt} (hl : im.length ≤ lim) (hr : ∀ v ∈ im, v.length ≤ lim) (hd : w.data.length ≤ lim) : cal env 88 [eWr w, .iptr [.list 1 (im.map eSecs)] 0] = some [(.int .i64 (imFits im w), false)] := by
  have e1 := cal89 hl hr hd
  unfold eWr at *
  rw [cal_code env88 rfl]; simp only [fn88]; simp only [start, z_map_cons, z_map_nil, z_len_cons, z_len_nil, z_repl_zero, z_repl_succ, z_cons_app, z_nil_app, Nat.reduceAdd, Nat.reduceSub]
  simp only [e1, List.isEmpty_nil, val_pvs, frozen_pvs, msnoc_len, msnoc_get, msnoc_set, msnoc_take, Int.le_refl, take_map_all, Nat.le_refl, St.freezeRows, BV.frozen, List.take_length, List.take_append_drop, z_repl_zero, Int.toNat_zero, true_and, and_true, and_self, eq_self, z_take_zero, List.drop_nil, List.take_nil, vAll, List.foldl_nil, List.foldl_cons, resultsOf, resultList, resultOf, zBV, splice, PV.remade, St.freezeAt, St.freezeBox, St.freezeCap, PV.single, plain, act, dstOf, if_true, if_false, reduceCtorEq, St.get, St.put, St.pvOf, St.putRow, St.consume, St.freeze, St.row, St.elems, St.grab, St.takeRow, St.setRow, St.place, St.optPv, St.setCell, St.setCellRow, binPV, intBin, unPV, BV.val, Nat.reduceEqDiff, bound, consumeAll, buildParts, capsOf, capOf, List.append_nil, Nat.reduceAdd, Nat.reduceLT, Nat.reduceLeDiff, beq_self_eq_true, List.length_map, Nat.beq, dcall, dcallP, List.mapM_cons, St.snapFn, St.snap, St.layAll, St.lay, St.freezeArg, St.freezeArg1]
theorem loop87 {im : Img} {l : List Wrt} {gf : Nat} {caps : List PV} (hp : ∀ w ∈ l, cal env gf (eWr w :: caps) = some [(.int .i64 0, false)]) (hs : seqW im l) (hr : ∀ v ∈ im, v.length ≤ 1000000) (hl : l.length ≤ lim) {st : St} (h : st.head [0, 1, 9, 10, 11] st.boxes.length = some ⟨[.pv (.list 3 (l.map eWr)), .pv (.func gf caps), .any, .any, .any, .any, .any, .any, .any, .pv (.list 3 (l.map eWr)), .pv (.int .i64 l.length), .pv (.int .i64 (0 : Nat)), .any, .any, .any, .any, .any, .any, .any, .any, .any, .any, .any, .any, .any, .any, .any, .any, .any, .any, .any, .any, .any, .any, .any, .any, .any, .any, .any, .any, .any, .any, .any, .any, .any, .any, .any, .any, .any, .any, .any, .any, .any], [], [], none⟩) :
   den env fn87_l1 st = some (.normal, ⟨[.any, .any, .any, .any, .any, .any, .any, .any, .any, .any, .any, .any, .any, .any, .any, .any, .any, .any, .any, .any, .any, .any, .any, .any, .any, .any, .any, .any, .any, .any, .any, .any, .any, .any, .any, .any, .any, .any, .any, .any, .any, .any, .any, .any, .any, .any, .any, .any, .any, .any, .any, .any, .any], [], [], none⟩) := by
  unfold fn87_l1
  refine clean_up (env := env) (l.length) (fun i => ⟨[.pv (.list 3 (l.map eWr)), .pv (.func gf caps), .any, .any, .any, .any, .any, .any, .any, .pv (.list 3 (l.map eWr)), .pv (.int .i64 l.length), .pv (.int .i64 i), .any, .any, .any, .any, .any, .any, .any, .any, .any, .any, .any, .any, .any, .any, .any, .any, .any, .any, .any, .any, .any, .any, .any, .any, .any, .any, .any, .any, .any, .any, .any, .any, .any, .any, .any, .any, .any, .any, .any, .any, .any], [], [], none⟩) (fun i => some (.normal, ⟨[.any, .any, .any, .any, .any, .any, .any, .any, .any, .any, .any, .any, .any, .any, .any, .any, .any, .any, .any, .any, .any, .any, .any, .any, .any, .any, .any, .any, .any, .any, .any, .any, .any, .any, .any, .any, .any, .any, .any, .any, .any, .any, .any, .any, .any, .any, .any, .any, .any, .any, .any, .any, .any], [], [], none⟩)) h (fun _ => rfl) (fun _ => rfl) ?_ ?_
  · intro i rb hi ih

    have hi1 := i64_next hi hl
    have F1 : ((i : Int) < (l.length : Int)) = True := eq_true (by omega)
    have e1 := hp _ (List.getElem_mem hi)
    have P : ∀ x : Wrt, part [PV.int .i64 x.volume, .int .i64 x.start, .list 8 (x.data.map eSec)] 0 (some 3) = some (.agg [.int .i64 x.volume, .int .i64 x.start, .list 8 (x.data.map eSec)]) := fun x => rfl
    unfold eWr at e1
    cases i with
    | zero =>
      have Z0 : (((0 : Nat) : Int) == 0) = true := rfl
      simp only [fn87_b0, F1, P, Z0, e1, eWr, index_nat hi, List.getElem?_map, List.getElem?_eq_getElem hi, List.isEmpty_nil, val_pvs, frozen_pvs, msnoc_len, msnoc_get, msnoc_set, msnoc_take, Int.le_refl, take_map_all, Nat.le_refl, St.freezeRows, BV.frozen, List.take_length, List.take_append_drop, z_repl_zero, Int.toNat_zero, true_and, and_true, and_self, eq_self, z_take_zero, List.drop_nil, List.take_nil, vAll, List.foldl_nil, List.foldl_cons, resultsOf, resultList, resultOf, zBV, splice, PV.remade, St.freezeAt, St.freezeBox, St.freezeCap, PV.single, plain, act, dstOf, if_true, if_false, reduceCtorEq, St.get, St.put, St.pvOf, St.putRow, St.consume, St.freeze, St.row, St.elems, St.grab, St.takeRow, St.setRow, St.place, St.optPv, St.setCell, St.setCellRow, binPV, intBin, unPV, BV.val, Nat.reduceEqDiff, bound, consumeAll, buildParts, capsOf, capOf, List.append_nil, Nat.reduceAdd, Nat.reduceLT, Nat.reduceLeDiff, beq_self_eq_true, List.length_map, Nat.beq, dcall, dcallP, List.mapM_cons, St.snapFn, St.snap, St.layAll, St.lay, St.freezeArg, St.freezeArg1]
      rw [ih _ (by simp only [hi1]; rfl)]
    | succ j =>
      have hj : j < l.length := by omega
      have Z : (((j + 1 : Nat) : Int) == 0) = false := by simp; omega
      have W : IntKind.i64.wrap (((j + 1 : Nat) : Int) - 1) = (j : Int) := by rw [show ((j + 1 : Nat) : Int) - 1 = (j : Int) by omega]; exact i64_fits (by unfold lim at hl; omega)
      have ho := hs.2 j hi
      obtain ⟨q1, q2, q3, q4⟩ := fits_in (hs.1 _ (List.getElem_mem hj))
      have q5 := getD_len hr l[j].volume.toNat
      have W2 : IntKind.i64.wrap (l[j].start + (l[j].data.length : Int)) = l[j].start + (l[j].data.length : Int) := i64_fits (by omega)
      have G1 : (l[j + 1].volume < l[j].volume) = False := eq_false (by unfold ordW at ho; omega)
      by_cases c : l[j + 1].volume = l[j].volume
      · have G2 : (l[j + 1].volume == l[j].volume) = true := by simp [c]
        have G3 : (l[j + 1].start ≤ l[j].start + (l[j].data.length : Int)) = False := eq_false (by unfold ordW at ho; omega)
        simp only [fn87_b0, F1, P, Z, W, W2, G1, G2, G3, e1, eWr, index_nat hi, index_nat hj, List.getElem?_map, List.getElem?_eq_getElem hi, List.getElem?_eq_getElem hj, List.length_map, List.isEmpty_nil, val_pvs, frozen_pvs, msnoc_len, msnoc_get, msnoc_set, msnoc_take, Int.le_refl, take_map_all, Nat.le_refl, St.freezeRows, BV.frozen, List.take_length, List.take_append_drop, z_repl_zero, Int.toNat_zero, true_and, and_true, and_self, eq_self, z_take_zero, List.drop_nil, List.take_nil, vAll, List.foldl_nil, List.foldl_cons, resultsOf, resultList, resultOf, zBV, splice, PV.remade, St.freezeAt, St.freezeBox, St.freezeCap, PV.single, plain, act, dstOf, if_true, if_false, reduceCtorEq, St.get, St.put, St.pvOf, St.putRow, St.consume, St.freeze, St.row, St.elems, St.grab, St.takeRow, St.setRow, St.place, St.optPv, St.setCell, St.setCellRow, binPV, intBin, unPV, BV.val, Nat.reduceEqDiff, bound, consumeAll, buildParts, capsOf, capOf, List.append_nil, Nat.reduceAdd, Nat.reduceLT, Nat.reduceLeDiff, beq_self_eq_true, List.length_map, Nat.beq, dcall, dcallP, List.mapM_cons, St.snapFn, St.snap, St.layAll, St.lay, St.freezeArg, St.freezeArg1]
        rw [ih _ (by simp only [hi1]; rfl)]
      · have G2 : (l[j + 1].volume == l[j].volume) = false := by simp [c]
        simp only [fn87_b0, F1, P, Z, W, W2, G1, G2, e1, eWr, index_nat hi, index_nat hj, List.getElem?_map, List.getElem?_eq_getElem hi, List.getElem?_eq_getElem hj, List.length_map, List.isEmpty_nil, val_pvs, frozen_pvs, msnoc_len, msnoc_get, msnoc_set, msnoc_take, Int.le_refl, take_map_all, Nat.le_refl, St.freezeRows, BV.frozen, List.take_length, List.take_append_drop, z_repl_zero, Int.toNat_zero, true_and, and_true, and_self, eq_self, z_take_zero, List.drop_nil, List.take_nil, vAll, List.foldl_nil, List.foldl_cons, resultsOf, resultList, resultOf, zBV, splice, PV.remade, St.freezeAt, St.freezeBox, St.freezeCap, PV.single, plain, act, dstOf, if_true, if_false, reduceCtorEq, St.get, St.put, St.pvOf, St.putRow, St.consume, St.freeze, St.row, St.elems, St.grab, St.takeRow, St.setRow, St.place, St.optPv, St.setCell, St.setCellRow, binPV, intBin, unPV, BV.val, Nat.reduceEqDiff, bound, consumeAll, buildParts, capsOf, capOf, List.append_nil, Nat.reduceAdd, Nat.reduceLT, Nat.reduceLeDiff, beq_self_eq_true, List.length_map, Nat.beq, dcall, dcallP, List.mapM_cons, St.snapFn, St.snap, St.layAll, St.lay, St.freezeArg, St.freezeArg1]
        rw [ih _ (by simp only [hi1]; rfl)]
  · intro rb

    simp only [fn87_b0, Int.lt_irrefl,  List.isEmpty_nil, val_pvs, frozen_pvs, msnoc_len, msnoc_get, msnoc_set, msnoc_take, Int.le_refl, take_map_all, Nat.le_refl, St.freezeRows, BV.frozen, List.take_length, List.take_append_drop, z_repl_zero, Int.toNat_zero, true_and, and_true, and_self, eq_self, z_take_zero, List.drop_nil, List.take_nil, vAll, List.foldl_nil, List.foldl_cons, resultsOf, resultList, resultOf, zBV, splice, PV.remade, St.freezeAt, St.freezeBox, St.freezeCap, PV.single, plain, act, dstOf, if_true, if_false, reduceCtorEq, St.get, St.put, St.pvOf, St.putRow, St.consume, St.freeze, St.row, St.elems, St.grab, St.takeRow, St.setRow, St.place, St.optPv, St.setCell, St.setCellRow, binPV, intBin, unPV, BV.val, Nat.reduceEqDiff, bound, consumeAll, buildParts, capsOf, capOf, List.append_nil, Nat.reduceAdd, Nat.reduceLT, Nat.reduceLeDiff, beq_self_eq_true, List.length_map, Nat.beq, dcall, dcallP, List.mapM_cons, St.snapFn, St.snap, St.layAll, St.lay, St.freezeArg, St.freezeArg1]
    rfl

theorem cal87 {im : Img} {l : List Wrt} {gf : Nat} {caps : List PV} (hp : ∀ w ∈ l, cal env gf (eWr w :: caps) = some [(.int .i64 0, false)]) (hs : seqW im l) (hr : ∀ v ∈ im, v.length ≤ 1000000) (hl : l.length ≤ lim) :
    cal env 87 [.list 3 (l.map eWr), .func gf caps] = some [(.int .i64 0, false)] := by
  rw [cal_code env87 rfl]; simp only [fn87]; simp only [start, z_map_cons, z_map_nil, z_len_cons, z_len_nil, z_repl_zero, z_repl_succ, z_cons_app, z_nil_app, Nat.reduceAdd, Nat.reduceSub]
  simp only [List.length_map, List.isEmpty_nil, val_pvs, frozen_pvs, msnoc_len, msnoc_get, msnoc_set, msnoc_take, Int.le_refl, take_map_all, Nat.le_refl, St.freezeRows, BV.frozen, List.take_length, List.take_append_drop, z_repl_zero, Int.toNat_zero, true_and, and_true, and_self, eq_self, z_take_zero, List.drop_nil, List.take_nil, vAll, List.foldl_nil, List.foldl_cons, resultsOf, resultList, resultOf, zBV, splice, PV.remade, St.freezeAt, St.freezeBox, St.freezeCap, PV.single, plain, act, dstOf, if_true, if_false, reduceCtorEq, St.get, St.put, St.pvOf, St.putRow, St.consume, St.freeze, St.row, St.elems, St.grab, St.takeRow, St.setRow, St.place, St.optPv, St.setCell, St.setCellRow, binPV, intBin, unPV, BV.val, Nat.reduceEqDiff, bound, consumeAll, buildParts, capsOf, capOf, List.append_nil, Nat.reduceAdd, Nat.reduceLT, Nat.reduceLeDiff, beq_self_eq_true, List.length_map, Nat.beq, dcall, dcallP, List.mapM_cons, St.snapFn, St.snap, St.layAll, St.lay, St.freezeArg, St.freezeArg1]
  rw [loop87 hp hs hr hl]
  rotate_left
  · rfl
  · simp only [List.isEmpty_nil, val_pvs, frozen_pvs, msnoc_len, msnoc_get, msnoc_set, msnoc_take, Int.le_refl, take_map_all, Nat.le_refl, St.freezeRows, BV.frozen, List.take_length, List.take_append_drop, z_repl_zero, Int.toNat_zero, true_and, and_true, and_self, eq_self, z_take_zero, List.drop_nil, List.take_nil, vAll, List.foldl_nil, List.foldl_cons, resultsOf, resultList, resultOf, zBV, splice, PV.remade, St.freezeAt, St.freezeBox, St.freezeCap, PV.single, plain, act, dstOf, if_true, if_false, reduceCtorEq, St.get, St.put, St.pvOf, St.putRow, St.consume, St.freeze, St.row, St.elems, St.grab, St.takeRow, St.setRow, St.place, St.optPv, St.setCell, St.setCellRow, binPV, intBin, unPV, BV.val, Nat.reduceEqDiff, bound, consumeAll, buildParts, capsOf, capOf, List.append_nil, Nat.reduceAdd, Nat.reduceLT, Nat.reduceLeDiff, beq_self_eq_true, List.length_map, Nat.beq, dcall, dcallP, List.mapM_cons, St.snapFn, St.snap, St.layAll, St.lay, St.freezeArg, St.freezeArg1]
theorem cal64 {im : Img} {l : List Wrt} (hs : seqW im l) (hc : imCheck im = 0) (hi : im.length ≤ lim) (hr : ∀ v ∈ im, v.length ≤ 1000000) (hl : l.length ≤ lim) :
    cal env 64 [.list 3 (l.map eWr), .list 1 ((imSizes im).map eI)] = some [(.int .i64 0, false)] := by
  have hz : (imSizes im).length ≤ lim := by simpa [imSizes] using hi
  have e1 := cal61 hz
  have hc' : sizesErr (imSizes im) = 0 := hc
  have hrn : ∀ v ∈ newImg (imSizes im), v.length ≤ lim := fun v hv => by
    rw [newImg_sizes] at hv
    obtain ⟨u, hu, rfl⟩ := List.mem_map.1 hv
    have := hr u hu
    simp; unfold lim; omega
  have hsz : ∀ w ∈ l, cal env 88 (eWr w :: [.iptr [.list 1 ((newImg (imSizes im)).map eSecs)] 0]) = some [(.int .i64 0, false)] := fun w hw => by
    obtain ⟨q1, q2, q3, q4⟩ := fits_in (hs.1 w hw)
    have q5 := getD_len hr w.volume.toNat
    have := cal88 (w := w) (im := newImg (imSizes im)) (by rw [newImg_len]; exact hi) hrn (by unfold lim; omega)
    rw [newImg_fits hc, hs.1 w hw] at this
    exact this
  have e2 := cal87 hsz hs hr hl
  rw [hc', if_pos rfl] at e1
  have Z : ((0 : Int) != 0) = false := rfl
  rw [cal_code env64 rfl]; simp only [fn64]; simp only [start, z_map_cons, z_map_nil, z_len_cons, z_len_nil, z_repl_zero, z_repl_succ, z_cons_app, z_nil_app, Nat.reduceAdd, Nat.reduceSub]
  simp only [e1, e2, Z, List.isEmpty_nil, val_pvs, frozen_pvs, msnoc_len, msnoc_get, msnoc_set, msnoc_take, Int.le_refl, take_map_all, Nat.le_refl, St.freezeRows, BV.frozen, List.take_length, List.take_append_drop, z_repl_zero, Int.toNat_zero, true_and, and_true, and_self, eq_self, z_take_zero, List.drop_nil, List.take_nil, vAll, List.foldl_nil, List.foldl_cons, resultsOf, resultList, resultOf, zBV, splice, PV.remade, St.freezeAt, St.freezeBox, St.freezeCap, PV.single, plain, act, dstOf, if_true, if_false, reduceCtorEq, St.get, St.put, St.pvOf, St.putRow, St.consume, St.freeze, St.row, St.elems, St.grab, St.takeRow, St.setRow, St.place, St.optPv, St.setCell, St.setCellRow, binPV, intBin, unPV, BV.val, Nat.reduceEqDiff, bound, consumeAll, buildParts, capsOf, capOf, List.append_nil, Nat.reduceAdd, Nat.reduceLT, Nat.reduceLeDiff, beq_self_eq_true, List.length_map, Nat.beq, dcall, dcallP, List.mapM_cons, St.snapFn, St.snap, St.layAll, St.lay, St.freezeArg, St.freezeArg1]
end Go.Proofs.YtncobemfpammfaaGreat.V

namespace Go.Proofs.YtncobemfpammfaaGreat.V
theorem chkGo_pair {size : Int} : ∀ (l : List Exn) (nx : Int), chkGo size nx l = 0 → (∀ e ∈ l, nx ≤ e.start ∧ 1 ≤ e.count) ∧ l.Pairwise (fun a b => a.start + a.count < b.start)
  | [], _, _ => ⟨fun e he => (by cases he), List.Pairwise.nil⟩
  | x :: l, nx, h => by
    unfold chkGo at h
    split at h
    · omega
    · split at h
      · omega
      · split at h
        · omega
        · obtain ⟨h1, h2⟩ := chkGo_pair l _ h
          refine ⟨fun e he => ?_, List.pairwise_cons.2 ⟨fun e he => by have := h1 e he; omega, h2⟩⟩
          rcases List.mem_cons.1 he with rfl | he
          · omega
          · have := h1 e he; omega
theorem chkX_pair {l : List Exn} {size : Int} (h : chkX l size = 0) : l.Pairwise (fun a b => a.start + a.count < b.start) := by
  unfold chkX at h
  split at h
  · omega
  · exact (chkGo_pair l 0 h).2
theorem wOf_len {im : Img} {v : Nat} {e : Exn} (h0 : 0 ≤ e.start) (h1 : 1 ≤ e.count) (h2 : e.start + e.count ≤ ((im.getD v []).length : Int)) : (((wOf im v e).data.length : Nat) : Int) = e.count := by
  simp only [wOf, List.length_take, List.length_drop]; omega
theorem wrL_mem {im : Img} {l : List (List Exn)} {n : Nat} {w : Wrt} (h : w ∈ wrN im l n) : ∃ v, v < n ∧ ∃ e ∈ l.getD v [], w = wOf im v e := by
  simp only [wrN, List.mem_flatMap, List.mem_range, wrV, List.mem_map] at h
  obtain ⟨v, hv, e, he, rfl⟩ := h
  exact ⟨v, hv, e, he, rfl⟩
theorem wr_at {im : Img} {l : List (List Exn)} (h : fitE im l = 0) {v : Nat} (hv : v < l.length) {e : Exn} (he : e ∈ l.getD v []) : 0 ≤ e.start ∧ 1 ≤ e.count ∧ e.start + e.count ≤ ((im.getD v []).length : Int) := by
  have hf := fit_len h
  have e1 : l.getD v [] = l[v] := by simp [hv]
  have e2 : im.getD v [] = im[v] := by simp [show v < im.length by omega]
  rw [e1] at he
  rw [e2]
  exact chkX_in (fit_at h hv (by omega)) e he
theorem wrL_seq {im : Img} {l : List (List Exn)} (h : fitE im l = 0) : seqW im (wrL im l) := by
  have hf := fit_len h
  refine ⟨fun w hw => ?_, ?_⟩
  · obtain ⟨v, hv, e, he, rfl⟩ := wrL_mem hw
    obtain ⟨q1, q2, q3⟩ := wr_at h hv he
    have q4 := wOf_len q1 q2 q3
    have e1 : (wOf im v e).volume = (v : Int) := rfl
    have e2 : (wOf im v e).start = e.start := rfl
    unfold fitsErr
    rw [if_neg (by rw [e1]; omega), if_neg (by omega), if_neg (by rw [e1, e2, q4, Int.toNat_natCast]; omega)]
  · have hp : (wrL im l).Pairwise ordW := by
      unfold wrL wrN
      rw [List.pairwise_flatMap]
      refine ⟨fun v hv => ?_, ?_⟩
      · have hv := List.mem_range.1 hv
        unfold wrV
        rw [List.pairwise_map]
        have e1 : l.getD v [] = l[v] := by simp [hv]
        have hp := chkX_pair (fit_at h hv (by omega))
        rw [e1]
        refine List.Pairwise.imp_of_mem ?_ hp
        intro a b ha hb hab
        rw [← e1] at ha
        obtain ⟨q1, q2, q3⟩ := wr_at h hv ha
        have q4 := wOf_len q1 q2 q3
        refine .inr ⟨rfl, ?_⟩
        rw [q4]
        exact hab
      · refine List.Pairwise.imp ?_ List.pairwise_lt_range
        intro a b hab x hx y hy
        obtain ⟨_, _, rfl⟩ := List.mem_map.1 hx
        obtain ⟨_, _, rfl⟩ := List.mem_map.1 hy
        exact .inl (show ((a : Nat) : Int) < (b : Int) by omega)
    exact fun i hi => List.pairwise_iff_getElem.1 hp i (i + 1) (by omega) hi (by omega)
theorem wrL_data {im : Img} {l : List (List Exn)} {k : Nat} (hr : ∀ v ∈ im, v.length ≤ k) : ∀ w ∈ wrL im l, w.data.length ≤ k := fun w hw => by
  obtain ⟨v, hv, e, he, rfl⟩ := wrL_mem hw
  have : (im.getD v []).length ≤ k := by
    by_cases h : v < im.length
    · have e : im.getD v [] = im[v] := by simp [h]
      rw [e]; exact hr _ (List.getElem_mem h)
    · have e : im.getD v [] = [] := by simp [List.getD_eq_getElem?_getD, List.getElem?_eq_none (Nat.le_of_not_lt h)]
      rw [e]; simp
  simp only [wOf, List.length_take, List.length_drop]; omega
end Go.Proofs.YtncobemfpammfaaGreat.V

namespace Go.Proofs.YtncobemfpammfaaGreat.V
def eCyc (b n t : Int) (p : List Int) (w : List Wrt) : PV := .agg [.int .i64 b, .int .i64 n, .int .i64 t, .list 1 (p.map eI), .list 3 (w.map eWr)]
def cycE (b n t : Int) (p : List Int) : Int := if b < 0 ∨ n ≤ b ∨ n > 1073741824 then 2 else if t < 0 ∨ t > 1073741824 then 24 else posE p
theorem cal33 {im : Img} {b n t : Int} {p : List Int} {w : List Wrt} (hs : seqW im w) (hc : imCheck im = 0) (hi : im.length ≤ lim) (hr : ∀ v ∈ im, v.length ≤ 1000000) (hl : w.length ≤ lim) (hp : p.length ≤ 20) :
    cal env 33 [eCyc b n t p w, .list 1 ((imSizes im).map eI)] = some [(.int .i64 (cycE b n t p), false)] := by
  have hz : (imSizes im).length ≤ lim := by simpa [imSizes] using hi
  have e1 := cal61 hz
  have hc' : sizesErr (imSizes im) = 0 := hc
  rw [hc', if_pos rfl] at e1
  have e2 := cal62 (n := t) (a := 0) (b := 1073741824)
  have e3 := cal63 hp
  have e4 := cal64 hs hc hi hr hl
  have Z : ((0 : Int) != 0) = false := rfl
  unfold eCyc cycE
  by_cases c1 : b < 0 ∨ n ≤ b ∨ n > 1073741824
  · rw [if_pos c1]
    rw [cal_code env33 rfl]; simp only [fn33]; simp only [start, z_map_cons, z_map_nil, z_len_cons, z_len_nil, z_repl_zero, z_repl_succ, z_cons_app, z_nil_app, Nat.reduceAdd, Nat.reduceSub]
    simp only [e1, Z, List.isEmpty_nil, val_pvs, frozen_pvs, msnoc_len, msnoc_get, msnoc_set, msnoc_take, Int.le_refl, take_map_all, Nat.le_refl, St.freezeRows, BV.frozen, List.take_length, List.take_append_drop, z_repl_zero, Int.toNat_zero, true_and, and_true, and_self, eq_self, z_take_zero, List.drop_nil, List.take_nil, vAll, List.foldl_nil, List.foldl_cons, resultsOf, resultList, resultOf, zBV, splice, PV.remade, St.freezeAt, St.freezeBox, St.freezeCap, PV.single, plain, act, dstOf, if_true, if_false, reduceCtorEq, St.get, St.put, St.pvOf, St.putRow, St.consume, St.freeze, St.row, St.elems, St.grab, St.takeRow, St.setRow, St.place, St.optPv, St.setCell, St.setCellRow, binPV, intBin, unPV, BV.val, Nat.reduceEqDiff, bound, consumeAll, buildParts, capsOf, capOf, List.append_nil, Nat.reduceAdd, Nat.reduceLT, Nat.reduceLeDiff, beq_self_eq_true, List.length_map, Nat.beq, dcall, dcallP, List.mapM_cons, St.snapFn, St.snap, St.layAll, St.lay, St.freezeArg, St.freezeArg1]
    by_cases d1 : b < 0
    · simp only [eq_true d1, List.isEmpty_nil, val_pvs, frozen_pvs, msnoc_len, msnoc_get, msnoc_set, msnoc_take, Int.le_refl, take_map_all, Nat.le_refl, St.freezeRows, BV.frozen, List.take_length, List.take_append_drop, z_repl_zero, Int.toNat_zero, true_and, and_true, and_self, eq_self, z_take_zero, List.drop_nil, List.take_nil, vAll, List.foldl_nil, List.foldl_cons, resultsOf, resultList, resultOf, zBV, splice, PV.remade, St.freezeAt, St.freezeBox, St.freezeCap, PV.single, plain, act, dstOf, if_true, if_false, reduceCtorEq, St.get, St.put, St.pvOf, St.putRow, St.consume, St.freeze, St.row, St.elems, St.grab, St.takeRow, St.setRow, St.place, St.optPv, St.setCell, St.setCellRow, binPV, intBin, unPV, BV.val, Nat.reduceEqDiff, bound, consumeAll, buildParts, capsOf, capOf, List.append_nil, Nat.reduceAdd, Nat.reduceLT, Nat.reduceLeDiff, beq_self_eq_true, List.length_map, Nat.beq, dcall, dcallP, List.mapM_cons, St.snapFn, St.snap, St.layAll, St.lay, St.freezeArg, St.freezeArg1]
    · have d1 := eq_false d1
      by_cases d2 : n ≤ b
      · simp only [d1, eq_true d2, List.isEmpty_nil, val_pvs, frozen_pvs, msnoc_len, msnoc_get, msnoc_set, msnoc_take, Int.le_refl, take_map_all, Nat.le_refl, St.freezeRows, BV.frozen, List.take_length, List.take_append_drop, z_repl_zero, Int.toNat_zero, true_and, and_true, and_self, eq_self, z_take_zero, List.drop_nil, List.take_nil, vAll, List.foldl_nil, List.foldl_cons, resultsOf, resultList, resultOf, zBV, splice, PV.remade, St.freezeAt, St.freezeBox, St.freezeCap, PV.single, plain, act, dstOf, if_true, if_false, reduceCtorEq, St.get, St.put, St.pvOf, St.putRow, St.consume, St.freeze, St.row, St.elems, St.grab, St.takeRow, St.setRow, St.place, St.optPv, St.setCell, St.setCellRow, binPV, intBin, unPV, BV.val, Nat.reduceEqDiff, bound, consumeAll, buildParts, capsOf, capOf, List.append_nil, Nat.reduceAdd, Nat.reduceLT, Nat.reduceLeDiff, beq_self_eq_true, List.length_map, Nat.beq, dcall, dcallP, List.mapM_cons, St.snapFn, St.snap, St.layAll, St.lay, St.freezeArg, St.freezeArg1]
      · have d3 : n > 1073741824 := by simp only [d1, false_or] at c1; omega
        simp only [d1, eq_false d2, eq_true d3, List.isEmpty_nil, val_pvs, frozen_pvs, msnoc_len, msnoc_get, msnoc_set, msnoc_take, Int.le_refl, take_map_all, Nat.le_refl, St.freezeRows, BV.frozen, List.take_length, List.take_append_drop, z_repl_zero, Int.toNat_zero, true_and, and_true, and_self, eq_self, z_take_zero, List.drop_nil, List.take_nil, vAll, List.foldl_nil, List.foldl_cons, resultsOf, resultList, resultOf, zBV, splice, PV.remade, St.freezeAt, St.freezeBox, St.freezeCap, PV.single, plain, act, dstOf, if_true, if_false, reduceCtorEq, St.get, St.put, St.pvOf, St.putRow, St.consume, St.freeze, St.row, St.elems, St.grab, St.takeRow, St.setRow, St.place, St.optPv, St.setCell, St.setCellRow, binPV, intBin, unPV, BV.val, Nat.reduceEqDiff, bound, consumeAll, buildParts, capsOf, capOf, List.append_nil, Nat.reduceAdd, Nat.reduceLT, Nat.reduceLeDiff, beq_self_eq_true, List.length_map, Nat.beq, dcall, dcallP, List.mapM_cons, St.snapFn, St.snap, St.layAll, St.lay, St.freezeArg, St.freezeArg1]
  · rw [if_neg c1]
    have G1 : (b < 0) = False := eq_false (by omega)
    have G2 : (n ≤ b) = False := eq_false (by omega)
    have G3 : (n > 1073741824) = False := eq_false (by omega)
    by_cases c2 : t < 0 ∨ t > 1073741824
    · rw [if_pos c2]
      have G4 : (decide ((0 : Int) ≤ t) && decide (t ≤ 1073741824)) = false := by simp; omega
      rw [G4] at e2
      rw [cal_code env33 rfl]; simp only [fn33]; simp only [start, z_map_cons, z_map_nil, z_len_cons, z_len_nil, z_repl_zero, z_repl_succ, z_cons_app, z_nil_app, Nat.reduceAdd, Nat.reduceSub]
      simp only [e1, e2, G1, G2, G3, Z, List.isEmpty_nil, val_pvs, frozen_pvs, msnoc_len, msnoc_get, msnoc_set, msnoc_take, Int.le_refl, take_map_all, Nat.le_refl, St.freezeRows, BV.frozen, List.take_length, List.take_append_drop, z_repl_zero, Int.toNat_zero, true_and, and_true, and_self, eq_self, z_take_zero, List.drop_nil, List.take_nil, vAll, List.foldl_nil, List.foldl_cons, resultsOf, resultList, resultOf, zBV, splice, PV.remade, St.freezeAt, St.freezeBox, St.freezeCap, PV.single, plain, act, dstOf, if_true, if_false, reduceCtorEq, St.get, St.put, St.pvOf, St.putRow, St.consume, St.freeze, St.row, St.elems, St.grab, St.takeRow, St.setRow, St.place, St.optPv, St.setCell, St.setCellRow, binPV, intBin, unPV, BV.val, Nat.reduceEqDiff, bound, consumeAll, buildParts, capsOf, capOf, List.append_nil, Nat.reduceAdd, Nat.reduceLT, Nat.reduceLeDiff, beq_self_eq_true, List.length_map, Nat.beq, dcall, dcallP, List.mapM_cons, St.snapFn, St.snap, St.layAll, St.lay, St.freezeArg, St.freezeArg1]
    · rw [if_neg c2]
      have G4 : (decide ((0 : Int) ≤ t) && decide (t ≤ 1073741824)) = true := by simp; omega
      rw [G4] at e2
      by_cases c3 : posE p = 0
      · rw [c3] at e3
        rw [c3]
        rw [cal_code env33 rfl]; simp only [fn33]; simp only [start, z_map_cons, z_map_nil, z_len_cons, z_len_nil, z_repl_zero, z_repl_succ, z_cons_app, z_nil_app, Nat.reduceAdd, Nat.reduceSub]
        simp only [e1, e2, e3, e4, G1, G2, G3, Z, List.isEmpty_nil, val_pvs, frozen_pvs, msnoc_len, msnoc_get, msnoc_set, msnoc_take, Int.le_refl, take_map_all, Nat.le_refl, St.freezeRows, BV.frozen, List.take_length, List.take_append_drop, z_repl_zero, Int.toNat_zero, true_and, and_true, and_self, eq_self, z_take_zero, List.drop_nil, List.take_nil, vAll, List.foldl_nil, List.foldl_cons, resultsOf, resultList, resultOf, zBV, splice, PV.remade, St.freezeAt, St.freezeBox, St.freezeCap, PV.single, plain, act, dstOf, if_true, if_false, reduceCtorEq, St.get, St.put, St.pvOf, St.putRow, St.consume, St.freeze, St.row, St.elems, St.grab, St.takeRow, St.setRow, St.place, St.optPv, St.setCell, St.setCellRow, binPV, intBin, unPV, BV.val, Nat.reduceEqDiff, bound, consumeAll, buildParts, capsOf, capOf, List.append_nil, Nat.reduceAdd, Nat.reduceLT, Nat.reduceLeDiff, beq_self_eq_true, List.length_map, Nat.beq, dcall, dcallP, List.mapM_cons, St.snapFn, St.snap, St.layAll, St.lay, St.freezeArg, St.freezeArg1]
      · have G5 : (posE p != 0) = true := by simp [c3]
        rw [cal_code env33 rfl]; simp only [fn33]; simp only [start, z_map_cons, z_map_nil, z_len_cons, z_len_nil, z_repl_zero, z_repl_succ, z_cons_app, z_nil_app, Nat.reduceAdd, Nat.reduceSub]
        simp only [e1, e2, e3, G1, G2, G3, G5, Z, List.isEmpty_nil, val_pvs, frozen_pvs, msnoc_len, msnoc_get, msnoc_set, msnoc_take, Int.le_refl, take_map_all, Nat.le_refl, St.freezeRows, BV.frozen, List.take_length, List.take_append_drop, z_repl_zero, Int.toNat_zero, true_and, and_true, and_self, eq_self, z_take_zero, List.drop_nil, List.take_nil, vAll, List.foldl_nil, List.foldl_cons, resultsOf, resultList, resultOf, zBV, splice, PV.remade, St.freezeAt, St.freezeBox, St.freezeCap, PV.single, plain, act, dstOf, if_true, if_false, reduceCtorEq, St.get, St.put, St.pvOf, St.putRow, St.consume, St.freeze, St.row, St.elems, St.grab, St.takeRow, St.setRow, St.place, St.optPv, St.setCell, St.setCellRow, binPV, intBin, unPV, BV.val, Nat.reduceEqDiff, bound, consumeAll, buildParts, capsOf, capOf, List.append_nil, Nat.reduceAdd, Nat.reduceLT, Nat.reduceLeDiff, beq_self_eq_true, List.length_map, Nat.beq, dcall, dcallP, List.mapM_cons, St.snapFn, St.snap, St.layAll, St.lay, St.freezeArg, St.freezeArg1]
end Go.Proofs.YtncobemfpammfaaGreat.V
