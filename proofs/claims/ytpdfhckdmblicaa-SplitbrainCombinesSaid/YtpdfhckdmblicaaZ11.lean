/-
  Part 11 of the texts that the statement stands on.
-/
import Derived.Test.YtpdfhckdmblicaaZ10
import Derived.Test.YtpdfhckdmblicaaRows
set_option linter.all false
namespace Go.Proofs.Ytpdfhckdmblicaa.V
set_option linter.all false
theorem conf_row {a b z : Img} (h1 : imSizes a = imSizes z) (h2 : imSizes b = imSizes z) {i : Nat} (hz : i < z.length) :
    ∃ l, (differ (marksI a b z) (zerosI a b z))[i]? = some l ∧ (∀ x ∈ l, 0 ≤ x.start) ∧ l.length ≤ z[i].length := by
  obtain ⟨l1, s1⟩ := sizes_inj h1
  obtain ⟨l2, s2⟩ := sizes_inj h2
  have ha : i < a.length := by omega
  have hb : i < b.length := by omega
  have em : (marksI a b z)[i]? = _ := chooseX_get (g := gMark) (a := a) (b := b) (z := z) (i := i) ha hb hz
  have ez : (zerosI a b z)[i]? = _ := chooseX_get (g := gZero) (a := a) (b := b) (z := z) (i := i) ha hb hz
  refine ⟨volDiff (chooseV gMark a[i] b[i] z[i]) (chooseV gZero a[i] b[i] z[i]), ?_, fun x hx => (volDiff_in hx).1, ?_⟩
  · unfold differ
    have e : ((marksI a b z).zip (zerosI a b z))[i]? = some (chooseV gMark a[i] b[i] z[i], chooseV gZero a[i] b[i] z[i]) := List.getElem?_zip_eq_some.2 ⟨em, ez⟩
    rw [List.getElem?_map, e]; rfl
  · rw [← chooseV_len (g := gMark) (s1 i ha hz) (s2 i hb hz)]
    exact volDiff_len _ _
theorem differ_length {a b : Img} (h : imSizes a = imSizes b) : (differ a b).length = a.length := by
  have := (sizes_inj h).1
  simp [differ]; omega
set_option maxRecDepth 20000 in
set_option maxHeartbeats 4000000 in
theorem loop7l3 {a b z : Img} (s1 : imSizes a = imSizes z) (s2 : imSizes b = imSizes z) (hl : z.length ≤ 9) (hr : ∀ v ∈ z, v.length ≤ 24) {m o : Img} {l ne : List (List Exn)} {bx : Box} (hm : m = chooseX gMerge a b z) (ho : o = chooseX gMerge b a z) (hL : l = differ (marksI a b z) (zerosI a b z)) (hne : ne = z.map fun _ => []) {st : St} (h : st.head [0, 5, 8, 11, 12, 14, 18, 21, 49, 57, 72, 73, 80, 89, 97, 153, 154] st.boxes.length = some ⟨sl 381 [(0, .pv (.list 1 (z.map eSecs))), (5, .pv (.list 1 (a.map eSecs))), (8, .pv (.list 1 (b.map eSecs))), (11, .row 1 (m.map eSecs)), (12, .row 1 (l.map eExts)), (14, .row 1 (o.map eSecs)), (18, .row 1 (ne.map eExts)), (21, .row 1 (ne.map eExts)), (49, .pv (.list 1 (a.map eSecs))), (57, .pv (.list 1 (b.map eSecs))), (72, .any), (73, .any), (80, .any), (89, .any), (97, .any), (153, .pv (.int .i64 z.length)), (154, .pv (.int .i64 (0 : Nat)))], [bx], [], none⟩) :
   den env fn7_l3 st = some (.normal, ⟨sl 381 [(4, .any)], [bx], [], none⟩) := by
  unfold fn7_l3
  refine clean_up (env := env) (z.length) (fun i => ⟨sl 381 [(0, .pv (.list 1 (z.map eSecs))), (5, .pv (.list 1 (a.map eSecs))), (8, .pv (.list 1 (b.map eSecs))), (11, .row 1 (m.map eSecs)), (12, .row 1 (l.map eExts)), (14, .row 1 (o.map eSecs)), (18, .row 1 (ne.map eExts)), (21, .row 1 (ne.map eExts)), (49, .pv (.list 1 (a.map eSecs))), (57, .pv (.list 1 (b.map eSecs))), (72, .any), (73, .any), (80, .any), (89, .any), (97, .any), (153, .pv (.int .i64 z.length)), (154, .pv (.int .i64 i))], [bx], [], none⟩) (fun i => some (.normal, ⟨sl 381 [(4, .any)], [bx], [], none⟩)) h (fun _ => rfl) (fun _ => by simp only [slAll, Nat.reduceBEq, Nat.reduceLT, Nat.reduceLeDiff, Nat.zero_le, List.take_zero, List.take_nil, List.take_succ_cons, List.length_cons, List.length_nil, Nat.le_refl, Nat.reduceAdd, decide_true, Bool.and_self, Bool.true_and]) ?_ ?_
  · intro i rb hi ih

    have hlim : lim = 1073741824 := rfl
    have hi1 := i64_next hi (by omega)
    have F1 : ((i : Int) < (z.length : Int)) = True := eq_true (by omega)
    obtain ⟨l1, t1⟩ := sizes_inj s1
    obtain ⟨l2, t2⟩ := sizes_inj s2
    have ia : i < a.length := by omega
    have ib : i < b.length := by omega
    have r1 := t1 i ia hi
    have r2 := t2 i ib hi
    have r3 := hr _ (List.getElem_mem hi)
    have gm : m[i]? = some (chooseV gMerge a[i] b[i] z[i]) := by rw [hm]; exact chooseX_get ia ib hi
    have go : o[i]? = some (chooseV gMerge b[i] a[i] z[i]) := by rw [ho]; exact chooseX_get ib ia hi
    obtain ⟨L, gL, gL0, gLn⟩ := conf_row s1 s2 hi
    rw [← hL] at gL
    have lm : m.length = z.length := by rw [hm]; exact chooseX_len l1 l2
    have lo : o.length = z.length := by rw [ho]; exact chooseX_len l2 l1
    have hms : imSizes (marksI a b z) = imSizes (zerosI a b z) := (chooseX_sizes s1 s2).trans (chooseX_sizes s1 s2).symm
    have ll : l.length = z.length := by rw [hL, differ_length hms]; exact chooseX_len l1 l2
    have ln : ne.length = z.length := by rw [hne, List.length_map]
    have gn : ne[i]? = some [] := by rw [hne, List.getElem?_map, List.getElem?_eq_getElem hi]; rfl
    have hk : ∀ k (k1 : k < a[i].length) (k2 : k < b[i].length) (k3 : k < z[i].length) (k4 : k < (chooseV gMerge a[i] b[i] z[i]).length) (k5 : k < (chooseV gMerge b[i] a[i] z[i]).length), (chooseV gMerge a[i] b[i] z[i])[k] = gMerge a[i][k] b[i][k] z[i][k] ∧ (chooseV gMerge b[i] a[i] z[i])[k] = gMerge b[i][k] a[i][k] z[i][k] ∧ L.any (covP k) = confP a[i][k] b[i][k] z[i][k] := by
      intro k k1 k2 k3 k4 k5
      have e1 := chooseV_get (g := gMerge) k1 k2 k3
      have e2 := chooseV_get (g := gMerge) k2 k1 k3
      rw [List.getElem?_eq_getElem k4] at e1
      rw [List.getElem?_eq_getElem k5] at e2
      obtain ⟨L', q1, q2, -, -⟩ := conf_any s1 s2 ia ib hi k1 k2 k3
      rw [← hL, gL] at q1
      cases q1
      exact ⟨Option.some.inj e1, Option.some.inj e2, q2⟩
    have cm := chooseV_len (g := gMerge) r1 r2
    have co := chooseV_len (g := gMerge) r2 r1
    have gx := List.getElem?_eq_getElem ia
    have gy := List.getElem?_eq_getElem ib
    have gw := List.getElem?_eq_getElem hi
    generalize a[i] = X at *
    generalize b[i] = Y at *
    generalize z[i] = W at *
    generalize chooseV gMerge X Y W = M at *
    generalize chooseV gMerge Y X W = O at *
    have gm' : (m.map eSecs)[i]? = some (eSecs M) := by rw [List.getElem?_map, gm]; rfl
    have go' : (o.map eSecs)[i]? = some (eSecs O) := by rw [List.getElem?_map, go]; rfl
    have gL' : (l.map eExts)[i]? = some (eExts L) := by rw [List.getElem?_map, gL]; rfl
    have Bn : ∀ x : Int, (x != x) = false := fun x => by simp
    have Z0 : (((0 : Nat) : Int) > 0) = False := eq_false (by omega)
    simp only [fn7_b2, F1, eSecs, eExts, gm, go, gL, gn, gw, lm, lo, ll, ln, cm, co, Bn, Z0, index_nat hi, List.getElem?_map, Option.map_some, List.length_map, List.length_nil, List.map_nil, slAll, Nat.reduceBEq, Nat.reduceLT, Nat.reduceLeDiff, Nat.zero_le, List.take_zero, List.take_nil, List.take_succ_cons, List.length_cons, List.length_nil, Nat.le_refl, List.isEmpty_nil, val_pvs, frozen_pvs, msnoc_len, msnoc_get, msnoc_set, msnoc_take, Int.le_refl, take_map_all, Nat.le_refl, St.freezeRows, BV.frozen, List.take_length, List.take_append_drop, z_repl_zero, Int.toNat_zero, true_and, and_true, and_self, eq_self, z_take_zero, List.drop_nil, List.take_nil, vAll, List.foldl_nil, List.foldl_cons, resultsOf, resultList, resultOf, zBV, splice, PV.remade, St.freezeAt, St.freezeBox, St.freezeCap, PV.single, plain, act, dstOf, if_true, if_false, reduceCtorEq, St.get, St.put, St.pvOf, St.putRow, St.consume, St.freeze, St.row, St.elems, St.grab, St.takeRow, St.setRow, St.place, St.optPv, St.setCell, St.setCellRow, binPV, intBin, unPV, BV.val, Nat.reduceEqDiff, bound, consumeAll, buildParts, capsOf, capOf, List.append_nil, Nat.reduceAdd, Nat.reduceLT, Nat.reduceLeDiff, beq_self_eq_true, List.length_map, Nat.beq, dcall, dcallP, List.mapM_cons, St.snapFn, St.snap, St.layAll, St.lay, St.freezeArg, St.freezeArg1]
    rw [loop7 (X := X) (Y := Y) (W := W) (M := M) (O := O) (L := L) gx gy gw gm' go' gL' r1 r2 cm co (by omega) (by omega) gL0 hk]
    rotate_left
    · simp only [eSecs, eExts, slAll, Nat.reduceBEq, Nat.reduceLT, Nat.reduceLeDiff, Nat.zero_le, List.take_zero, List.take_nil, List.take_succ_cons, List.length_cons, List.length_nil, Nat.le_refl, List.isEmpty_nil, val_pvs, frozen_pvs, msnoc_len, msnoc_get, msnoc_set, msnoc_take, Int.le_refl, take_map_all, Nat.le_refl, St.freezeRows, BV.frozen, List.take_length, List.take_append_drop, z_repl_zero, Int.toNat_zero, true_and, and_true, and_self, eq_self, z_take_zero, List.drop_nil, List.take_nil, vAll, List.foldl_nil, List.foldl_cons, resultsOf, resultList, resultOf, zBV, splice, PV.remade, St.freezeAt, St.freezeBox, St.freezeCap, PV.single, plain, act, dstOf, if_true, if_false, reduceCtorEq, St.get, St.put, St.pvOf, St.putRow, St.consume, St.freeze, St.row, St.elems, St.grab, St.takeRow, St.setRow, St.place, St.optPv, St.setCell, St.setCellRow, binPV, intBin, unPV, BV.val, Nat.reduceEqDiff, bound, consumeAll, buildParts, capsOf, capOf, List.append_nil, Nat.reduceAdd, Nat.reduceLT, Nat.reduceLeDiff, beq_self_eq_true, List.length_map, Nat.beq, dcall, dcallP, List.mapM_cons, St.snapFn, St.snap, St.layAll, St.lay, St.freezeArg, St.freezeArg1] <;> rfl
    simp only [slAll, Nat.reduceBEq, Nat.reduceLT, Nat.reduceLeDiff, Nat.zero_le, List.take_zero, List.take_nil, List.take_succ_cons, List.length_cons, List.length_nil, Nat.le_refl, List.isEmpty_nil, val_pvs, frozen_pvs, msnoc_len, msnoc_get, msnoc_set, msnoc_take, Int.le_refl, take_map_all, Nat.le_refl, St.freezeRows, BV.frozen, List.take_length, List.take_append_drop, z_repl_zero, Int.toNat_zero, true_and, and_true, and_self, eq_self, z_take_zero, List.drop_nil, List.take_nil, vAll, List.foldl_nil, List.foldl_cons, resultsOf, resultList, resultOf, zBV, splice, PV.remade, St.freezeAt, St.freezeBox, St.freezeCap, PV.single, plain, act, dstOf, if_true, if_false, reduceCtorEq, St.get, St.put, St.pvOf, St.putRow, St.consume, St.freeze, St.row, St.elems, St.grab, St.takeRow, St.setRow, St.place, St.optPv, St.setCell, St.setCellRow, binPV, intBin, unPV, BV.val, Nat.reduceEqDiff, bound, consumeAll, buildParts, capsOf, capOf, List.append_nil, Nat.reduceAdd, Nat.reduceLT, Nat.reduceLeDiff, beq_self_eq_true, List.length_map, Nat.beq, dcall, dcallP, List.mapM_cons, St.snapFn, St.snap, St.layAll, St.lay, St.freezeArg, St.freezeArg1]
    rw [ih _ (by simp only [hi1, eSecs, eExts, slAll, Nat.reduceBEq, Nat.reduceLT, Nat.reduceLeDiff, Nat.zero_le, List.take_zero, List.take_nil, List.take_succ_cons, List.length_cons, List.length_nil, Nat.le_refl, List.isEmpty_nil, val_pvs, frozen_pvs, msnoc_len, msnoc_get, msnoc_set, msnoc_take, Int.le_refl, take_map_all, Nat.le_refl, St.freezeRows, BV.frozen, List.take_length, List.take_append_drop, z_repl_zero, Int.toNat_zero, true_and, and_true, and_self, eq_self, z_take_zero, List.drop_nil, List.take_nil, vAll, List.foldl_nil, List.foldl_cons, resultsOf, resultList, resultOf, zBV, splice, PV.remade, St.freezeAt, St.freezeBox, St.freezeCap, PV.single, plain, act, dstOf, if_true, if_false, reduceCtorEq, St.get, St.put, St.pvOf, St.putRow, St.consume, St.freeze, St.row, St.elems, St.grab, St.takeRow, St.setRow, St.place, St.optPv, St.setCell, St.setCellRow, binPV, intBin, unPV, BV.val, Nat.reduceEqDiff, bound, consumeAll, buildParts, capsOf, capOf, List.append_nil, Nat.reduceAdd, Nat.reduceLT, Nat.reduceLeDiff, beq_self_eq_true, List.length_map, Nat.beq, dcall, dcallP, List.mapM_cons, St.snapFn, St.snap, St.layAll, St.lay, St.freezeArg, St.freezeArg1] <;> rfl)]
  · intro rb

    simp only [fn7_b2, Int.lt_irrefl, slAll, Nat.reduceBEq, Nat.reduceLT, Nat.reduceLeDiff, Nat.zero_le, List.take_zero, List.take_nil, List.take_succ_cons, List.length_cons, List.length_nil, Nat.le_refl, List.isEmpty_nil, val_pvs, frozen_pvs, msnoc_len, msnoc_get, msnoc_set, msnoc_take, Int.le_refl, take_map_all, Nat.le_refl, St.freezeRows, BV.frozen, List.take_length, List.take_append_drop, z_repl_zero, Int.toNat_zero, true_and, and_true, and_self, eq_self, z_take_zero, List.drop_nil, List.take_nil, vAll, List.foldl_nil, List.foldl_cons, resultsOf, resultList, resultOf, zBV, splice, PV.remade, St.freezeAt, St.freezeBox, St.freezeCap, PV.single, plain, act, dstOf, if_true, if_false, reduceCtorEq, St.get, St.put, St.pvOf, St.putRow, St.consume, St.freeze, St.row, St.elems, St.grab, St.takeRow, St.setRow, St.place, St.optPv, St.setCell, St.setCellRow, binPV, intBin, unPV, BV.val, Nat.reduceEqDiff, bound, consumeAll, buildParts, capsOf, capOf, List.append_nil, Nat.reduceAdd, Nat.reduceLT, Nat.reduceLeDiff, beq_self_eq_true, List.length_map, Nat.beq, dcall, dcallP, List.mapM_cons, St.snapFn, St.snap, St.layAll, St.lay, St.freezeArg, St.freezeArg1]

set_option maxRecDepth 20000 in
set_option maxHeartbeats 4000000 in
theorem cal7 {z : Img} {p q : List Wrt} (hp : okW p) (hq : okW q) : cal env 7 [.list 1 (z.map eSecs), .agg [.list 3 (p.map eWr), .list 3 (q.map eWr)]] = some [(.bool true, false)] := by
  have hlim : lim = 1073741824 := rfl
  have e0 := calAwake
  have e1 := cal21 (im := z)
  have e2 := cal32 (l := p)
  have e3 := cal32 (l := q)
  cases c1 : few7 z with
  | false =>
    rw [c1] at e1
    rw [cal_code env7 rfl]; simp only [fn7, slAll, Nat.reduceBEq, Nat.reduceLeDiff, Nat.reduceAdd, List.length_cons, List.length_nil]
    simp only [e0, e1, slAll, Nat.reduceBEq, Nat.reduceLT, Nat.reduceLeDiff, Nat.zero_le, List.take_zero, List.take_nil, List.take_succ_cons, List.length_cons, List.length_nil, Nat.le_refl, List.isEmpty_nil, val_pvs, frozen_pvs, msnoc_len, msnoc_get, msnoc_set, msnoc_take, Int.le_refl, take_map_all, Nat.le_refl, St.freezeRows, BV.frozen, List.take_length, List.take_append_drop, z_repl_zero, Int.toNat_zero, true_and, and_true, and_self, eq_self, z_take_zero, List.drop_nil, List.take_nil, vAll, List.foldl_nil, List.foldl_cons, resultsOf, resultList, resultOf, zBV, splice, PV.remade, St.freezeAt, St.freezeBox, St.freezeCap, PV.single, plain, act, dstOf, if_true, if_false, reduceCtorEq, St.get, St.put, St.pvOf, St.putRow, St.consume, St.freeze, St.row, St.elems, St.grab, St.takeRow, St.setRow, St.place, St.optPv, St.setCell, St.setCellRow, binPV, intBin, unPV, BV.val, Nat.reduceEqDiff, bound, consumeAll, buildParts, capsOf, capOf, List.append_nil, Nat.reduceAdd, Nat.reduceLT, Nat.reduceLeDiff, beq_self_eq_true, List.length_map, Nat.beq, dcall, dcallP, List.mapM_cons, St.snapFn, St.snap, St.layAll, St.lay, St.freezeArg, St.freezeArg1]
  | true =>
  rw [c1] at e1
  cases c2 : few22 p with
  | false =>
    rw [c2] at e2
    rw [cal_code env7 rfl]; simp only [fn7, slAll, Nat.reduceBEq, Nat.reduceLeDiff, Nat.reduceAdd, List.length_cons, List.length_nil]
    simp only [e0, e1, e2, slAll, Nat.reduceBEq, Nat.reduceLT, Nat.reduceLeDiff, Nat.zero_le, List.take_zero, List.take_nil, List.take_succ_cons, List.length_cons, List.length_nil, Nat.le_refl, List.isEmpty_nil, val_pvs, frozen_pvs, msnoc_len, msnoc_get, msnoc_set, msnoc_take, Int.le_refl, take_map_all, Nat.le_refl, St.freezeRows, BV.frozen, List.take_length, List.take_append_drop, z_repl_zero, Int.toNat_zero, true_and, and_true, and_self, eq_self, z_take_zero, List.drop_nil, List.take_nil, vAll, List.foldl_nil, List.foldl_cons, resultsOf, resultList, resultOf, zBV, splice, PV.remade, St.freezeAt, St.freezeBox, St.freezeCap, PV.single, plain, act, dstOf, if_true, if_false, reduceCtorEq, St.get, St.put, St.pvOf, St.putRow, St.consume, St.freeze, St.row, St.elems, St.grab, St.takeRow, St.setRow, St.place, St.optPv, St.setCell, St.setCellRow, binPV, intBin, unPV, BV.val, Nat.reduceEqDiff, bound, consumeAll, buildParts, capsOf, capOf, List.append_nil, Nat.reduceAdd, Nat.reduceLT, Nat.reduceLeDiff, beq_self_eq_true, List.length_map, Nat.beq, dcall, dcallP, List.mapM_cons, St.snapFn, St.snap, St.layAll, St.lay, St.freezeArg, St.freezeArg1]
  | true =>
  rw [c2] at e2
  cases c3 : few22 q with
  | false =>
    rw [c3] at e3
    rw [cal_code env7 rfl]; simp only [fn7, slAll, Nat.reduceBEq, Nat.reduceLeDiff, Nat.reduceAdd, List.length_cons, List.length_nil]
    simp only [e0, e1, e2, e3, slAll, Nat.reduceBEq, Nat.reduceLT, Nat.reduceLeDiff, Nat.zero_le, List.take_zero, List.take_nil, List.take_succ_cons, List.length_cons, List.length_nil, Nat.le_refl, List.isEmpty_nil, val_pvs, frozen_pvs, msnoc_len, msnoc_get, msnoc_set, msnoc_take, Int.le_refl, take_map_all, Nat.le_refl, St.freezeRows, BV.frozen, List.take_length, List.take_append_drop, z_repl_zero, Int.toNat_zero, true_and, and_true, and_self, eq_self, z_take_zero, List.drop_nil, List.take_nil, vAll, List.foldl_nil, List.foldl_cons, resultsOf, resultList, resultOf, zBV, splice, PV.remade, St.freezeAt, St.freezeBox, St.freezeCap, PV.single, plain, act, dstOf, if_true, if_false, reduceCtorEq, St.get, St.put, St.pvOf, St.putRow, St.consume, St.freeze, St.row, St.elems, St.grab, St.takeRow, St.setRow, St.place, St.optPv, St.setCell, St.setCellRow, binPV, intBin, unPV, BV.val, Nat.reduceEqDiff, bound, consumeAll, buildParts, capsOf, capOf, List.append_nil, Nat.reduceAdd, Nat.reduceLT, Nat.reduceLeDiff, beq_self_eq_true, List.length_map, Nat.beq, dcall, dcallP, List.mapM_cons, St.snapFn, St.snap, St.layAll, St.lay, St.freezeArg, St.freezeArg1]
  | true =>
  rw [c3] at e3
  have hz := few7_mil c1
  have a1 := cal33 (im := z) hp hz.1 hz.2
  have a2 := cal33 (im := z) hq hz.1 hz.2
  by_cases d1 : apE z p = 0
  rotate_left
  · have G1 : (apE z p != 0) = true := by simpa using d1
    rw [cal_code env7 rfl]; simp only [fn7, slAll, Nat.reduceBEq, Nat.reduceLeDiff, Nat.reduceAdd, List.length_cons, List.length_nil]
    simp only [e0, e1, e2, e3, a1, a2, G1, slAll, Nat.reduceBEq, Nat.reduceLT, Nat.reduceLeDiff, Nat.zero_le, List.take_zero, List.take_nil, List.take_succ_cons, List.length_cons, List.length_nil, Nat.le_refl, List.isEmpty_nil, val_pvs, frozen_pvs, msnoc_len, msnoc_get, msnoc_set, msnoc_take, Int.le_refl, take_map_all, Nat.le_refl, St.freezeRows, BV.frozen, List.take_length, List.take_append_drop, z_repl_zero, Int.toNat_zero, true_and, and_true, and_self, eq_self, z_take_zero, List.drop_nil, List.take_nil, vAll, List.foldl_nil, List.foldl_cons, resultsOf, resultList, resultOf, zBV, splice, PV.remade, St.freezeAt, St.freezeBox, St.freezeCap, PV.single, plain, act, dstOf, if_true, if_false, reduceCtorEq, St.get, St.put, St.pvOf, St.putRow, St.consume, St.freeze, St.row, St.elems, St.grab, St.takeRow, St.setRow, St.place, St.optPv, St.setCell, St.setCellRow, binPV, intBin, unPV, BV.val, Nat.reduceEqDiff, bound, consumeAll, buildParts, capsOf, capOf, List.append_nil, Nat.reduceAdd, Nat.reduceLT, Nat.reduceLeDiff, beq_self_eq_true, List.length_map, Nat.beq, dcall, dcallP, List.mapM_cons, St.snapFn, St.snap, St.layAll, St.lay, St.freezeArg, St.freezeArg1]
  by_cases d2 : apE z q = 0
  rotate_left
  · have G1 : (apE z p != 0) = false := by simpa using d1
    have G2 : (apE z q != 0) = true := by simpa using d2
    rw [cal_code env7 rfl]; simp only [fn7, slAll, Nat.reduceBEq, Nat.reduceLeDiff, Nat.reduceAdd, List.length_cons, List.length_nil]
    simp only [e0, e1, e2, e3, a1, a2, G1, G2, slAll, Nat.reduceBEq, Nat.reduceLT, Nat.reduceLeDiff, Nat.zero_le, List.take_zero, List.take_nil, List.take_succ_cons, List.length_cons, List.length_nil, Nat.le_refl, List.isEmpty_nil, val_pvs, frozen_pvs, msnoc_len, msnoc_get, msnoc_set, msnoc_take, Int.le_refl, take_map_all, Nat.le_refl, St.freezeRows, BV.frozen, List.take_length, List.take_append_drop, z_repl_zero, Int.toNat_zero, true_and, and_true, and_self, eq_self, z_take_zero, List.drop_nil, List.take_nil, vAll, List.foldl_nil, List.foldl_cons, resultsOf, resultList, resultOf, zBV, splice, PV.remade, St.freezeAt, St.freezeBox, St.freezeCap, PV.single, plain, act, dstOf, if_true, if_false, reduceCtorEq, St.get, St.put, St.pvOf, St.putRow, St.consume, St.freeze, St.row, St.elems, St.grab, St.takeRow, St.setRow, St.place, St.optPv, St.setCell, St.setCellRow, binPV, intBin, unPV, BV.val, Nat.reduceEqDiff, bound, consumeAll, buildParts, capsOf, capOf, List.append_nil, Nat.reduceAdd, Nat.reduceLT, Nat.reduceLeDiff, beq_self_eq_true, List.length_map, Nat.beq, dcall, dcallP, List.mapM_cons, St.snapFn, St.snap, St.layAll, St.lay, St.freezeArg, St.freezeArg1]
  have sa : imSizes (apO z p) = imSizes z := apO_sizes d1
  have sb : imSizes (apO z q) = imSizes z := apO_sizes d2
  have hc : imCheck z = 0 := apE_szs d1
  rw [d1] at a1
  rw [d2] at a2
  have G0 : ((0 : Int) != 0) = false := rfl
  have h9 : z.length ≤ 9 ∧ ∀ v ∈ z, v.length ≤ 24 := by
    unfold few7 at c1
    simp only [Bool.and_eq_true, decide_eq_true_eq, List.all_eq_true] at c1
    exact ⟨c1.1, fun v hv => by simpa using c1.2 v hv⟩
  have la := (sizes_inj sa).1
  have lb := (sizes_inj sb).1
  have hr : ∀ v ∈ z, v.length ≤ lim := fun v hv => by have := h9.2 v hv; omega
  have hra := sizes_le sa hr
  generalize apO z p = a at *
  generalize apO z q = b at *
  have M1 := cal24 (a := a) (b := b) (z := z) (by omega) (by omega) (by omega) hr
  have M2 := cal24 (a := b) (b := a) (z := z) (by omega) (by omega) (by omega) hr
  have M3 := cal24 (a := a) (b := z) (z := z) (by omega) (by omega) (by omega) hr
  have M4 := cal24 (a := z) (b := a) (z := z) (by omega) (by omega) (by omega) hr
  unfold mergeOut confOut at M1 M2 M3 M4
  rw [imgs_zero sa sb hc] at M1
  rw [imgs_zero sb sa hc, marks_comm sa sb, zeros_at sb sa sa sb] at M2
  rw [imgs_zero sa rfl hc, marks_left sa, merge_left sa, differ_self] at M3
  rw [imgs_zero rfl sa hc, marks_right sa, merge_right sa, differ_self] at M4
  have n3 : (zerosI a z z).map (fun _ => ([] : List Exn)) = z.map fun _ => [] := by
    rw [List.map_const', List.map_const', show (zerosI a z z).length = z.length from chooseX_len la rfl]
  have n4 : (zerosI z a z).map (fun _ => ([] : List Exn)) = z.map fun _ => [] := by
    rw [List.map_const', List.map_const', show (zerosI z a z).length = z.length from chooseX_len rfl la]
  rw [n3] at M3
  rw [n4] at M4
  simp only [if_true] at M1 M2 M3 M4
  have S1 := cal34 (a := a) (b := a) (by omega) hra
  have hms : imSizes (marksI a b z) = imSizes (zerosI a b z) := (chooseX_sizes sa sb).trans (chooseX_sizes sa sb).symm
  have hdl : (differ (marksI a b z) (zerosI a b z)).length = z.length := by rw [differ_length hms]; exact chooseX_len la lb
  have hdr : ∀ x ∈ differ (marksI a b z) (zerosI a b z), x.length ≤ lim := by
    intro x hx
    obtain ⟨i, hi, rfl⟩ := List.mem_iff_getElem.1 hx
    obtain ⟨L, q1, -, q3⟩ := conf_row sa sb (i := i) (by omega)
    rw [List.getElem?_eq_getElem hi] at q1
    rw [Option.some.inj q1]
    have := h9.2 _ (List.getElem_mem (show i < z.length by omega))
    omega
  have S2 := cal26 (a := differ (marksI a b z) (zerosI a b z)) (b := differ (marksI a b z) (zerosI a b z)) (by omega) hdr
  have hloop := fun st => loop7l3 (st := st) (bx := ⟨false, [.pv (.list 3 (p.map eWr)), .pv (.list 3 (q.map eWr))]⟩) sa sb h9.1 h9.2 (rfl : chooseX gMerge a b z = _) rfl (rfl : differ (marksI a b z) (zerosI a b z) = _) rfl
  have lm : (chooseX gMerge a b z).length = z.length := chooseX_len la lb
  have lo : (chooseX gMerge b a z).length = z.length := chooseX_len lb la
  simp only [decide_true] at S1 S2
  generalize chooseX gMerge a b z = m at *
  generalize chooseX gMerge b a z = o at *
  generalize differ (marksI a b z) (zerosI a b z) = l at *
  have ln : (z.map (fun _ => ([] : List Exn))).length = z.length := by rw [List.length_map]
  generalize z.map (fun _ => ([] : List Exn)) = ne at *
  have Bn : ∀ x : Int, (x != x) = false := fun x => by simp
  have T1 : (l.map eExts).take z.length = l.map eExts := by rw [← hdl]; exact take_map_all _ _
  have T2 : (a.map eSecs).take z.length = a.map eSecs := by rw [← la]; exact take_map_all _ _
  rw [cal_code env7 rfl]; simp only [fn7, slAll, Nat.reduceBEq, Nat.reduceLeDiff, Nat.reduceAdd, List.length_cons, List.length_nil]
  simp only [e0, e1, e2, e3, a1, a2, T1, T2, G0, M1, M2, M3, M4, S1, S2, lm, lo, hdl, ln, la, lb, Bn, List.length_map, slAll, Nat.reduceBEq, Nat.reduceLT, Nat.reduceLeDiff, Nat.zero_le, List.take_zero, List.take_nil, List.take_succ_cons, List.length_cons, List.length_nil, Nat.le_refl, List.isEmpty_nil, val_pvs, frozen_pvs, msnoc_len, msnoc_get, msnoc_set, msnoc_take, Int.le_refl, take_map_all, Nat.le_refl, St.freezeRows, BV.frozen, List.take_length, List.take_append_drop, z_repl_zero, Int.toNat_zero, true_and, and_true, and_self, eq_self, z_take_zero, List.drop_nil, List.take_nil, vAll, List.foldl_nil, List.foldl_cons, resultsOf, resultList, resultOf, zBV, splice, PV.remade, St.freezeAt, St.freezeBox, St.freezeCap, PV.single, plain, act, dstOf, if_true, if_false, reduceCtorEq, St.get, St.put, St.pvOf, St.putRow, St.consume, St.freeze, St.row, St.elems, St.grab, St.takeRow, St.setRow, St.place, St.optPv, St.setCell, St.setCellRow, binPV, intBin, unPV, BV.val, Nat.reduceEqDiff, bound, consumeAll, buildParts, capsOf, capOf, List.append_nil, Nat.reduceAdd, Nat.reduceLT, Nat.reduceLeDiff, beq_self_eq_true, List.length_map, Nat.beq, dcall, dcallP, List.mapM_cons, St.snapFn, St.snap, St.layAll, St.lay, St.freezeArg, St.freezeArg1]
  rw [hloop _ (by simp only [slAll, Nat.reduceBEq, Nat.reduceLT, Nat.reduceLeDiff, Nat.zero_le, List.take_zero, List.take_nil, List.take_succ_cons, List.length_cons, List.length_nil, Nat.le_refl, Nat.reduceAdd, decide_true, Bool.and_self, Bool.true_and] <;> rfl)]
  simp only [e0, e1, e2, e3, a1, a2, T1, T2, G0, M1, M2, M3, M4, S1, S2, lm, lo, hdl, ln, la, lb, Bn, List.length_map, slAll, Nat.reduceBEq, Nat.reduceLT, Nat.reduceLeDiff, Nat.zero_le, List.take_zero, List.take_nil, List.take_succ_cons, List.length_cons, List.length_nil, Nat.le_refl, List.isEmpty_nil, val_pvs, frozen_pvs, msnoc_len, msnoc_get, msnoc_set, msnoc_take, Int.le_refl, take_map_all, Nat.le_refl, St.freezeRows, BV.frozen, List.take_length, List.take_append_drop, z_repl_zero, Int.toNat_zero, true_and, and_true, and_self, eq_self, z_take_zero, List.drop_nil, List.take_nil, vAll, List.foldl_nil, List.foldl_cons, resultsOf, resultList, resultOf, zBV, splice, PV.remade, St.freezeAt, St.freezeBox, St.freezeCap, PV.single, plain, act, dstOf, if_true, if_false, reduceCtorEq, St.get, St.put, St.pvOf, St.putRow, St.consume, St.freeze, St.row, St.elems, St.grab, St.takeRow, St.setRow, St.place, St.optPv, St.setCell, St.setCellRow, binPV, intBin, unPV, BV.val, Nat.reduceEqDiff, bound, consumeAll, buildParts, capsOf, capOf, List.append_nil, Nat.reduceAdd, Nat.reduceLT, Nat.reduceLeDiff, beq_self_eq_true, List.length_map, Nat.beq, dcall, dcallP, List.mapM_cons, St.snapFn, St.snap, St.layAll, St.lay, St.freezeArg, St.freezeArg1]
end Go.Proofs.Ytpdfhckdmblicaa.V

namespace Go.Proofs.Ytpdfhckdmblicaa.V
open Go.RowKit Go.ChangeShapes Go.WideShapes Go.ChangeAt
set_option linter.all false

theorem Try.ownKnobV : ownKnob Try.prog.godebug = none := by kernel_rfl
theorem Try.laidOutV : laidOutB Try.prog = true := by kernel_rfl
def okI (n : Int) : Prop := -9223372036854775808 ≤ n ∧ n ≤ 9223372036854775807
theorem sint_i64 {q : PV} (h : SInt .i64 [q]) : ∃ n, okI n ∧ q = eI n := by
  obtain ⟨n, h1, h2⟩ := h
  have h3 : IntKind.i64.min = -9223372036854775808 := rfl
  have h4 : IntKind.i64.max = 9223372036854775807 := rfl
  simp only [Lit.wf, Bool.and_eq_true, decide_eq_true_eq] at h1
  cases h2
  exact ⟨n, ⟨by omega, by omega⟩, rfl⟩
theorem sint_u8 {q : PV} (h : SInt .u8 [q]) : ∃ b : UInt8, q = .int .u8 (b.toNat : Int) := by
  obtain ⟨n, h1, h2⟩ := h
  have h3 : IntKind.u8.min = 0 := rfl
  have h4 : IntKind.u8.max = 255 := rfl
  simp only [Lit.wf, Bool.and_eq_true, decide_eq_true_eq] at h1
  cases h2
  refine ⟨UInt8.ofNat n.toNat, ?_⟩
  rw [UInt8.toNat_ofNat_of_lt' (show n.toNat < 2 ^ 8 by omega)]
  congr 1; omega
theorem sbool {q : PV} (h : SBool [q]) : ∃ b, q = eB b := by
  obtain ⟨b, h2⟩ := h
  cases h2
  exact ⟨b, rfl⟩
def SSec : List PV → Prop := SArr 8 (SInt .u8)
theorem ssec {ps : List PV} (h : SSec ps) : ∃ s : Sec, ps = secPV s := by
  obtain ⟨h1, h2⟩ := h
  have : ∀ l : List PV, (∀ p ∈ l, SInt .u8 [p]) → ∃ m : List UInt8, m.length = l.length ∧ l = m.map fun b => .int .u8 (b.toNat : Int) := by
    intro l
    induction l with
    | nil => exact fun _ => ⟨[], rfl, rfl⟩
    | cons p l ih =>
      intro h
      obtain ⟨b, hb⟩ := sint_u8 (h p (by simp))
      obtain ⟨m, e1, e2⟩ := ih fun q hq => h q (by simp [hq])
      exact ⟨b :: m, by simp [e1], by rw [hb, e2]; rfl⟩
  obtain ⟨m, e1, e2⟩ := this ps h2
  refine ⟨⟨m.toArray, by simp [e1, h1]⟩, ?_⟩
  subst e2
  simp [secPV, Vector.toList]
theorem slist {α : Type} {n : Nat} {S : List PV → Prop} {wr : List PV → PV} {enc : α → PV} {ok : α → Prop} (hS : ∀ ps, S ps → ∃ a, ok a ∧ wr ps = enc a) {q : PV} (h : SList n S wr [q]) : ∃ l : List α, (∀ a ∈ l, ok a) ∧ q = .list n (l.map enc) := by
  obtain ⟨es, h1, h2⟩ := h
  cases h1
  have : ∀ es : List PV, (∀ x ∈ es, ∃ q, S q ∧ x = wr q) → ∃ l : List α, (∀ a ∈ l, ok a) ∧ es = l.map enc := by
    intro es
    induction es with
    | nil => exact fun _ => ⟨[], by simp, rfl⟩
    | cons e es ih =>
      intro h
      obtain ⟨q, h3, h4⟩ := h e (by simp)
      obtain ⟨a, h5, h6⟩ := hS q h3
      obtain ⟨l, h7, h8⟩ := ih fun x hx => h x (by simp [hx])
      exact ⟨a :: l, by simp; exact ⟨h5, h7⟩, by rw [h4, h6, h8]; rfl⟩
  obtain ⟨l, h3, h4⟩ := this es h2
  exact ⟨l, h3, by rw [h4]⟩
theorem wr_int {k : IntKind} {ps : List PV} (h : SInt k ps) : (wrS ps).cells = ps := by
  obtain ⟨n, _, rfl⟩ := h; rfl
theorem wr_list {n : Nat} {S : List PV → Prop} {wr : List PV → PV} {ps : List PV} (h : SList n S wr ps) : (wrS ps).cells = ps := by
  obtain ⟨es, rfl, _⟩ := h; rfl
theorem wr_bool {ps : List PV} (h : SBool ps) : (wrS ps).cells = ps := by
  obtain ⟨b, rfl⟩ := h; rfl
theorem one_of {S : List PV → Prop} {ps : List PV} (h1 : S ps) (h : ∀ ps, S ps → ∃ q, ps = [q]) : ∃ q, ps = [q] ∧ S [q] := by
  obtain ⟨q, rfl⟩ := h ps h1
  exact ⟨q, rfl, h1⟩

def okExt (x : Exn) : Prop := okI x.start ∧ okI x.count
def SExt : List PV → Prop := SCat [SInt .i64, SInt .i64]
theorem sext {ps : List PV} (h : SExt ps) : ∃ x : Exn, okExt x ∧ PV.agg ps = eExt x := by
  obtain ⟨p, q, rfl, ⟨n, h1, rfl⟩, p2, q2, rfl, ⟨m, h2, rfl⟩, rfl⟩ := h
  obtain ⟨a, o1, e1⟩ := sint_i64 ⟨n, h1, rfl⟩
  obtain ⟨b, o2, e2⟩ := sint_i64 ⟨m, h2, rfl⟩
  refine ⟨⟨a, b⟩, ⟨o1, o2⟩, ?_⟩
  rw [e1, e2]; rfl
def SSecs : List PV → Prop := SList 8 SSec .agg
theorem ssecs {q : PV} (h : SSecs [q]) : ∃ l : List Sec, q = eSecs l := by
  obtain ⟨l, _, e⟩ := slist (enc := eSec) (ok := fun _ => True) (fun ps h => by obtain ⟨s, rfl⟩ := ssec h; exact ⟨s, trivial, rfl⟩) h
  exact ⟨l, e⟩
def SImg : List PV → Prop := SList 1 SSecs wrS
theorem simg {q : PV} (h : SImg [q]) : ∃ l : Img, q = .list 1 (l.map eSecs) := by
  obtain ⟨l, _, e⟩ := slist (enc := eSecs) (ok := fun _ => True) (fun ps h => by
    obtain ⟨es, rfl, h2⟩ := h
    obtain ⟨l, e⟩ := ssecs (q := .list 8 es) ⟨es, rfl, h2⟩
    exact ⟨l, trivial, e⟩) h
  exact ⟨l, e⟩
theorem Try.rdInt : RdsC Try.prog 3 1 (SInt .i64) := RdsC.int Try.underlying3 (by kernel_rfl)
theorem Try.rdU8 : RdsC Try.prog 5 1 (SInt .u8) := RdsC.int Try.underlying5 (by kernel_rfl)
theorem Try.rdSec : RdsC Try.prog 79 8 SSec := RdsC.arr Try.underlying79 Try.rdU8 (by kernel_rfl)
theorem Try.rdSecs : RdsC Try.prog 73 1 SSecs := RdsC.list Try.underlying73 (by kernel_rfl) Try.rdSec (by decide) (fun _ _ _ => rfl)
theorem Try.rdImg : RdsC Try.prog 48 1 SImg := RdsC.list Try.underlying48 (by kernel_rfl) Try.rdSecs (by decide) (fun _ h _ => wr_list h)
theorem Try.rdExt : RdsC Try.prog 76 2 SExt := RdsC.struct2 Try.underlying76 Try.rdInt Try.rdInt rfl rfl (by kernel_rfl)
end Go.Proofs.Ytpdfhckdmblicaa.V

namespace Go.Proofs.Ytpdfhckdmblicaa.V
open Go.RowKit Go.ChangeShapes Go.WideShapes Go.ChangeAt
set_option linter.all false
theorem su8 {q : PV} (h : SInt .u8 [q]) : ∃ c : Nat, c < 256 ∧ q = .int .u8 (c : Int) := by
  obtain ⟨b, e⟩ := sint_u8 h
  exact ⟨b.toNat, b.toNat_lt, e⟩
theorem i64b_ok {n : Int} (h : okI n) : i64b n = true := by
  unfold okI at h
  simp only [i64b, Bool.and_eq_true, decide_eq_true_eq]; exact h
def SWr : List PV → Prop := SCat [SInt .i64, SInt .i64, SSecs]
theorem swr {ps : List PV} (h : SWr ps) : ∃ x : Wrt, (i64b x.volume = true ∧ i64b x.start = true) ∧ PV.agg ps = eWr x := by
  obtain ⟨p, q, rfl, ⟨n, h1, rfl⟩, p2, q2, rfl, ⟨m, h2, rfl⟩, p3, q3, rfl, h3, rfl⟩ := h
  obtain ⟨a, o1, e1⟩ := sint_i64 ⟨n, h1, rfl⟩
  obtain ⟨b, o2, e2⟩ := sint_i64 ⟨m, h2, rfl⟩
  obtain ⟨es, rfl, h4⟩ := h3
  obtain ⟨l, e3⟩ := ssecs (q := .list 8 es) ⟨es, rfl, h4⟩
  refine ⟨⟨a, b, l⟩, ⟨i64b_ok o1, i64b_ok o2⟩, ?_⟩
  rw [e1, e2, e3]; rfl
def SWrs : List PV → Prop := SList 3 SWr .agg
theorem swrs {q : PV} (h : SWrs [q]) : ∃ l : List Wrt, okW l ∧ q = .list 3 (l.map eWr) :=
  slist (enc := eWr) (ok := fun x => i64b x.volume = true ∧ i64b x.start = true) (fun ps h => swr h) h
theorem Try.rdWr : RdsC Try.prog 119 3 SWr := RdsC.struct3 Try.underlying119 Try.rdInt Try.rdInt Try.rdSecs rfl rfl rfl (by kernel_rfl)
theorem Try.rdWrs : RdsC Try.prog 66 1 SWrs := RdsC.list Try.underlying66 (by kernel_rfl) Try.rdWr (by decide) (fun _ _ _ => rfl)
end Go.Proofs.Ytpdfhckdmblicaa.V

namespace Go.Proofs.Ytpdfhckdmblicaa.V
open Go.RowKit Go.ChangeShapes Go.WideShapes Go.ChangeAt
set_option linter.all false
def SChg : List PV → Prop := SCat [SWrs, SWrs]
theorem schg {ps : List PV} (h : SChg ps) : ∃ x : List Wrt × List Wrt, (okW x.1 ∧ okW x.2) ∧ PV.agg ps = .agg [.list 3 (x.1.map eWr), .list 3 (x.2.map eWr)] := by
  obtain ⟨p, q, rfl, h1, p2, q2, rfl, h2, rfl⟩ := h
  obtain ⟨es, rfl, k1⟩ := h1
  obtain ⟨es2, rfl, k2⟩ := h2
  obtain ⟨a, o1, e1⟩ := swrs (q := .list 3 es) ⟨es, rfl, k1⟩
  obtain ⟨b, o2, e2⟩ := swrs (q := .list 3 es2) ⟨es2, rfl, k2⟩
  refine ⟨⟨a, b⟩, ⟨o1, o2⟩, ?_⟩
  rw [e1, e2]; rfl
theorem Try.rdChg : RdsC Try.prog 68 2 SChg := RdsC.struct2 Try.underlying68 Try.rdWrs Try.rdWrs rfl rfl (by kernel_rfl)
theorem calComb {z : Img} {x : List Wrt × List Wrt} (h : okW x.1 ∧ okW x.2) : cal env 7 [.list 1 (z.map eSecs), .agg [.list 3 (x.1.map eWr), .list 3 (x.2.map eWr)]] = some [(.bool true, false)] := cal7 h.1 h.2
end Go.Proofs.Ytpdfhckdmblicaa.V
