/-
  Part 15 of the texts that the statement stands on.
-/
import Derived.Test.YtncobemfpammfaaZ14
import Derived.Test.YtncobemfpammfaaRows
import Derived.Test.YtncobemfpammfaaChecked
set_option linter.all false
namespace Go.Proofs.Ytncobemfpammfaa.V
theorem need_pair0 {a b : Img} {l : List (List Exn)} (h : needE a b l = 0) : pairErr a b = 0 ∧ fitE a l = 0 := by
  unfold needE at h
  split at h
  · omega
  · rename_i c; exact ⟨by omega, h⟩
theorem need_mem {a b : Img} {l : List (List Exn)} {x : List Exn} (hx : x ∈ needL a b l) : okEs x ∧ x.length ≤ 4096 := by
  unfold needL eachX at hx
  obtain ⟨i, hi, rfl⟩ := List.mem_mapIdx.1 hx
  rw [setOf_eq]
  exact ⟨okEs_ext _ (Nat.le_refl _), ext_len _ _⟩
theorem sz_small {p a : Img} {k : Nat} (h : szsOf p = szsOf a) (h1 : a.length ≤ k) (h2 : ∀ v ∈ a, v.length ≤ k) : p.length ≤ k ∧ ∀ v ∈ p, v.length ≤ k := by
  obtain ⟨y1, y2⟩ := sizes_inj (a := p) (b := a) h
  refine ⟨by omega, fun v hv => ?_⟩
  obtain ⟨i, hi, rfl⟩ := List.mem_iff_getElem.1 hv
  rw [y2 i hi (by omega)]
  exact h2 _ (List.getElem_mem _)
set_option maxRecDepth 20000 in
theorem cal5 {a b : Img} {l : List (List Exn)} (ho : ∀ x ∈ l, okEs x) : cal env 5 [.list 1 (a.map eSecs), .list 1 (b.map eSecs), .list 1 (l.map eExts)] = some [(.bool true, false)] := by
  have e3 := calAwake
  have e0 := cal6 (im := a)
  have e1 := cal6 (im := b)
  have e2 := cal7 (l := l)
  cases hfa : few7 a with
  | false =>
    rw [hfa] at e0
    rw [cal_code env5 rfl]; simp only [fn5, slAll, Nat.reduceBEq, Nat.reduceLeDiff, Nat.reduceAdd, List.length_cons, List.length_nil]
    simp only [e0, e3, slAll, Nat.reduceMul, Nat.reduceBEq, Nat.reduceLT, Nat.reduceLeDiff, Nat.zero_le, List.take_zero, List.take_nil, List.take_succ_cons, List.length_cons, List.length_nil, Nat.le_refl, List.isEmpty_nil, val_pvs, frozen_pvs, msnoc_len, msnoc_get, msnoc_set, msnoc_take, Int.le_refl, take_map_all, Nat.le_refl, St.freezeRows, BV.frozen, List.take_length, List.take_append_drop, z_repl_zero, Int.toNat_zero, true_and, and_true, and_self, eq_self, z_take_zero, List.drop_nil, List.take_nil, vAll, List.foldl_nil, List.foldl_cons, resultsOf, resultList, resultOf, zBV, splice, PV.remade, St.freezeAt, St.freezeBox, St.freezeCap, PV.single, plain, act, dstOf, if_true, if_false, reduceCtorEq, St.get, St.put, St.pvOf, St.putRow, St.consume, St.freeze, St.row, St.elems, St.grab, St.takeRow, St.setRow, St.place, St.optPv, St.setCell, St.setCellRow, binPV, intBin, unPV, BV.val, Nat.reduceEqDiff, bound, consumeAll, buildParts, capsOf, capOf, List.append_nil, Nat.reduceAdd, Nat.reduceLT, Nat.reduceLeDiff, beq_self_eq_true, List.length_map, Nat.beq, dcall, dcallP, List.mapM_cons, St.snapFn, St.snap, St.layAll, St.lay, St.freezeArg, St.freezeArg1]
  | true =>
    rw [hfa] at e0
    cases hfb : few7 b with
    | false =>
      rw [hfb] at e1
      rw [cal_code env5 rfl]; simp only [fn5, slAll, Nat.reduceBEq, Nat.reduceLeDiff, Nat.reduceAdd, List.length_cons, List.length_nil]
      simp only [e0, e1, e3, slAll, Nat.reduceMul, Nat.reduceBEq, Nat.reduceLT, Nat.reduceLeDiff, Nat.zero_le, List.take_zero, List.take_nil, List.take_succ_cons, List.length_cons, List.length_nil, Nat.le_refl, List.isEmpty_nil, val_pvs, frozen_pvs, msnoc_len, msnoc_get, msnoc_set, msnoc_take, Int.le_refl, take_map_all, Nat.le_refl, St.freezeRows, BV.frozen, List.take_length, List.take_append_drop, z_repl_zero, Int.toNat_zero, true_and, and_true, and_self, eq_self, z_take_zero, List.drop_nil, List.take_nil, vAll, List.foldl_nil, List.foldl_cons, resultsOf, resultList, resultOf, zBV, splice, PV.remade, St.freezeAt, St.freezeBox, St.freezeCap, PV.single, plain, act, dstOf, if_true, if_false, reduceCtorEq, St.get, St.put, St.pvOf, St.putRow, St.consume, St.freeze, St.row, St.elems, St.grab, St.takeRow, St.setRow, St.place, St.optPv, St.setCell, St.setCellRow, binPV, intBin, unPV, BV.val, Nat.reduceEqDiff, bound, consumeAll, buildParts, capsOf, capOf, List.append_nil, Nat.reduceAdd, Nat.reduceLT, Nat.reduceLeDiff, beq_self_eq_true, List.length_map, Nat.beq, dcall, dcallP, List.mapM_cons, St.snapFn, St.snap, St.layAll, St.lay, St.freezeArg, St.freezeArg1]
    | true =>
      rw [hfb] at e1
      cases hfl : fewL l with
      | false =>
        rw [hfl] at e2
        rw [cal_code env5 rfl]; simp only [fn5, slAll, Nat.reduceBEq, Nat.reduceLeDiff, Nat.reduceAdd, List.length_cons, List.length_nil]
        simp only [e0, e1, e2, e3, slAll, Nat.reduceMul, Nat.reduceBEq, Nat.reduceLT, Nat.reduceLeDiff, Nat.zero_le, List.take_zero, List.take_nil, List.take_succ_cons, List.length_cons, List.length_nil, Nat.le_refl, List.isEmpty_nil, val_pvs, frozen_pvs, msnoc_len, msnoc_get, msnoc_set, msnoc_take, Int.le_refl, take_map_all, Nat.le_refl, St.freezeRows, BV.frozen, List.take_length, List.take_append_drop, z_repl_zero, Int.toNat_zero, true_and, and_true, and_self, eq_self, z_take_zero, List.drop_nil, List.take_nil, vAll, List.foldl_nil, List.foldl_cons, resultsOf, resultList, resultOf, zBV, splice, PV.remade, St.freezeAt, St.freezeBox, St.freezeCap, PV.single, plain, act, dstOf, if_true, if_false, reduceCtorEq, St.get, St.put, St.pvOf, St.putRow, St.consume, St.freeze, St.row, St.elems, St.grab, St.takeRow, St.setRow, St.place, St.optPv, St.setCell, St.setCellRow, binPV, intBin, unPV, BV.val, Nat.reduceEqDiff, bound, consumeAll, buildParts, capsOf, capOf, List.append_nil, Nat.reduceAdd, Nat.reduceLT, Nat.reduceLeDiff, beq_self_eq_true, List.length_map, Nat.beq, dcall, dcallP, List.mapM_cons, St.snapFn, St.snap, St.layAll, St.lay, St.freezeArg, St.freezeArg1]
      | true =>
        rw [hfl] at e2
        obtain ⟨a1, a2⟩ := few7_b' hfa
        obtain ⟨b1, b2⟩ := few7_b' hfb
        obtain ⟨l1, l2⟩ := fewL_of hfl
        have hlim : lim = 1073741824 := rfl
        have hra : ∀ v ∈ a, v.length ≤ 4096 := fun v hv => by have := a2 v hv; omega
        have hri : ∀ v ∈ a, v.length ≤ 1000000 := fun v hv => by have := a2 v hv; omega
        have hri' : ∀ v ∈ b, v.length ≤ 1000000 := fun v hv => by have := b2 v hv; omega
        have hrl : ∀ v ∈ a, v.length ≤ lim := fun v hv => by have := a2 v hv; omega
        have hr : ∀ x ∈ l, x.length ≤ 10000 := fun x hx => by have := l2 x hx; omega
        have hW : (wrL a l).length ≤ 1000000 := by
          have := wrN_len (im := a) l2 l.length (Nat.le_refl _)
          have : 40 * l.length ≤ 40 * 20 := Nat.mul_le_mul_left _ l1
          unfold wrL; omega
        have k1 := cal16 (im := a) (l := l) (by omega) hri ho hr (by omega) (fun _ => hW)
        have k2 := cal9 (a := a) (b := b) (l := l) (by omega) (by omega) hra ho hr (by omega)
        have Z : ((0 : Int) != 0) = false := rfl
        by_cases c1 : wrE a l = 0
        · unfold wrO at k1
          rw [if_pos c1, c1] at k1
          by_cases c2 : needE a b l = 0
          · unfold needO at k2
            rw [if_pos c2, c2] at k2
            obtain ⟨d0, d1⟩ := wrE_zero c1
            obtain ⟨d2, _⟩ := need_pair0 c2
            obtain ⟨z, _, d3, hs⟩ := pair_len d2
            obtain ⟨z1, z2⟩ := sizes_inj hs
            have hll := fit_len d1
            have hnl := need_len (l := l) z1
            have hnf := need_fits (l := l) z1 hra
            have hnm : ∀ x ∈ needL a b l, okEs x := fun x hx => (need_mem hx).1
            have hnr : ∀ x ∈ needL a b l, x.length ≤ 4096 := fun x hx => (need_mem hx).2
            have hWn : (wrL a (needL a b l)).length ≤ 1000000 := by
              have := wrN_len (im := a) hnr (needL a b l).length (Nat.le_refl _)
              have h9 : 4096 * (needL a b l).length ≤ 4096 * 9 := Nat.mul_le_mul_left _ (by omega)
              unfold wrL; omega
            have c3 : wrE a (needL a b l) = 0 := by
              unfold wrE
              rw [if_neg (by rw [d0]; simp)]
              exact hnf
            have k3 := cal16 (im := a) (l := needL a b l) (by omega) hri hnm (fun x hx => by have := hnr x hx; omega) (by omega) (fun _ => hWn)
            unfold wrO at k3
            rw [if_pos c3, c3] at k3
            have k4 := cal17 (a := a) (b := b) (l := l) z1 z2 (by omega) (by omega) (fun v hv => by have := a2 v hv; omega) ho hr
            obtain ⟨m1, m2, m3⟩ := ap_wr (x := l) hs d1 d3
            obtain ⟨n1, n2, n3⟩ := ap_wr (x := needL a b l) hs hnf d3
            have k5 := cal18 (im := b) (l := wrL a l) (seq_ok (wrL_seq d1) (by omega) hri) (by omega) hri'
            have k6 := cal18 (im := b) (l := wrL a (needL a b l)) (seq_ok (wrL_seq hnf) (by omega) hri) (by omega) hri'
            rw [m1] at k5
            rw [n1] at k6
            have k7 := cal11 (a := a) (b := b) (l := needL a b l) (by omega) (by omega) hra hnm (fun x hx => by have := hnr x hx; omega) (by omega)
            have c4 : needE a b (needL a b l) = 0 := need_ok d2 hnf
            unfold exactB at k7
            rw [c4, decide_eq_true rfl, Bool.true_and] at k7
            obtain ⟨s1, s2⟩ := sz_small (k := lim) m2 (by omega) hrl
            have k8 := cal19 (a := apO b (wrL a l)) (b := apO b (wrL a (needL a b l))) s1 s2
            have k9 := cal19 (a := apO b (wrL a l)) (b := a) s1 s2
            rw [decide_eq_true (ap_same hs d1 d3 hra)] at k8
            have k10 := cal14 (l := needL a b l) hnm (fun x hx => by have := hnr x hx; omega) (by omega)
            have k11 := cal14 (l := l) ho hr (by omega)
            have k12 := cal20 (l := wrL a (needL a b l)) (fun w hw => by have := wrL_data (k := 24) a2 w hw; omega) hWn
            rw [secs_need z1 hra] at k12
            have G : (costL (needL a b l) ≤ costL l) = True := eq_true (cost_le z1 hll)
            have h1000 : ∀ v ∈ a, v.length ≤ 1000 := fun v hv => by have := a2 v hv; omega
            have t1 := numD_lim (b := b) h1000 a.length (Nat.le_refl _)
            have t2 := numM_lim (b := b) (l := l) h1000 a.length (Nat.le_refl _)
            have W : IntKind.i64.wrap ((numD a b a.length : Int) - (numM a b l a.length : Int)) = costL (needL a b l) := by
              rw [i64_fits (by omega), num_need hra _ (Nat.le_refl _), cost_need z1]
            have Q : ∀ n : Int, (n == n) = true := fun n => by simp
            have nz := num_zero (l := l) hs hra
            have na := ap_all (l := l) hs d1 d3
            have ne := need_exact (l := l) hs hra
            by_cases c : numM a b l a.length = 0
            · have E1 : ((numM a b l a.length : Int) == 0) = true := by rw [c]; rfl
              rw [decide_eq_true (ne.2 (nz.1 c))] at k7
              rw [decide_eq_true (na.2 (nz.1 c))] at k9
              clear nz na ne c m1 m2 m3 n1 n2 n3 s1 s2 t1 t2 c4 c3 hWn hnr hnm hnf hnl hll
              generalize numD a b a.length = nd at *
              generalize numM a b l a.length = nm at *
              generalize apI b (wrL a l) = ai at *
              generalize apI b (wrL a (needL a b l)) = aj at *
              generalize apO b (wrL a l) = x1 at *
              generalize apO b (wrL a (needL a b l)) = x2 at *
              generalize wrL a (needL a b l) = w2 at *
              generalize wrL a l = w1 at *
              generalize needL a b l = nl at *
              generalize costL nl = co at *
              generalize costL l = cl at *
              rw [cal_code env5 rfl]; simp only [fn5, slAll, Nat.reduceBEq, Nat.reduceLeDiff, Nat.reduceAdd, List.length_cons, List.length_nil]
              simp only [e0, e1, e2, e3, k1, k2, k3, k4, k5, k6, k7, k8, k9, k10, k11, k12, G, W, Q, Z, E1, slAll, Nat.reduceMul, Nat.reduceBEq, Nat.reduceLT, Nat.reduceLeDiff, Nat.zero_le, List.take_zero, List.take_nil, List.take_succ_cons, List.length_cons, List.length_nil, Nat.le_refl, List.isEmpty_nil, val_pvs, frozen_pvs, msnoc_len, msnoc_get, msnoc_set, msnoc_take, Int.le_refl, take_map_all, Nat.le_refl, St.freezeRows, BV.frozen, List.take_length, List.take_append_drop, z_repl_zero, Int.toNat_zero, true_and, and_true, and_self, eq_self, z_take_zero, List.drop_nil, List.take_nil, vAll, List.foldl_nil, List.foldl_cons, resultsOf, resultList, resultOf, zBV, splice, PV.remade, St.freezeAt, St.freezeBox, St.freezeCap, PV.single, plain, act, dstOf, if_true, if_false, reduceCtorEq, St.get, St.put, St.pvOf, St.putRow, St.consume, St.freeze, St.row, St.elems, St.grab, St.takeRow, St.setRow, St.place, St.optPv, St.setCell, St.setCellRow, binPV, intBin, unPV, BV.val, Nat.reduceEqDiff, bound, consumeAll, buildParts, capsOf, capOf, List.append_nil, Nat.reduceAdd, Nat.reduceLT, Nat.reduceLeDiff, beq_self_eq_true, List.length_map, Nat.beq, dcall, dcallP, List.mapM_cons, St.snapFn, St.snap, St.layAll, St.lay, St.freezeArg, St.freezeArg1]
            · have E1 : ((numM a b l a.length : Int) == 0) = false := by simp; omega
              rw [decide_eq_false fun h => c (nz.2 (ne.1 h))] at k7
              rw [decide_eq_false fun h => c (nz.2 (na.1 h))] at k9
              clear nz na ne c m1 m2 m3 n1 n2 n3 s1 s2 t1 t2 c4 c3 hWn hnr hnm hnf hnl hll
              generalize numD a b a.length = nd at *
              generalize numM a b l a.length = nm at *
              generalize apI b (wrL a l) = ai at *
              generalize apI b (wrL a (needL a b l)) = aj at *
              generalize apO b (wrL a l) = x1 at *
              generalize apO b (wrL a (needL a b l)) = x2 at *
              generalize wrL a (needL a b l) = w2 at *
              generalize wrL a l = w1 at *
              generalize needL a b l = nl at *
              generalize costL nl = co at *
              generalize costL l = cl at *
              rw [cal_code env5 rfl]; simp only [fn5, slAll, Nat.reduceBEq, Nat.reduceLeDiff, Nat.reduceAdd, List.length_cons, List.length_nil]
              simp only [e0, e1, e2, e3, k1, k2, k3, k4, k5, k6, k7, k8, k9, k10, k11, k12, G, W, Q, Z, E1, slAll, Nat.reduceMul, Nat.reduceBEq, Nat.reduceLT, Nat.reduceLeDiff, Nat.zero_le, List.take_zero, List.take_nil, List.take_succ_cons, List.length_cons, List.length_nil, Nat.le_refl, List.isEmpty_nil, val_pvs, frozen_pvs, msnoc_len, msnoc_get, msnoc_set, msnoc_take, Int.le_refl, take_map_all, Nat.le_refl, St.freezeRows, BV.frozen, List.take_length, List.take_append_drop, z_repl_zero, Int.toNat_zero, true_and, and_true, and_self, eq_self, z_take_zero, List.drop_nil, List.take_nil, vAll, List.foldl_nil, List.foldl_cons, resultsOf, resultList, resultOf, zBV, splice, PV.remade, St.freezeAt, St.freezeBox, St.freezeCap, PV.single, plain, act, dstOf, if_true, if_false, reduceCtorEq, St.get, St.put, St.pvOf, St.putRow, St.consume, St.freeze, St.row, St.elems, St.grab, St.takeRow, St.setRow, St.place, St.optPv, St.setCell, St.setCellRow, binPV, intBin, unPV, BV.val, Nat.reduceEqDiff, bound, consumeAll, buildParts, capsOf, capOf, List.append_nil, Nat.reduceAdd, Nat.reduceLT, Nat.reduceLeDiff, beq_self_eq_true, List.length_map, Nat.beq, dcall, dcallP, List.mapM_cons, St.snapFn, St.snap, St.layAll, St.lay, St.freezeArg, St.freezeArg1]
          · have G : (needE a b l != 0) = true := by simp [c2]
            rw [cal_code env5 rfl]; simp only [fn5, slAll, Nat.reduceBEq, Nat.reduceLeDiff, Nat.reduceAdd, List.length_cons, List.length_nil]
            simp only [e0, e1, e2, e3, k1, k2, Z, G, slAll, Nat.reduceMul, Nat.reduceBEq, Nat.reduceLT, Nat.reduceLeDiff, Nat.zero_le, List.take_zero, List.take_nil, List.take_succ_cons, List.length_cons, List.length_nil, Nat.le_refl, List.isEmpty_nil, val_pvs, frozen_pvs, msnoc_len, msnoc_get, msnoc_set, msnoc_take, Int.le_refl, take_map_all, Nat.le_refl, St.freezeRows, BV.frozen, List.take_length, List.take_append_drop, z_repl_zero, Int.toNat_zero, true_and, and_true, and_self, eq_self, z_take_zero, List.drop_nil, List.take_nil, vAll, List.foldl_nil, List.foldl_cons, resultsOf, resultList, resultOf, zBV, splice, PV.remade, St.freezeAt, St.freezeBox, St.freezeCap, PV.single, plain, act, dstOf, if_true, if_false, reduceCtorEq, St.get, St.put, St.pvOf, St.putRow, St.consume, St.freeze, St.row, St.elems, St.grab, St.takeRow, St.setRow, St.place, St.optPv, St.setCell, St.setCellRow, binPV, intBin, unPV, BV.val, Nat.reduceEqDiff, bound, consumeAll, buildParts, capsOf, capOf, List.append_nil, Nat.reduceAdd, Nat.reduceLT, Nat.reduceLeDiff, beq_self_eq_true, List.length_map, Nat.beq, dcall, dcallP, List.mapM_cons, St.snapFn, St.snap, St.layAll, St.lay, St.freezeArg, St.freezeArg1]
        · have G : (wrE a l != 0) = true := by simp [c1]
          rw [cal_code env5 rfl]; simp only [fn5, slAll, Nat.reduceBEq, Nat.reduceLeDiff, Nat.reduceAdd, List.length_cons, List.length_nil]
          simp only [e0, e1, e2, e3, k1, k2, G, slAll, Nat.reduceMul, Nat.reduceBEq, Nat.reduceLT, Nat.reduceLeDiff, Nat.zero_le, List.take_zero, List.take_nil, List.take_succ_cons, List.length_cons, List.length_nil, Nat.le_refl, List.isEmpty_nil, val_pvs, frozen_pvs, msnoc_len, msnoc_get, msnoc_set, msnoc_take, Int.le_refl, take_map_all, Nat.le_refl, St.freezeRows, BV.frozen, List.take_length, List.take_append_drop, z_repl_zero, Int.toNat_zero, true_and, and_true, and_self, eq_self, z_take_zero, List.drop_nil, List.take_nil, vAll, List.foldl_nil, List.foldl_cons, resultsOf, resultList, resultOf, zBV, splice, PV.remade, St.freezeAt, St.freezeBox, St.freezeCap, PV.single, plain, act, dstOf, if_true, if_false, reduceCtorEq, St.get, St.put, St.pvOf, St.putRow, St.consume, St.freeze, St.row, St.elems, St.grab, St.takeRow, St.setRow, St.place, St.optPv, St.setCell, St.setCellRow, binPV, intBin, unPV, BV.val, Nat.reduceEqDiff, bound, consumeAll, buildParts, capsOf, capOf, List.append_nil, Nat.reduceAdd, Nat.reduceLT, Nat.reduceLeDiff, beq_self_eq_true, List.length_map, Nat.beq, dcall, dcallP, List.mapM_cons, St.snapFn, St.snap, St.layAll, St.lay, St.freezeArg, St.freezeArg1]
end Go.Proofs.Ytncobemfpammfaa.V

namespace Go.Proofs.Ytncobemfpammfaa.V
open Go.RowKit Go.ChangeShapes Go.WideShapes Go.ChangeAt

theorem Try.ownKnobV : ownKnob Try.prog.godebug = none := by kernel_rfl
theorem Try.laidOutV : laidOutB Try.prog = true := by kernel_rfl
def okI (n : Int) : Prop := -9223372036854775808 ≤ n ∧ n ≤ 9223372036854775807
theorem sint_i64 {q : PV} (h : SInt .i64 [q]) : ∃ n, okI n ∧ q = eI n := by
  obtain ⟨n, h1, h2⟩ := h
  have h3 : IntKind.i64.min = -9223372036854775808 := rfl
  have h4 : IntKind.i64.max = 9223372036854775807 := rfl
  simp only [Lit.wf, Bool.and_eq_true, decide_eq_true_eq] at h1
  cases h2
  exact ⟨n, ⟨by omega, by omega⟩, rfl⟩
theorem sint_u8 {q : PV} (h : SInt .u8 [q]) : ∃ b : UInt8, q = .int .u8 (b.toNat : Int) := by
  obtain ⟨n, h1, h2⟩ := h
  have h3 : IntKind.u8.min = 0 := rfl
  have h4 : IntKind.u8.max = 255 := rfl
  simp only [Lit.wf, Bool.and_eq_true, decide_eq_true_eq] at h1
  cases h2
  refine ⟨UInt8.ofNat n.toNat, ?_⟩
  rw [UInt8.toNat_ofNat_of_lt' (show n.toNat < 2 ^ 8 by omega)]
  congr 1; omega
def SSec : List PV → Prop := SArr 8 (SInt .u8)
theorem ssec {ps : List PV} (h : SSec ps) : ∃ s : Sec, ps = secPV s := by
  obtain ⟨h1, h2⟩ := h
  have : ∀ l : List PV, (∀ p ∈ l, SInt .u8 [p]) → ∃ m : List UInt8, m.length = l.length ∧ l = m.map fun b => .int .u8 (b.toNat : Int) := by
    intro l
    induction l with
    | nil => exact fun _ => ⟨[], rfl, rfl⟩
    | cons p l ih =>
      intro h
      obtain ⟨b, hb⟩ := sint_u8 (h p (by simp))
      obtain ⟨m, e1, e2⟩ := ih fun q hq => h q (by simp [hq])
      exact ⟨b :: m, by simp [e1], by rw [hb, e2]; rfl⟩
  obtain ⟨m, e1, e2⟩ := this ps h2
  refine ⟨⟨m.toArray, by simp [e1, h1]⟩, ?_⟩
  subst e2
  simp [secPV, Vector.toList]
theorem slist {α : Type} {n : Nat} {S : List PV → Prop} {wr : List PV → PV} {enc : α → PV} {ok : α → Prop} (hS : ∀ ps, S ps → ∃ a, ok a ∧ wr ps = enc a) {q : PV} (h : SList n S wr [q]) : ∃ l : List α, (∀ a ∈ l, ok a) ∧ q = .list n (l.map enc) := by
  obtain ⟨es, h1, h2⟩ := h
  cases h1
  have : ∀ es : List PV, (∀ x ∈ es, ∃ q, S q ∧ x = wr q) → ∃ l : List α, (∀ a ∈ l, ok a) ∧ es = l.map enc := by
    intro es
    induction es with
    | nil => exact fun _ => ⟨[], by simp, rfl⟩
    | cons e es ih =>
      intro h
      obtain ⟨q, h3, h4⟩ := h e (by simp)
      obtain ⟨a, h5, h6⟩ := hS q h3
      obtain ⟨l, h7, h8⟩ := ih fun x hx => h x (by simp [hx])
      exact ⟨a :: l, by simp; exact ⟨h5, h7⟩, by rw [h4, h6, h8]; rfl⟩
  obtain ⟨l, h3, h4⟩ := this es h2
  exact ⟨l, h3, by rw [h4]⟩
theorem wr_list {n : Nat} {S : List PV → Prop} {wr : List PV → PV} {ps : List PV} (h : SList n S wr ps) : (wrS ps).cells = ps := by
  obtain ⟨es, rfl, _⟩ := h; rfl
def okExt (x : Exn) : Prop := okI x.start ∧ okI x.count
def SExt : List PV → Prop := SCat [SInt .i64, SInt .i64]
theorem sext {ps : List PV} (h : SExt ps) : ∃ x : Exn, okExt x ∧ PV.agg ps = eExt x := by
  obtain ⟨p, q, rfl, ⟨n, h1, rfl⟩, p2, q2, rfl, ⟨m, h2, rfl⟩, rfl⟩ := h
  obtain ⟨a, o1, e1⟩ := sint_i64 ⟨n, h1, rfl⟩
  obtain ⟨b, o2, e2⟩ := sint_i64 ⟨m, h2, rfl⟩
  refine ⟨⟨a, b⟩, ⟨o1, o2⟩, ?_⟩
  rw [e1, e2]; rfl
def SSecs : List PV → Prop := SList 8 SSec .agg
theorem ssecs {q : PV} (h : SSecs [q]) : ∃ l : List Sec, q = eSecs l := by
  obtain ⟨l, _, e⟩ := slist (enc := eSec) (ok := fun _ => True) (fun ps h => by obtain ⟨s, rfl⟩ := ssec h; exact ⟨s, trivial, rfl⟩) h
  exact ⟨l, e⟩
def SImg : List PV → Prop := SList 1 SSecs wrS
theorem simg {q : PV} (h : SImg [q]) : ∃ l : Img, q = .list 1 (l.map eSecs) := by
  obtain ⟨l, _, e⟩ := slist (enc := eSecs) (ok := fun _ => True) (fun ps h => by
    obtain ⟨es, rfl, h2⟩ := h
    obtain ⟨l, e⟩ := ssecs (q := .list 8 es) ⟨es, rfl, h2⟩
    exact ⟨l, trivial, e⟩) h
  exact ⟨l, e⟩
theorem Try.rdInt : RdsC Try.prog 3 1 (SInt .i64) := RdsC.int Try.underlying3 (by kernel_rfl)
theorem Try.rdU8 : RdsC Try.prog 5 1 (SInt .u8) := RdsC.int Try.underlying5 (by kernel_rfl)
theorem Try.rdSec : RdsC Try.prog 52 8 SSec := RdsC.arr Try.underlying52 Try.rdU8 (by kernel_rfl)
theorem Try.rdSecs : RdsC Try.prog 49 1 SSecs := RdsC.list Try.underlying49 (by kernel_rfl) Try.rdSec (by decide) (fun _ _ _ => rfl)
theorem Try.rdImg : RdsC Try.prog 23 1 SImg := RdsC.list Try.underlying23 (by kernel_rfl) Try.rdSecs (by decide) (fun _ h _ => wr_list h)
theorem Try.rdExt : RdsC Try.prog 54 2 SExt := RdsC.struct2 Try.underlying54 Try.rdInt Try.rdInt rfl rfl (by kernel_rfl)
end Go.Proofs.Ytncobemfpammfaa.V

namespace Go.Proofs.Ytncobemfpammfaa
open V
open Go.RowKit Go.ChangeShapes Go.WideShapes Go.ChangeAt
def SExts : List PV → Prop := SList 2 SExt .agg
theorem sexts {q : PV} (h : SExts [q]) : ∃ l : List Exn, okEs l ∧ q = eExts l :=
  slist (enc := eExt) (ok := fun x => okExt x) (fun ps h => by obtain ⟨x, o, e⟩ := sext h; exact ⟨x, o, e⟩) h
def SExtss : List PV → Prop := SList 1 SExts wrS
theorem sextss {q : PV} (h : SExtss [q]) : ∃ l : List (List Exn), (∀ x ∈ l, okEs x) ∧ q = .list 1 (l.map eExts) :=
  slist (enc := eExts) (ok := okEs) (fun ps h => by
    obtain ⟨es, rfl, h2⟩ := h
    obtain ⟨l, o, e⟩ := sexts (q := .list 2 es) ⟨es, rfl, h2⟩
    exact ⟨l, o, e⟩) h
theorem Try.rdExts : RdsC Try.prog 50 1 SExts := RdsC.list Try.underlying50 (by kernel_rfl) Try.rdExt (by decide) (fun _ _ _ => rfl)
theorem Try.rdExtss : RdsC Try.prog 24 1 SExtss := RdsC.list Try.underlying24 (by kernel_rfl) Try.rdExts (by decide) (fun _ h _ => wr_list h)
end Go.Proofs.Ytncobemfpammfaa

namespace Go.Proofs.Ytncobemfpammfaa
open Go.RowKit

def ButB (w w' : World) (b : Nat) : Prop := w.heap.size ≤ w'.heap.size ∧ w'.os = w.os ∧ w'.tape = w.tape ∧ w'.output = w.output ∧ ∀ c, c < w.heap.size → c ≠ b → w'.heap[c]? = w.heap[c]?
theorem ButB.alloc (w : World) (b : Nat) (o : Obj) : ButB w (w.alloc o) b := ⟨by simp, rfl, rfl, rfl, fun c hc _ => Below.heap_alloc _ _ _ hc⟩
theorem ButB.set {w w' : World} {b : Nat} (h : ButB w w' b) (k : Nat) (v : Value) : ButB w (w'.setCell ⟨b, k, none⟩ v) b :=
  ⟨by simpa [World.setCell] using h.1, h.2.1, h.2.2.1, h.2.2.2.1, fun c hc hne => by
    rw [← h.2.2.2.2 c hc hne]
    exact Below.heap_setCell w' _ v c fun e => hne e⟩
end Go.Proofs.Ytncobemfpammfaa
