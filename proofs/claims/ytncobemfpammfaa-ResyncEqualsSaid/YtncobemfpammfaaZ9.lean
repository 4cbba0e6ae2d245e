/-
  Part 9 of the texts that the statement stands on.
-/
import Derived.Test.YtncobemfpammfaaZ8
set_option linter.all false
namespace Go.Proofs.Ytncobemfpammfaa.V
structure SwSt where
  d0 : Int
  d1 : Int
  st : Int
  ins : Bool
  out : List Exn
def swStep (keep : Bool → Bool → Bool) (x : End) (same : Bool) (s : SwSt) : SwSt :=
  if same then ⟨if x.list = 0 then s.d0 + x.step else s.d0, if x.list = 1 then s.d1 + x.step else s.d1, s.st, s.ins, s.out⟩
  else ⟨if x.list = 0 then s.d0 + x.step else s.d0, if x.list = 1 then s.d1 + x.step else s.d1,
    if keep (decide ((if x.list = 0 then s.d0 + x.step else s.d0) > 0)) (decide ((if x.list = 1 then s.d1 + x.step else s.d1) > 0)) && !s.ins then x.pos else s.st,
    keep (decide ((if x.list = 0 then s.d0 + x.step else s.d0) > 0)) (decide ((if x.list = 1 then s.d1 + x.step else s.d1) > 0)),
    s.out ++ (if !keep (decide ((if x.list = 0 then s.d0 + x.step else s.d0) > 0)) (decide ((if x.list = 1 then s.d1 + x.step else s.d1) > 0)) && s.ins then [⟨s.st, x.pos - s.st⟩] else [])⟩
def swAt (keep : Bool → Bool → Bool) (L : List End) : Nat → SwSt
  | 0 => ⟨0, 0, 0, false, []⟩
  | i + 1 => match L[i]? with
    | some x => swStep keep x (nextSame x (L.drop (i + 1))) (swAt keep L i)
    | none => swAt keep L i
theorem swAt_succ {keep : Bool → Bool → Bool} {L : List End} {i : Nat} {x : End} (h : L[i]? = some x) : swAt keep L (i + 1) = swStep keep x (nextSame x (L.drop (i + 1))) (swAt keep L i) := by
  show (match L[i]? with
    | some x => swStep keep x (nextSame x (L.drop (i + 1))) (swAt keep L i)
    | none => swAt keep L i) = _
  rw [h]
theorem swAt_go (keep : Bool → Bool → Bool) (L : List End) : ∀ i, i ≤ L.length → (swAt keep L i).out ++ swGo keep (L.drop i) (swAt keep L i).d0 (swAt keep L i).d1 (swAt keep L i).st (swAt keep L i).ins = swGo keep L 0 0 0 false
  | 0, _ => rfl
  | i + 1, hi => by
    have ih := swAt_go keep L i (by omega)
    have hx : L[i]? = some L[i] := List.getElem?_eq_getElem (by omega)
    rw [← ih, swAt_succ hx, List.drop_eq_getElem_cons (show i < L.length by omega)]
    generalize L[i] = x
    generalize swAt keep L i = s
    conv => rhs; unfold swGo
    unfold swStep
    cases nextSame x (L.drop (i + 1)) with
    | true => rfl
    | false => simp only [Bool.false_eq_true, if_false, List.append_assoc]
theorem swAt_end (keep : Bool → Bool → Bool) (L : List End) : (swAt keep L L.length).out = swGo keep L 0 0 0 false := by
  have := swAt_go keep L L.length (Nat.le_refl _)
  rw [List.drop_length] at this
  simpa [swGo] using this
theorem swAt_small {keep : Bool → Bool → Bool} {L : List End} (h : ∀ x ∈ L, (x.step = 1 ∨ x.step = -1) ∧ x.pos ≤ 4096) : ∀ i : Nat, (-(i : Int) ≤ (swAt keep L i).d0 ∧ (swAt keep L i).d0 ≤ i) ∧ (-(i : Int) ≤ (swAt keep L i).d1 ∧ (swAt keep L i).d1 ≤ i) ∧ (0 ≤ (swAt keep L i).st ∧ (swAt keep L i).st ≤ 4096)
  | 0 => by simp [swAt]
  | i + 1 => by
    obtain ⟨h1, h2, h3⟩ := swAt_small (keep := keep) h i
    cases hx : L[i]? with
    | none =>
      have : swAt keep L (i + 1) = swAt keep L i := by
        show (match L[i]? with
          | some x => swStep keep x (nextSame x (L.drop (i + 1))) (swAt keep L i)
          | none => swAt keep L i) = _
        rw [hx]
      rw [this]
      omega
    | some x =>
      rw [swAt_succ hx]
      obtain ⟨k1, k2⟩ := h x (List.mem_of_getElem? hx)
      generalize swAt keep L i = s at *
      unfold swStep
      split
      · simp only
        refine ⟨?_, ?_, h3⟩
        · split <;> omega
        · split <;> omega
      · simp only
        refine ⟨?_, ?_, ?_⟩
        · split <;> omega
        · split <;> omega
        · split <;> omega
def yE (l : List Exn) : List (List PV) := l.map fun x => [eExt x]
theorem yE_app (l m : List Exn) : yE (l ++ m) = yE l ++ yE m := by simp [yE]
theorem beq_nat (n m : Nat) : ((n : Int) == (m : Int)) = decide (n = m) := by
  by_cases h : n = m
  · subst h; simp
  · rw [decide_eq_false h]; simp; omega
set_option maxRecDepth 20000 in
set_option maxHeartbeats 2000000 in
theorem loop73 {keep : Bool → Bool → Bool} {kf : Nat} (hk : ∀ p q, cal env kf [.bool p, .bool q] = some [(.bool (keep p q), false)]) {L : List End} (hL : ∀ x ∈ L, ((x.step = 1 ∨ x.step = -1) ∧ x.pos ≤ 4096) ∧ x.list < 2) (hl : L.length ≤ 1000000)
   {st : St} (h : st.head [0, 3, 5, 6, 7, 8, 15, 16, 17, 18] st.boxes.length = some ⟨sl 80 [(0, .yld), (3, .pv (.iptr [.func kf []] 0)), (5, .row 3 (L.map eEnd)), (6, .pbox 0 0), (7, .pv (.int .i64 0)), (8, .pv (.bool false)), (15, .any), (16, .ref (.slot 5) 0 L.length), (17, .pv (.int .i64 L.length)), (18, .pv (.int .i64 (0 : Nat)))], [⟨false, [.pv (.int .i64 0), .pv (.int .i64 0)]⟩], [], some none⟩) :
   den env fn73_l1 st = some (.normal, ⟨sl 80 [], [⟨false, [.pv (.int .i64 (swAt keep L L.length).d0), .pv (.int .i64 (swAt keep L L.length).d1)]⟩], yE (swAt keep L L.length).out, some none⟩) := by
  unfold fn73_l1
  have hlim : lim = 1073741824 := rfl
  have hsm := swAt_small (keep := keep) fun x hx => (hL x hx).1
  refine clean_up (env := env) L.length (fun i => ⟨sl 80 [(0, .yld), (3, .pv (.iptr [.func kf []] 0)), (5, .row 3 (L.map eEnd)), (6, .pbox 0 0), (7, .pv (.int .i64 (swAt keep L i).st)), (8, .pv (.bool (swAt keep L i).ins)), (15, .any), (16, .ref (.slot 5) 0 L.length), (17, .pv (.int .i64 L.length)), (18, .pv (.int .i64 i))], [⟨false, [.pv (.int .i64 (swAt keep L i).d0), .pv (.int .i64 (swAt keep L i).d1)]⟩], yE (swAt keep L i).out, some none⟩) (fun _ => some (.normal, ⟨sl 80 [], [⟨false, [.pv (.int .i64 (swAt keep L L.length).d0), .pv (.int .i64 (swAt keep L L.length).d1)]⟩], yE (swAt keep L L.length).out, some none⟩)) h (fun _ => rfl) (fun _ => by simp only [slAll, Nat.reduceMul, Nat.reduceBEq, Nat.reduceLT, Nat.reduceLeDiff, Nat.zero_le, List.take_zero, List.take_nil, List.take_succ_cons, List.length_cons, List.length_nil, Nat.le_refl, Nat.reduceAdd, decide_true, Bool.and_self, Bool.true_and]) ?_ ?_
  · intro i rb hi ih
    have hi1 := i64_next hi (by omega)
    have F1 : ((i : Int) < (L.length : Int)) = True := eq_true (by omega)
    have hx : L[i]? = some L[i] := List.getElem?_eq_getElem hi
    obtain ⟨⟨x1, x2⟩, x3⟩ := hL _ (List.getElem_mem hi)
    have hsuc := swAt_succ (keep := keep) hx
    obtain ⟨⟨s1, s2⟩, ⟨s3, s4⟩, s5, s6⟩ := hsm i
    rw [hsuc] at ih
    clear hsuc
    generalize L[i] = x at *
    generalize hs : swAt keep L i = s at *
    obtain ⟨d0, d1, sp, ins, out⟩ := s
    obtain ⟨p, k, t⟩ := x
    simp only at x1 x2 x3 s1 s2 s3 s4 s5 s6 ih
    have hlist : k = 0 ∨ k = 1 := by omega
    have W0 : IntKind.i64.wrap (d0 + t) = d0 + t := i64_fits (by omega)
    have W1 : IntKind.i64.wrap (d1 + t) = d1 + t := i64_fits (by omega)
    have W2 : IntKind.i64.wrap ((p : Int) - sp) = (p : Int) - sp := i64_fits (by omega)
    have I0 : index (.int .i64 0) 2 = some 0 := rfl
    have I1 : index (.int .i64 1) 2 = some 1 := rfl
    have IN0 : index (.int .i64 ((0 : Nat) : Int)) 2 = some 0 := rfl
    have IN1 : index (.int .i64 ((1 : Nat) : Int)) 2 = some 1 := rfl
    have P3 : ∀ a b c : PV, part [a, b, c] 0 (some 3) = some (.agg [a, b, c]) := fun a b c => rfl
    -- the next end
    have hnx : (∃ y, L[i + 1]? = some y ∧ nextSame ⟨p, k, t⟩ (L.drop (i + 1)) = decide (y.pos = p) ∧ (((i + 1 : Nat) : Int) < (L.length : Int)) ∧ index (.int .i64 ((i + 1 : Nat) : Int)) L.length = some (i + 1)) ∨ (nextSame ⟨p, k, t⟩ (L.drop (i + 1)) = false ∧ ¬ (((i + 1 : Nat) : Int) < (L.length : Int))) := by
      by_cases hlt : i + 1 < L.length
      · left
        refine ⟨L[i + 1], List.getElem?_eq_getElem hlt, ?_, by omega, index_nat hlt⟩
        rw [List.drop_eq_getElem_cons hlt]; rfl
      · right
        refine ⟨?_, by omega⟩
        rw [List.drop_eq_nil_of_le (by omega)]; rfl
    rcases hlist with rfl | rfl
    · -- list 0
      have e1 := hk (decide (d0 + t > 0)) (decide (d1 > 0))
      have same : swStep keep ⟨p, 0, t⟩ true ⟨d0, d1, sp, ins, out⟩ = ⟨d0 + t, d1, sp, ins, out⟩ := by simp [swStep]
      have diff : swStep keep ⟨p, 0, t⟩ false ⟨d0, d1, sp, ins, out⟩ = ⟨d0 + t, d1, if keep (decide (d0 + t > 0)) (decide (d1 > 0)) && !ins then (p : Int) else sp, keep (decide (d0 + t > 0)) (decide (d1 > 0)), out ++ (if !keep (decide (d0 + t > 0)) (decide (d1 > 0)) && ins then [⟨sp, (p : Int) - sp⟩] else [])⟩ := by simp [swStep]
      rcases hnx with ⟨y, hy, hns, hlt, hix⟩ | ⟨hns, hlt⟩
      · have F2 : (((i + 1 : Nat) : Int) < (L.length : Int)) = True := eq_true hlt
        rw [hns] at ih
        have B := beq_nat y.pos p
        generalize hb : decide (y.pos = p) = b at ih B
        cases b with
        | true =>
          rw [same] at ih
          simp only [fn73_b0, F1, hx, hi1, W0, W1, W2, I0, I1, IN0, IN1, P3, eEnd, index_nat hi, List.getElem?_map, Option.map_some, List.length_map, List.length_cons, List.length_nil, F2, hy, hix, B, slAll, Nat.reduceMul, Nat.reduceBEq, Nat.reduceLT, Nat.reduceLeDiff, Nat.zero_le, List.take_zero, List.take_nil, List.take_succ_cons, List.length_cons, List.length_nil, Nat.le_refl, List.isEmpty_nil, val_pvs, frozen_pvs, msnoc_len, msnoc_get, msnoc_set, msnoc_take, Int.le_refl, take_map_all, Nat.le_refl, St.freezeRows, BV.frozen, List.take_length, List.take_append_drop, z_repl_zero, Int.toNat_zero, true_and, and_true, and_self, eq_self, z_take_zero, List.drop_nil, List.take_nil, vAll, List.foldl_nil, List.foldl_cons, resultsOf, resultList, resultOf, zBV, splice, PV.remade, St.freezeAt, St.freezeBox, St.freezeCap, PV.single, plain, act, dstOf, if_true, if_false, reduceCtorEq, St.get, St.put, St.pvOf, St.putRow, St.consume, St.freeze, St.row, St.elems, St.grab, St.takeRow, St.setRow, St.place, St.optPv, St.setCell, St.setCellRow, binPV, intBin, unPV, BV.val, Nat.reduceEqDiff, bound, consumeAll, buildParts, capsOf, capOf, List.append_nil, Nat.reduceAdd, Nat.reduceLT, Nat.reduceLeDiff, beq_self_eq_true, List.length_map, Nat.beq, dcall, dcallP, List.mapM_cons, St.snapFn, St.snap, St.layAll, St.lay, St.freezeArg, St.freezeArg1]
          rw [ih _ (by simp only [hi1, slAll, Nat.reduceMul, Nat.reduceBEq, Nat.reduceLT, Nat.reduceLeDiff, Nat.zero_le, List.take_zero, List.take_nil, List.take_succ_cons, List.length_cons, List.length_nil, Nat.le_refl, List.isEmpty_nil, val_pvs, frozen_pvs, msnoc_len, msnoc_get, msnoc_set, msnoc_take, Int.le_refl, take_map_all, Nat.le_refl, St.freezeRows, BV.frozen, List.take_length, List.take_append_drop, z_repl_zero, Int.toNat_zero, true_and, and_true, and_self, eq_self, z_take_zero, List.drop_nil, List.take_nil, vAll, List.foldl_nil, List.foldl_cons, resultsOf, resultList, resultOf, zBV, splice, PV.remade, St.freezeAt, St.freezeBox, St.freezeCap, PV.single, plain, act, dstOf, if_true, if_false, reduceCtorEq, St.get, St.put, St.pvOf, St.putRow, St.consume, St.freeze, St.row, St.elems, St.grab, St.takeRow, St.setRow, St.place, St.optPv, St.setCell, St.setCellRow, binPV, intBin, unPV, BV.val, Nat.reduceEqDiff, bound, consumeAll, buildParts, capsOf, capOf, List.append_nil, Nat.reduceAdd, Nat.reduceLT, Nat.reduceLeDiff, beq_self_eq_true, List.length_map, Nat.beq, dcall, dcallP, List.mapM_cons, St.snapFn, St.snap, St.layAll, St.lay, St.freezeArg, St.freezeArg1] <;> rfl)]
        | false =>
          rw [diff] at ih
          generalize keep (decide (d0 + t > 0)) (decide (d1 > 0)) = now at *
          cases now <;> cases ins <;> simp only [Bool.not_true, Bool.not_false, Bool.and_true, Bool.and_false, Bool.and_self, Bool.false_eq_true, if_true, if_false, List.append_nil, yE_app] at ih <;> simp only [fn73_b0, F1, hx, hi1, W0, W1, W2, I0, I1, IN0, IN1, P3, eEnd, index_nat hi, List.getElem?_map, Option.map_some, List.length_map, List.length_cons, List.length_nil, F2, hy, hix, B, e1, slAll, Nat.reduceMul, Nat.reduceBEq, Nat.reduceLT, Nat.reduceLeDiff, Nat.zero_le, List.take_zero, List.take_nil, List.take_succ_cons, List.length_cons, List.length_nil, Nat.le_refl, List.isEmpty_nil, val_pvs, frozen_pvs, msnoc_len, msnoc_get, msnoc_set, msnoc_take, Int.le_refl, take_map_all, Nat.le_refl, St.freezeRows, BV.frozen, List.take_length, List.take_append_drop, z_repl_zero, Int.toNat_zero, true_and, and_true, and_self, eq_self, z_take_zero, List.drop_nil, List.take_nil, vAll, List.foldl_nil, List.foldl_cons, resultsOf, resultList, resultOf, zBV, splice, PV.remade, St.freezeAt, St.freezeBox, St.freezeCap, PV.single, plain, act, dstOf, if_true, if_false, reduceCtorEq, St.get, St.put, St.pvOf, St.putRow, St.consume, St.freeze, St.row, St.elems, St.grab, St.takeRow, St.setRow, St.place, St.optPv, St.setCell, St.setCellRow, binPV, intBin, unPV, BV.val, Nat.reduceEqDiff, bound, consumeAll, buildParts, capsOf, capOf, List.append_nil, Nat.reduceAdd, Nat.reduceLT, Nat.reduceLeDiff, beq_self_eq_true, List.length_map, Nat.beq, dcall, dcallP, List.mapM_cons, St.snapFn, St.snap, St.layAll, St.lay, St.freezeArg, St.freezeArg1] <;> rw [ih _ (by simp only [hi1, yE, List.map_cons, List.map_nil, eExt, slAll, Nat.reduceMul, Nat.reduceBEq, Nat.reduceLT, Nat.reduceLeDiff, Nat.zero_le, List.take_zero, List.take_nil, List.take_succ_cons, List.length_cons, List.length_nil, Nat.le_refl, List.isEmpty_nil, val_pvs, frozen_pvs, msnoc_len, msnoc_get, msnoc_set, msnoc_take, Int.le_refl, take_map_all, Nat.le_refl, St.freezeRows, BV.frozen, List.take_length, List.take_append_drop, z_repl_zero, Int.toNat_zero, true_and, and_true, and_self, eq_self, z_take_zero, List.drop_nil, List.take_nil, vAll, List.foldl_nil, List.foldl_cons, resultsOf, resultList, resultOf, zBV, splice, PV.remade, St.freezeAt, St.freezeBox, St.freezeCap, PV.single, plain, act, dstOf, if_true, if_false, reduceCtorEq, St.get, St.put, St.pvOf, St.putRow, St.consume, St.freeze, St.row, St.elems, St.grab, St.takeRow, St.setRow, St.place, St.optPv, St.setCell, St.setCellRow, binPV, intBin, unPV, BV.val, Nat.reduceEqDiff, bound, consumeAll, buildParts, capsOf, capOf, List.append_nil, Nat.reduceAdd, Nat.reduceLT, Nat.reduceLeDiff, beq_self_eq_true, List.length_map, Nat.beq, dcall, dcallP, List.mapM_cons, St.snapFn, St.snap, St.layAll, St.lay, St.freezeArg, St.freezeArg1] <;> rfl)]
      · have F2 : (((i + 1 : Nat) : Int) < (L.length : Int)) = False := eq_false hlt
        rw [hns, diff] at ih
        generalize keep (decide (d0 + t > 0)) (decide (d1 > 0)) = now at *
        cases now <;> cases ins <;> simp only [Bool.not_true, Bool.not_false, Bool.and_true, Bool.and_false, Bool.and_self, Bool.false_eq_true, if_true, if_false, List.append_nil, yE_app] at ih <;> simp only [fn73_b0, F1, hx, hi1, W0, W1, W2, I0, I1, IN0, IN1, P3, eEnd, index_nat hi, List.getElem?_map, Option.map_some, List.length_map, List.length_cons, List.length_nil, F2, e1, slAll, Nat.reduceMul, Nat.reduceBEq, Nat.reduceLT, Nat.reduceLeDiff, Nat.zero_le, List.take_zero, List.take_nil, List.take_succ_cons, List.length_cons, List.length_nil, Nat.le_refl, List.isEmpty_nil, val_pvs, frozen_pvs, msnoc_len, msnoc_get, msnoc_set, msnoc_take, Int.le_refl, take_map_all, Nat.le_refl, St.freezeRows, BV.frozen, List.take_length, List.take_append_drop, z_repl_zero, Int.toNat_zero, true_and, and_true, and_self, eq_self, z_take_zero, List.drop_nil, List.take_nil, vAll, List.foldl_nil, List.foldl_cons, resultsOf, resultList, resultOf, zBV, splice, PV.remade, St.freezeAt, St.freezeBox, St.freezeCap, PV.single, plain, act, dstOf, if_true, if_false, reduceCtorEq, St.get, St.put, St.pvOf, St.putRow, St.consume, St.freeze, St.row, St.elems, St.grab, St.takeRow, St.setRow, St.place, St.optPv, St.setCell, St.setCellRow, binPV, intBin, unPV, BV.val, Nat.reduceEqDiff, bound, consumeAll, buildParts, capsOf, capOf, List.append_nil, Nat.reduceAdd, Nat.reduceLT, Nat.reduceLeDiff, beq_self_eq_true, List.length_map, Nat.beq, dcall, dcallP, List.mapM_cons, St.snapFn, St.snap, St.layAll, St.lay, St.freezeArg, St.freezeArg1] <;> rw [ih _ (by simp only [hi1, yE, List.map_cons, List.map_nil, eExt, slAll, Nat.reduceMul, Nat.reduceBEq, Nat.reduceLT, Nat.reduceLeDiff, Nat.zero_le, List.take_zero, List.take_nil, List.take_succ_cons, List.length_cons, List.length_nil, Nat.le_refl, List.isEmpty_nil, val_pvs, frozen_pvs, msnoc_len, msnoc_get, msnoc_set, msnoc_take, Int.le_refl, take_map_all, Nat.le_refl, St.freezeRows, BV.frozen, List.take_length, List.take_append_drop, z_repl_zero, Int.toNat_zero, true_and, and_true, and_self, eq_self, z_take_zero, List.drop_nil, List.take_nil, vAll, List.foldl_nil, List.foldl_cons, resultsOf, resultList, resultOf, zBV, splice, PV.remade, St.freezeAt, St.freezeBox, St.freezeCap, PV.single, plain, act, dstOf, if_true, if_false, reduceCtorEq, St.get, St.put, St.pvOf, St.putRow, St.consume, St.freeze, St.row, St.elems, St.grab, St.takeRow, St.setRow, St.place, St.optPv, St.setCell, St.setCellRow, binPV, intBin, unPV, BV.val, Nat.reduceEqDiff, bound, consumeAll, buildParts, capsOf, capOf, List.append_nil, Nat.reduceAdd, Nat.reduceLT, Nat.reduceLeDiff, beq_self_eq_true, List.length_map, Nat.beq, dcall, dcallP, List.mapM_cons, St.snapFn, St.snap, St.layAll, St.lay, St.freezeArg, St.freezeArg1] <;> rfl)]
    · -- list 1
      have e1 := hk (decide (d0 > 0)) (decide (d1 + t > 0))
      have same : swStep keep ⟨p, 1, t⟩ true ⟨d0, d1, sp, ins, out⟩ = ⟨d0, d1 + t, sp, ins, out⟩ := by simp [swStep]
      have diff : swStep keep ⟨p, 1, t⟩ false ⟨d0, d1, sp, ins, out⟩ = ⟨d0, d1 + t, if keep (decide (d0 > 0)) (decide (d1 + t > 0)) && !ins then (p : Int) else sp, keep (decide (d0 > 0)) (decide (d1 + t > 0)), out ++ (if !keep (decide (d0 > 0)) (decide (d1 + t > 0)) && ins then [⟨sp, (p : Int) - sp⟩] else [])⟩ := by simp [swStep]
      rcases hnx with ⟨y, hy, hns, hlt, hix⟩ | ⟨hns, hlt⟩
      · have F2 : (((i + 1 : Nat) : Int) < (L.length : Int)) = True := eq_true hlt
        rw [hns] at ih
        have B := beq_nat y.pos p
        generalize hb : decide (y.pos = p) = b at ih B
        cases b with
        | true =>
          rw [same] at ih
          simp only [fn73_b0, F1, hx, hi1, W0, W1, W2, I0, I1, IN0, IN1, P3, eEnd, index_nat hi, List.getElem?_map, Option.map_some, List.length_map, List.length_cons, List.length_nil, F2, hy, hix, B, slAll, Nat.reduceMul, Nat.reduceBEq, Nat.reduceLT, Nat.reduceLeDiff, Nat.zero_le, List.take_zero, List.take_nil, List.take_succ_cons, List.length_cons, List.length_nil, Nat.le_refl, List.isEmpty_nil, val_pvs, frozen_pvs, msnoc_len, msnoc_get, msnoc_set, msnoc_take, Int.le_refl, take_map_all, Nat.le_refl, St.freezeRows, BV.frozen, List.take_length, List.take_append_drop, z_repl_zero, Int.toNat_zero, true_and, and_true, and_self, eq_self, z_take_zero, List.drop_nil, List.take_nil, vAll, List.foldl_nil, List.foldl_cons, resultsOf, resultList, resultOf, zBV, splice, PV.remade, St.freezeAt, St.freezeBox, St.freezeCap, PV.single, plain, act, dstOf, if_true, if_false, reduceCtorEq, St.get, St.put, St.pvOf, St.putRow, St.consume, St.freeze, St.row, St.elems, St.grab, St.takeRow, St.setRow, St.place, St.optPv, St.setCell, St.setCellRow, binPV, intBin, unPV, BV.val, Nat.reduceEqDiff, bound, consumeAll, buildParts, capsOf, capOf, List.append_nil, Nat.reduceAdd, Nat.reduceLT, Nat.reduceLeDiff, beq_self_eq_true, List.length_map, Nat.beq, dcall, dcallP, List.mapM_cons, St.snapFn, St.snap, St.layAll, St.lay, St.freezeArg, St.freezeArg1]
          rw [ih _ (by simp only [hi1, slAll, Nat.reduceMul, Nat.reduceBEq, Nat.reduceLT, Nat.reduceLeDiff, Nat.zero_le, List.take_zero, List.take_nil, List.take_succ_cons, List.length_cons, List.length_nil, Nat.le_refl, List.isEmpty_nil, val_pvs, frozen_pvs, msnoc_len, msnoc_get, msnoc_set, msnoc_take, Int.le_refl, take_map_all, Nat.le_refl, St.freezeRows, BV.frozen, List.take_length, List.take_append_drop, z_repl_zero, Int.toNat_zero, true_and, and_true, and_self, eq_self, z_take_zero, List.drop_nil, List.take_nil, vAll, List.foldl_nil, List.foldl_cons, resultsOf, resultList, resultOf, zBV, splice, PV.remade, St.freezeAt, St.freezeBox, St.freezeCap, PV.single, plain, act, dstOf, if_true, if_false, reduceCtorEq, St.get, St.put, St.pvOf, St.putRow, St.consume, St.freeze, St.row, St.elems, St.grab, St.takeRow, St.setRow, St.place, St.optPv, St.setCell, St.setCellRow, binPV, intBin, unPV, BV.val, Nat.reduceEqDiff, bound, consumeAll, buildParts, capsOf, capOf, List.append_nil, Nat.reduceAdd, Nat.reduceLT, Nat.reduceLeDiff, beq_self_eq_true, List.length_map, Nat.beq, dcall, dcallP, List.mapM_cons, St.snapFn, St.snap, St.layAll, St.lay, St.freezeArg, St.freezeArg1] <;> rfl)]
        | false =>
          rw [diff] at ih
          generalize keep (decide (d0 > 0)) (decide (d1 + t > 0)) = now at *
          cases now <;> cases ins <;> simp only [Bool.not_true, Bool.not_false, Bool.and_true, Bool.and_false, Bool.and_self, Bool.false_eq_true, if_true, if_false, List.append_nil, yE_app] at ih <;> simp only [fn73_b0, F1, hx, hi1, W0, W1, W2, I0, I1, IN0, IN1, P3, eEnd, index_nat hi, List.getElem?_map, Option.map_some, List.length_map, List.length_cons, List.length_nil, F2, hy, hix, B, e1, slAll, Nat.reduceMul, Nat.reduceBEq, Nat.reduceLT, Nat.reduceLeDiff, Nat.zero_le, List.take_zero, List.take_nil, List.take_succ_cons, List.length_cons, List.length_nil, Nat.le_refl, List.isEmpty_nil, val_pvs, frozen_pvs, msnoc_len, msnoc_get, msnoc_set, msnoc_take, Int.le_refl, take_map_all, Nat.le_refl, St.freezeRows, BV.frozen, List.take_length, List.take_append_drop, z_repl_zero, Int.toNat_zero, true_and, and_true, and_self, eq_self, z_take_zero, List.drop_nil, List.take_nil, vAll, List.foldl_nil, List.foldl_cons, resultsOf, resultList, resultOf, zBV, splice, PV.remade, St.freezeAt, St.freezeBox, St.freezeCap, PV.single, plain, act, dstOf, if_true, if_false, reduceCtorEq, St.get, St.put, St.pvOf, St.putRow, St.consume, St.freeze, St.row, St.elems, St.grab, St.takeRow, St.setRow, St.place, St.optPv, St.setCell, St.setCellRow, binPV, intBin, unPV, BV.val, Nat.reduceEqDiff, bound, consumeAll, buildParts, capsOf, capOf, List.append_nil, Nat.reduceAdd, Nat.reduceLT, Nat.reduceLeDiff, beq_self_eq_true, List.length_map, Nat.beq, dcall, dcallP, List.mapM_cons, St.snapFn, St.snap, St.layAll, St.lay, St.freezeArg, St.freezeArg1] <;> rw [ih _ (by simp only [hi1, yE, List.map_cons, List.map_nil, eExt, slAll, Nat.reduceMul, Nat.reduceBEq, Nat.reduceLT, Nat.reduceLeDiff, Nat.zero_le, List.take_zero, List.take_nil, List.take_succ_cons, List.length_cons, List.length_nil, Nat.le_refl, List.isEmpty_nil, val_pvs, frozen_pvs, msnoc_len, msnoc_get, msnoc_set, msnoc_take, Int.le_refl, take_map_all, Nat.le_refl, St.freezeRows, BV.frozen, List.take_length, List.take_append_drop, z_repl_zero, Int.toNat_zero, true_and, and_true, and_self, eq_self, z_take_zero, List.drop_nil, List.take_nil, vAll, List.foldl_nil, List.foldl_cons, resultsOf, resultList, resultOf, zBV, splice, PV.remade, St.freezeAt, St.freezeBox, St.freezeCap, PV.single, plain, act, dstOf, if_true, if_false, reduceCtorEq, St.get, St.put, St.pvOf, St.putRow, St.consume, St.freeze, St.row, St.elems, St.grab, St.takeRow, St.setRow, St.place, St.optPv, St.setCell, St.setCellRow, binPV, intBin, unPV, BV.val, Nat.reduceEqDiff, bound, consumeAll, buildParts, capsOf, capOf, List.append_nil, Nat.reduceAdd, Nat.reduceLT, Nat.reduceLeDiff, beq_self_eq_true, List.length_map, Nat.beq, dcall, dcallP, List.mapM_cons, St.snapFn, St.snap, St.layAll, St.lay, St.freezeArg, St.freezeArg1] <;> rfl)]
      · have F2 : (((i + 1 : Nat) : Int) < (L.length : Int)) = False := eq_false hlt
        rw [hns, diff] at ih
        generalize keep (decide (d0 > 0)) (decide (d1 + t > 0)) = now at *
        cases now <;> cases ins <;> simp only [Bool.not_true, Bool.not_false, Bool.and_true, Bool.and_false, Bool.and_self, Bool.false_eq_true, if_true, if_false, List.append_nil, yE_app] at ih <;> simp only [fn73_b0, F1, hx, hi1, W0, W1, W2, I0, I1, IN0, IN1, P3, eEnd, index_nat hi, List.getElem?_map, Option.map_some, List.length_map, List.length_cons, List.length_nil, F2, e1, slAll, Nat.reduceMul, Nat.reduceBEq, Nat.reduceLT, Nat.reduceLeDiff, Nat.zero_le, List.take_zero, List.take_nil, List.take_succ_cons, List.length_cons, List.length_nil, Nat.le_refl, List.isEmpty_nil, val_pvs, frozen_pvs, msnoc_len, msnoc_get, msnoc_set, msnoc_take, Int.le_refl, take_map_all, Nat.le_refl, St.freezeRows, BV.frozen, List.take_length, List.take_append_drop, z_repl_zero, Int.toNat_zero, true_and, and_true, and_self, eq_self, z_take_zero, List.drop_nil, List.take_nil, vAll, List.foldl_nil, List.foldl_cons, resultsOf, resultList, resultOf, zBV, splice, PV.remade, St.freezeAt, St.freezeBox, St.freezeCap, PV.single, plain, act, dstOf, if_true, if_false, reduceCtorEq, St.get, St.put, St.pvOf, St.putRow, St.consume, St.freeze, St.row, St.elems, St.grab, St.takeRow, St.setRow, St.place, St.optPv, St.setCell, St.setCellRow, binPV, intBin, unPV, BV.val, Nat.reduceEqDiff, bound, consumeAll, buildParts, capsOf, capOf, List.append_nil, Nat.reduceAdd, Nat.reduceLT, Nat.reduceLeDiff, beq_self_eq_true, List.length_map, Nat.beq, dcall, dcallP, List.mapM_cons, St.snapFn, St.snap, St.layAll, St.lay, St.freezeArg, St.freezeArg1] <;> rw [ih _ (by simp only [hi1, yE, List.map_cons, List.map_nil, eExt, slAll, Nat.reduceMul, Nat.reduceBEq, Nat.reduceLT, Nat.reduceLeDiff, Nat.zero_le, List.take_zero, List.take_nil, List.take_succ_cons, List.length_cons, List.length_nil, Nat.le_refl, List.isEmpty_nil, val_pvs, frozen_pvs, msnoc_len, msnoc_get, msnoc_set, msnoc_take, Int.le_refl, take_map_all, Nat.le_refl, St.freezeRows, BV.frozen, List.take_length, List.take_append_drop, z_repl_zero, Int.toNat_zero, true_and, and_true, and_self, eq_self, z_take_zero, List.drop_nil, List.take_nil, vAll, List.foldl_nil, List.foldl_cons, resultsOf, resultList, resultOf, zBV, splice, PV.remade, St.freezeAt, St.freezeBox, St.freezeCap, PV.single, plain, act, dstOf, if_true, if_false, reduceCtorEq, St.get, St.put, St.pvOf, St.putRow, St.consume, St.freeze, St.row, St.elems, St.grab, St.takeRow, St.setRow, St.place, St.optPv, St.setCell, St.setCellRow, binPV, intBin, unPV, BV.val, Nat.reduceEqDiff, bound, consumeAll, buildParts, capsOf, capOf, List.append_nil, Nat.reduceAdd, Nat.reduceLT, Nat.reduceLeDiff, beq_self_eq_true, List.length_map, Nat.beq, dcall, dcallP, List.mapM_cons, St.snapFn, St.snap, St.layAll, St.lay, St.freezeArg, St.freezeArg1] <;> rfl)]
  · intro rb
    simp only [fn73_b0, Int.lt_irrefl, slAll, Nat.reduceMul, Nat.reduceBEq, Nat.reduceLT, Nat.reduceLeDiff, Nat.zero_le, List.take_zero, List.take_nil, List.take_succ_cons, List.length_cons, List.length_nil, Nat.le_refl, List.isEmpty_nil, val_pvs, frozen_pvs, msnoc_len, msnoc_get, msnoc_set, msnoc_take, Int.le_refl, take_map_all, Nat.le_refl, St.freezeRows, BV.frozen, List.take_length, List.take_append_drop, z_repl_zero, Int.toNat_zero, true_and, and_true, and_self, eq_self, z_take_zero, List.drop_nil, List.take_nil, vAll, List.foldl_nil, List.foldl_cons, resultsOf, resultList, resultOf, zBV, splice, PV.remade, St.freezeAt, St.freezeBox, St.freezeCap, PV.single, plain, act, dstOf, if_true, if_false, reduceCtorEq, St.get, St.put, St.pvOf, St.putRow, St.consume, St.freeze, St.row, St.elems, St.grab, St.takeRow, St.setRow, St.place, St.optPv, St.setCell, St.setCellRow, binPV, intBin, unPV, BV.val, Nat.reduceEqDiff, bound, consumeAll, buildParts, capsOf, capOf, List.append_nil, Nat.reduceAdd, Nat.reduceLT, Nat.reduceLeDiff, beq_self_eq_true, List.length_map, Nat.beq, dcall, dcallP, List.mapM_cons, St.snapFn, St.snap, St.layAll, St.lay, St.freezeArg, St.freezeArg1]
end Go.Proofs.Ytncobemfpammfaa.V

namespace Go.Proofs.Ytncobemfpammfaa.V
def inS (l : List Exn) (s : Nat) : Bool := l.any fun e => inE e s
def setOf (keep : Bool → Bool → Bool) (a b : List Exn) : List Exn := ext (fun s => keep (inS a s) (inS b s)) 4096
theorem two_mem {α : Type} {P : α → Prop} {a b : α} (ha : P a) (hb : P b) : ∀ l ∈ [a, b], P l := by
  intro l hl
  simp only [List.mem_cons, List.not_mem_nil, or_false] at hl
  rcases hl with rfl | rfl
  · exact ha
  · exact hb
theorem dep_perm {i s : Nat} {l m : List End} (h : l.Perm m) : dep i s l = dep i s m := by
  induction h with
  | nil => rfl
  | cons x _ ih => simp only [dep, ih]
  | swap x y l => simp only [dep]; omega
  | trans _ _ h1 h2 => exact h1.trans h2
theorem tot_perm {i : Nat} {l m : List End} (h : l.Perm m) : tot i l = tot i m := by
  induction h with
  | nil => rfl
  | cons x _ ih => simp only [tot, ih]
  | swap x y l => simp only [tot]; omega
  | trans _ _ h1 h2 => exact h1.trans h2
theorem rawOf_cons (i : Nat) (e : Exn) (l : List Exn) : rawOf i (e :: l) = (if (wX e).2.2 then [⟨(wX e).1.toNat, i, 1⟩, ⟨(wX e).2.1.toNat, i, -1⟩] else []) ++ rawOf i l := by simp [rawOf]
theorem rawOf_mem {i : Nat} : ∀ {l : List Exn} {x : End}, x ∈ rawOf i l → ((x.step = 1 ∨ x.step = -1) ∧ x.pos ≤ 4096) ∧ x.list = i
  | [], x, h => by simp [rawOf] at h
  | e :: l, x, h => by
    rw [rawOf_cons] at h
    rcases List.mem_append.1 h with h | h
    · cases hw : (wX e).2.2 with
      | false => rw [hw] at h; simp at h
      | true =>
        obtain ⟨n, m, hnm, h1, h2, -⟩ := wX_true hw
        rw [hnm] at h
        simp only [if_true, Int.toNat_natCast, List.mem_cons, List.not_mem_nil, or_false] at h
        rcases h with rfl | rfl
        · exact ⟨⟨.inl rfl, by simp only; omega⟩, rfl⟩
        · exact ⟨⟨.inr rfl, h2⟩, rfl⟩
    · exact rawOf_mem h
theorem tot_raw {i j : Nat} : ∀ l : List Exn, tot j (rawOf i l) = 0
  | [] => rfl
  | e :: l => by
    rw [rawOf_cons, tot_app, tot_raw l]
    split
    · simp only [tot]; split <;> omega
    · rfl
theorem dep_other {i j s : Nat} (h : i ≠ j) : ∀ l : List Exn, dep j s (rawOf i l) = 0
  | [] => rfl
  | e :: l => by
    rw [rawOf_cons, dep_app, dep_other h l]
    split
    · simp [dep, h]
    · rfl
theorem dep_raw {i s : Nat} (hs : s < 4096) : ∀ l : List Exn, 0 ≤ dep i s (rawOf i l) ∧ (dep i s (rawOf i l) > 0 ↔ inS l s = true)
  | [] => by simp [rawOf, dep, inS]
  | e :: l => by
    obtain ⟨h1, h2⟩ := dep_raw (i := i) hs l
    rw [rawOf_cons, dep_app]
    have h3 : inS (e :: l) s = (inE e s || inS l s) := rfl
    rw [h3]
    cases hw : (wX e).2.2 with
    | false =>
      rw [wX_false hw hs]
      simp only [Bool.false_eq_true, if_false, dep, Int.zero_add, Bool.false_or]
      exact ⟨h1, h2⟩
    | true =>
      obtain ⟨n, m, hnm, g1, g2, g3⟩ := wX_true hw
      have g4 := g3 s hs
      rw [hnm]
      simp only [if_true, Int.toNat_natCast, dep, true_and]
      cases hin : inE e s with
      | false =>
        rw [Bool.false_or, ← h2]
        have : ¬ (n ≤ s ∧ s < m) := fun h => by rw [g4.2 h] at hin; cases hin
        split <;> split <;> omega
      | true =>
        obtain ⟨k1, k2⟩ := g4.1 hin
        rw [if_pos k1, if_neg (by omega)]
        simp only [Bool.true_or, iff_true]
        omega
theorem asc_of : ∀ {l : List End}, (∀ i j : Nat, i < j → j < l.length → ¬ l[j]!.pos < l[i]!.pos) → Asc l
  | [], _ => trivial
  | [x], _ => trivial
  | x :: y :: l, h => by
    refine ⟨?_, asc_of fun i j hij hj => ?_⟩
    · have := h 0 1 (by omega) (by simp)
      simp at this
      omega
    · have := h (i + 1) (j + 1) (by omega) (by simp at hj ⊢; omega)
      simpa using this
theorem sweep_set {keep : Bool → Bool → Bool} (hk : keep false false = false) (a b : List Exn) : swGo keep (endsOf [a, b]) 0 0 0 false = setOf keep a b := by
  obtain ⟨h1, h2, h3⟩ := sortE_perm (rawFrom 0 [a, b])
  have hr : rawFrom 0 [a, b] = rawOf 0 a ++ rawOf 1 b := by simp [rawFrom]
  have hmem : ∀ x ∈ endsOf [a, b], x.pos ≤ 4096 := fun x hx => by
    have := h1.mem_iff.1 hx
    rw [hr] at this
    rcases List.mem_append.1 this with q | q
    · exact (rawOf_mem q).1.2
    · exact (rawOf_mem q).1.2
  have ht : ∀ j, tot j (endsOf [a, b]) = 0 := fun j => by
    unfold endsOf
    rw [tot_perm h1, hr, tot_app, tot_raw, tot_raw]; rfl
  have hasc : Asc (endsOf [a, b]) := asc_of fun i j hij hj => h3 i j hij (by unfold endsOf at hj; omega)
  rw [sweep_ok hk hasc hmem (ht 0) (ht 1)]
  unfold setOf
  apply ext_congr
  intro s hs
  unfold keepOf endsOf
  rw [dep_perm h1, dep_perm h1, hr, dep_app, dep_app, dep_other (i := 1) (j := 0) (by decide), dep_other (i := 0) (j := 1) (by decide), Int.add_zero, Int.zero_add]
  have e1 := (dep_raw (i := 0) hs a).2
  have e2 := (dep_raw (i := 1) hs b).2
  have f1 : decide (dep 0 s (rawOf 0 a) > 0) = inS a s := by
    cases h : inS a s
    · exact decide_eq_false fun q => by rw [e1.1 q] at h; cases h
    · exact decide_eq_true (e1.2 h)
  have f2 : decide (dep 1 s (rawOf 1 b) > 0) = inS b s := by
    cases h : inS b s
    · exact decide_eq_false fun q => by rw [e2.1 q] at h; cases h
    · exact decide_eq_true (e2.2 h)
  rw [f1, f2]
set_option maxRecDepth 20000 in
theorem iter73 {keep : Bool → Bool → Bool} (h0 : keep false false = false) {kf : Nat} (hk : ∀ p q, cal env kf [.bool p, .bool q] = some [(.bool (keep p q), false)]) {a b : List Exn} (ha : okEs a) (hb : okEs b) (la : a.length ≤ 10000) (lb : b.length ≤ 10000) :
    iter env 73 [.iptr [.list 2 (a.map eExt)] 0, .iptr [.list 2 (b.map eExt)] 0, .iptr [.func kf []] 0] none = some (yE (setOf keep a b)) := by
  have hlim : lim = 1073741824 := rfl
  obtain ⟨h1, h2, h3⟩ := sortE_perm (rawFrom 0 [a, b])
  have hr : rawFrom 0 [a, b] = rawOf 0 a ++ rawOf 1 b := by simp [rawFrom]
  have hp := rawFrom_len (n := 10000) [a, b] 0 (two_mem la lb)
  have e1 := cal74 (ls := [a, b]) (two_mem ha hb) (two_mem la lb) (by simp) h2
  have hE : (endsOf [a, b]).length ≤ 1000000 := by unfold endsOf; rw [h2]; simp at hp; omega
  have hm : ∀ x ∈ endsOf [a, b], ((x.step = 1 ∨ x.step = -1) ∧ x.pos ≤ 4096) ∧ x.list < 2 := fun x hx => by
    have := h1.mem_iff.1 hx
    rw [hr] at this
    rcases List.mem_append.1 this with q | q
    · have := rawOf_mem q; exact ⟨this.1, by omega⟩
    · have := rawOf_mem q; exact ⟨this.1, by omega⟩
  have hres := (swAt_end keep (endsOf [a, b])).trans (sweep_set h0 a b)
  simp only [List.map_cons, List.map_nil, eExts] at e1
  have L2 : (2 ≤ lim) = True := eq_true (by omega)
  rw [iter_code env73 rfl rfl]
  have hy : ystart 80 [.iptr [.list 2 (a.map eExt)] 0, .iptr [.list 2 (b.map eExt)] 0, .iptr [.func kf []] 0] none = ⟨sl 80 [(0, .yld), (1, .pv (.iptr [.list 2 (a.map eExt)] 0)), (2, .pv (.iptr [.list 2 (b.map eExt)] 0)), (3, .pv (.iptr [.func kf []] 0))], [], [], some none⟩ := rfl
  simp only [fn73]
  rw [hy]
  simp only [e1, L2, List.length_map, slAll, Nat.reduceMul, Nat.reduceBEq, Nat.reduceLT, Nat.reduceLeDiff, Nat.zero_le, List.take_zero, List.take_nil, List.take_succ_cons, List.length_cons, List.length_nil, Nat.le_refl, List.isEmpty_nil, val_pvs, frozen_pvs, msnoc_len, msnoc_get, msnoc_set, msnoc_take, Int.le_refl, take_map_all, Nat.le_refl, St.freezeRows, BV.frozen, List.take_length, List.take_append_drop, z_repl_zero, Int.toNat_zero, true_and, and_true, and_self, eq_self, z_take_zero, List.drop_nil, List.take_nil, vAll, List.foldl_nil, List.foldl_cons, resultsOf, resultList, resultOf, zBV, splice, PV.remade, St.freezeAt, St.freezeBox, St.freezeCap, PV.single, plain, act, dstOf, if_true, if_false, reduceCtorEq, St.get, St.put, St.pvOf, St.putRow, St.consume, St.freeze, St.row, St.elems, St.grab, St.takeRow, St.setRow, St.place, St.optPv, St.setCell, St.setCellRow, binPV, intBin, unPV, BV.val, Nat.reduceEqDiff, bound, consumeAll, buildParts, capsOf, capOf, List.append_nil, Nat.reduceAdd, Nat.reduceLT, Nat.reduceLeDiff, beq_self_eq_true, List.length_map, Nat.beq, dcall, dcallP, List.mapM_cons, St.snapFn, St.snap, St.layAll, St.lay, St.freezeArg, St.freezeArg1]
  rw [loop73 hk hm hE (by simp only [slAll, Nat.reduceMul, Nat.reduceBEq, Nat.reduceLT, Nat.reduceLeDiff, Nat.zero_le, List.take_zero, List.take_nil, List.take_succ_cons, List.length_cons, List.length_nil, Nat.le_refl, List.isEmpty_nil, val_pvs, frozen_pvs, msnoc_len, msnoc_get, msnoc_set, msnoc_take, Int.le_refl, take_map_all, Nat.le_refl, St.freezeRows, BV.frozen, List.take_length, List.take_append_drop, z_repl_zero, Int.toNat_zero, true_and, and_true, and_self, eq_self, z_take_zero, List.drop_nil, List.take_nil, vAll, List.foldl_nil, List.foldl_cons, resultsOf, resultList, resultOf, zBV, splice, PV.remade, St.freezeAt, St.freezeBox, St.freezeCap, PV.single, plain, act, dstOf, if_true, if_false, reduceCtorEq, St.get, St.put, St.pvOf, St.putRow, St.consume, St.freeze, St.row, St.elems, St.grab, St.takeRow, St.setRow, St.place, St.optPv, St.setCell, St.setCellRow, binPV, intBin, unPV, BV.val, Nat.reduceEqDiff, bound, consumeAll, buildParts, capsOf, capOf, List.append_nil, Nat.reduceAdd, Nat.reduceLT, Nat.reduceLeDiff, beq_self_eq_true, List.length_map, Nat.beq, dcall, dcallP, List.mapM_cons, St.snapFn, St.snap, St.layAll, St.lay, St.freezeArg, St.freezeArg1] <;> rfl)]
  rw [hres]
  rfl
theorem cal72 {g : Nat} {caps : List PV} {l : List Exn} (hi : iter env g caps none = some (yE l)) (hl : l.length ≤ 1000000) : cal env 72 [.nils 2, .func g caps] = some [(.list 2 (l.map eExt), true)] := by
  have hlim : lim = 1073741824 := rfl
  rw [cal_code env72 rfl]; simp only [fn72]; simp only [start, z_map_cons, z_map_nil, z_len_cons, z_len_nil, z_repl_zero, z_repl_succ, z_cons_app, z_nil_app, Nat.reduceAdd, Nat.reduceSub]
  simp only [ List.isEmpty_nil, val_pvs, frozen_pvs, msnoc_len, msnoc_get, msnoc_set, msnoc_take, Int.le_refl, take_map_all, Nat.le_refl, St.freezeRows, BV.frozen, List.take_length, List.take_append_drop, z_repl_zero, Int.toNat_zero, true_and, and_true, and_self, eq_self, z_take_zero, List.drop_nil, List.take_nil, vAll, List.foldl_nil, List.foldl_cons, resultsOf, resultList, resultOf, zBV, splice, PV.remade, St.freezeAt, St.freezeBox, St.freezeCap, PV.single, plain, act, dstOf, if_true, if_false, reduceCtorEq, St.get, St.put, St.pvOf, St.putRow, St.consume, St.freeze, St.row, St.elems, St.grab, St.takeRow, St.setRow, St.place, St.optPv, St.setCell, St.setCellRow, binPV, intBin, unPV, BV.val, Nat.reduceEqDiff, bound, consumeAll, buildParts, capsOf, capOf, List.append_nil, Nat.reduceAdd, Nat.reduceLT, Nat.reduceLeDiff, beq_self_eq_true, List.length_map, Nat.beq, dcall, dcallP, List.mapM_cons, St.snapFn, St.snap, St.layAll, St.lay, St.freezeArg, St.freezeArg1]
  rw [rng_idx (env := env) (fun j => [⟨false, [.row 2 ((l.take j).map eExt)]⟩]) (xs := yE l) rfl hi rfl ?_]
  · simp only [yE, List.length_map, List.take_length, vRng, List.isEmpty_nil, val_pvs, frozen_pvs, msnoc_len, msnoc_get, msnoc_set, msnoc_take, Int.le_refl, take_map_all, Nat.le_refl, St.freezeRows, BV.frozen, List.take_length, List.take_append_drop, z_repl_zero, Int.toNat_zero, true_and, and_true, and_self, eq_self, z_take_zero, List.drop_nil, List.take_nil, vAll, List.foldl_nil, List.foldl_cons, resultsOf, resultList, resultOf, zBV, splice, PV.remade, St.freezeAt, St.freezeBox, St.freezeCap, PV.single, plain, act, dstOf, if_true, if_false, reduceCtorEq, St.get, St.put, St.pvOf, St.putRow, St.consume, St.freeze, St.row, St.elems, St.grab, St.takeRow, St.setRow, St.place, St.optPv, St.setCell, St.setCellRow, binPV, intBin, unPV, BV.val, Nat.reduceEqDiff, bound, consumeAll, buildParts, capsOf, capOf, List.append_nil, Nat.reduceAdd, Nat.reduceLT, Nat.reduceLeDiff, beq_self_eq_true, List.length_map, Nat.beq, dcall, dcallP, List.mapM_cons, St.snapFn, St.snap, St.layAll, St.lay, St.freezeArg, St.freezeArg1]
  · intro j x hx sl0
    simp only [yE, List.getElem?_map, Option.map_eq_some_iff] at hx
    obtain ⟨e, he, rfl⟩ := hx
    have hj := (List.getElem?_eq_some_iff.1 he).1
    have F3 : ((l.take j).length + 1 ≤ lim) = True := eq_true (by rw [List.length_take]; omega)
    have ht : l.take (j + 1) = l.take j ++ [e] := by rw [List.take_add_one, he]; rfl
    rw [ht]
    refine ⟨?_, ?_⟩
    rotate_left
    · simp only [fn72_b0, fn72_b1, F3, eExt, List.map_append, List.map_cons, List.map_nil, vRng, List.isEmpty_nil, val_pvs, frozen_pvs, msnoc_len, msnoc_get, msnoc_set, msnoc_take, Int.le_refl, take_map_all, Nat.le_refl, St.freezeRows, BV.frozen, List.take_length, List.take_append_drop, z_repl_zero, Int.toNat_zero, true_and, and_true, and_self, eq_self, z_take_zero, List.drop_nil, List.take_nil, vAll, List.foldl_nil, List.foldl_cons, resultsOf, resultList, resultOf, zBV, splice, PV.remade, St.freezeAt, St.freezeBox, St.freezeCap, PV.single, plain, act, dstOf, if_true, if_false, reduceCtorEq, St.get, St.put, St.pvOf, St.putRow, St.consume, St.freeze, St.row, St.elems, St.grab, St.takeRow, St.setRow, St.place, St.optPv, St.setCell, St.setCellRow, binPV, intBin, unPV, BV.val, Nat.reduceEqDiff, bound, consumeAll, buildParts, capsOf, capOf, List.append_nil, Nat.reduceAdd, Nat.reduceLT, Nat.reduceLeDiff, beq_self_eq_true, List.length_map, Nat.beq, dcall, dcallP, List.mapM_cons, St.snapFn, St.snap, St.layAll, St.lay, St.freezeArg, St.freezeArg1]
      rfl
theorem cal52 {g : Nat} {caps : List PV} {l : List Exn} (hi : iter env g caps none = some (yE l)) (hl : l.length ≤ 1000000) : cal env 52 [.func g caps] = some [(.list 2 (l.map eExt), true)] := by
  have e1 := cal72 hi hl
  rw [cal_code env52 rfl]; simp only [fn52]; simp only [start, z_map_cons, z_map_nil, z_len_cons, z_len_nil, z_repl_zero, z_repl_succ, z_cons_app, z_nil_app, Nat.reduceAdd, Nat.reduceSub]
  simp only [e1, List.isEmpty_nil, val_pvs, frozen_pvs, msnoc_len, msnoc_get, msnoc_set, msnoc_take, Int.le_refl, take_map_all, Nat.le_refl, St.freezeRows, BV.frozen, List.take_length, List.take_append_drop, z_repl_zero, Int.toNat_zero, true_and, and_true, and_self, eq_self, z_take_zero, List.drop_nil, List.take_nil, vAll, List.foldl_nil, List.foldl_cons, resultsOf, resultList, resultOf, zBV, splice, PV.remade, St.freezeAt, St.freezeBox, St.freezeCap, PV.single, plain, act, dstOf, if_true, if_false, reduceCtorEq, St.get, St.put, St.pvOf, St.putRow, St.consume, St.freeze, St.row, St.elems, St.grab, St.takeRow, St.setRow, St.place, St.optPv, St.setCell, St.setCellRow, binPV, intBin, unPV, BV.val, Nat.reduceEqDiff, bound, consumeAll, buildParts, capsOf, capOf, List.append_nil, Nat.reduceAdd, Nat.reduceLT, Nat.reduceLeDiff, beq_self_eq_true, List.length_map, Nat.beq, dcall, dcallP, List.mapM_cons, St.snapFn, St.snap, St.layAll, St.lay, St.freezeArg, St.freezeArg1]
end Go.Proofs.Ytncobemfpammfaa.V

namespace Go.Proofs.Ytncobemfpammfaa.V
def orB (p q : Bool) : Bool := p || q
def andB (p q : Bool) : Bool := p && q
theorem addAt_len (l : List Exn) (i : Nat) : (addAt l i).length ≤ l.length + 1 := by
  rcases snoc_cases l with rfl | ⟨p, x, rfl⟩
  · simp [addAt]
  · rw [addAt_snoc]; split <;> simp
theorem ext_len (p : Nat → Bool) : ∀ n, (ext p n).length ≤ n
  | 0 => Nat.le_refl _
  | n + 1 => by
    rw [ext_succ]
    have := ext_len p n
    have := addAt_len (ext p n) n
    split <;> omega
theorem setOf_len (keep : Bool → Bool → Bool) (a b : List Exn) : (setOf keep a b).length ≤ 4096 := ext_len _ _
theorem cal53 {a b : List PV} {kf : Nat} : cal env 53 [.list 2 a, .list 2 b, .func kf []] = some [(.func 73 [.iptr [.list 2 a] 0, .iptr [.list 2 b] 0, .iptr [.func kf []] 0], false)] := by
  rw [cal_code env53 rfl]; simp only [fn53, slAll, Nat.reduceBEq, Nat.reduceLeDiff, Nat.reduceAdd, List.length_cons, List.length_nil]
  simp only [ slAll, Nat.reduceMul, Nat.reduceBEq, Nat.reduceLT, Nat.reduceLeDiff, Nat.zero_le, List.take_zero, List.take_nil, List.take_succ_cons, List.length_cons, List.length_nil, Nat.le_refl, List.isEmpty_nil, val_pvs, frozen_pvs, msnoc_len, msnoc_get, msnoc_set, msnoc_take, Int.le_refl, take_map_all, Nat.le_refl, St.freezeRows, BV.frozen, List.take_length, List.take_append_drop, z_repl_zero, Int.toNat_zero, true_and, and_true, and_self, eq_self, z_take_zero, List.drop_nil, List.take_nil, vAll, List.foldl_nil, List.foldl_cons, resultsOf, resultList, resultOf, zBV, splice, PV.remade, St.freezeAt, St.freezeBox, St.freezeCap, PV.single, plain, act, dstOf, if_true, if_false, reduceCtorEq, St.get, St.put, St.pvOf, St.putRow, St.consume, St.freeze, St.row, St.elems, St.grab, St.takeRow, St.setRow, St.place, St.optPv, St.setCell, St.setCellRow, binPV, intBin, unPV, BV.val, Nat.reduceEqDiff, bound, consumeAll, buildParts, capsOf, capOf, List.append_nil, Nat.reduceAdd, Nat.reduceLT, Nat.reduceLeDiff, beq_self_eq_true, List.length_map, Nat.beq, dcall, dcallP, List.mapM_cons, St.snapFn, St.snap, St.layAll, St.lay, St.freezeArg, St.freezeArg1]
theorem cal78 (p q : Bool) : cal env 78 [.bool p, .bool q] = some [(.bool (orB p q), false)] := by
  cases p <;> cases q <;> (rw [cal_code env78 rfl]; simp only [fn78, slAll, Nat.reduceBEq, Nat.reduceLeDiff, Nat.reduceAdd, List.length_cons, List.length_nil]; simp only [ slAll, Nat.reduceMul, Nat.reduceBEq, Nat.reduceLT, Nat.reduceLeDiff, Nat.zero_le, List.take_zero, List.take_nil, List.take_succ_cons, List.length_cons, List.length_nil, Nat.le_refl, List.isEmpty_nil, val_pvs, frozen_pvs, msnoc_len, msnoc_get, msnoc_set, msnoc_take, Int.le_refl, take_map_all, Nat.le_refl, St.freezeRows, BV.frozen, List.take_length, List.take_append_drop, z_repl_zero, Int.toNat_zero, true_and, and_true, and_self, eq_self, z_take_zero, List.drop_nil, List.take_nil, vAll, List.foldl_nil, List.foldl_cons, resultsOf, resultList, resultOf, zBV, splice, PV.remade, St.freezeAt, St.freezeBox, St.freezeCap, PV.single, plain, act, dstOf, if_true, if_false, reduceCtorEq, St.get, St.put, St.pvOf, St.putRow, St.consume, St.freeze, St.row, St.elems, St.grab, St.takeRow, St.setRow, St.place, St.optPv, St.setCell, St.setCellRow, binPV, intBin, unPV, BV.val, Nat.reduceEqDiff, bound, consumeAll, buildParts, capsOf, capOf, List.append_nil, Nat.reduceAdd, Nat.reduceLT, Nat.reduceLeDiff, beq_self_eq_true, List.length_map, Nat.beq, dcall, dcallP, List.mapM_cons, St.snapFn, St.snap, St.layAll, St.lay, St.freezeArg, St.freezeArg1] <;> rfl)
theorem cal54 (p q : Bool) : cal env 54 [.bool p, .bool q] = some [(.bool (andB p q), false)] := by
  cases p <;> cases q <;> (rw [cal_code env54 rfl]; simp only [fn54, slAll, Nat.reduceBEq, Nat.reduceLeDiff, Nat.reduceAdd, List.length_cons, List.length_nil]; simp only [ slAll, Nat.reduceMul, Nat.reduceBEq, Nat.reduceLT, Nat.reduceLeDiff, Nat.zero_le, List.take_zero, List.take_nil, List.take_succ_cons, List.length_cons, List.length_nil, Nat.le_refl, List.isEmpty_nil, val_pvs, frozen_pvs, msnoc_len, msnoc_get, msnoc_set, msnoc_take, Int.le_refl, take_map_all, Nat.le_refl, St.freezeRows, BV.frozen, List.take_length, List.take_append_drop, z_repl_zero, Int.toNat_zero, true_and, and_true, and_self, eq_self, z_take_zero, List.drop_nil, List.take_nil, vAll, List.foldl_nil, List.foldl_cons, resultsOf, resultList, resultOf, zBV, splice, PV.remade, St.freezeAt, St.freezeBox, St.freezeCap, PV.single, plain, act, dstOf, if_true, if_false, reduceCtorEq, St.get, St.put, St.pvOf, St.putRow, St.consume, St.freeze, St.row, St.elems, St.grab, St.takeRow, St.setRow, St.place, St.optPv, St.setCell, St.setCellRow, binPV, intBin, unPV, BV.val, Nat.reduceEqDiff, bound, consumeAll, buildParts, capsOf, capOf, List.append_nil, Nat.reduceAdd, Nat.reduceLT, Nat.reduceLeDiff, beq_self_eq_true, List.length_map, Nat.beq, dcall, dcallP, List.mapM_cons, St.snapFn, St.snap, St.layAll, St.lay, St.freezeArg, St.freezeArg1] <;> rfl)
theorem cal60 {a b : List Exn} (ha : okEs a) (hb : okEs b) (la : a.length ≤ 10000) (lb : b.length ≤ 10000) : cal env 60 [.list 2 (a.map eExt), .list 2 (b.map eExt)] = some [(.list 2 ((setOf orB a b).map eExt), true)] := by
  have e1 := cal53 (a := a.map eExt) (b := b.map eExt) (kf := 78)
  have hi := iter73 (keep := orB) rfl (kf := 78) (fun p q => cal78 p q) ha hb la lb
  have hlen := setOf_len orB a b
  have e2 := cal52 hi (by omega)
  rw [cal_code env60 rfl]; simp only [fn60, slAll, Nat.reduceBEq, Nat.reduceLeDiff, Nat.reduceAdd, List.length_cons, List.length_nil]
  simp only [e1, e2, slAll, Nat.reduceMul, Nat.reduceBEq, Nat.reduceLT, Nat.reduceLeDiff, Nat.zero_le, List.take_zero, List.take_nil, List.take_succ_cons, List.length_cons, List.length_nil, Nat.le_refl, List.isEmpty_nil, val_pvs, frozen_pvs, msnoc_len, msnoc_get, msnoc_set, msnoc_take, Int.le_refl, take_map_all, Nat.le_refl, St.freezeRows, BV.frozen, List.take_length, List.take_append_drop, z_repl_zero, Int.toNat_zero, true_and, and_true, and_self, eq_self, z_take_zero, List.drop_nil, List.take_nil, vAll, List.foldl_nil, List.foldl_cons, resultsOf, resultList, resultOf, zBV, splice, PV.remade, St.freezeAt, St.freezeBox, St.freezeCap, PV.single, plain, act, dstOf, if_true, if_false, reduceCtorEq, St.get, St.put, St.pvOf, St.putRow, St.consume, St.freeze, St.row, St.elems, St.grab, St.takeRow, St.setRow, St.place, St.optPv, St.setCell, St.setCellRow, binPV, intBin, unPV, BV.val, Nat.reduceEqDiff, bound, consumeAll, buildParts, capsOf, capOf, List.append_nil, Nat.reduceAdd, Nat.reduceLT, Nat.reduceLeDiff, beq_self_eq_true, List.length_map, Nat.beq, dcall, dcallP, List.mapM_cons, St.snapFn, St.snap, St.layAll, St.lay, St.freezeArg, St.freezeArg1]
--+
theorem cal26 {a b : List Exn} (ha : okEs a) (hb : okEs b) (la : a.length ≤ 10000) (lb : b.length ≤ 10000) : cal env 26 [.list 2 (a.map eExt), .list 2 (b.map eExt)] = some [(.list 2 ((setOf andB a b).map eExt), true)] := by
  have e1 := cal53 (a := a.map eExt) (b := b.map eExt) (kf := 54)
  have hi := iter73 (keep := andB) rfl (kf := 54) (fun p q => cal54 p q) ha hb la lb
  have hlen := setOf_len andB a b
  have e2 := cal52 hi (by omega)
  rw [cal_code env26 rfl]; simp only [fn26, slAll, Nat.reduceBEq, Nat.reduceLeDiff, Nat.reduceAdd, List.length_cons, List.length_nil]
  simp only [e1, e2, slAll, Nat.reduceMul, Nat.reduceBEq, Nat.reduceLT, Nat.reduceLeDiff, Nat.zero_le, List.take_zero, List.take_nil, List.take_succ_cons, List.length_cons, List.length_nil, Nat.le_refl, List.isEmpty_nil, val_pvs, frozen_pvs, msnoc_len, msnoc_get, msnoc_set, msnoc_take, Int.le_refl, take_map_all, Nat.le_refl, St.freezeRows, BV.frozen, List.take_length, List.take_append_drop, z_repl_zero, Int.toNat_zero, true_and, and_true, and_self, eq_self, z_take_zero, List.drop_nil, List.take_nil, vAll, List.foldl_nil, List.foldl_cons, resultsOf, resultList, resultOf, zBV, splice, PV.remade, St.freezeAt, St.freezeBox, St.freezeCap, PV.single, plain, act, dstOf, if_true, if_false, reduceCtorEq, St.get, St.put, St.pvOf, St.putRow, St.consume, St.freeze, St.row, St.elems, St.grab, St.takeRow, St.setRow, St.place, St.optPv, St.setCell, St.setCellRow, binPV, intBin, unPV, BV.val, Nat.reduceEqDiff, bound, consumeAll, buildParts, capsOf, capOf, List.append_nil, Nat.reduceAdd, Nat.reduceLT, Nat.reduceLeDiff, beq_self_eq_true, List.length_map, Nat.beq, dcall, dcallP, List.mapM_cons, St.snapFn, St.snap, St.layAll, St.lay, St.freezeArg, St.freezeArg1]
theorem okEs_nil : okEs [] := fun x hx => by cases hx
def orS (l : List Exn) : List Exn := setOf orB l []
def cntE (l : List Exn) : Int := (l.map fun x => x.count).sum
theorem cntE_snoc (l : List Exn) (x : Exn) : cntE (l ++ [x]) = cntE l + x.count := by simp [cntE]
theorem ext_in (p : Nat → Bool) (n : Nat) : (∀ x ∈ ext p n, 0 ≤ x.start ∧ 1 ≤ x.count ∧ x.start + x.count ≤ (n : Int)) := by
  induction n with
  | zero => intro x hx; cases hx
  | succ n ih =>
    rw [ext_succ]
    split
    · rcases snoc_cases (ext p n) with e | ⟨pre, y, e⟩
      · rw [e]
        intro x hx
        have : addAt [] n = [⟨(n : Int), 1⟩] := rfl
        rw [this] at hx
        simp only [List.mem_singleton] at hx
        subst hx
        simp only; omega
      · rw [e] at ih ⊢
        intro x hx
        rw [addAt_snoc] at hx
        split at hx
        · rcases List.mem_append.1 hx with h | h
          · have := ih x (by simp [h]); omega
          · simp only [List.mem_singleton] at h
            have := ih y (by simp)
            subst h; simp only; omega
        · rcases List.mem_append.1 hx with h | h
          · have := ih x h; omega
          · simp only [List.mem_singleton] at h
            subst h; simp only; omega
    · intro x hx; have := ih x hx; omega
theorem ext_cnt (p : Nat → Bool) : ∀ n, cntE (ext p n) = (((List.range n).filter p).length : Int)
  | 0 => rfl
  | n + 1 => by
    have ih := ext_cnt p n
    rw [ext_succ, List.range_succ, List.filter_append, List.length_append]
    cases h : p n with
    | false => rw [List.filter_cons_of_neg (by simp [h])]; simpa using ih
    | true =>
      rw [List.filter_cons_of_pos h, List.filter_nil, if_pos rfl]
      have : cntE (addAt (ext p n) n) = cntE (ext p n) + 1 := by
        rcases snoc_cases (ext p n) with e | ⟨pre, y, e⟩
        · rw [e]; rfl
        · rw [e, addAt_snoc]
          split
          · rw [cntE_snoc, cntE_snoc]; simp only; omega
          · rw [cntE_snoc]
      rw [this, ih]; simp
theorem take_cnt {l : List Exn} (h : ∀ x ∈ l, 0 ≤ x.count ∧ x.count ≤ 4096) : ∀ i, 0 ≤ cntE (l.take i) ∧ cntE (l.take i) ≤ 4096 * (l.take i).length := by
  intro i
  have : ∀ m : List Exn, (∀ x ∈ m, 0 ≤ x.count ∧ x.count ≤ 4096) → 0 ≤ cntE m ∧ cntE m ≤ 4096 * m.length := by
    intro m
    induction m with
    | nil => intro _; simp [cntE]
    | cons x m ih =>
      intro hm
      have h1 := hm x (by simp)
      have h2 := ih fun y hy => hm y (by simp [hy])
      have : cntE (x :: m) = x.count + cntE m := by simp [cntE]
      rw [this, List.length_cons]
      omega
  exact this _ fun x hx => h x (List.mem_of_mem_take hx)
theorem loop36 {l : List Exn} (hl : l.length ≤ 10000) (hc : ∀ x ∈ l, 0 ≤ x.count ∧ x.count ≤ 4096) {st : St} (h : st.head [3, 7, 8, 9] st.boxes.length = some ⟨sl 19 [(3, .pv (.int .i64 (cntE (l.take ((0 : Nat)))))), (7, .row 2 (l.map eExt)), (8, .pv (.int .i64 l.length)), (9, .pv (.int .i64 (0 : Nat)))], [], [], none⟩) :
   den env fn36_l1 st = some (.normal, ⟨sl 19 [(2, .any), (3, .pv (.int .i64 (cntE l)))], [], [], none⟩) := by
  unfold fn36_l1
  refine clean_up (env := env) (l.length) (fun i => ⟨sl 19 [(3, .pv (.int .i64 (cntE (l.take (i))))), (7, .row 2 (l.map eExt)), (8, .pv (.int .i64 l.length)), (9, .pv (.int .i64 i))], [], [], none⟩) (fun i => some (.normal, ⟨sl 19 [(2, .any), (3, .pv (.int .i64 (cntE l)))], [], [], none⟩)) h (fun _ => rfl) (fun _ => by simp only [slAll, Nat.reduceMul, Nat.reduceBEq, Nat.reduceLT, Nat.reduceLeDiff, Nat.zero_le, List.take_zero, List.take_nil, List.take_succ_cons, List.length_cons, List.length_nil, Nat.le_refl, Nat.reduceAdd, decide_true, Bool.and_self, Bool.true_and]) ?_ ?_
  · intro i rb hi ih

    have hlim : lim = 1073741824 := rfl
    have hi1 := i64_next hi (by omega)
    have F1 : ((i : Int) < (l.length : Int)) = True := eq_true (by omega)
    have hx : l[i]? = some l[i] := List.getElem?_eq_getElem hi
    have ht := take_snoc1 hi
    obtain ⟨t1, t2⟩ := take_cnt hc i
    have hcx := hc _ (List.getElem_mem hi)
    have hlt : (l.take i).length ≤ l.length := by rw [List.length_take]; omega
    generalize l[i] = x at *
    have P2 : part [PV.int .i64 x.start, .int .i64 x.count] 0 (some 2) = some (.agg [.int .i64 x.start, .int .i64 x.count]) := rfl
    have W : IntKind.i64.wrap (cntE (l.take i) + x.count) = cntE (l.take i) + x.count := i64_fits (by omega)
    simp only [fn36_b0, F1, hx, eExt, P2, W, index_nat hi, List.getElem?_map, Option.map_some, List.length_map, slAll, Nat.reduceMul, Nat.reduceBEq, Nat.reduceLT, Nat.reduceLeDiff, Nat.zero_le, List.take_zero, List.take_nil, List.take_succ_cons, List.length_cons, List.length_nil, Nat.le_refl, List.isEmpty_nil, val_pvs, frozen_pvs, msnoc_len, msnoc_get, msnoc_set, msnoc_take, Int.le_refl, take_map_all, Nat.le_refl, St.freezeRows, BV.frozen, List.take_length, List.take_append_drop, z_repl_zero, Int.toNat_zero, true_and, and_true, and_self, eq_self, z_take_zero, List.drop_nil, List.take_nil, vAll, List.foldl_nil, List.foldl_cons, resultsOf, resultList, resultOf, zBV, splice, PV.remade, St.freezeAt, St.freezeBox, St.freezeCap, PV.single, plain, act, dstOf, if_true, if_false, reduceCtorEq, St.get, St.put, St.pvOf, St.putRow, St.consume, St.freeze, St.row, St.elems, St.grab, St.takeRow, St.setRow, St.place, St.optPv, St.setCell, St.setCellRow, binPV, intBin, unPV, BV.val, Nat.reduceEqDiff, bound, consumeAll, buildParts, capsOf, capOf, List.append_nil, Nat.reduceAdd, Nat.reduceLT, Nat.reduceLeDiff, beq_self_eq_true, List.length_map, Nat.beq, dcall, dcallP, List.mapM_cons, St.snapFn, St.snap, St.layAll, St.lay, St.freezeArg, St.freezeArg1]
    rw [ih _ (by simp only [hi1, ht, cntE_snoc, slAll, Nat.reduceMul, Nat.reduceBEq, Nat.reduceLT, Nat.reduceLeDiff, Nat.zero_le, List.take_zero, List.take_nil, List.take_succ_cons, List.length_cons, List.length_nil, Nat.le_refl, List.isEmpty_nil, val_pvs, frozen_pvs, msnoc_len, msnoc_get, msnoc_set, msnoc_take, Int.le_refl, take_map_all, Nat.le_refl, St.freezeRows, BV.frozen, List.take_length, List.take_append_drop, z_repl_zero, Int.toNat_zero, true_and, and_true, and_self, eq_self, z_take_zero, List.drop_nil, List.take_nil, vAll, List.foldl_nil, List.foldl_cons, resultsOf, resultList, resultOf, zBV, splice, PV.remade, St.freezeAt, St.freezeBox, St.freezeCap, PV.single, plain, act, dstOf, if_true, if_false, reduceCtorEq, St.get, St.put, St.pvOf, St.putRow, St.consume, St.freeze, St.row, St.elems, St.grab, St.takeRow, St.setRow, St.place, St.optPv, St.setCell, St.setCellRow, binPV, intBin, unPV, BV.val, Nat.reduceEqDiff, bound, consumeAll, buildParts, capsOf, capOf, List.append_nil, Nat.reduceAdd, Nat.reduceLT, Nat.reduceLeDiff, beq_self_eq_true, List.length_map, Nat.beq, dcall, dcallP, List.mapM_cons, St.snapFn, St.snap, St.layAll, St.lay, St.freezeArg, St.freezeArg1] <;> rfl)]
  · intro rb

    simp only [fn36_b0, Int.lt_irrefl, List.length_map, List.take_length, slAll, Nat.reduceMul, Nat.reduceBEq, Nat.reduceLT, Nat.reduceLeDiff, Nat.zero_le, List.take_zero, List.take_nil, List.take_succ_cons, List.length_cons, List.length_nil, Nat.le_refl, List.isEmpty_nil, val_pvs, frozen_pvs, msnoc_len, msnoc_get, msnoc_set, msnoc_take, Int.le_refl, take_map_all, Nat.le_refl, St.freezeRows, BV.frozen, List.take_length, List.take_append_drop, z_repl_zero, Int.toNat_zero, true_and, and_true, and_self, eq_self, z_take_zero, List.drop_nil, List.take_nil, vAll, List.foldl_nil, List.foldl_cons, resultsOf, resultList, resultOf, zBV, splice, PV.remade, St.freezeAt, St.freezeBox, St.freezeCap, PV.single, plain, act, dstOf, if_true, if_false, reduceCtorEq, St.get, St.put, St.pvOf, St.putRow, St.consume, St.freeze, St.row, St.elems, St.grab, St.takeRow, St.setRow, St.place, St.optPv, St.setCell, St.setCellRow, binPV, intBin, unPV, BV.val, Nat.reduceEqDiff, bound, consumeAll, buildParts, capsOf, capOf, List.append_nil, Nat.reduceAdd, Nat.reduceLT, Nat.reduceLeDiff, beq_self_eq_true, List.length_map, Nat.beq, dcall, dcallP, List.mapM_cons, St.snapFn, St.snap, St.layAll, St.lay, St.freezeArg, St.freezeArg1]

theorem cal36 {l : List Exn} (ho : okEs l) (hl : l.length ≤ 10000) : cal env 36 [.list 2 (l.map eExt)] = some [(.int .i64 (cntE (orS l)), false)] := by
  have e1 := cal60 ho okEs_nil hl (by simp)
  simp only [List.map_nil] at e1
  have h1 := setOf_len orB l []
  have h2 := ext_in (fun s => orB (inS l s) (inS [] s)) 4096
  unfold orS
  have hc : ∀ x ∈ setOf orB l [], 0 ≤ x.count ∧ x.count ≤ 4096 := fun x hx => by have := h2 x hx; omega
  generalize setOf orB l [] = r at *
  rw [cal_code env36 rfl]; simp only [fn36, slAll, Nat.reduceBEq, Nat.reduceLeDiff, Nat.reduceAdd, List.length_cons, List.length_nil]
  simp only [e1, List.length_map, slAll, Nat.reduceMul, Nat.reduceBEq, Nat.reduceLT, Nat.reduceLeDiff, Nat.zero_le, List.take_zero, List.take_nil, List.take_succ_cons, List.length_cons, List.length_nil, Nat.le_refl, List.isEmpty_nil, val_pvs, frozen_pvs, msnoc_len, msnoc_get, msnoc_set, msnoc_take, Int.le_refl, take_map_all, Nat.le_refl, St.freezeRows, BV.frozen, List.take_length, List.take_append_drop, z_repl_zero, Int.toNat_zero, true_and, and_true, and_self, eq_self, z_take_zero, List.drop_nil, List.take_nil, vAll, List.foldl_nil, List.foldl_cons, resultsOf, resultList, resultOf, zBV, splice, PV.remade, St.freezeAt, St.freezeBox, St.freezeCap, PV.single, plain, act, dstOf, if_true, if_false, reduceCtorEq, St.get, St.put, St.pvOf, St.putRow, St.consume, St.freeze, St.row, St.elems, St.grab, St.takeRow, St.setRow, St.place, St.optPv, St.setCell, St.setCellRow, binPV, intBin, unPV, BV.val, Nat.reduceEqDiff, bound, consumeAll, buildParts, capsOf, capOf, List.append_nil, Nat.reduceAdd, Nat.reduceLT, Nat.reduceLeDiff, beq_self_eq_true, List.length_map, Nat.beq, dcall, dcallP, List.mapM_cons, St.snapFn, St.snap, St.layAll, St.lay, St.freezeArg, St.freezeArg1]
  rw [loop36 (l := r) (by omega) hc (by simp only [List.take_zero, cntE, List.map_nil, List.sum_nil, slAll, Nat.reduceMul, Nat.reduceBEq, Nat.reduceLT, Nat.reduceLeDiff, Nat.zero_le, List.take_zero, List.take_nil, List.take_succ_cons, List.length_cons, List.length_nil, Nat.le_refl, List.isEmpty_nil, val_pvs, frozen_pvs, msnoc_len, msnoc_get, msnoc_set, msnoc_take, Int.le_refl, take_map_all, Nat.le_refl, St.freezeRows, BV.frozen, List.take_length, List.take_append_drop, z_repl_zero, Int.toNat_zero, true_and, and_true, and_self, eq_self, z_take_zero, List.drop_nil, List.take_nil, vAll, List.foldl_nil, List.foldl_cons, resultsOf, resultList, resultOf, zBV, splice, PV.remade, St.freezeAt, St.freezeBox, St.freezeCap, PV.single, plain, act, dstOf, if_true, if_false, reduceCtorEq, St.get, St.put, St.pvOf, St.putRow, St.consume, St.freeze, St.row, St.elems, St.grab, St.takeRow, St.setRow, St.place, St.optPv, St.setCell, St.setCellRow, binPV, intBin, unPV, BV.val, Nat.reduceEqDiff, bound, consumeAll, buildParts, capsOf, capOf, List.append_nil, Nat.reduceAdd, Nat.reduceLT, Nat.reduceLeDiff, beq_self_eq_true, List.length_map, Nat.beq, dcall, dcallP, List.mapM_cons, St.snapFn, St.snap, St.layAll, St.lay, St.freezeArg, St.freezeArg1] <;> rfl)]
  simp only [e1, List.length_map, slAll, Nat.reduceMul, Nat.reduceBEq, Nat.reduceLT, Nat.reduceLeDiff, Nat.zero_le, List.take_zero, List.take_nil, List.take_succ_cons, List.length_cons, List.length_nil, Nat.le_refl, List.isEmpty_nil, val_pvs, frozen_pvs, msnoc_len, msnoc_get, msnoc_set, msnoc_take, Int.le_refl, take_map_all, Nat.le_refl, St.freezeRows, BV.frozen, List.take_length, List.take_append_drop, z_repl_zero, Int.toNat_zero, true_and, and_true, and_self, eq_self, z_take_zero, List.drop_nil, List.take_nil, vAll, List.foldl_nil, List.foldl_cons, resultsOf, resultList, resultOf, zBV, splice, PV.remade, St.freezeAt, St.freezeBox, St.freezeCap, PV.single, plain, act, dstOf, if_true, if_false, reduceCtorEq, St.get, St.put, St.pvOf, St.putRow, St.consume, St.freeze, St.row, St.elems, St.grab, St.takeRow, St.setRow, St.place, St.optPv, St.setCell, St.setCellRow, binPV, intBin, unPV, BV.val, Nat.reduceEqDiff, bound, consumeAll, buildParts, capsOf, capOf, List.append_nil, Nat.reduceAdd, Nat.reduceLT, Nat.reduceLeDiff, beq_self_eq_true, List.length_map, Nat.beq, dcall, dcallP, List.mapM_cons, St.snapFn, St.snap, St.layAll, St.lay, St.freezeArg, St.freezeArg1]
end Go.Proofs.Ytncobemfpammfaa.V

namespace Go.Proofs.Ytncobemfpammfaa.V
end Go.Proofs.Ytncobemfpammfaa.V

namespace Go.Proofs.Ytncobemfpammfaa.V
def mk (f : Nat → Bool) : List Bool := (List.range 4096).map f
theorem inS_snoc (l : List Exn) (e : Exn) (s : Nat) : inS (l ++ [e]) s = (inS l s || inE e s) := by simp [inS]
end Go.Proofs.Ytncobemfpammfaa.V

namespace Go.Proofs.Ytncobemfpammfaa.V
end Go.Proofs.Ytncobemfpammfaa.V

namespace Go.Proofs.Ytncobemfpammfaa.V
--+
theorem loop83 {α : Type} {enc : α → PV} {l : List α} {p : α → Bool} {gf : Nat} {caps : List PV} (hp : ∀ x ∈ l, cal env gf (enc x :: caps) = some [(.bool (p x), false)]) (hs : ∀ x, part (enc x).cells 0 (some 2) = some (enc x)) (hl : l.length ≤ lim)
   {st : St} (h : st.head [0, 1, 7, 8] st.boxes.length = some ⟨[.pv (.list 2 (l.map enc)), .pv (.func gf caps), .any, .any, .any, .any, .any, .pv (.int .i64 l.length), .pv (.int .i64 (0 : Nat)), .any, .any, .any, .any, .any, .any, .any, .any, .any, .any], [], [], none⟩) :
   den env fn83_l1 st = if l.any p then some (.ret, ⟨[.any, .any, .any, .any, .pv (.int .i64 (l.findIdx p)), .any, .any, .any, .any, .any, .any, .any, .any, .any, .any, .any, .any, .any, .any], [], [], none⟩) else some (.normal, ⟨[.any, .any, .any, .any, .any, .any, .any, .any, .any, .any, .any, .any, .any, .any, .any, .any, .any, .any, .any], [], [], none⟩) := by
  unfold fn83_l1
  rw [clean_up l.length (fun i => ⟨[.pv (.list 2 (l.map enc)), .pv (.func gf caps), .any, .any, .any, .any, .any, .pv (.int .i64 l.length), .pv (.int .i64 i), .any, .any, .any, .any, .any, .any, .any, .any, .any, .any], [], [], none⟩)
    (fun i => if (l.drop i).any p then some (.ret, ⟨[.any, .any, .any, .any, .pv (.int .i64 ((i + (l.drop i).findIdx p : Nat) : Int)), .any, .any, .any, .any, .any, .any, .any, .any, .any, .any, .any, .any, .any, .any], [], [], none⟩) else some (.normal, ⟨[.any, .any, .any, .any, .any, .any, .any, .any, .any, .any, .any, .any, .any, .any, .any, .any, .any, .any, .any], [], [], none⟩)) h (fun _ => rfl) (fun _ => rfl) ?_ ?_]
  · simp only [List.drop_zero, Nat.zero_add]
  · intro i rb hi ih
    have hi1 := i64_next hi hl
    have F1 : ((i : Int) < (l.length : Int)) = True := eq_true (by omega)
    simp only [fn83_b0, F1, List.length_map, index_nat hi, List.getElem?_map, List.getElem?_eq_getElem hi, hp _ (List.getElem_mem hi), hs, vAll, List.foldl_nil, List.foldl_cons, resultsOf, resultList, resultOf, zBV, splice, PV.remade, St.freezeAt, St.freezeBox, St.freezeCap, PV.single, plain, act, dstOf, if_true, if_false, reduceCtorEq, St.get, St.put, St.pvOf, St.putRow, St.consume, St.freeze, St.row, St.elems, St.grab, St.takeRow, St.setRow, St.place, St.optPv, St.setCell, St.setCellRow, binPV, intBin, unPV, BV.val, Nat.reduceEqDiff, bound, consumeAll, buildParts, capsOf, capOf, List.append_nil, Nat.reduceAdd, Nat.reduceLT, Nat.reduceLeDiff, beq_self_eq_true, List.length_map, Nat.beq, dcall, dcallP, List.mapM_cons, St.snapFn, St.snap, St.layAll, St.lay, St.freezeArg, St.freezeArg1]
    (try simp only [bcase_bind, bcase_map, tail_bcase]); refine bcase_split (fun hb => ?_) (fun hb => ?_) <;> try simp only [hb,  List.isEmpty_nil, val_pvs, frozen_pvs, msnoc_len, msnoc_get, msnoc_set, msnoc_take, Int.le_refl, take_map_all, Nat.le_refl, St.freezeRows, BV.frozen, List.take_length, List.take_append_drop, z_repl_zero, Int.toNat_zero, true_and, and_true, and_self, eq_self, z_take_zero, List.drop_nil, List.take_nil, vAll, List.foldl_nil, List.foldl_cons, resultsOf, resultList, resultOf, zBV, splice, PV.remade, St.freezeAt, St.freezeBox, St.freezeCap, PV.single, plain, act, dstOf, if_true, if_false, reduceCtorEq, St.get, St.put, St.pvOf, St.putRow, St.consume, St.freeze, St.row, St.elems, St.grab, St.takeRow, St.setRow, St.place, St.optPv, St.setCell, St.setCellRow, binPV, intBin, unPV, BV.val, Nat.reduceEqDiff, bound, consumeAll, buildParts, capsOf, capOf, List.append_nil, Nat.reduceAdd, Nat.reduceLT, Nat.reduceLeDiff, beq_self_eq_true, List.length_map, Nat.beq, dcall, dcallP, List.mapM_cons, St.snapFn, St.snap, St.layAll, St.lay, St.freezeArg, St.freezeArg1]
    · rw [List.drop_eq_getElem_cons hi]
      simp only [List.any_cons, hb, Bool.true_or, if_true, List.findIdx_cons, cond_true, Nat.add_zero]
      rfl
    · rw [ih _ (by simp only [hi1]; rfl), List.drop_eq_getElem_cons hi]
      simp only [List.any_cons, hb, Bool.false_or, List.findIdx_cons, cond_false, Nat.add_assoc, Nat.add_comm 1]
  · intro rb
    simp only [fn83_b0, Int.lt_irrefl, vAll, List.foldl_nil, List.foldl_cons, resultsOf, resultList, resultOf, zBV, splice, PV.remade, St.freezeAt, St.freezeBox, St.freezeCap, PV.single, plain, act, dstOf, if_true, if_false, reduceCtorEq, St.get, St.put, St.pvOf, St.putRow, St.consume, St.freeze, St.row, St.elems, St.grab, St.takeRow, St.setRow, St.place, St.optPv, St.setCell, St.setCellRow, binPV, intBin, unPV, BV.val, Nat.reduceEqDiff, bound, consumeAll, buildParts, capsOf, capOf, List.append_nil, Nat.reduceAdd, Nat.reduceLT, Nat.reduceLeDiff, beq_self_eq_true, List.length_map, Nat.beq, dcall, dcallP, List.mapM_cons, St.snapFn, St.snap, St.layAll, St.lay, St.freezeArg, St.freezeArg1]
    simp only [List.drop_length, List.any_nil, Bool.false_eq_true, if_false]
    rfl
theorem cal83 {α : Type} {enc : α → PV} {l : List α} {p : α → Bool} {gf : Nat} {caps : List PV} (hp : ∀ x ∈ l, cal env gf (enc x :: caps) = some [(.bool (p x), false)]) (hs : ∀ x, part (enc x).cells 0 (some 2) = some (enc x)) (hl : l.length ≤ lim) :
    cal env 83 [.list 2 (l.map enc), .func gf caps] = some [(.int .i64 (idxI p l), false)] := by
  rw [cal_code env83 rfl]; simp only [fn83]; simp only [start, z_map_cons, z_map_nil, z_len_cons, z_len_nil, z_repl_zero, z_repl_succ, z_cons_app, z_nil_app, Nat.reduceAdd, Nat.reduceSub]
  simp only [List.length_map, vAll, List.foldl_nil, List.foldl_cons, resultsOf, resultList, resultOf, zBV, splice, PV.remade, St.freezeAt, St.freezeBox, St.freezeCap, PV.single, plain, act, dstOf, if_true, if_false, reduceCtorEq, St.get, St.put, St.pvOf, St.putRow, St.consume, St.freeze, St.row, St.elems, St.grab, St.takeRow, St.setRow, St.place, St.optPv, St.setCell, St.setCellRow, binPV, intBin, unPV, BV.val, Nat.reduceEqDiff, bound, consumeAll, buildParts, capsOf, capOf, List.append_nil, Nat.reduceAdd, Nat.reduceLT, Nat.reduceLeDiff, beq_self_eq_true, List.length_map, Nat.beq, dcall, dcallP, List.mapM_cons, St.snapFn, St.snap, St.layAll, St.lay, St.freezeArg, St.freezeArg1]
  rw [loop83 hp hs hl]
  rotate_left
  · rfl
  · simp only [idxI]
    split <;> simp only [vAll, List.foldl_nil, List.foldl_cons, resultsOf, resultList, resultOf, zBV, splice, PV.remade, St.freezeAt, St.freezeBox, St.freezeCap, PV.single, plain, act, dstOf, if_true, if_false, reduceCtorEq, St.get, St.put, St.pvOf, St.putRow, St.consume, St.freeze, St.row, St.elems, St.grab, St.takeRow, St.setRow, St.place, St.optPv, St.setCell, St.setCellRow, binPV, intBin, unPV, BV.val, Nat.reduceEqDiff, bound, consumeAll, buildParts, capsOf, capOf, List.append_nil, Nat.reduceAdd, Nat.reduceLT, Nat.reduceLeDiff, beq_self_eq_true, List.length_map, Nat.beq, dcall, dcallP, List.mapM_cons, St.snapFn, St.snap, St.layAll, St.lay, St.freezeArg, St.freezeArg1]
--+
theorem cal64 {α : Type} {enc : α → PV} {l : List α} {p : α → Bool} {gf : Nat} {caps : List PV} (hp : ∀ x ∈ l, cal env gf (enc x :: caps) = some [(.bool (p x), false)]) (hs : ∀ x, part (enc x).cells 0 (some 2) = some (enc x)) (hl : l.length ≤ lim) :
    cal env 64 [.list 2 (l.map enc), .func gf caps] = some [(.bool (l.any p), false)] := by
  rw [cal_code env64 rfl]; simp only [fn64]; simp only [start, z_map_cons, z_map_nil, z_len_cons, z_len_nil, z_repl_zero, z_repl_succ, z_cons_app, z_nil_app, Nat.reduceAdd, Nat.reduceSub]
  simp only [cal83 hp hs hl, idxI_nonneg, vAll, List.foldl_nil, List.foldl_cons, resultsOf, resultList, resultOf, zBV, splice, PV.remade, St.freezeAt, St.freezeBox, St.freezeCap, PV.single, plain, act, dstOf, if_true, if_false, reduceCtorEq, St.get, St.put, St.pvOf, St.putRow, St.consume, St.freeze, St.row, St.elems, St.grab, St.takeRow, St.setRow, St.place, St.optPv, St.setCell, St.setCellRow, binPV, intBin, unPV, BV.val, Nat.reduceEqDiff, bound, consumeAll, buildParts, capsOf, capOf, List.append_nil, Nat.reduceAdd, Nat.reduceLT, Nat.reduceLeDiff, beq_self_eq_true, List.length_map, Nat.beq, dcall, dcallP, List.mapM_cons, St.snapFn, St.snap, St.layAll, St.lay, St.freezeArg, St.freezeArg1]
theorem eqCells_ext (x y : Exn) : eqCells [.int .i64 x.start, .int .i64 x.count] [.int .i64 y.start, .int .i64 y.count] = some (decide (x = y)) := by
  simp only [eqCells, if_true, Option.map_some]
  congr 1
  obtain ⟨a, b⟩ := x
  obtain ⟨c, d⟩ := y
  by_cases h1 : a = c <;> by_cases h2 : b = d <;> simp [h1, h2]
end Go.Proofs.Ytncobemfpammfaa.V

namespace Go.Proofs.Ytncobemfpammfaa.V
def hasX (l : List Exn) (s : Int) : Bool := decide (0 ≤ s) && (decide (s < 4096) && inS l s.toNat)
def hasE (e : Exn) (s : Int) : Bool := (wX e).2.2 && (decide (s ≥ (wX e).1) && decide (s < (wX e).2.1))
theorem hasE_eq (e : Exn) (s : Int) : hasE e s = (decide (0 ≤ s) && (decide (s < 4096) && inE e s.toNat)) := by
  unfold hasE
  cases hw : (wX e).2.2 with
  | false =>
    rw [Bool.false_and]
    by_cases h1 : 0 ≤ s
    · by_cases h2 : s < 4096
      · rw [wX_false hw (show s.toNat < 4096 by omega)]; simp
      · rw [decide_eq_false h2]; simp
    · rw [decide_eq_false h1]; simp
  | true =>
    obtain ⟨n, m, hnm, g1, g2, g3⟩ := wX_true hw
    rw [hnm, Bool.true_and]
    by_cases h1 : 0 ≤ s
    · by_cases h2 : s < 4096
      · have g4 := g3 s.toNat (by omega)
        rw [decide_eq_true h1, decide_eq_true h2, Bool.true_and, Bool.true_and]
        cases hin : inE e s.toNat with
        | true =>
          obtain ⟨k1, k2⟩ := g4.1 hin
          rw [decide_eq_true (show s ≥ (n : Int) by omega), decide_eq_true (show s < (m : Int) by omega)]; rfl
        | false =>
          cases hq : (decide (s ≥ (n : Int)) && decide (s < (m : Int))) with
          | false => rfl
          | true =>
            simp only [Bool.and_eq_true, decide_eq_true_eq] at hq
            rw [g4.2 ⟨by omega, by omega⟩] at hin; cases hin
      · rw [decide_eq_false h2, decide_eq_false (show ¬ s < (m : Int) by omega)]; simp
    · rw [decide_eq_false h1, decide_eq_false (show ¬ s ≥ (n : Int) by omega)]; simp
theorem hasX_eq (l : List Exn) (s : Int) : l.any (fun e => hasE e s) = hasX l s := by
  unfold hasX inS
  induction l with
  | nil => simp
  | cons e l ih =>
    simp only [List.any_cons, ih, hasE_eq]
    cases decide (0 ≤ s) <;> cases decide (s < 4096) <;> simp
theorem cal65 {e : Exn} {s : Int} (ho : okE e) : cal env 65 [eExt e, .iptr [.int .i64 s] 0] = some [(.bool (hasE e s), false)] := by
  have e1 := cal66 ho
  unfold hasE
  simp only [eExt] at e1 ⊢
  generalize wX e = q at *
  obtain ⟨a, b, c⟩ := q
  cases c
  · rw [cal_code env65 rfl]; simp only [fn65, slAll, Nat.reduceBEq, Nat.reduceLeDiff, Nat.reduceAdd, List.length_cons, List.length_nil]
    simp only [e1, List.length_cons, List.length_nil, slAll, Nat.reduceMul, Nat.reduceBEq, Nat.reduceLT, Nat.reduceLeDiff, Nat.zero_le, List.take_zero, List.take_nil, List.take_succ_cons, List.length_cons, List.length_nil, Nat.le_refl, List.isEmpty_nil, val_pvs, frozen_pvs, msnoc_len, msnoc_get, msnoc_set, msnoc_take, Int.le_refl, take_map_all, Nat.le_refl, St.freezeRows, BV.frozen, List.take_length, List.take_append_drop, z_repl_zero, Int.toNat_zero, true_and, and_true, and_self, eq_self, z_take_zero, List.drop_nil, List.take_nil, vAll, List.foldl_nil, List.foldl_cons, resultsOf, resultList, resultOf, zBV, splice, PV.remade, St.freezeAt, St.freezeBox, St.freezeCap, PV.single, plain, act, dstOf, if_true, if_false, reduceCtorEq, St.get, St.put, St.pvOf, St.putRow, St.consume, St.freeze, St.row, St.elems, St.grab, St.takeRow, St.setRow, St.place, St.optPv, St.setCell, St.setCellRow, binPV, intBin, unPV, BV.val, Nat.reduceEqDiff, bound, consumeAll, buildParts, capsOf, capOf, List.append_nil, Nat.reduceAdd, Nat.reduceLT, Nat.reduceLeDiff, beq_self_eq_true, List.length_map, Nat.beq, dcall, dcallP, List.mapM_cons, St.snapFn, St.snap, St.layAll, St.lay, St.freezeArg, St.freezeArg1]
  · by_cases h1 : s ≥ a
    · have h1 : (s ≥ a) = True := eq_true h1
      rw [cal_code env65 rfl]; simp only [fn65, slAll, Nat.reduceBEq, Nat.reduceLeDiff, Nat.reduceAdd, List.length_cons, List.length_nil]
      simp only [e1, h1, List.length_cons, List.length_nil, slAll, Nat.reduceMul, Nat.reduceBEq, Nat.reduceLT, Nat.reduceLeDiff, Nat.zero_le, List.take_zero, List.take_nil, List.take_succ_cons, List.length_cons, List.length_nil, Nat.le_refl, List.isEmpty_nil, val_pvs, frozen_pvs, msnoc_len, msnoc_get, msnoc_set, msnoc_take, Int.le_refl, take_map_all, Nat.le_refl, St.freezeRows, BV.frozen, List.take_length, List.take_append_drop, z_repl_zero, Int.toNat_zero, true_and, and_true, and_self, eq_self, z_take_zero, List.drop_nil, List.take_nil, vAll, List.foldl_nil, List.foldl_cons, resultsOf, resultList, resultOf, zBV, splice, PV.remade, St.freezeAt, St.freezeBox, St.freezeCap, PV.single, plain, act, dstOf, if_true, if_false, reduceCtorEq, St.get, St.put, St.pvOf, St.putRow, St.consume, St.freeze, St.row, St.elems, St.grab, St.takeRow, St.setRow, St.place, St.optPv, St.setCell, St.setCellRow, binPV, intBin, unPV, BV.val, Nat.reduceEqDiff, bound, consumeAll, buildParts, capsOf, capOf, List.append_nil, Nat.reduceAdd, Nat.reduceLT, Nat.reduceLeDiff, beq_self_eq_true, List.length_map, Nat.beq, dcall, dcallP, List.mapM_cons, St.snapFn, St.snap, St.layAll, St.lay, St.freezeArg, St.freezeArg1]
    · have h1 : (s ≥ a) = False := eq_false h1
      rw [cal_code env65 rfl]; simp only [fn65, slAll, Nat.reduceBEq, Nat.reduceLeDiff, Nat.reduceAdd, List.length_cons, List.length_nil]
      simp only [e1, h1, List.length_cons, List.length_nil, slAll, Nat.reduceMul, Nat.reduceBEq, Nat.reduceLT, Nat.reduceLeDiff, Nat.zero_le, List.take_zero, List.take_nil, List.take_succ_cons, List.length_cons, List.length_nil, Nat.le_refl, List.isEmpty_nil, val_pvs, frozen_pvs, msnoc_len, msnoc_get, msnoc_set, msnoc_take, Int.le_refl, take_map_all, Nat.le_refl, St.freezeRows, BV.frozen, List.take_length, List.take_append_drop, z_repl_zero, Int.toNat_zero, true_and, and_true, and_self, eq_self, z_take_zero, List.drop_nil, List.take_nil, vAll, List.foldl_nil, List.foldl_cons, resultsOf, resultList, resultOf, zBV, splice, PV.remade, St.freezeAt, St.freezeBox, St.freezeCap, PV.single, plain, act, dstOf, if_true, if_false, reduceCtorEq, St.get, St.put, St.pvOf, St.putRow, St.consume, St.freeze, St.row, St.elems, St.grab, St.takeRow, St.setRow, St.place, St.optPv, St.setCell, St.setCellRow, binPV, intBin, unPV, BV.val, Nat.reduceEqDiff, bound, consumeAll, buildParts, capsOf, capOf, List.append_nil, Nat.reduceAdd, Nat.reduceLT, Nat.reduceLeDiff, beq_self_eq_true, List.length_map, Nat.beq, dcall, dcallP, List.mapM_cons, St.snapFn, St.snap, St.layAll, St.lay, St.freezeArg, St.freezeArg1]
theorem cal41 {l : List Exn} {s : Int} (ho : okEs l) (hl : l.length ≤ 10000) : cal env 41 [.list 2 (l.map eExt), .int .i64 s] = some [(.bool (hasX l s), false)] := by
  have e1 := cal64 (enc := eExt) (l := l) (p := fun e => hasE e s) (gf := 65) (caps := [.iptr [.int .i64 s] 0]) (fun x hx => cal65 (ho x hx)) (fun _ => rfl) (by unfold lim; omega)
  rw [hasX_eq] at e1
  rw [cal_code env41 rfl]; simp only [fn41, slAll, Nat.reduceBEq, Nat.reduceLeDiff, Nat.reduceAdd, List.length_cons, List.length_nil]
  simp only [e1, slAll, Nat.reduceMul, Nat.reduceBEq, Nat.reduceLT, Nat.reduceLeDiff, Nat.zero_le, List.take_zero, List.take_nil, List.take_succ_cons, List.length_cons, List.length_nil, Nat.le_refl, List.isEmpty_nil, val_pvs, frozen_pvs, msnoc_len, msnoc_get, msnoc_set, msnoc_take, Int.le_refl, take_map_all, Nat.le_refl, St.freezeRows, BV.frozen, List.take_length, List.take_append_drop, z_repl_zero, Int.toNat_zero, true_and, and_true, and_self, eq_self, z_take_zero, List.drop_nil, List.take_nil, vAll, List.foldl_nil, List.foldl_cons, resultsOf, resultList, resultOf, zBV, splice, PV.remade, St.freezeAt, St.freezeBox, St.freezeCap, PV.single, plain, act, dstOf, if_true, if_false, reduceCtorEq, St.get, St.put, St.pvOf, St.putRow, St.consume, St.freeze, St.row, St.elems, St.grab, St.takeRow, St.setRow, St.place, St.optPv, St.setCell, St.setCellRow, binPV, intBin, unPV, BV.val, Nat.reduceEqDiff, bound, consumeAll, buildParts, capsOf, capOf, List.append_nil, Nat.reduceAdd, Nat.reduceLT, Nat.reduceLeDiff, beq_self_eq_true, List.length_map, Nat.beq, dcall, dcallP, List.mapM_cons, St.snapFn, St.snap, St.layAll, St.lay, St.freezeArg, St.freezeArg1]
end Go.Proofs.Ytncobemfpammfaa.V

namespace Go.Proofs.Ytncobemfpammfaa.V
end Go.Proofs.Ytncobemfpammfaa.V

namespace Go.Proofs.Ytncobemfpammfaa.V
def chkGo (size : Int) : Int → List Exn → Int
  | _, [] => 0
  | nx, e :: l => if e.count ≤ 0 then 1 else if e.start < 0 ∨ e.count > size - e.start then 2 else if e.start < nx then 3 else chkGo size (e.start + e.count + 1) l
def chkX (l : List Exn) (size : Int) : Int := if size < 0 ∨ 4096 < size then 2 else chkGo size 0 l
def nxt (l : List Exn) : Nat → Int
  | 0 => 0
  | i + 1 => match l[i]? with
    | some e => e.start + e.count + 1
    | none => 0
theorem nxt_succ {l : List Exn} {i : Nat} {e : Exn} (h : l[i]? = some e) : nxt l (i + 1) = e.start + e.count + 1 := by
  show (match l[i]? with
    | some e => e.start + e.count + 1
    | none => 0) = _
  rw [h]
set_option maxRecDepth 20000 in
theorem loop50 {l : List Exn} {size : Int} (hs : 0 ≤ size ∧ size ≤ 4096) (ho : okEs l) (hl : l.length ≤ 10000) {st : St} (h : st.head [0, 1, 5, 14, 15, 16] st.boxes.length = some ⟨sl 49 [(0, .pv (.list 2 (l.map eExt))), (1, .pv (.int .i64 size)), (5, .pv (.int .i64 (nxt l ((0 : Nat))))), (14, .pv (.list 2 (l.map eExt))), (15, .pv (.int .i64 l.length)), (16, .pv (.int .i64 (0 : Nat)))], [], [], none⟩) :
   den env fn50_l1 st = if chkGo size (nxt l ((0 : Nat))) (l.drop ((0 : Nat))) = 0 then some (.normal, ⟨sl 49 [(4, .any)], [], [], none⟩) else some (.ret, ⟨sl 49 [(4, .pv (.int .i64 (chkGo size (nxt l ((0 : Nat))) (l.drop ((0 : Nat))))))], [], [], none⟩) := by
  unfold fn50_l1
  refine clean_up (env := env) (l.length) (fun i => ⟨sl 49 [(0, .pv (.list 2 (l.map eExt))), (1, .pv (.int .i64 size)), (5, .pv (.int .i64 (nxt l (i)))), (14, .pv (.list 2 (l.map eExt))), (15, .pv (.int .i64 l.length)), (16, .pv (.int .i64 i))], [], [], none⟩) (fun i => if chkGo size (nxt l (i)) (l.drop (i)) = 0 then some (.normal, ⟨sl 49 [(4, .any)], [], [], none⟩) else some (.ret, ⟨sl 49 [(4, .pv (.int .i64 (chkGo size (nxt l (i)) (l.drop (i)))))], [], [], none⟩)) h (fun _ => rfl) (fun _ => by simp only [slAll, Nat.reduceMul, Nat.reduceBEq, Nat.reduceLT, Nat.reduceLeDiff, Nat.zero_le, List.take_zero, List.take_nil, List.take_succ_cons, List.length_cons, List.length_nil, Nat.le_refl, Nat.reduceAdd, decide_true, Bool.and_self, Bool.true_and]) ?_ ?_
  · intro i rb hi ih

    have hlim : lim = 1073741824 := rfl
    have hi1 := i64_next hi (by omega)
    have F1 : ((i : Int) < (l.length : Int)) = True := eq_true (by omega)
    have hx : l[i]? = some l[i] := List.getElem?_eq_getElem hi
    obtain ⟨⟨o1, o2⟩, o3, o4⟩ := ho _ (List.getElem_mem hi)
    rw [nxt_succ hx] at ih
    rw [List.drop_eq_getElem_cons hi]
    generalize l[i] = x at *
    have P2 : part [PV.int .i64 x.start, .int .i64 x.count] 0 (some 2) = some (.agg [.int .i64 x.start, .int .i64 x.count]) := rfl
    have ch : chkGo size (nxt l i) (x :: l.drop (i + 1)) = if x.count ≤ 0 then 1 else if x.start < 0 ∨ x.count > size - x.start then 2 else if x.start < nxt l i then 3 else chkGo size (x.start + x.count + 1) (l.drop (i + 1)) := rfl
    by_cases c1 : x.count ≤ 0
    · rw [ch, if_pos c1]
      simp only [fn50_b0, F1, hx, eExt, P2, c1, index_nat hi, List.getElem?_map, Option.map_some, List.length_map, slAll, Nat.reduceMul, Nat.reduceBEq, Nat.reduceLT, Nat.reduceLeDiff, Nat.zero_le, List.take_zero, List.take_nil, List.take_succ_cons, List.length_cons, List.length_nil, Nat.le_refl, List.isEmpty_nil, val_pvs, frozen_pvs, msnoc_len, msnoc_get, msnoc_set, msnoc_take, Int.le_refl, take_map_all, Nat.le_refl, St.freezeRows, BV.frozen, List.take_length, List.take_append_drop, z_repl_zero, Int.toNat_zero, true_and, and_true, and_self, eq_self, z_take_zero, List.drop_nil, List.take_nil, vAll, List.foldl_nil, List.foldl_cons, resultsOf, resultList, resultOf, zBV, splice, PV.remade, St.freezeAt, St.freezeBox, St.freezeCap, PV.single, plain, act, dstOf, if_true, if_false, reduceCtorEq, St.get, St.put, St.pvOf, St.putRow, St.consume, St.freeze, St.row, St.elems, St.grab, St.takeRow, St.setRow, St.place, St.optPv, St.setCell, St.setCellRow, binPV, intBin, unPV, BV.val, Nat.reduceEqDiff, bound, consumeAll, buildParts, capsOf, capOf, List.append_nil, Nat.reduceAdd, Nat.reduceLT, Nat.reduceLeDiff, beq_self_eq_true, List.length_map, Nat.beq, dcall, dcallP, List.mapM_cons, St.snapFn, St.snap, St.layAll, St.lay, St.freezeArg, St.freezeArg1]
      rfl
    · by_cases c2 : x.start < 0
      · have hv : chkGo size (nxt l i) (x :: l.drop (i + 1)) = 2 := by rw [ch, if_neg c1, if_pos (.inl c2)]
        rw [hv]
        simp only [fn50_b0, F1, hx, eExt, P2, c1, c2, index_nat hi, List.getElem?_map, Option.map_some, List.length_map, slAll, Nat.reduceMul, Nat.reduceBEq, Nat.reduceLT, Nat.reduceLeDiff, Nat.zero_le, List.take_zero, List.take_nil, List.take_succ_cons, List.length_cons, List.length_nil, Nat.le_refl, List.isEmpty_nil, val_pvs, frozen_pvs, msnoc_len, msnoc_get, msnoc_set, msnoc_take, Int.le_refl, take_map_all, Nat.le_refl, St.freezeRows, BV.frozen, List.take_length, List.take_append_drop, z_repl_zero, Int.toNat_zero, true_and, and_true, and_self, eq_self, z_take_zero, List.drop_nil, List.take_nil, vAll, List.foldl_nil, List.foldl_cons, resultsOf, resultList, resultOf, zBV, splice, PV.remade, St.freezeAt, St.freezeBox, St.freezeCap, PV.single, plain, act, dstOf, if_true, if_false, reduceCtorEq, St.get, St.put, St.pvOf, St.putRow, St.consume, St.freeze, St.row, St.elems, St.grab, St.takeRow, St.setRow, St.place, St.optPv, St.setCell, St.setCellRow, binPV, intBin, unPV, BV.val, Nat.reduceEqDiff, bound, consumeAll, buildParts, capsOf, capOf, List.append_nil, Nat.reduceAdd, Nat.reduceLT, Nat.reduceLeDiff, beq_self_eq_true, List.length_map, Nat.beq, dcall, dcallP, List.mapM_cons, St.snapFn, St.snap, St.layAll, St.lay, St.freezeArg, St.freezeArg1]
        rfl
      · have W1 : IntKind.i64.wrap (size - x.start) = size - x.start := i64_fits (by omega)
        by_cases c3 : x.count > size - x.start
        · have hv : chkGo size (nxt l i) (x :: l.drop (i + 1)) = 2 := by rw [ch, if_neg c1, if_pos (.inr c3)]
          rw [hv]
          have c3' : (x.count > size - x.start) = True := eq_true c3
          simp only [fn50_b0, F1, hx, eExt, P2, c1, c2, c3', W1, index_nat hi, List.getElem?_map, Option.map_some, List.length_map, slAll, Nat.reduceMul, Nat.reduceBEq, Nat.reduceLT, Nat.reduceLeDiff, Nat.zero_le, List.take_zero, List.take_nil, List.take_succ_cons, List.length_cons, List.length_nil, Nat.le_refl, List.isEmpty_nil, val_pvs, frozen_pvs, msnoc_len, msnoc_get, msnoc_set, msnoc_take, Int.le_refl, take_map_all, Nat.le_refl, St.freezeRows, BV.frozen, List.take_length, List.take_append_drop, z_repl_zero, Int.toNat_zero, true_and, and_true, and_self, eq_self, z_take_zero, List.drop_nil, List.take_nil, vAll, List.foldl_nil, List.foldl_cons, resultsOf, resultList, resultOf, zBV, splice, PV.remade, St.freezeAt, St.freezeBox, St.freezeCap, PV.single, plain, act, dstOf, if_true, if_false, reduceCtorEq, St.get, St.put, St.pvOf, St.putRow, St.consume, St.freeze, St.row, St.elems, St.grab, St.takeRow, St.setRow, St.place, St.optPv, St.setCell, St.setCellRow, binPV, intBin, unPV, BV.val, Nat.reduceEqDiff, bound, consumeAll, buildParts, capsOf, capOf, List.append_nil, Nat.reduceAdd, Nat.reduceLT, Nat.reduceLeDiff, beq_self_eq_true, List.length_map, Nat.beq, dcall, dcallP, List.mapM_cons, St.snapFn, St.snap, St.layAll, St.lay, St.freezeArg, St.freezeArg1]
          rfl
        · have c3' : (x.count > size - x.start) = False := eq_false c3
          by_cases c4 : x.start < nxt l i
          · have hv : chkGo size (nxt l i) (x :: l.drop (i + 1)) = 3 := by rw [ch, if_neg c1, if_neg (by omega), if_pos c4]
            rw [hv]
            simp only [fn50_b0, F1, hx, eExt, P2, c1, c2, c3', c4, W1, index_nat hi, List.getElem?_map, Option.map_some, List.length_map, slAll, Nat.reduceMul, Nat.reduceBEq, Nat.reduceLT, Nat.reduceLeDiff, Nat.zero_le, List.take_zero, List.take_nil, List.take_succ_cons, List.length_cons, List.length_nil, Nat.le_refl, List.isEmpty_nil, val_pvs, frozen_pvs, msnoc_len, msnoc_get, msnoc_set, msnoc_take, Int.le_refl, take_map_all, Nat.le_refl, St.freezeRows, BV.frozen, List.take_length, List.take_append_drop, z_repl_zero, Int.toNat_zero, true_and, and_true, and_self, eq_self, z_take_zero, List.drop_nil, List.take_nil, vAll, List.foldl_nil, List.foldl_cons, resultsOf, resultList, resultOf, zBV, splice, PV.remade, St.freezeAt, St.freezeBox, St.freezeCap, PV.single, plain, act, dstOf, if_true, if_false, reduceCtorEq, St.get, St.put, St.pvOf, St.putRow, St.consume, St.freeze, St.row, St.elems, St.grab, St.takeRow, St.setRow, St.place, St.optPv, St.setCell, St.setCellRow, binPV, intBin, unPV, BV.val, Nat.reduceEqDiff, bound, consumeAll, buildParts, capsOf, capOf, List.append_nil, Nat.reduceAdd, Nat.reduceLT, Nat.reduceLeDiff, beq_self_eq_true, List.length_map, Nat.beq, dcall, dcallP, List.mapM_cons, St.snapFn, St.snap, St.layAll, St.lay, St.freezeArg, St.freezeArg1]
            rfl
          · have hv : chkGo size (nxt l i) (x :: l.drop (i + 1)) = chkGo size (x.start + x.count + 1) (l.drop (i + 1)) := by rw [ch, if_neg c1, if_neg (by omega), if_neg c4]
            rw [hv]
            have W2 : IntKind.i64.wrap (x.start + x.count) = x.start + x.count := i64_fits (by omega)
            have W3 : IntKind.i64.wrap (x.start + x.count + 1) = x.start + x.count + 1 := i64_fits (by omega)
            simp only [fn50_b0, F1, hx, eExt, P2, c1, c2, c3', c4, W1, W2, W3, index_nat hi, List.getElem?_map, Option.map_some, List.length_map, slAll, Nat.reduceMul, Nat.reduceBEq, Nat.reduceLT, Nat.reduceLeDiff, Nat.zero_le, List.take_zero, List.take_nil, List.take_succ_cons, List.length_cons, List.length_nil, Nat.le_refl, List.isEmpty_nil, val_pvs, frozen_pvs, msnoc_len, msnoc_get, msnoc_set, msnoc_take, Int.le_refl, take_map_all, Nat.le_refl, St.freezeRows, BV.frozen, List.take_length, List.take_append_drop, z_repl_zero, Int.toNat_zero, true_and, and_true, and_self, eq_self, z_take_zero, List.drop_nil, List.take_nil, vAll, List.foldl_nil, List.foldl_cons, resultsOf, resultList, resultOf, zBV, splice, PV.remade, St.freezeAt, St.freezeBox, St.freezeCap, PV.single, plain, act, dstOf, if_true, if_false, reduceCtorEq, St.get, St.put, St.pvOf, St.putRow, St.consume, St.freeze, St.row, St.elems, St.grab, St.takeRow, St.setRow, St.place, St.optPv, St.setCell, St.setCellRow, binPV, intBin, unPV, BV.val, Nat.reduceEqDiff, bound, consumeAll, buildParts, capsOf, capOf, List.append_nil, Nat.reduceAdd, Nat.reduceLT, Nat.reduceLeDiff, beq_self_eq_true, List.length_map, Nat.beq, dcall, dcallP, List.mapM_cons, St.snapFn, St.snap, St.layAll, St.lay, St.freezeArg, St.freezeArg1]
            have hn : nxt l (i + 1) = x.start + x.count + 1 := nxt_succ hx
            rw [ih _ (by simp only [hi1, hn, slAll, Nat.reduceMul, Nat.reduceBEq, Nat.reduceLT, Nat.reduceLeDiff, Nat.zero_le, List.take_zero, List.take_nil, List.take_succ_cons, List.length_cons, List.length_nil, Nat.le_refl, List.isEmpty_nil, val_pvs, frozen_pvs, msnoc_len, msnoc_get, msnoc_set, msnoc_take, Int.le_refl, take_map_all, Nat.le_refl, St.freezeRows, BV.frozen, List.take_length, List.take_append_drop, z_repl_zero, Int.toNat_zero, true_and, and_true, and_self, eq_self, z_take_zero, List.drop_nil, List.take_nil, vAll, List.foldl_nil, List.foldl_cons, resultsOf, resultList, resultOf, zBV, splice, PV.remade, St.freezeAt, St.freezeBox, St.freezeCap, PV.single, plain, act, dstOf, if_true, if_false, reduceCtorEq, St.get, St.put, St.pvOf, St.putRow, St.consume, St.freeze, St.row, St.elems, St.grab, St.takeRow, St.setRow, St.place, St.optPv, St.setCell, St.setCellRow, binPV, intBin, unPV, BV.val, Nat.reduceEqDiff, bound, consumeAll, buildParts, capsOf, capOf, List.append_nil, Nat.reduceAdd, Nat.reduceLT, Nat.reduceLeDiff, beq_self_eq_true, List.length_map, Nat.beq, dcall, dcallP, List.mapM_cons, St.snapFn, St.snap, St.layAll, St.lay, St.freezeArg, St.freezeArg1] <;> rfl)]
  · intro rb

    simp only [fn50_b0, Int.lt_irrefl, List.length_map, List.drop_length, chkGo, if_true, slAll, Nat.reduceMul, Nat.reduceBEq, Nat.reduceLT, Nat.reduceLeDiff, Nat.zero_le, List.take_zero, List.take_nil, List.take_succ_cons, List.length_cons, List.length_nil, Nat.le_refl, List.isEmpty_nil, val_pvs, frozen_pvs, msnoc_len, msnoc_get, msnoc_set, msnoc_take, Int.le_refl, take_map_all, Nat.le_refl, St.freezeRows, BV.frozen, List.take_length, List.take_append_drop, z_repl_zero, Int.toNat_zero, true_and, and_true, and_self, eq_self, z_take_zero, List.drop_nil, List.take_nil, vAll, List.foldl_nil, List.foldl_cons, resultsOf, resultList, resultOf, zBV, splice, PV.remade, St.freezeAt, St.freezeBox, St.freezeCap, PV.single, plain, act, dstOf, if_true, if_false, reduceCtorEq, St.get, St.put, St.pvOf, St.putRow, St.consume, St.freeze, St.row, St.elems, St.grab, St.takeRow, St.setRow, St.place, St.optPv, St.setCell, St.setCellRow, binPV, intBin, unPV, BV.val, Nat.reduceEqDiff, bound, consumeAll, buildParts, capsOf, capOf, List.append_nil, Nat.reduceAdd, Nat.reduceLT, Nat.reduceLeDiff, beq_self_eq_true, List.length_map, Nat.beq, dcall, dcallP, List.mapM_cons, St.snapFn, St.snap, St.layAll, St.lay, St.freezeArg, St.freezeArg1]

theorem cal50 {l : List Exn} {size : Int} (ho : okEs l) (hl : l.length ≤ 10000) : cal env 50 [.list 2 (l.map eExt), .int .i64 size] = some [(.int .i64 (chkX l size), false)] := by
  unfold chkX
  by_cases c1 : size < 0
  · rw [if_pos (.inl c1)]
    rw [cal_code env50 rfl]; simp only [fn50, slAll, Nat.reduceBEq, Nat.reduceLeDiff, Nat.reduceAdd, List.length_cons, List.length_nil]
    simp only [c1, slAll, Nat.reduceMul, Nat.reduceBEq, Nat.reduceLT, Nat.reduceLeDiff, Nat.zero_le, List.take_zero, List.take_nil, List.take_succ_cons, List.length_cons, List.length_nil, Nat.le_refl, List.isEmpty_nil, val_pvs, frozen_pvs, msnoc_len, msnoc_get, msnoc_set, msnoc_take, Int.le_refl, take_map_all, Nat.le_refl, St.freezeRows, BV.frozen, List.take_length, List.take_append_drop, z_repl_zero, Int.toNat_zero, true_and, and_true, and_self, eq_self, z_take_zero, List.drop_nil, List.take_nil, vAll, List.foldl_nil, List.foldl_cons, resultsOf, resultList, resultOf, zBV, splice, PV.remade, St.freezeAt, St.freezeBox, St.freezeCap, PV.single, plain, act, dstOf, if_true, if_false, reduceCtorEq, St.get, St.put, St.pvOf, St.putRow, St.consume, St.freeze, St.row, St.elems, St.grab, St.takeRow, St.setRow, St.place, St.optPv, St.setCell, St.setCellRow, binPV, intBin, unPV, BV.val, Nat.reduceEqDiff, bound, consumeAll, buildParts, capsOf, capOf, List.append_nil, Nat.reduceAdd, Nat.reduceLT, Nat.reduceLeDiff, beq_self_eq_true, List.length_map, Nat.beq, dcall, dcallP, List.mapM_cons, St.snapFn, St.snap, St.layAll, St.lay, St.freezeArg, St.freezeArg1]
  · by_cases c2 : 4096 < size
    · rw [if_pos (.inr c2)]
      have c2' : (size > 4096) = True := eq_true c2
      rw [cal_code env50 rfl]; simp only [fn50, slAll, Nat.reduceBEq, Nat.reduceLeDiff, Nat.reduceAdd, List.length_cons, List.length_nil]
      simp only [c1, c2', slAll, Nat.reduceMul, Nat.reduceBEq, Nat.reduceLT, Nat.reduceLeDiff, Nat.zero_le, List.take_zero, List.take_nil, List.take_succ_cons, List.length_cons, List.length_nil, Nat.le_refl, List.isEmpty_nil, val_pvs, frozen_pvs, msnoc_len, msnoc_get, msnoc_set, msnoc_take, Int.le_refl, take_map_all, Nat.le_refl, St.freezeRows, BV.frozen, List.take_length, List.take_append_drop, z_repl_zero, Int.toNat_zero, true_and, and_true, and_self, eq_self, z_take_zero, List.drop_nil, List.take_nil, vAll, List.foldl_nil, List.foldl_cons, resultsOf, resultList, resultOf, zBV, splice, PV.remade, St.freezeAt, St.freezeBox, St.freezeCap, PV.single, plain, act, dstOf, if_true, if_false, reduceCtorEq, St.get, St.put, St.pvOf, St.putRow, St.consume, St.freeze, St.row, St.elems, St.grab, St.takeRow, St.setRow, St.place, St.optPv, St.setCell, St.setCellRow, binPV, intBin, unPV, BV.val, Nat.reduceEqDiff, bound, consumeAll, buildParts, capsOf, capOf, List.append_nil, Nat.reduceAdd, Nat.reduceLT, Nat.reduceLeDiff, beq_self_eq_true, List.length_map, Nat.beq, dcall, dcallP, List.mapM_cons, St.snapFn, St.snap, St.layAll, St.lay, St.freezeArg, St.freezeArg1]
    · rw [if_neg (by omega)]
      have c2' : (size > 4096) = False := eq_false c2
      rw [cal_code env50 rfl]; simp only [fn50, slAll, Nat.reduceBEq, Nat.reduceLeDiff, Nat.reduceAdd, List.length_cons, List.length_nil]
      simp only [c1, c2', List.length_map, slAll, Nat.reduceMul, Nat.reduceBEq, Nat.reduceLT, Nat.reduceLeDiff, Nat.zero_le, List.take_zero, List.take_nil, List.take_succ_cons, List.length_cons, List.length_nil, Nat.le_refl, List.isEmpty_nil, val_pvs, frozen_pvs, msnoc_len, msnoc_get, msnoc_set, msnoc_take, Int.le_refl, take_map_all, Nat.le_refl, St.freezeRows, BV.frozen, List.take_length, List.take_append_drop, z_repl_zero, Int.toNat_zero, true_and, and_true, and_self, eq_self, z_take_zero, List.drop_nil, List.take_nil, vAll, List.foldl_nil, List.foldl_cons, resultsOf, resultList, resultOf, zBV, splice, PV.remade, St.freezeAt, St.freezeBox, St.freezeCap, PV.single, plain, act, dstOf, if_true, if_false, reduceCtorEq, St.get, St.put, St.pvOf, St.putRow, St.consume, St.freeze, St.row, St.elems, St.grab, St.takeRow, St.setRow, St.place, St.optPv, St.setCell, St.setCellRow, binPV, intBin, unPV, BV.val, Nat.reduceEqDiff, bound, consumeAll, buildParts, capsOf, capOf, List.append_nil, Nat.reduceAdd, Nat.reduceLT, Nat.reduceLeDiff, beq_self_eq_true, List.length_map, Nat.beq, dcall, dcallP, List.mapM_cons, St.snapFn, St.snap, St.layAll, St.lay, St.freezeArg, St.freezeArg1]
      rw [loop50 (size := size) ⟨by omega, by omega⟩ ho hl (by simp only [nxt, slAll, Nat.reduceMul, Nat.reduceBEq, Nat.reduceLT, Nat.reduceLeDiff, Nat.zero_le, List.take_zero, List.take_nil, List.take_succ_cons, List.length_cons, List.length_nil, Nat.le_refl, List.isEmpty_nil, val_pvs, frozen_pvs, msnoc_len, msnoc_get, msnoc_set, msnoc_take, Int.le_refl, take_map_all, Nat.le_refl, St.freezeRows, BV.frozen, List.take_length, List.take_append_drop, z_repl_zero, Int.toNat_zero, true_and, and_true, and_self, eq_self, z_take_zero, List.drop_nil, List.take_nil, vAll, List.foldl_nil, List.foldl_cons, resultsOf, resultList, resultOf, zBV, splice, PV.remade, St.freezeAt, St.freezeBox, St.freezeCap, PV.single, plain, act, dstOf, if_true, if_false, reduceCtorEq, St.get, St.put, St.pvOf, St.putRow, St.consume, St.freeze, St.row, St.elems, St.grab, St.takeRow, St.setRow, St.place, St.optPv, St.setCell, St.setCellRow, binPV, intBin, unPV, BV.val, Nat.reduceEqDiff, bound, consumeAll, buildParts, capsOf, capOf, List.append_nil, Nat.reduceAdd, Nat.reduceLT, Nat.reduceLeDiff, beq_self_eq_true, List.length_map, Nat.beq, dcall, dcallP, List.mapM_cons, St.snapFn, St.snap, St.layAll, St.lay, St.freezeArg, St.freezeArg1] <;> rfl)]
      rw [List.drop_zero]
      have h0 : nxt l 0 = 0 := rfl
      rw [h0]
      split
      · rename_i h
        rw [h]
        simp only [c1, c2', List.length_map, slAll, Nat.reduceMul, Nat.reduceBEq, Nat.reduceLT, Nat.reduceLeDiff, Nat.zero_le, List.take_zero, List.take_nil, List.take_succ_cons, List.length_cons, List.length_nil, Nat.le_refl, List.isEmpty_nil, val_pvs, frozen_pvs, msnoc_len, msnoc_get, msnoc_set, msnoc_take, Int.le_refl, take_map_all, Nat.le_refl, St.freezeRows, BV.frozen, List.take_length, List.take_append_drop, z_repl_zero, Int.toNat_zero, true_and, and_true, and_self, eq_self, z_take_zero, List.drop_nil, List.take_nil, vAll, List.foldl_nil, List.foldl_cons, resultsOf, resultList, resultOf, zBV, splice, PV.remade, St.freezeAt, St.freezeBox, St.freezeCap, PV.single, plain, act, dstOf, if_true, if_false, reduceCtorEq, St.get, St.put, St.pvOf, St.putRow, St.consume, St.freeze, St.row, St.elems, St.grab, St.takeRow, St.setRow, St.place, St.optPv, St.setCell, St.setCellRow, binPV, intBin, unPV, BV.val, Nat.reduceEqDiff, bound, consumeAll, buildParts, capsOf, capOf, List.append_nil, Nat.reduceAdd, Nat.reduceLT, Nat.reduceLeDiff, beq_self_eq_true, List.length_map, Nat.beq, dcall, dcallP, List.mapM_cons, St.snapFn, St.snap, St.layAll, St.lay, St.freezeArg, St.freezeArg1]
      · simp only [c1, c2', List.length_map, slAll, Nat.reduceMul, Nat.reduceBEq, Nat.reduceLT, Nat.reduceLeDiff, Nat.zero_le, List.take_zero, List.take_nil, List.take_succ_cons, List.length_cons, List.length_nil, Nat.le_refl, List.isEmpty_nil, val_pvs, frozen_pvs, msnoc_len, msnoc_get, msnoc_set, msnoc_take, Int.le_refl, take_map_all, Nat.le_refl, St.freezeRows, BV.frozen, List.take_length, List.take_append_drop, z_repl_zero, Int.toNat_zero, true_and, and_true, and_self, eq_self, z_take_zero, List.drop_nil, List.take_nil, vAll, List.foldl_nil, List.foldl_cons, resultsOf, resultList, resultOf, zBV, splice, PV.remade, St.freezeAt, St.freezeBox, St.freezeCap, PV.single, plain, act, dstOf, if_true, if_false, reduceCtorEq, St.get, St.put, St.pvOf, St.putRow, St.consume, St.freeze, St.row, St.elems, St.grab, St.takeRow, St.setRow, St.place, St.optPv, St.setCell, St.setCellRow, binPV, intBin, unPV, BV.val, Nat.reduceEqDiff, bound, consumeAll, buildParts, capsOf, capOf, List.append_nil, Nat.reduceAdd, Nat.reduceLT, Nat.reduceLeDiff, beq_self_eq_true, List.length_map, Nat.beq, dcall, dcallP, List.mapM_cons, St.snapFn, St.snap, St.layAll, St.lay, St.freezeArg, St.freezeArg1]
end Go.Proofs.Ytncobemfpammfaa.V

namespace Go.Proofs.Ytncobemfpammfaa.V

def eImg (im : Img) : PV := .list 1 (im.map eSecs)
def pairErr (a b : Img) : Int := if imCheck a ≠ 0 then imCheck a else if imCheck b ≠ 0 then imCheck b else if imSizes a = imSizes b then 0 else 22
def differ (a b : Img) : List (List Exn) := (a.zip b).map fun q => volDiff q.1 q.2
def differOut (a b : Img) : List (List Exn) := if pairErr a b = 0 then differ a b else []
theorem sizes_inj {a b : Img} (h : imSizes a = imSizes b) : a.length = b.length ∧ ∀ i (h1 : i < a.length) (h2 : i < b.length), a[i].length = b[i].length := by
  have hl : a.length = b.length := by simpa [imSizes] using congrArg List.length h
  refine ⟨hl, fun i h1 h2 => ?_⟩
  have := congrArg (fun l => l[i]?) h
  simp only [imSizes, List.getElem?_map, List.getElem?_eq_getElem h1, List.getElem?_eq_getElem h2, Option.map_some, Option.some.injEq] at this
  omega
theorem loop46 {A B : PV} {l : List Img} (hl : l.length ≤ lim) (hi0 : ∀ im ∈ l, im.length ≤ lim) {st : St} (h : st.head [0, 1, 10, 11, 12] st.boxes.length = some ⟨[.pv A, .pv B, .any, .any, .any, .any, .any, .any, .any, .any, .row 1 (l.map eImg), .pv (.int .i64 l.length), .pv (.int .i64 (0 : Nat)), .any, .any, .any, .any, .any, .any, .any, .any, .any, .any, .any, .any, .any, .any, .any], [], [], none⟩) :
   den env fn46_l1 st = match l.find? (fun im => decide (imCheck im ≠ 0)) with | some im => some (.ret, ⟨[.pv A, .pv B, .any, .any, .pv (.int .i64 (imCheck im)), .any, .any, .any, .any, .any, .any, .any, .any, .any, .any, .any, .any, .any, .any, .any, .any, .any, .any, .any, .any, .any, .any, .any], [], [], none⟩) | none => some (.normal, ⟨[.pv A, .pv B, .any, .any, .any, .any, .any, .any, .any, .any, .any, .any, .any, .any, .any, .any, .any, .any, .any, .any, .any, .any, .any, .any, .any, .any, .any, .any], [], [], none⟩) := by
  unfold fn46_l1
  rw [ clean_up (env := env) (l.length) (fun i => ⟨[.pv A, .pv B, .any, .any, .any, .any, .any, .any, .any, .any, .row 1 (l.map eImg), .pv (.int .i64 l.length), .pv (.int .i64 i), .any, .any, .any, .any, .any, .any, .any, .any, .any, .any, .any, .any, .any, .any, .any], [], [], none⟩) (fun i => match (l.drop i).find? (fun im => decide (imCheck im ≠ 0)) with | some im => some (.ret, ⟨[.pv A, .pv B, .any, .any, .pv (.int .i64 (imCheck im)), .any, .any, .any, .any, .any, .any, .any, .any, .any, .any, .any, .any, .any, .any, .any, .any, .any, .any, .any, .any, .any, .any, .any], [], [], none⟩) | none => some (.normal, ⟨[.pv A, .pv B, .any, .any, .any, .any, .any, .any, .any, .any, .any, .any, .any, .any, .any, .any, .any, .any, .any, .any, .any, .any, .any, .any, .any, .any, .any, .any], [], [], none⟩)) h (fun _ => rfl) (fun _ => rfl) ?_ ?_]
  · first | rfl | simp only [List.drop_zero, List.take_zero, List.map_nil, Nat.zero_add, List.nil_append, List.foldl_nil]
  · intro i rb hi ih

    have hi1 := i64_next hi hl
    have F1 : ((i : Int) < (l.length : Int)) = True := eq_true (by omega)
    have e1 := cal38 (hi0 _ (List.getElem_mem hi))
    rw [List.drop_eq_getElem_cons hi, List.find?_cons]
    by_cases hc : imCheck l[i] = 0
    · have F2 : (imCheck l[i] != 0) = false := by simp [hc]
      simp only [fn46_b0, F1, F2, e1, eImg, index_nat hi, List.getElem?_map, List.getElem?_eq_getElem hi, List.isEmpty_nil, val_pvs, frozen_pvs, msnoc_len, msnoc_get, msnoc_set, msnoc_take, Int.le_refl, take_map_all, Nat.le_refl, St.freezeRows, BV.frozen, List.take_length, List.take_append_drop, z_repl_zero, Int.toNat_zero, true_and, and_true, and_self, eq_self, z_take_zero, List.drop_nil, List.take_nil, vAll, List.foldl_nil, List.foldl_cons, resultsOf, resultList, resultOf, zBV, splice, PV.remade, St.freezeAt, St.freezeBox, St.freezeCap, PV.single, plain, act, dstOf, if_true, if_false, reduceCtorEq, St.get, St.put, St.pvOf, St.putRow, St.consume, St.freeze, St.row, St.elems, St.grab, St.takeRow, St.setRow, St.place, St.optPv, St.setCell, St.setCellRow, binPV, intBin, unPV, BV.val, Nat.reduceEqDiff, bound, consumeAll, buildParts, capsOf, capOf, List.append_nil, Nat.reduceAdd, Nat.reduceLT, Nat.reduceLeDiff, beq_self_eq_true, List.length_map, Nat.beq, dcall, dcallP, List.mapM_cons, St.snapFn, St.snap, St.layAll, St.lay, St.freezeArg, St.freezeArg1]
      rw [ih _ (by simp only [hi1]; rfl)]
      simp only [hc, ne_eq, not_true, decide_false]
    · have F2 : (imCheck l[i] != 0) = true := by simp [hc]
      simp only [fn46_b0, F1, F2, e1, eImg, index_nat hi, List.getElem?_map, List.getElem?_eq_getElem hi, List.isEmpty_nil, val_pvs, frozen_pvs, msnoc_len, msnoc_get, msnoc_set, msnoc_take, Int.le_refl, take_map_all, Nat.le_refl, St.freezeRows, BV.frozen, List.take_length, List.take_append_drop, z_repl_zero, Int.toNat_zero, true_and, and_true, and_self, eq_self, z_take_zero, List.drop_nil, List.take_nil, vAll, List.foldl_nil, List.foldl_cons, resultsOf, resultList, resultOf, zBV, splice, PV.remade, St.freezeAt, St.freezeBox, St.freezeCap, PV.single, plain, act, dstOf, if_true, if_false, reduceCtorEq, St.get, St.put, St.pvOf, St.putRow, St.consume, St.freeze, St.row, St.elems, St.grab, St.takeRow, St.setRow, St.place, St.optPv, St.setCell, St.setCellRow, binPV, intBin, unPV, BV.val, Nat.reduceEqDiff, bound, consumeAll, buildParts, capsOf, capOf, List.append_nil, Nat.reduceAdd, Nat.reduceLT, Nat.reduceLeDiff, beq_self_eq_true, List.length_map, Nat.beq, dcall, dcallP, List.mapM_cons, St.snapFn, St.snap, St.layAll, St.lay, St.freezeArg, St.freezeArg1]
      simp only [hc, ne_eq, not_false_eq_true, decide_true]
      rfl
  · intro rb

    simp only [fn46_b0, Int.lt_irrefl,  List.isEmpty_nil, val_pvs, frozen_pvs, msnoc_len, msnoc_get, msnoc_set, msnoc_take, Int.le_refl, take_map_all, Nat.le_refl, St.freezeRows, BV.frozen, List.take_length, List.take_append_drop, z_repl_zero, Int.toNat_zero, true_and, and_true, and_self, eq_self, z_take_zero, List.drop_nil, List.take_nil, vAll, List.foldl_nil, List.foldl_cons, resultsOf, resultList, resultOf, zBV, splice, PV.remade, St.freezeAt, St.freezeBox, St.freezeCap, PV.single, plain, act, dstOf, if_true, if_false, reduceCtorEq, St.get, St.put, St.pvOf, St.putRow, St.consume, St.freeze, St.row, St.elems, St.grab, St.takeRow, St.setRow, St.place, St.optPv, St.setCell, St.setCellRow, binPV, intBin, unPV, BV.val, Nat.reduceEqDiff, bound, consumeAll, buildParts, capsOf, capOf, List.append_nil, Nat.reduceAdd, Nat.reduceLT, Nat.reduceLeDiff, beq_self_eq_true, List.length_map, Nat.beq, dcall, dcallP, List.mapM_cons, St.snapFn, St.snap, St.layAll, St.lay, St.freezeArg, St.freezeArg1]
    rw [List.drop_length]
    rfl

theorem cal46 {a b : Img} (ha : a.length ≤ lim) (hb : b.length ≤ lim) : cal env 46 [.list 1 (a.map eSecs), .list 1 (b.map eSecs)] = some [(.int .i64 (pairErr a b), false)] := by
  have h2 : ∀ im ∈ [a, b], im.length ≤ lim := by simp; exact ⟨ha, hb⟩
  have e1 := cal62 ha
  have e2 := cal62 hb
  have e3 := cal69 (l := imSizes a) (m := imSizes b) (by simpa [imSizes] using ha)
  rw [cal_code env46 rfl]; simp only [fn46]; simp only [start, z_map_cons, z_map_nil, z_len_cons, z_len_nil, z_repl_zero, z_repl_succ, z_cons_app, z_nil_app, Nat.reduceAdd, Nat.reduceSub]
  simp only [e1, e2, e3, List.isEmpty_nil, val_pvs, frozen_pvs, msnoc_len, msnoc_get, msnoc_set, msnoc_take, Int.le_refl, take_map_all, Nat.le_refl, St.freezeRows, BV.frozen, List.take_length, List.take_append_drop, z_repl_zero, Int.toNat_zero, true_and, and_true, and_self, eq_self, z_take_zero, List.drop_nil, List.take_nil, vAll, List.foldl_nil, List.foldl_cons, resultsOf, resultList, resultOf, zBV, splice, PV.remade, St.freezeAt, St.freezeBox, St.freezeCap, PV.single, plain, act, dstOf, if_true, if_false, reduceCtorEq, St.get, St.put, St.pvOf, St.putRow, St.consume, St.freeze, St.row, St.elems, St.grab, St.takeRow, St.setRow, St.place, St.optPv, St.setCell, St.setCellRow, binPV, intBin, unPV, BV.val, Nat.reduceEqDiff, bound, consumeAll, buildParts, capsOf, capOf, List.append_nil, Nat.reduceAdd, Nat.reduceLT, Nat.reduceLeDiff, beq_self_eq_true, List.length_map, Nat.beq, dcall, dcallP, List.mapM_cons, St.snapFn, St.snap, St.layAll, St.lay, St.freezeArg, St.freezeArg1]
  rw [loop46 (l := [a, b]) (by simp [lim]) h2]
  rotate_left
  · rfl
  · simp only [List.find?_cons, List.find?_nil, pairErr]
    by_cases c1 : imCheck a = 0
    · by_cases c2 : imCheck b = 0
      · by_cases c4 : imSizes a = imSizes b
        · have hd := decide_eq_true c4
          simp only [c1, c2, hd, ne_eq, not_true, decide_false, e1, e2, e3, List.isEmpty_nil, val_pvs, frozen_pvs, msnoc_len, msnoc_get, msnoc_set, msnoc_take, Int.le_refl, take_map_all, Nat.le_refl, St.freezeRows, BV.frozen, List.take_length, List.take_append_drop, z_repl_zero, Int.toNat_zero, true_and, and_true, and_self, eq_self, z_take_zero, List.drop_nil, List.take_nil, vAll, List.foldl_nil, List.foldl_cons, resultsOf, resultList, resultOf, zBV, splice, PV.remade, St.freezeAt, St.freezeBox, St.freezeCap, PV.single, plain, act, dstOf, if_true, if_false, reduceCtorEq, St.get, St.put, St.pvOf, St.putRow, St.consume, St.freeze, St.row, St.elems, St.grab, St.takeRow, St.setRow, St.place, St.optPv, St.setCell, St.setCellRow, binPV, intBin, unPV, BV.val, Nat.reduceEqDiff, bound, consumeAll, buildParts, capsOf, capOf, List.append_nil, Nat.reduceAdd, Nat.reduceLT, Nat.reduceLeDiff, beq_self_eq_true, List.length_map, Nat.beq, dcall, dcallP, List.mapM_cons, St.snapFn, St.snap, St.layAll, St.lay, St.freezeArg, St.freezeArg1]
          rw [if_pos c4]
        · have hd := decide_eq_false c4
          simp only [c1, c2, hd, ne_eq, not_true, decide_false, e1, e2, e3, List.isEmpty_nil, val_pvs, frozen_pvs, msnoc_len, msnoc_get, msnoc_set, msnoc_take, Int.le_refl, take_map_all, Nat.le_refl, St.freezeRows, BV.frozen, List.take_length, List.take_append_drop, z_repl_zero, Int.toNat_zero, true_and, and_true, and_self, eq_self, z_take_zero, List.drop_nil, List.take_nil, vAll, List.foldl_nil, List.foldl_cons, resultsOf, resultList, resultOf, zBV, splice, PV.remade, St.freezeAt, St.freezeBox, St.freezeCap, PV.single, plain, act, dstOf, if_true, if_false, reduceCtorEq, St.get, St.put, St.pvOf, St.putRow, St.consume, St.freeze, St.row, St.elems, St.grab, St.takeRow, St.setRow, St.place, St.optPv, St.setCell, St.setCellRow, binPV, intBin, unPV, BV.val, Nat.reduceEqDiff, bound, consumeAll, buildParts, capsOf, capOf, List.append_nil, Nat.reduceAdd, Nat.reduceLT, Nat.reduceLeDiff, beq_self_eq_true, List.length_map, Nat.beq, dcall, dcallP, List.mapM_cons, St.snapFn, St.snap, St.layAll, St.lay, St.freezeArg, St.freezeArg1]
          rw [if_neg c4]
      · simp only [c1, c2, ne_eq, not_true, not_false_eq_true, decide_false, decide_true, if_false, if_true, e1, e2, e3, List.isEmpty_nil, val_pvs, frozen_pvs, msnoc_len, msnoc_get, msnoc_set, msnoc_take, Int.le_refl, take_map_all, Nat.le_refl, St.freezeRows, BV.frozen, List.take_length, List.take_append_drop, z_repl_zero, Int.toNat_zero, true_and, and_true, and_self, eq_self, z_take_zero, List.drop_nil, List.take_nil, vAll, List.foldl_nil, List.foldl_cons, resultsOf, resultList, resultOf, zBV, splice, PV.remade, St.freezeAt, St.freezeBox, St.freezeCap, PV.single, plain, act, dstOf, if_true, if_false, reduceCtorEq, St.get, St.put, St.pvOf, St.putRow, St.consume, St.freeze, St.row, St.elems, St.grab, St.takeRow, St.setRow, St.place, St.optPv, St.setCell, St.setCellRow, binPV, intBin, unPV, BV.val, Nat.reduceEqDiff, bound, consumeAll, buildParts, capsOf, capOf, List.append_nil, Nat.reduceAdd, Nat.reduceLT, Nat.reduceLeDiff, beq_self_eq_true, List.length_map, Nat.beq, dcall, dcallP, List.mapM_cons, St.snapFn, St.snap, St.layAll, St.lay, St.freezeArg, St.freezeArg1]
    · simp only [c1, ne_eq, not_true, not_false_eq_true, decide_false, decide_true, if_false, if_true, e1, e2, e3, List.isEmpty_nil, val_pvs, frozen_pvs, msnoc_len, msnoc_get, msnoc_set, msnoc_take, Int.le_refl, take_map_all, Nat.le_refl, St.freezeRows, BV.frozen, List.take_length, List.take_append_drop, z_repl_zero, Int.toNat_zero, true_and, and_true, and_self, eq_self, z_take_zero, List.drop_nil, List.take_nil, vAll, List.foldl_nil, List.foldl_cons, resultsOf, resultList, resultOf, zBV, splice, PV.remade, St.freezeAt, St.freezeBox, St.freezeCap, PV.single, plain, act, dstOf, if_true, if_false, reduceCtorEq, St.get, St.put, St.pvOf, St.putRow, St.consume, St.freeze, St.row, St.elems, St.grab, St.takeRow, St.setRow, St.place, St.optPv, St.setCell, St.setCellRow, binPV, intBin, unPV, BV.val, Nat.reduceEqDiff, bound, consumeAll, buildParts, capsOf, capOf, List.append_nil, Nat.reduceAdd, Nat.reduceLT, Nat.reduceLeDiff, beq_self_eq_true, List.length_map, Nat.beq, dcall, dcallP, List.mapM_cons, St.snapFn, St.snap, St.layAll, St.lay, St.freezeArg, St.freezeArg1]
theorem loop22 {a b : Img} (hl : a.length ≤ lim) (hr : ∀ v ∈ a, v.length ≤ lim) (hab : a.length = b.length) (hs : ∀ i (h1 : i < a.length) (h2 : i < b.length), a[i].length = b[i].length)
   {st : St} (h : st.head [0, 1, 7, 16, 17, 31] st.boxes.length = some ⟨[.pv (.list 1 (a.map eSecs)), .pv (.list 1 (b.map eSecs)), .any, .any, .any, .any, .any, .row 1 [], .any, .any, .any, .any, .any, .any, .any, .any, .pv (.int .i64 a.length), .pv (.int .i64 (0 : Nat)), .any, .any, .any, .any, .any, .any, .any, .any, .any, .any, .any, .any, .any, .any, .any, .any], [], [], none⟩) :
   den env fn22_l1 st = some (.normal, ⟨[.any, .any, .any, .any, .any, .any, .any, .row 1 ((differ a b).map eExts), .any, .any, .any, .any, .any, .any, .any, .any, .any, .any, .any, .any, .any, .any, .any, .any, .any, .any, .any, .any, .any, .any, .any, .any, .any, .any], [], [], none⟩) := by
  unfold fn22_l1
  have hz : (a.zip b).length = a.length := by simp; omega
  refine clean_up (env := env) a.length (fun i => ⟨[.pv (.list 1 (a.map eSecs)), .pv (.list 1 (b.map eSecs)), .any, .any, .any, .any, .any, .row 1 (((a.zip b).take i).map fun q => eExts (volDiff q.1 q.2)), .any, .any, .any, .any, .any, .any, .any, .any, .pv (.int .i64 a.length), .pv (.int .i64 i), .any, .any, .any, .any, .any, .any, .any, .any, .any, .any, .any, .any, .any, .any, .any, .any], [], [], none⟩) (fun i => some (.normal, ⟨[.any, .any, .any, .any, .any, .any, .any, .row 1 ((differ a b).map eExts), .any, .any, .any, .any, .any, .any, .any, .any, .any, .any, .any, .any, .any, .any, .any, .any, .any, .any, .any, .any, .any, .any, .any, .any, .any, .any], [], [], none⟩)) h (fun _ => rfl) (fun _ => rfl) ?_ ?_
  · intro i rb hi ih
    have hi1 := i64_next hi hl
    have hj : i < b.length := by omega
    have hiz : i < (a.zip b).length := by omega
    have F1 : ((i : Int) < (a.length : Int)) = True := eq_true (by omega)
    have F2 : (((a.zip b).take i).length + 1 ≤ lim) = True := eq_true (by rw [List.length_take]; omega)
    have e1 := cal47 (hr _ (List.getElem_mem hi)) (hs i hi hj)
    simp only [fn22_b0, F1, F2, e1, eSecs, index_nat hi, index_nat hj, List.getElem?_map, List.getElem?_eq_getElem hi, List.getElem?_eq_getElem hj, List.isEmpty_nil, val_pvs, frozen_pvs, msnoc_len, msnoc_get, msnoc_set, msnoc_take, Int.le_refl, take_map_all, Nat.le_refl, St.freezeRows, BV.frozen, List.take_length, List.take_append_drop, z_repl_zero, Int.toNat_zero, true_and, and_true, and_self, eq_self, z_take_zero, List.drop_nil, List.take_nil, vAll, List.foldl_nil, List.foldl_cons, resultsOf, resultList, resultOf, zBV, splice, PV.remade, St.freezeAt, St.freezeBox, St.freezeCap, PV.single, plain, act, dstOf, if_true, if_false, reduceCtorEq, St.get, St.put, St.pvOf, St.putRow, St.consume, St.freeze, St.row, St.elems, St.grab, St.takeRow, St.setRow, St.place, St.optPv, St.setCell, St.setCellRow, binPV, intBin, unPV, BV.val, Nat.reduceEqDiff, bound, consumeAll, buildParts, capsOf, capOf, List.append_nil, Nat.reduceAdd, Nat.reduceLT, Nat.reduceLeDiff, beq_self_eq_true, List.length_map, Nat.beq, dcall, dcallP, List.mapM_cons, St.snapFn, St.snap, St.layAll, St.lay, St.freezeArg, St.freezeArg1]
    rw [ih _ (by simp only [hi1]; rw [← take_map_succ _ hiz, List.getElem_zip]; rfl)]
  · intro rb
    simp only [fn22_b0, Int.lt_irrefl, List.isEmpty_nil, val_pvs, frozen_pvs, msnoc_len, msnoc_get, msnoc_set, msnoc_take, Int.le_refl, take_map_all, Nat.le_refl, St.freezeRows, BV.frozen, List.take_length, List.take_append_drop, z_repl_zero, Int.toNat_zero, true_and, and_true, and_self, eq_self, z_take_zero, List.drop_nil, List.take_nil, vAll, List.foldl_nil, List.foldl_cons, resultsOf, resultList, resultOf, zBV, splice, PV.remade, St.freezeAt, St.freezeBox, St.freezeCap, PV.single, plain, act, dstOf, if_true, if_false, reduceCtorEq, St.get, St.put, St.pvOf, St.putRow, St.consume, St.freeze, St.row, St.elems, St.grab, St.takeRow, St.setRow, St.place, St.optPv, St.setCell, St.setCellRow, binPV, intBin, unPV, BV.val, Nat.reduceEqDiff, bound, consumeAll, buildParts, capsOf, capOf, List.append_nil, Nat.reduceAdd, Nat.reduceLT, Nat.reduceLeDiff, beq_self_eq_true, List.length_map, Nat.beq, dcall, dcallP, List.mapM_cons, St.snapFn, St.snap, St.layAll, St.lay, St.freezeArg, St.freezeArg1]
    rw [← hz, List.take_length]
    simp only [differ, List.map_map]
    rfl
theorem cal22 {a b : Img} (ha : a.length ≤ lim) (hb' : b.length ≤ lim) (hr : ∀ v ∈ a, v.length ≤ lim) : cal env 22 [.list 1 (a.map eSecs), .list 1 (b.map eSecs)] = some [(.list 1 ((differOut a b).map eExts), true), (.int .i64 (pairErr a b), false)] := by
  have e1 := cal46 ha hb'
  unfold differOut
  by_cases c : pairErr a b = 0
  · have hs : imSizes a = imSizes b := by
      unfold pairErr at c
      split at c
      · omega
      · split at c
        · omega
        · split at c
          · assumption
          · omega
    have G1 : (pairErr a b != 0) = false := by simp [c]
    rw [cal_code env22 rfl]; simp only [fn22]; simp only [start, z_map_cons, z_map_nil, z_len_cons, z_len_nil, z_repl_zero, z_repl_succ, z_cons_app, z_nil_app, Nat.reduceAdd, Nat.reduceSub]
    simp only [G1, e1, List.isEmpty_nil, val_pvs, frozen_pvs, msnoc_len, msnoc_get, msnoc_set, msnoc_take, Int.le_refl, take_map_all, Nat.le_refl, St.freezeRows, BV.frozen, List.take_length, List.take_append_drop, z_repl_zero, Int.toNat_zero, true_and, and_true, and_self, eq_self, z_take_zero, List.drop_nil, List.take_nil, vAll, List.foldl_nil, List.foldl_cons, resultsOf, resultList, resultOf, zBV, splice, PV.remade, St.freezeAt, St.freezeBox, St.freezeCap, PV.single, plain, act, dstOf, if_true, if_false, reduceCtorEq, St.get, St.put, St.pvOf, St.putRow, St.consume, St.freeze, St.row, St.elems, St.grab, St.takeRow, St.setRow, St.place, St.optPv, St.setCell, St.setCellRow, binPV, intBin, unPV, BV.val, Nat.reduceEqDiff, bound, consumeAll, buildParts, capsOf, capOf, List.append_nil, Nat.reduceAdd, Nat.reduceLT, Nat.reduceLeDiff, beq_self_eq_true, List.length_map, Nat.beq, dcall, dcallP, List.mapM_cons, St.snapFn, St.snap, St.layAll, St.lay, St.freezeArg, St.freezeArg1]
    rw [loop22 ha hr (sizes_inj hs).1 (sizes_inj hs).2]
    rotate_left
    · rfl
    · simp only [c, List.isEmpty_nil, val_pvs, frozen_pvs, msnoc_len, msnoc_get, msnoc_set, msnoc_take, Int.le_refl, take_map_all, Nat.le_refl, St.freezeRows, BV.frozen, List.take_length, List.take_append_drop, z_repl_zero, Int.toNat_zero, true_and, and_true, and_self, eq_self, z_take_zero, List.drop_nil, List.take_nil, vAll, List.foldl_nil, List.foldl_cons, resultsOf, resultList, resultOf, zBV, splice, PV.remade, St.freezeAt, St.freezeBox, St.freezeCap, PV.single, plain, act, dstOf, if_true, if_false, reduceCtorEq, St.get, St.put, St.pvOf, St.putRow, St.consume, St.freeze, St.row, St.elems, St.grab, St.takeRow, St.setRow, St.place, St.optPv, St.setCell, St.setCellRow, binPV, intBin, unPV, BV.val, Nat.reduceEqDiff, bound, consumeAll, buildParts, capsOf, capOf, List.append_nil, Nat.reduceAdd, Nat.reduceLT, Nat.reduceLeDiff, beq_self_eq_true, List.length_map, Nat.beq, dcall, dcallP, List.mapM_cons, St.snapFn, St.snap, St.layAll, St.lay, St.freezeArg, St.freezeArg1]
  · have G1 : (pairErr a b != 0) = true := by simp [c]
    rw [cal_code env22 rfl]; simp only [fn22]; simp only [start, z_map_cons, z_map_nil, z_len_cons, z_len_nil, z_repl_zero, z_repl_succ, z_cons_app, z_nil_app, Nat.reduceAdd, Nat.reduceSub]
    simp only [G1, e1, List.isEmpty_nil, val_pvs, frozen_pvs, msnoc_len, msnoc_get, msnoc_set, msnoc_take, Int.le_refl, take_map_all, Nat.le_refl, St.freezeRows, BV.frozen, List.take_length, List.take_append_drop, z_repl_zero, Int.toNat_zero, true_and, and_true, and_self, eq_self, z_take_zero, List.drop_nil, List.take_nil, vAll, List.foldl_nil, List.foldl_cons, resultsOf, resultList, resultOf, zBV, splice, PV.remade, St.freezeAt, St.freezeBox, St.freezeCap, PV.single, plain, act, dstOf, if_true, if_false, reduceCtorEq, St.get, St.put, St.pvOf, St.putRow, St.consume, St.freeze, St.row, St.elems, St.grab, St.takeRow, St.setRow, St.place, St.optPv, St.setCell, St.setCellRow, binPV, intBin, unPV, BV.val, Nat.reduceEqDiff, bound, consumeAll, buildParts, capsOf, capOf, List.append_nil, Nat.reduceAdd, Nat.reduceLT, Nat.reduceLeDiff, beq_self_eq_true, List.length_map, Nat.beq, dcall, dcallP, List.mapM_cons, St.snapFn, St.snap, St.layAll, St.lay, St.freezeArg, St.freezeArg1]
    simp only [c, if_false]
    rfl
--+
end Go.Proofs.Ytncobemfpammfaa.V
