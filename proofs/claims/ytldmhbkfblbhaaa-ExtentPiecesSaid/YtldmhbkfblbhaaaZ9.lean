/-
  Part 9 of the texts that the statement stands on.
-/
import Derived.Test.YtldmhbkfblbhaaaZ8
set_option linter.all false
namespace Go.Proofs.Ytldmhbkfblbhaaa.V
set_option linter.all false
theorem orS_ext (p : Nat → Bool) : orS (ext p 4096) = ext p 4096 := by
  rw [orS_eq]
  exact ext_congr fun s hs => by rw [inS_ext, decide_eq_true hs, Bool.true_and]
theorem fil_or (p q : Nat → Bool) (l : List Nat) : (l.filter fun s => orB (p s) (q s)).length + (l.filter fun s => andB (p s) (q s)).length = (l.filter p).length + (l.filter q).length := by
  induction l with
  | nil => rfl
  | cons x l ih => cases h1 : p x <;> cases h2 : q x <;> simp [orB, andB, h1, h2] <;> simp [orB, andB] at ih <;> omega
theorem fil_sub (p q : Nat → Bool) (l : List Nat) : (l.filter fun s => subB (p s) (q s)).length + (l.filter fun s => andB (p s) (q s)).length = (l.filter p).length := by
  induction l with
  | nil => rfl
  | cons x l ih => cases h1 : p x <;> cases h2 : q x <;> simp [subB, andB, h1, h2] <;> simp [subB, andB] at ih <;> omega
theorem cnt_lim (p : Nat → Bool) : 0 ≤ cntE (ext p 4096) ∧ cntE (ext p 4096) ≤ 4096 := by
  rw [ext_cnt]
  have := List.length_filter_le p (List.range 4096)
  rw [List.length_range] at this
  omega
theorem cnt_set (k : Bool → Bool → Bool) (a b : List Exn) : cntE (orS (setOf k a b)) = (((List.range 4096).filter fun s => k (inS a s) (inS b s)).length : Int) := by
  unfold setOf
  rw [orS_ext, ext_cnt]
theorem cnt_one (a : List Exn) : cntE (orS a) = (((List.range 4096).filter (inS a)).length : Int) := by
  rw [orS_eq, ext_cnt]
set_option maxRecDepth 20000 in
theorem cal11 {a b : List Exn} (ha : okEs a) (hb : okEs b) : cal env 11 [.list 2 (a.map eExt), .list 2 (b.map eExt)] = some [(.bool true, false)] := by
  have e0 := cal12 (a := a) (b := b)
  have e3 := calAwake
  cases hf : few1 a b with
  | false =>
    rw [hf] at e0
    rw [cal_code env11 rfl]; simp only [fn11, slAll, Nat.reduceBEq, Nat.reduceLeDiff, Nat.reduceAdd, List.length_cons, List.length_nil]
    simp only [e0, e3, slAll, Nat.reduceMul, Nat.reduceBEq, Nat.reduceLT, Nat.reduceLeDiff, Nat.zero_le, List.take_zero, List.take_nil, List.take_succ_cons, List.length_cons, List.length_nil, Nat.le_refl, List.isEmpty_nil, val_pvs, frozen_pvs, msnoc_len, msnoc_get, msnoc_set, msnoc_take, Int.le_refl, take_map_all, Nat.le_refl, St.freezeRows, BV.frozen, List.take_length, List.take_append_drop, z_repl_zero, Int.toNat_zero, true_and, and_true, and_self, eq_self, z_take_zero, List.drop_nil, List.take_nil, vAll, List.foldl_nil, List.foldl_cons, resultsOf, resultList, resultOf, zBV, splice, PV.remade, St.freezeAt, St.freezeBox, St.freezeCap, PV.single, plain, act, dstOf, if_true, if_false, reduceCtorEq, St.get, St.put, St.pvOf, St.putRow, St.consume, St.freeze, St.row, St.elems, St.grab, St.takeRow, St.setRow, St.place, St.optPv, St.setCell, St.setCellRow, binPV, intBin, unPV, BV.val, Nat.reduceEqDiff, bound, consumeAll, buildParts, capsOf, capOf, List.append_nil, Nat.reduceAdd, Nat.reduceLT, Nat.reduceLeDiff, beq_self_eq_true, List.length_map, Nat.beq, dcall, dcallP, List.mapM_cons, St.snapFn, St.snap, St.layAll, St.lay, St.freezeArg, St.freezeArg1]
  | true =>
    rw [hf] at e0
    have hl := few1_len hf
    have k1 := cal25 ha hb (by omega) (by omega)
    have k2 := cal27 ha hb (by omega) (by omega)
    have k3 := cal29 ha hb (by omega) (by omega)
    have g1 := cal31 (l := setOf orB a b) (okEs_ext _ (by decide)) (ext_l4 _ (by decide))
    have g2 := cal31 (l := setOf andB a b) (okEs_ext _ (by decide)) (ext_l4 _ (by decide))
    have g3 := cal31 (l := setOf subB a b) (okEs_ext _ (by decide)) (ext_l4 _ (by decide))
    have g4 := cal31 ha (by omega)
    have g5 := cal31 hb (by omega)
    rw [cnt_set] at g1 g2 g3
    rw [cnt_one] at g4 g5
    have f1 := fil_or (inS a) (inS b) (List.range 4096)
    have f2 := fil_sub (inS a) (inS b) (List.range 4096)
    have b1 := List.length_filter_le (inS a) (List.range 4096)
    have b2 := List.length_filter_le (inS b) (List.range 4096)
    rw [List.length_range] at b1 b2
    generalize ((List.range 4096).filter fun s => orB (inS a s) (inS b s)).length = nu at *
    generalize ((List.range 4096).filter fun s => andB (inS a s) (inS b s)).length = ni at *
    generalize ((List.range 4096).filter fun s => subB (inS a s) (inS b s)).length = ns at *
    generalize ((List.range 4096).filter (inS a)).length = na at *
    generalize ((List.range 4096).filter (inS b)).length = nb at *
    have W1 : IntKind.i64.wrap ((nu : Int) + ni) = (nu : Int) + ni := i64_fits (by omega)
    have W2 : IntKind.i64.wrap ((na : Int) + nb) = (nu : Int) + ni := by rw [i64_fits (by omega)]; omega
    have W3 : IntKind.i64.wrap ((ns : Int) + ni) = (na : Int) := by rw [i64_fits (by omega)]; omega
    rw [cal_code env11 rfl]; simp only [fn11, slAll, Nat.reduceBEq, Nat.reduceLeDiff, Nat.reduceAdd, List.length_cons, List.length_nil]
    simp only [e0, e3, k1, k2, k3, g1, g2, g3, g4, g5, W1, W2, W3, slAll, Nat.reduceMul, Nat.reduceBEq, Nat.reduceLT, Nat.reduceLeDiff, Nat.zero_le, List.take_zero, List.take_nil, List.take_succ_cons, List.length_cons, List.length_nil, Nat.le_refl, List.isEmpty_nil, val_pvs, frozen_pvs, msnoc_len, msnoc_get, msnoc_set, msnoc_take, Int.le_refl, take_map_all, Nat.le_refl, St.freezeRows, BV.frozen, List.take_length, List.take_append_drop, z_repl_zero, Int.toNat_zero, true_and, and_true, and_self, eq_self, z_take_zero, List.drop_nil, List.take_nil, vAll, List.foldl_nil, List.foldl_cons, resultsOf, resultList, resultOf, zBV, splice, PV.remade, St.freezeAt, St.freezeBox, St.freezeCap, PV.single, plain, act, dstOf, if_true, if_false, reduceCtorEq, St.get, St.put, St.pvOf, St.putRow, St.consume, St.freeze, St.row, St.elems, St.grab, St.takeRow, St.setRow, St.place, St.optPv, St.setCell, St.setCellRow, binPV, intBin, unPV, BV.val, Nat.reduceEqDiff, bound, consumeAll, buildParts, capsOf, capOf, List.append_nil, Nat.reduceAdd, Nat.reduceLT, Nat.reduceLeDiff, beq_self_eq_true, List.length_map, Nat.beq, dcall, dcallP, List.mapM_cons, St.snapFn, St.snap, St.layAll, St.lay, St.freezeArg, St.freezeArg1]
end Go.Proofs.Ytldmhbkfblbhaaa.V

namespace Go.Proofs.Ytldmhbkfblbhaaa.V
set_option linter.all false
def can : Int → List Exn → Prop
  | _, [] => True
  | nx, x :: l => nx ≤ x.start ∧ 1 ≤ x.count ∧ can (x.start + x.count + 1) l
def endN : Int → List Exn → Int
  | nx, [] => nx
  | _, x :: l => endN (x.start + x.count + 1) l
theorem endN_snoc : ∀ (l : List Exn) (nx : Int) (x : Exn), endN nx (l ++ [x]) = x.start + x.count + 1
  | [], _, _ => rfl
  | y :: l, _, x => endN_snoc l (y.start + y.count + 1) x
theorem can_snoc : ∀ (l : List Exn) (nx : Int) (x : Exn), can nx (l ++ [x]) ↔ can nx l ∧ endN nx l ≤ x.start ∧ 1 ≤ x.count
  | [], nx, x => by simp [can, endN]
  | y :: l, nx, x => by
    have := can_snoc l (y.start + y.count + 1) x
    show nx ≤ y.start ∧ 1 ≤ y.count ∧ can _ (l ++ [x]) ↔ (nx ≤ y.start ∧ 1 ≤ y.count ∧ can _ l) ∧ endN _ l ≤ x.start ∧ 1 ≤ x.count
    rw [this]
    constructor
    · rintro ⟨a, b, c, d⟩; exact ⟨⟨a, b, c⟩, d⟩
    · rintro ⟨⟨a, b, c⟩, d⟩; exact ⟨a, b, c, d⟩
theorem can_ext (p : Nat → Bool) : ∀ n : Nat, can 0 (ext p n) ∧ endN 0 (ext p n) ≤ (n : Int) + 1
  | 0 => by rw [ext_zero]; exact ⟨trivial, by simp [endN]⟩
  | n + 1 => by
    obtain ⟨h1, h2⟩ := can_ext p n
    rw [ext_succ]
    split
    · rcases snoc_cases (ext p n) with e | ⟨pre, x, e⟩
      · rw [e]
        have : addAt [] n = [⟨(n : Int), 1⟩] := rfl
        rw [this]
        exact ⟨⟨by simp only; omega, by simp only; omega, trivial⟩, by simp only [endN]; omega⟩
      · rw [e] at h1 h2 ⊢
        have hx := ext_in p n x (by rw [e]; simp)
        rw [endN_snoc] at h2
        obtain ⟨c1, c2, c3⟩ := (can_snoc _ _ _).1 h1
        rw [addAt_snoc]
        split
        · exact ⟨(can_snoc _ _ _).2 ⟨c1, c2, by simp only; omega⟩, by rw [endN_snoc]; simp only; omega⟩
        · exact ⟨(can_snoc _ _ _).2 ⟨h1, by rw [endN_snoc]; simp only; omega, by simp⟩, by rw [endN_snoc]; simp only; omega⟩
    · exact ⟨h1, by omega⟩
theorem chk_can {size : Int} : ∀ (l : List Exn) (nx : Int), can nx l → (∀ x ∈ l, 0 ≤ x.start ∧ x.start + x.count ≤ size) → chkGo size nx l = 0
  | [], _, _, _ => rfl
  | x :: l, nx, h, hb => by
    obtain ⟨h1, h2, h3⟩ := h
    have hx := hb x (by simp)
    unfold chkGo
    rw [if_neg (by omega), if_neg (by omega), if_neg (by omega)]
    exact chk_can l _ h3 fun y hy => hb y (by simp [hy])
theorem chk_ext' (p : Nat → Bool) (n : Nat) : chkGo n 0 (ext p n) = 0 := chk_can _ 0 (can_ext p n).1 fun x hx => by have := ext_in p n x hx; omega
theorem chk_ext (p : Nat → Bool) : chkX (ext p 4096) 4096 = 0 := by
  unfold chkX
  rw [if_neg (by decide)]
  exact chk_ext' p 4096
theorem nrm_in : ∀ {l : List Exn}, (∀ x ∈ l, 0 ≤ x.start ∧ 1 ≤ x.count ∧ x.start + x.count ≤ (4096 : Int)) → nrmE l = 0
  | [], _ => rfl
  | x :: l, h => by
    have hx := h x (by simp)
    unfold nrmE
    rw [if_neg (by omega), if_neg (by omega)]
    exact nrm_in fun y hy => h y (by simp [hy])
theorem nrm_ext (p : Nat → Bool) (n : Nat) (hn : n ≤ 4096) : nrmE (ext p n) = 0 := nrm_in fun x hx => by have := ext_in p n x hx; omega
def asc (m : Int) : Int → List Exn → Prop
  | _, [] => True
  | e, x :: l => e ≤ x.start ∧ 1 ≤ x.count ∧ x.count ≤ m ∧ x.start < 4096 ∧ x.start + x.count ≤ 4096 ∧ asc m (x.start + x.count) l
def endA : Int → List Exn → Int
  | e, [] => e
  | _, x :: l => endA (x.start + x.count) l
theorem endA_snoc : ∀ (l : List Exn) (e : Int) (x : Exn), endA e (l ++ [x]) = x.start + x.count
  | [], _, _ => rfl
  | y :: l, _, x => endA_snoc l (y.start + y.count) x
theorem asc_app {m : Int} : ∀ (a : List Exn) (e : Int) (b : List Exn), asc m e (a ++ b) ↔ asc m e a ∧ asc m (endA e a) b
  | [], e, b => by simp [asc, endA]
  | x :: a, e, b => by
    have := asc_app (m := m) a (x.start + x.count) b
    show e ≤ x.start ∧ _ ∧ _ ∧ _ ∧ _ ∧ asc m _ (a ++ b) ↔ (e ≤ x.start ∧ _ ∧ _ ∧ _ ∧ _ ∧ asc m _ a) ∧ asc m _ b
    rw [this]
    constructor
    · rintro ⟨h1, h2, h3, h4, h5, h6, h7⟩; exact ⟨⟨h1, h2, h3, h4, h5, h6⟩, h7⟩
    · rintro ⟨⟨h1, h2, h3, h4, h5, h6⟩, h7⟩; exact ⟨h1, h2, h3, h4, h5, h6, h7⟩
theorem asc_le {m e e' : Int} (h : e' ≤ e) : ∀ {l : List Exn}, asc m e l → asc m e' l
  | [], _ => trivial
  | x :: l, ⟨h1, h2⟩ => ⟨by omega, h2⟩
theorem asc_pcs {s m c : Int} (hm : 1 ≤ m) (hc : s + c ≤ 4096) {e : Int} (he : e ≤ s) : ∀ q : Nat, (q : Int) * m < c → asc m e (pcs s m q) ∧ endA e (pcs s m q) ≤ s + (q : Int) * m
  | 0, _ => by
    have : pcs s m 0 = [] := rfl
    rw [this]
    exact ⟨trivial, by simp [endA]; omega⟩
  | q + 1, h => by
    have e1 : ((q + 1 : Nat) : Int) * m = (q : Int) * m + m := by rw [show ((q + 1 : Nat) : Int) = (q : Int) + 1 by omega, Int.add_mul, Int.one_mul]
    rw [e1] at h
    obtain ⟨h1, h2⟩ := asc_pcs hm hc he q (by omega)
    rw [pcs_succ, e1]
    refine ⟨(asc_app _ _ _).2 ⟨h1, ?_⟩, by rw [endA_snoc]; simp only; omega⟩
    exact ⟨h2, hm, Int.le_refl _, by simp only; omega, by simp only; omega, trivial⟩
theorem asc_splE {m : Int} (hm : 1 ≤ m) {x : Exn} (h1 : 1 ≤ x.count) (h2 : x.start + x.count ≤ 4096) {e : Int} (he : e ≤ x.start) : asc m e (splE m x) ∧ endA e (splE m x) = x.start + x.count := by
  obtain ⟨q1, q2, q3⟩ := qOf_ok h1 hm
  obtain ⟨a1, a2⟩ := asc_pcs hm h2 he (qOf x.count m) q1
  unfold splE
  refine ⟨(asc_app _ _ _).2 ⟨a1, a2, by simp only; omega, by simp only; omega, by simp only; omega, by simp only; omega, trivial⟩, by rw [endA_snoc]; simp only; omega⟩
theorem asc_flat {m : Int} (hm : 1 ≤ m) : ∀ {l : List Exn} {nx e : Int}, can nx l → e ≤ nx → (∀ x ∈ l, x.start + x.count ≤ (4096 : Int)) → asc m e (l.flatMap (splE m))
  | [], _, _, _, _, _ => trivial
  | x :: l, nx, e, ⟨c1, c2, c3⟩, he, hb => by
    obtain ⟨a1, a2⟩ := asc_splE hm c2 (hb x (by simp)) (e := e) (by omega)
    rw [List.flatMap_cons]
    refine (asc_app _ _ _).2 ⟨a1, ?_⟩
    rw [a2]
    exact asc_flat hm c3 (by omega) fun y hy => hb y (by simp [hy])
theorem asc_len {m : Int} : ∀ {l : List Exn} {e : Int}, asc m e l → e ≤ 4096 → (l.length : Int) ≤ 4096 - e
  | [], e, _, h => by simp; omega
  | x :: l, e, ⟨h1, h2, h3, h4, h5, h6⟩, h => by
    have := asc_len h6 h5
    rw [List.length_cons]; omega
theorem asc_mem {m : Int} : ∀ {l : List Exn} {e : Int}, asc m e l → ∀ x ∈ l, e ≤ x.start ∧ x.start < 4096 ∧ 1 ≤ x.count ∧ x.count ≤ m
  | x :: l, e, ⟨h1, h2, h3, h4, h5, h6⟩, y, hy => by
    rcases List.mem_cons.1 hy with rfl | hy
    · exact ⟨h1, h4, h2, h3⟩
    · have := asc_mem h6 y hy
      omega
def endI (l : List Exn) (i : Nat) : Int := endA 0 (l.take i)
theorem asc_at {m : Int} {l : List Exn} (h : asc m 0 l) {i : Nat} (hi : i < l.length) : endI l i ≤ l[i].start ∧ 1 ≤ l[i].count ∧ l[i].count ≤ m ∧ l[i].start < 4096 ∧ l[i].start + l[i].count ≤ 4096 ∧ endI l (i + 1) = l[i].start + l[i].count := by
  have e : l = l.take i ++ l[i] :: l.drop (i + 1) := by
    rw [← List.drop_eq_getElem_cons hi, List.take_append_drop]
  have h2 := h
  rw [e] at h2
  obtain ⟨h3, h4, h5, h6, h7, h8, h9⟩ := (asc_app _ _ _).1 h2
  refine ⟨h4, h5, h6, h7, h8, ?_⟩
  unfold endI
  rw [List.take_succ_eq_append_getElem hi, endA_snoc]
theorem inS_pcs {s m : Int} (hm : 1 ≤ m) (t : Nat) : ∀ q : Nat, inS (pcs s m q) t = (decide (s ≤ (t : Int)) && decide ((t : Int) < s + (q : Int) * m))
  | 0 => by
    have : pcs s m 0 = [] := rfl
    rw [this]
    rw [Bool.eq_iff_iff]; simp [inS]
  | q + 1 => by
    rw [pcs_succ, inS_snoc, inS_pcs hm t q]
    have e1 : ((q + 1 : Nat) : Int) * m = (q : Int) * m + m := by rw [show ((q + 1 : Nat) : Int) = (q : Int) + 1 by omega, Int.add_mul, Int.one_mul]
    rw [e1]
    have e2 : 0 ≤ (q : Int) * m := Int.mul_nonneg (by omega) (by omega)
    rw [Bool.eq_iff_iff]
    simp [inE]; omega
theorem inS_splE {m : Int} (hm : 1 ≤ m) {x : Exn} (h1 : 1 ≤ x.count) (t : Nat) : inS (splE m x) t = inE x t := by
  obtain ⟨q1, q2, q3⟩ := qOf_ok h1 hm
  unfold splE
  rw [inS_snoc, inS_pcs hm]
  have e2 : 0 ≤ (qOf x.count m : Int) * m := Int.mul_nonneg (by omega) (by omega)
  generalize (qOf x.count m : Int) * m = z at *
  rw [Bool.eq_iff_iff]
  simp [inE]; omega
theorem inS_app (a b : List Exn) (t : Nat) : inS (a ++ b) t = (inS a t || inS b t) := by simp [inS]
theorem inS_flat {m : Int} (hm : 1 ≤ m) (t : Nat) : ∀ {l : List Exn}, (∀ x ∈ l, 1 ≤ x.count) → inS (l.flatMap (splE m)) t = inS l t
  | [], _ => rfl
  | x :: l, h => by
    rw [List.flatMap_cons, inS_app, inS_splE hm (h x (by simp)), inS_flat hm t fun y hy => h y (by simp [hy])]
    simp [inS]
theorem asc_ext {m : Int} (hm : 1 ≤ m) (p : Nat → Bool) (n : Nat) (hn : n ≤ 4096) (r : List Exn) (hr : r = (ext p n).flatMap (splE m)) : asc m 0 r := by
  subst hr
  exact asc_flat hm (can_ext p n).1 (Int.le_refl _) fun x hx => by have := ext_in p n x hx; omega
theorem spl_facts {l : List Exn} {m : Int} (hm : 1 ≤ m) : asc m 0 (splX l m) ∧ orS (splX l m) = orS l := by
  have e : splX l m = (ext (inS l) 4096).flatMap (splE m) := by unfold splX; rw [if_neg (by omega), orS_eq l]
  have h := asc_ext hm (inS l) 4096 (Nat.le_refl _) (splX l m) e
  refine ⟨h, ?_⟩
  rw [e, orS_eq, orS_eq l]
  refine ext_congr fun s hs => ?_
  rw [inS_flat hm s fun x hx => (ext_in _ _ x hx).2.1, inS_ext, decide_eq_true hs, Bool.true_and]
end Go.Proofs.Ytldmhbkfblbhaaa.V
