/-
  Part 12 of the texts that the statement stands on.
-/
import Derived.Test.YtpdfhckdmblicaaZ11
import Derived.Test.YtpdfhckdmblicaaRows
set_option linter.all false
namespace Go.Proofs.Ytpdfhckdmblicaa.V
set_option linter.all false
theorem grown_facts {n : Nat} (hn : n ≤ 12) {l : List Spn} {steps : List Nat} {odd : Int} (hl : steps.length ≤ 12) (ho : 0 ≤ odd ∧ odd ≤ 1) (hok : linOk l = true) (h1 : l.length ≤ n) (h2 : 0 ≤ (headOf l).to ∧ (headOf l).to ≤ 4 * (n : Int)) (h3 : 0 ≤ (headOf l).epoch ∧ (headOf l).epoch ≤ 40 * (n : Int)) :
    linOk (growX l steps odd).1 = true ∧ (headOf (growX l steps odd).1).to = (growX l steps odd).2 ∧ (growX l steps odd).1.length ≤ n + steps.length ∧ (headOf l).to + steps.length ≤ (growX l steps odd).2 ∧ (growX l steps odd).2 ≤ 4 * (n : Int) + 4 * (steps.length : Nat) ∧ (headOf (growX l steps odd).1).epoch ≤ 3 + 40 * (n : Int) + 2 * (steps.length : Nat) ∧ OnFrom l odd (!steps.isEmpty) (growX l steps odd).1 := by
  have ht : (headOf l).epoch.tmod 2 = (headOf l).epoch % 2 := Int.tmod_eq_emod_of_nonneg h3.1
  have hg : GrowOk n 0 l ((headOf l).epoch + (2 - (headOf l).epoch.tmod 2 + odd)) (headOf l).to := by
    rw [ht]
    exact ⟨hok, by omega, rfl, by omega, h2.1, by omega, by omega, by omega⟩
  obtain ⟨k1, k2, k3, k4, k5, k6⟩ := growGo_ok hn steps _ _ _ 0 (by omega) hg
  have k7 := growGo_on (l0 := l) (odd := odd) steps l ((headOf l).epoch + (2 - (headOf l).epoch.tmod 2 + odd)) (headOf l).to false ⟨[], by simp, by simp, by simp⟩ (by rw [ht]; omega) (.inl (by rw [ht]; omega))
  rw [Bool.false_or] at k7
  unfold growX
  exact ⟨k1, k2, by omega, k4, by omega, by omega, k7⟩
theorem head_pos' {l : List Spn} (h : linOk l = true) : 0 ≤ (headOf l).epoch := by
  rw [head_last]
  have : ∀ (l : List Spn) (p : Spn), 0 ≤ p.epoch → linGo p l = true → 0 ≤ (lastS p l).epoch := by
    intro l
    induction l with
    | nil => exact fun p hp _ => hp
    | cons x l ih =>
      intro p hp h
      simp only [linGo, Bool.and_eq_true] at h
      have h1 := h.1
      simp only [okNext, Bool.and_eq_true, decide_eq_true_eq] at h1
      exact ih x (by omega) h.2
  exact this l z0 (by decide) h
set_option maxRecDepth 20000 in
set_option maxHeartbeats 4000000 in
theorem cal8 {a b c : List Nat} (ha : ∀ s ∈ a, s < 256) (hb : ∀ s ∈ b, s < 256) (hc : ∀ s ∈ c, s < 256) : cal env 8 [.list 1 (a.map eU8n), .list 1 (b.map eU8n), .list 1 (c.map eU8n)] = some [(.bool true, false)] := by
  have hlim : lim = 1073741824 := rfl
  have e0 := calAwake
  by_cases c1 : (a.length : Int) > 12
  · have G1 : ((a.length : Int) > 12) = True := eq_true c1
    rw [cal_code env8 rfl]; simp only [fn8]; simp only [start, z_map_cons, z_map_nil, z_len_cons, z_len_nil, z_repl_zero, z_repl_succ, z_cons_app, z_nil_app, Nat.reduceAdd, Nat.reduceSub]
    simp only [e0, G1, List.isEmpty_nil, val_pvs, frozen_pvs, msnoc_len, msnoc_get, msnoc_set, msnoc_take, Int.le_refl, take_map_all, Nat.le_refl, St.freezeRows, BV.frozen, List.take_length, List.take_append_drop, z_repl_zero, Int.toNat_zero, true_and, and_true, and_self, eq_self, z_take_zero, List.drop_nil, List.take_nil, vAll, List.foldl_nil, List.foldl_cons, resultsOf, resultList, resultOf, zBV, splice, PV.remade, St.freezeAt, St.freezeBox, St.freezeCap, PV.single, plain, act, dstOf, if_true, if_false, reduceCtorEq, St.get, St.put, St.pvOf, St.putRow, St.consume, St.freeze, St.row, St.elems, St.grab, St.takeRow, St.setRow, St.place, St.optPv, St.setCell, St.setCellRow, binPV, intBin, unPV, BV.val, Nat.reduceEqDiff, bound, consumeAll, buildParts, capsOf, capOf, List.append_nil, Nat.reduceAdd, Nat.reduceLT, Nat.reduceLeDiff, beq_self_eq_true, List.length_map, Nat.beq, dcall, dcallP, List.mapM_cons, St.snapFn, St.snap, St.layAll, St.lay, St.freezeArg, St.freezeArg1]
  have G1 : ((a.length : Int) > 12) = False := eq_false c1
  by_cases c2 : (b.length : Int) > 12
  · have G2 : ((b.length : Int) > 12) = True := eq_true c2
    rw [cal_code env8 rfl]; simp only [fn8]; simp only [start, z_map_cons, z_map_nil, z_len_cons, z_len_nil, z_repl_zero, z_repl_succ, z_cons_app, z_nil_app, Nat.reduceAdd, Nat.reduceSub]
    simp only [e0, G1, G2, List.isEmpty_nil, val_pvs, frozen_pvs, msnoc_len, msnoc_get, msnoc_set, msnoc_take, Int.le_refl, take_map_all, Nat.le_refl, St.freezeRows, BV.frozen, List.take_length, List.take_append_drop, z_repl_zero, Int.toNat_zero, true_and, and_true, and_self, eq_self, z_take_zero, List.drop_nil, List.take_nil, vAll, List.foldl_nil, List.foldl_cons, resultsOf, resultList, resultOf, zBV, splice, PV.remade, St.freezeAt, St.freezeBox, St.freezeCap, PV.single, plain, act, dstOf, if_true, if_false, reduceCtorEq, St.get, St.put, St.pvOf, St.putRow, St.consume, St.freeze, St.row, St.elems, St.grab, St.takeRow, St.setRow, St.place, St.optPv, St.setCell, St.setCellRow, binPV, intBin, unPV, BV.val, Nat.reduceEqDiff, bound, consumeAll, buildParts, capsOf, capOf, List.append_nil, Nat.reduceAdd, Nat.reduceLT, Nat.reduceLeDiff, beq_self_eq_true, List.length_map, Nat.beq, dcall, dcallP, List.mapM_cons, St.snapFn, St.snap, St.layAll, St.lay, St.freezeArg, St.freezeArg1]
  have G2 : ((b.length : Int) > 12) = False := eq_false c2
  by_cases c3 : (c.length : Int) > 12
  · have G3 : ((c.length : Int) > 12) = True := eq_true c3
    rw [cal_code env8 rfl]; simp only [fn8]; simp only [start, z_map_cons, z_map_nil, z_len_cons, z_len_nil, z_repl_zero, z_repl_succ, z_cons_app, z_nil_app, Nat.reduceAdd, Nat.reduceSub]
    simp only [e0, G1, G2, G3, List.isEmpty_nil, val_pvs, frozen_pvs, msnoc_len, msnoc_get, msnoc_set, msnoc_take, Int.le_refl, take_map_all, Nat.le_refl, St.freezeRows, BV.frozen, List.take_length, List.take_append_drop, z_repl_zero, Int.toNat_zero, true_and, and_true, and_self, eq_self, z_take_zero, List.drop_nil, List.take_nil, vAll, List.foldl_nil, List.foldl_cons, resultsOf, resultList, resultOf, zBV, splice, PV.remade, St.freezeAt, St.freezeBox, St.freezeCap, PV.single, plain, act, dstOf, if_true, if_false, reduceCtorEq, St.get, St.put, St.pvOf, St.putRow, St.consume, St.freeze, St.row, St.elems, St.grab, St.takeRow, St.setRow, St.place, St.optPv, St.setCell, St.setCellRow, binPV, intBin, unPV, BV.val, Nat.reduceEqDiff, bound, consumeAll, buildParts, capsOf, capOf, List.append_nil, Nat.reduceAdd, Nat.reduceLT, Nat.reduceLeDiff, beq_self_eq_true, List.length_map, Nat.beq, dcall, dcallP, List.mapM_cons, St.snapFn, St.snap, St.layAll, St.lay, St.freezeArg, St.freezeArg1]
  have G3 : ((c.length : Int) > 12) = False := eq_false c3
  -- the common one
  have f1 := cal37 (n := 0) (by omega) ha (by omega) (l := []) (odd := 0) (by omega) rfl (by simp) (by rw [headOf_nil]; simp [z0]) (by rw [headOf_nil]; simp [z0])
  obtain ⟨p1, p2, p3, p4, p5, p6, -⟩ := grown_facts (n := 0) (by omega) (l := []) (steps := a) (odd := 0) (by omega) (by omega) rfl (by simp) (by rw [headOf_nil]; simp [z0]) (by rw [headOf_nil]; simp [z0])
  have p7 := head_pos' p1
  rw [headOf_nil] at p4
  simp only [z0] at p4
  generalize hg0 : growX [] a 0 = g0 at *
  obtain ⟨l, n⟩ := g0
  simp only at f1 p1 p2 p3 p4 p5 p6 p7
  have f2 := cal37 (n := 12) (by omega) hb (by omega) (l := l) (odd := 0) (by omega) p1 (by omega) (by omega) (by omega)
  have f3 := cal37 (n := 12) (by omega) hc (by omega) (l := l) (odd := 1) (by omega) p1 (by omega) (by omega) (by omega)
  obtain ⟨q1, q2, q3, q4, q5, q6, t1, rfl1, q7, q8⟩ := grown_facts (n := 12) (by omega) (l := l) (steps := b) (odd := 0) (by omega) (by omega) p1 (by omega) (by omega) (by omega)
  obtain ⟨r1, r2, r3, r4, r5, r6, t2, rfl2, r7, r8⟩ := grown_facts (n := 12) (by omega) (l := l) (steps := c) (odd := 1) (by omega) (by omega) p1 (by omega) (by omega) (by omega)
  generalize hg1 : growX l b 0 = g1 at *
  obtain ⟨A, nA⟩ := g1
  generalize hg2 : growX l c 1 = g2 at *
  obtain ⟨B, nB⟩ := g2
  simp only at f2 f3 q1 q2 q3 q4 q5 q6 rfl1 r1 r2 r3 r4 r5 r6 rfl2
  have e4 := cal10 (a := A) (b := B) (by omega) (by omega)
  have e5 := cal10 (a := B) (b := A) (by omega) (by omega)
  have e6 := cal38 (l := A) (c := ((a.length : Int) + (b.length : Int))) (by omega) q1
  have htl := trunc_len ((a.length : Int) + (b.length : Int)) A
  have e7 := cal10 (a := A) (b := truncX ((a.length : Int) + (b.length : Int)) A) (by omega) (by omega)
  have ht := fork_trunc (c := ((a.length : Int) + (b.length : Int))) q1 (by omega) (by omega)
  rw [fork_eq] at e4 e5 e7
  rw [ht.1] at e7
  have k1 := fork_on (l := l) (t1 := t1) (t2 := t2) (by rw [← rfl1]; exact q1) (by rw [← rfl2]; exact r1) (fun x hx y hy => by have := q7 x hx; have := r7 y hy; intro h; omega)
  have k2 := fork_on (l := l) (t1 := t2) (t2 := t1) (by rw [← rfl2]; exact r1) (by rw [← rfl1]; exact q1) (fun x hx y hy => by have := r7 x hx; have := q7 y hy; intro h; omega)
  rw [← rfl1, ← rfl2, p2] at k1 k2
  have s1 : t1.isEmpty = b.isEmpty := by
    cases b with
    | nil => rw [q8.2 rfl]; rfl
    | cons x b => cases t1 with
      | nil => have := q8.1 rfl; simp at this
      | cons y t => rfl
  have s2 : t2.isEmpty = c.isEmpty := by
    cases c with
    | nil => rw [r8.2 rfl]; rfl
    | cons x b => cases t2 with
      | nil => have := r8.1 rfl; simp at this
      | cons y t => rfl
  rw [s1, s2] at k1 k2
  rw [k1] at e4
  rw [k2] at e5
  have L1 : decide ((b.length : Int) > 0) = !b.isEmpty := by cases b <;> simp
  have L2 : decide ((c.length : Int) > 0) = !c.isEmpty := by cases c <;> simp
  have W1 : IntKind.i64.wrap ((a.length : Int) + (b.length : Int)) = (a.length : Int) + (b.length : Int) := i64_fits (by omega)
  have hne : A = [] → (a.length : Int) + (b.length : Int) = 0 := by
    intro h
    rw [h, headOf_nil] at q2
    have : nA = 0 := q2.symm
    omega
  generalize truncX ((a.length : Int) + (b.length : Int)) A = tA at *
  generalize hat : (a.length : Int) + (b.length : Int) = at' at *
  clear rfl1 rfl2 q7 q8 r7 r8 ht k1 k2 s1 s2 hg0 hg1 hg2
  have M0 : ((nA : Int) < at') = False := eq_false (by omega)
  have Bn : ∀ x : Int, (x != x) = false := fun x => by simp
  have Be : ∀ x : Int, (x == x) = true := fun x => by simp
  simp only [List.map_nil] at f1
  generalize a.isEmpty = z0' at *
  generalize b.isEmpty = z1 at *
  generalize c.isEmpty = z2 at *
  rcases snoc_or A with rfl | ⟨P, ⟨x1, x2, x3⟩, hA⟩
  · have A1 : (((0 : Nat) : Int) > 0) = False := eq_false (by omega)
    have h0 : at' = 0 := hne rfl
    subst h0
    simp only [List.map_nil] at f2 e4 e5 e6 e7
    have M1 : ((0 : Int) < 0) = False := eq_false (by omega)
    cases z0' <;> cases z1 <;> cases z2 <;> (rw [cal_code env8 rfl]; simp only [fn8]; simp only [start, z_map_cons, z_map_nil, z_len_cons, z_len_nil, z_repl_zero, z_repl_succ, z_cons_app, z_nil_app, Nat.reduceAdd, Nat.reduceSub]; simp only [e0, G1, G2, G3, f1, f2, f3, e4, e5, e6, e7, L1, L2, hat, W1, A1, M1, Bn, Be, List.length_nil, List.isEmpty_nil, val_pvs, frozen_pvs, msnoc_len, msnoc_get, msnoc_set, msnoc_take, Int.le_refl, take_map_all, Nat.le_refl, St.freezeRows, BV.frozen, List.take_length, List.take_append_drop, z_repl_zero, Int.toNat_zero, true_and, and_true, and_self, eq_self, z_take_zero, List.drop_nil, List.take_nil, vAll, List.foldl_nil, List.foldl_cons, resultsOf, resultList, resultOf, zBV, splice, PV.remade, St.freezeAt, St.freezeBox, St.freezeCap, PV.single, plain, act, dstOf, if_true, if_false, reduceCtorEq, St.get, St.put, St.pvOf, St.putRow, St.consume, St.freeze, St.row, St.elems, St.grab, St.takeRow, St.setRow, St.place, St.optPv, St.setCell, St.setCellRow, binPV, intBin, unPV, BV.val, Nat.reduceEqDiff, bound, consumeAll, buildParts, capsOf, capOf, List.append_nil, Nat.reduceAdd, Nat.reduceLT, Nat.reduceLeDiff, beq_self_eq_true, List.length_map, Nat.beq, dcall, dcallP, List.mapM_cons, St.snapFn, St.snap, St.layAll, St.lay, St.freezeArg, St.freezeArg1])
  · have hl1 : A.length = P.length + 1 := by rw [hA]; simp
    have A1 : ((A.length : Int) > 0) = True := eq_true (by omega)
    have A2 : IntKind.i64.wrap ((A.length : Int) - 1) = (P.length : Int) := by rw [i64_fits (by omega)]; omega
    have A3 : index (.int .i64 (P.length : Int)) A.length = some P.length := index_nat (by omega)
    have A4 : A[P.length]? = some ⟨x1, x2, x3⟩ := by rw [hA]; simp
    have A5 : x3 = nA := by rw [hA, headOf_snoc] at q2; exact q2
    subst A5
    cases z0' <;> cases z1 <;> cases z2 <;> (rw [cal_code env8 rfl]; simp only [fn8]; simp only [start, z_map_cons, z_map_nil, z_len_cons, z_len_nil, z_repl_zero, z_repl_succ, z_cons_app, z_nil_app, Nat.reduceAdd, Nat.reduceSub]; simp only [e0, G1, G2, G3, f1, f2, f3, e4, e5, e6, e7, L1, L2, hat, W1, A1, A2, A3, A4, M0, Bn, Be, List.getElem?_map, Option.map_some, eSpn, List.isEmpty_nil, val_pvs, frozen_pvs, msnoc_len, msnoc_get, msnoc_set, msnoc_take, Int.le_refl, take_map_all, Nat.le_refl, St.freezeRows, BV.frozen, List.take_length, List.take_append_drop, z_repl_zero, Int.toNat_zero, true_and, and_true, and_self, eq_self, z_take_zero, List.drop_nil, List.take_nil, vAll, List.foldl_nil, List.foldl_cons, resultsOf, resultList, resultOf, zBV, splice, PV.remade, St.freezeAt, St.freezeBox, St.freezeCap, PV.single, plain, act, dstOf, if_true, if_false, reduceCtorEq, St.get, St.put, St.pvOf, St.putRow, St.consume, St.freeze, St.row, St.elems, St.grab, St.takeRow, St.setRow, St.place, St.optPv, St.setCell, St.setCellRow, binPV, intBin, unPV, BV.val, Nat.reduceEqDiff, bound, consumeAll, buildParts, capsOf, capOf, List.append_nil, Nat.reduceAdd, Nat.reduceLT, Nat.reduceLeDiff, beq_self_eq_true, List.length_map, Nat.beq, dcall, dcallP, List.mapM_cons, St.snapFn, St.snap, St.layAll, St.lay, St.freezeArg, St.freezeArg1])
end Go.Proofs.Ytpdfhckdmblicaa.V

namespace Go.Proofs.Ytpdfhckdmblicaa.V
open Go.RowKit Go.ChangeShapes Go.WideShapes Go.ChangeAt
set_option linter.all false

theorem Try.ownKnobV : ownKnob Try.prog.godebug = none := by kernel_rfl
theorem Try.laidOutV : laidOutB Try.prog = true := by kernel_rfl
def okI (n : Int) : Prop := -9223372036854775808 ≤ n ∧ n ≤ 9223372036854775807
theorem sint_i64 {q : PV} (h : SInt .i64 [q]) : ∃ n, okI n ∧ q = eI n := by
  obtain ⟨n, h1, h2⟩ := h
  have h3 : IntKind.i64.min = -9223372036854775808 := rfl
  have h4 : IntKind.i64.max = 9223372036854775807 := rfl
  simp only [Lit.wf, Bool.and_eq_true, decide_eq_true_eq] at h1
  cases h2
  exact ⟨n, ⟨by omega, by omega⟩, rfl⟩
theorem sint_u8 {q : PV} (h : SInt .u8 [q]) : ∃ b : UInt8, q = .int .u8 (b.toNat : Int) := by
  obtain ⟨n, h1, h2⟩ := h
  have h3 : IntKind.u8.min = 0 := rfl
  have h4 : IntKind.u8.max = 255 := rfl
  simp only [Lit.wf, Bool.and_eq_true, decide_eq_true_eq] at h1
  cases h2
  refine ⟨UInt8.ofNat n.toNat, ?_⟩
  rw [UInt8.toNat_ofNat_of_lt' (show n.toNat < 2 ^ 8 by omega)]
  congr 1; omega
theorem sbool {q : PV} (h : SBool [q]) : ∃ b, q = eB b := by
  obtain ⟨b, h2⟩ := h
  cases h2
  exact ⟨b, rfl⟩
def SSec : List PV → Prop := SArr 8 (SInt .u8)
theorem ssec {ps : List PV} (h : SSec ps) : ∃ s : Sec, ps = secPV s := by
  obtain ⟨h1, h2⟩ := h
  have : ∀ l : List PV, (∀ p ∈ l, SInt .u8 [p]) → ∃ m : List UInt8, m.length = l.length ∧ l = m.map fun b => .int .u8 (b.toNat : Int) := by
    intro l
    induction l with
    | nil => exact fun _ => ⟨[], rfl, rfl⟩
    | cons p l ih =>
      intro h
      obtain ⟨b, hb⟩ := sint_u8 (h p (by simp))
      obtain ⟨m, e1, e2⟩ := ih fun q hq => h q (by simp [hq])
      exact ⟨b :: m, by simp [e1], by rw [hb, e2]; rfl⟩
  obtain ⟨m, e1, e2⟩ := this ps h2
  refine ⟨⟨m.toArray, by simp [e1, h1]⟩, ?_⟩
  subst e2
  simp [secPV, Vector.toList]
theorem slist {α : Type} {n : Nat} {S : List PV → Prop} {wr : List PV → PV} {enc : α → PV} {ok : α → Prop} (hS : ∀ ps, S ps → ∃ a, ok a ∧ wr ps = enc a) {q : PV} (h : SList n S wr [q]) : ∃ l : List α, (∀ a ∈ l, ok a) ∧ q = .list n (l.map enc) := by
  obtain ⟨es, h1, h2⟩ := h
  cases h1
  have : ∀ es : List PV, (∀ x ∈ es, ∃ q, S q ∧ x = wr q) → ∃ l : List α, (∀ a ∈ l, ok a) ∧ es = l.map enc := by
    intro es
    induction es with
    | nil => exact fun _ => ⟨[], by simp, rfl⟩
    | cons e es ih =>
      intro h
      obtain ⟨q, h3, h4⟩ := h e (by simp)
      obtain ⟨a, h5, h6⟩ := hS q h3
      obtain ⟨l, h7, h8⟩ := ih fun x hx => h x (by simp [hx])
      exact ⟨a :: l, by simp; exact ⟨h5, h7⟩, by rw [h4, h6, h8]; rfl⟩
  obtain ⟨l, h3, h4⟩ := this es h2
  exact ⟨l, h3, by rw [h4]⟩
theorem wr_int {k : IntKind} {ps : List PV} (h : SInt k ps) : (wrS ps).cells = ps := by
  obtain ⟨n, _, rfl⟩ := h; rfl
theorem wr_list {n : Nat} {S : List PV → Prop} {wr : List PV → PV} {ps : List PV} (h : SList n S wr ps) : (wrS ps).cells = ps := by
  obtain ⟨es, rfl, _⟩ := h; rfl
theorem wr_bool {ps : List PV} (h : SBool ps) : (wrS ps).cells = ps := by
  obtain ⟨b, rfl⟩ := h; rfl
theorem one_of {S : List PV → Prop} {ps : List PV} (h1 : S ps) (h : ∀ ps, S ps → ∃ q, ps = [q]) : ∃ q, ps = [q] ∧ S [q] := by
  obtain ⟨q, rfl⟩ := h ps h1
  exact ⟨q, rfl, h1⟩

def okExt (x : Exn) : Prop := okI x.start ∧ okI x.count
def SExt : List PV → Prop := SCat [SInt .i64, SInt .i64]
theorem sext {ps : List PV} (h : SExt ps) : ∃ x : Exn, okExt x ∧ PV.agg ps = eExt x := by
  obtain ⟨p, q, rfl, ⟨n, h1, rfl⟩, p2, q2, rfl, ⟨m, h2, rfl⟩, rfl⟩ := h
  obtain ⟨a, o1, e1⟩ := sint_i64 ⟨n, h1, rfl⟩
  obtain ⟨b, o2, e2⟩ := sint_i64 ⟨m, h2, rfl⟩
  refine ⟨⟨a, b⟩, ⟨o1, o2⟩, ?_⟩
  rw [e1, e2]; rfl
def SSecs : List PV → Prop := SList 8 SSec .agg
theorem ssecs {q : PV} (h : SSecs [q]) : ∃ l : List Sec, q = eSecs l := by
  obtain ⟨l, _, e⟩ := slist (enc := eSec) (ok := fun _ => True) (fun ps h => by obtain ⟨s, rfl⟩ := ssec h; exact ⟨s, trivial, rfl⟩) h
  exact ⟨l, e⟩
def SImg : List PV → Prop := SList 1 SSecs wrS
theorem simg {q : PV} (h : SImg [q]) : ∃ l : Img, q = .list 1 (l.map eSecs) := by
  obtain ⟨l, _, e⟩ := slist (enc := eSecs) (ok := fun _ => True) (fun ps h => by
    obtain ⟨es, rfl, h2⟩ := h
    obtain ⟨l, e⟩ := ssecs (q := .list 8 es) ⟨es, rfl, h2⟩
    exact ⟨l, trivial, e⟩) h
  exact ⟨l, e⟩
theorem Try.rdInt : RdsC Try.prog 3 1 (SInt .i64) := RdsC.int Try.underlying3 (by kernel_rfl)
theorem Try.rdU8 : RdsC Try.prog 5 1 (SInt .u8) := RdsC.int Try.underlying5 (by kernel_rfl)
theorem Try.rdSec : RdsC Try.prog 79 8 SSec := RdsC.arr Try.underlying79 Try.rdU8 (by kernel_rfl)
theorem Try.rdSecs : RdsC Try.prog 73 1 SSecs := RdsC.list Try.underlying73 (by kernel_rfl) Try.rdSec (by decide) (fun _ _ _ => rfl)
theorem Try.rdImg : RdsC Try.prog 48 1 SImg := RdsC.list Try.underlying48 (by kernel_rfl) Try.rdSecs (by decide) (fun _ h _ => wr_list h)
theorem Try.rdExt : RdsC Try.prog 76 2 SExt := RdsC.struct2 Try.underlying76 Try.rdInt Try.rdInt rfl rfl (by kernel_rfl)
end Go.Proofs.Ytpdfhckdmblicaa.V

namespace Go.Proofs.Ytpdfhckdmblicaa.V
open Go.RowKit Go.ChangeShapes Go.WideShapes Go.ChangeAt
set_option linter.all false
theorem su8n {ps : List PV} (h : SInt .u8 ps) : ∃ c : Nat, c < 256 ∧ wrS ps = eU8n c := by
  obtain ⟨n, h1, rfl⟩ := h
  obtain ⟨b, e⟩ := sint_u8 ⟨n, h1, rfl⟩
  refine ⟨b.toNat, b.toNat_lt, ?_⟩
  simp only [wrS, eU8n]
  exact e
def SU8s : List PV → Prop := SList 1 (SInt .u8) wrS
theorem su8s {q : PV} (h : SU8s [q]) : ∃ l : List Nat, (∀ c ∈ l, c < 256) ∧ q = .list 1 (l.map eU8n) :=
  slist (enc := eU8n) (ok := fun c => c < 256) (fun ps h => su8n h) h
theorem Try.rdU8s : RdsC Try.prog 81 1 SU8s := RdsC.list Try.underlying81 (by kernel_rfl) Try.rdU8 (by decide) (fun _ h _ => wr_int h)
end Go.Proofs.Ytpdfhckdmblicaa.V

namespace Go.Proofs.Ytpdfhckdmblicaa
open Go.RowKit V
set_option linter.all false

def oneEnv (f : Nat) (fn : VFn) : Env := fun k => if k = f then some (.code fn) else none
theorem oneEnv_ok {P : Program} {f : Nat} {fn : VFn} (h : fnOk P f fn = true) : EnvOk P (oneEnv f fn) := fun k d hk => by
  unfold oneEnv at hk
  split at hk
  · rename_i e; subst e; cases hk; exact h
  · cases hk
def emR (n : Nat) : Rep Unit where
  sz := n
  rd _ _ cs _ := cs.length = n ∧ ∀ u ∈ cs, u.oneCell' = true
  len h := h.1
  mono _ h := h
  live h := h
  frame _ h := h
  one h := h.2
theorem Flat.em (n : Nat) : Flat (emR n) := fun h => h
theorem sl_nil {ok : Nat → Prop} {w : World} {sz : Nat} {v : Value} (h : PRep ok w (.list sz []) v) : ∃ a c, v = .slice a 0 c ∧ Sl (emR sz) (fun _ => True) w a 0 c [] := by
  obtain ⟨l, hl⟩ : ∃ l : List PV, l = [] := ⟨_, rfl⟩
  rw [← hl] at h
  cases h with
  | nil _ a => exact ⟨a, 0, rfl, ⟨rfl, Nat.le_refl _, Nat.zero_le _, fun _ => rfl, .inl rfl⟩⟩
  | list _ _ b off c cv h1 h2 h3 h4 h6 h7 h8 => subst hl; exact ⟨_, c, rfl, ⟨rfl, Nat.zero_le _, h4, (fun e => by cases e), .inl rfl⟩⟩
theorem slt94 : SliceT Try.prog 73 79 8 8 (.agg #[.int .u8 0, .int .u8 0, .int .u8 0, .int .u8 0, .int .u8 0, .int .u8 0, .int .u8 0, .int .u8 0]) := ⟨Try.underlying73, by kernel_rfl, rfl, by decide⟩
set_option maxHeartbeats 1000000 in
theorem cempty94 {a : Option Addr} {n c : Nat} {l : List Unit} {ok : Nat → Prop} {w : World} (h : Sl (emR 8) ok w a n c l) (hn : n ≤ 1000000) :
    Calls Try.prog 94 #[.slice a n c] w fun e w' => ∃ a' n' c', e = .returned (.slice a' n' c') ∧ (ownRowR (emR 8) 79).rd (w.heap.size ≤ ·) w' [.slice a' n' c'] l ∧ Below w.heap.size w w' := by
  have heq := fun (a : Option Addr) (n c : Nat) (w : World) => Lib.run_eql_slice_nil (P := Try.prog) w 73 79 a n c 0 0 Try.underlying73
  cases a with
  | none =>
    have h0 : l = [] := List.eq_nil_of_length_eq_zero (by rw [h.len]; have := h.nil rfl; have := h.cap; omega)
    have H0 := Lib.hid h0; clear h0
    go_enter Try.func94, Try.ntmps94
    go_wp2
    go_ret
    refine ⟨_, _, _, rfl, ?_, Below.refl _ _⟩
    rw [H0.out]
    exact ownRowR.mk (Own.nil _ _ _ _ _) (fun _ => .inl rfl)
  | some ad =>
    have hs := h.small
    go_enter Try.func94, Try.ntmps94
    go_wp2_with (at_builtin; refine wpList_app slt94 rfl _ _ rfl rfl (Own.lit0 (emR 8) (ok := fun _ => False) (Nat.le_refl _)) rfl ((Src.of_sl (h.below ((Below.refl _ _).alloc (Nat.le_refl _) _))).flat (Flat.em 8)) ?c1 ?c2 ?c3 ?_)
    case c1 => simp; unfold maxLen; omega
    case c2 => simp; omega
    case c3 => simp
    intro v' w1 hown hgrow hat
    obtain ⟨a', n', c', rfl, _⟩ := hown.sl
    go_wp2
    go_ret
    refine ⟨_, _, _, rfl, ownRowR.mk (by simpa using hown) (fun e => ?_), ((Below.refl _ _).alloc (Nat.le_refl _) _).grown hgrow (by simp) (fun k hk => by cases hk; exact Nat.le_refl _)⟩
    subst e
    obtain ⟨xs, h1, _⟩ := hown
    rcases h1.2 with ⟨hv, _⟩ | ⟨g, cap, cur, hv, _⟩
    · exact .inl hv
    · exact .inr ⟨g, cap, by simpa using hv⟩
theorem clone94_fn : fnOk Try.prog 94 fn94 = true := by kernel_rfl
theorem clone94_some {en : Env} (hen : en 94 = some (.code fn94)) {e : PV} {es : List PV} (hl : (e :: es).length ≤ lim) : cal en 94 [.list 8 (e :: es)] = some [(.list 8 (e :: es), true)] := by
  have F1 : (es.length + 1 ≤ lim) = True := eq_true (by simpa using hl)
  rw [cal_code hen rfl]
  simp only [fn94]
  simp only [start, z_map_cons, z_map_nil, z_len_cons, z_len_nil, z_repl_zero, z_repl_succ, z_cons_app, z_nil_app, Nat.reduceAdd, Nat.reduceSub]
  simp only [F1, z_nil_app, List.isEmpty_nil, val_pvs, frozen_pvs, msnoc_len, msnoc_get, msnoc_set, msnoc_take, Int.le_refl, take_map_all, Nat.le_refl, St.freezeRows, BV.frozen, List.take_length, List.take_append_drop, z_repl_zero, Int.toNat_zero, true_and, and_true, and_self, eq_self, z_take_zero, List.drop_nil, List.take_nil, vAll, List.foldl_nil, List.foldl_cons, resultsOf, resultList, resultOf, zBV, splice, PV.remade, St.freezeAt, St.freezeBox, St.freezeCap, PV.single, plain, act, dstOf, if_true, if_false, reduceCtorEq, St.get, St.put, St.pvOf, St.putRow, St.consume, St.freeze, St.row, St.elems, St.grab, St.takeRow, St.setRow, St.place, St.optPv, St.setCell, St.setCellRow, binPV, intBin, unPV, BV.val, Nat.reduceEqDiff, bound, consumeAll, buildParts, capsOf, capOf, List.append_nil, Nat.reduceAdd, Nat.reduceLT, Nat.reduceLeDiff, beq_self_eq_true, List.length_map, Nat.beq, dcall, dcallP, List.mapM_cons, St.snapFn, St.snap, St.layAll, St.lay, St.freezeArg, St.freezeArg1]
theorem clone94_ok : ∀ args rs, cloneX 8 args = some rs → callable Try.prog 94 = true ∧ CallOk Try.prog 94 args rs := fun args rs h => by
  unfold cloneX at h
  split at h
  case h_2 => cases h
  rename_i sz es
  split at h
  case isFalse => cases h
  rename_i hc
  obtain ⟨rfl, hl⟩ := hc
  cases h
  cases es with
  | cons e es =>
    obtain ⟨n, hn⟩ := vmCall_of_cal (clone94_some (en := oneEnv 94 fn94) (if_pos rfl) hl)
    exact vmCall_ok (oneEnv_ok clone94_fn) hn
  | nil =>
    refine ⟨by kernel_rfl, fun T0 w vs h1 h2 h3 h4 => ?_⟩
    match vs, h3 with
    | [v], _ =>
      have hv := h4 0 _ v rfl rfl
      obtain ⟨a, c, rfl, hsl⟩ := sl_nil hv
      refine (cempty94 (ok := fun _ => True) hsl (by omega)).mono ?_
      rintro e w' ⟨a', n', c', rfl, hrd, hB⟩
      obtain ⟨v, hv, hb, ⟨xs, hown, _⟩, hnil⟩ := hrd
      obtain rfl : Value.slice a' n' c' = v := by simpa using hv
      rcases hown.2 with ⟨e1, _⟩ | ⟨g, cap, cur, e1, _, hg, _, hm, hs, _⟩
      · refine ⟨_, T0, rfl, hB, fun _ _ => rfl, fun b hb => h2 b (by have := hB.size; omega), #[_], rfl, rfl, fun i r u hr hu => ?_⟩
        cases i with
        | zero => cases hr; cases hu; exact .inl ⟨rfl, none, e1⟩
        | succ i => simp at hr
      · have hg0 : w.heap.size ≤ g := hb g (by rw [e1]; rfl)
        have hgl : g < w'.heap.size := (Array.getElem?_eq_some_iff.1 hg).1
        refine ⟨_, fun b => if b = g then .row (.part 0 0) else T0 b, rfl, hB, fun b hb => if_neg (by omega), fun b hb => ?_, #[_], rfl, rfl, fun i r u hr hu => ?_⟩
        · show (if b = g then _ else T0 b) = _
          rw [if_neg (by omega)]; exact h2 b (by have := hB.size; omega)
        · cases i with
          | zero =>
            cases hr; cases hu
            exact .inr ⟨g, cap, cur, _, e1, if_pos rfl, hg, hs, Nat.zero_le _, hm, (fun e he => by cases he), fun i e j x hi => by simp at hi⟩
          | succ i => simp at hr
theorem slt53 : SliceT Try.prog 22 86 3 24 (.agg #[.int .i64 0, .int .i64 0, .int .i64 0]) := ⟨Try.underlying22, by kernel_rfl, rfl, by decide⟩
set_option maxHeartbeats 1000000 in
theorem cempty53 {a : Option Addr} {n c : Nat} {l : List Unit} {ok : Nat → Prop} {w : World} (h : Sl (emR 3) ok w a n c l) (hn : n ≤ 1000000) :
    Calls Try.prog 53 #[.slice a n c] w fun e w' => ∃ a' n' c', e = .returned (.slice a' n' c') ∧ (ownRowR (emR 3) 86).rd (w.heap.size ≤ ·) w' [.slice a' n' c'] l ∧ Below w.heap.size w w' := by
  have heq := fun (a : Option Addr) (n c : Nat) (w : World) => Lib.run_eql_slice_nil (P := Try.prog) w 22 86 a n c 0 0 Try.underlying22
  cases a with
  | none =>
    have h0 : l = [] := List.eq_nil_of_length_eq_zero (by rw [h.len]; have := h.nil rfl; have := h.cap; omega)
    have H0 := Lib.hid h0; clear h0
    go_enter Try.func53, Try.ntmps53
    go_wp2
    go_ret
    refine ⟨_, _, _, rfl, ?_, Below.refl _ _⟩
    rw [H0.out]
    exact ownRowR.mk (Own.nil _ _ _ _ _) (fun _ => .inl rfl)
  | some ad =>
    have hs := h.small
    go_enter Try.func53, Try.ntmps53
    go_wp2_with (at_builtin; refine wpList_app slt53 rfl _ _ rfl rfl (Own.lit0 (emR 3) (ok := fun _ => False) (Nat.le_refl _)) rfl ((Src.of_sl (h.below ((Below.refl _ _).alloc (Nat.le_refl _) _))).flat (Flat.em 3)) ?c1 ?c2 ?c3 ?_)
    case c1 => simp; unfold maxLen; omega
    case c2 => simp; omega
    case c3 => simp
    intro v' w1 hown hgrow hat
    obtain ⟨a', n', c', rfl, _⟩ := hown.sl
    go_wp2
    go_ret
    refine ⟨_, _, _, rfl, ownRowR.mk (by simpa using hown) (fun e => ?_), ((Below.refl _ _).alloc (Nat.le_refl _) _).grown hgrow (by simp) (fun k hk => by cases hk; exact Nat.le_refl _)⟩
    subst e
    obtain ⟨xs, h1, _⟩ := hown
    rcases h1.2 with ⟨hv, _⟩ | ⟨g, cap, cur, hv, _⟩
    · exact .inl hv
    · exact .inr ⟨g, cap, by simpa using hv⟩
theorem clone53_fn : fnOk Try.prog 53 fn53 = true := by kernel_rfl
theorem clone53_some {en : Env} (hen : en 53 = some (.code fn53)) {e : PV} {es : List PV} (hl : (e :: es).length ≤ lim) : cal en 53 [.list 3 (e :: es)] = some [(.list 3 (e :: es), true)] := by
  have F1 : (es.length + 1 ≤ lim) = True := eq_true (by simpa using hl)
  rw [cal_code hen rfl]
  simp only [fn53]
  simp only [start, z_map_cons, z_map_nil, z_len_cons, z_len_nil, z_repl_zero, z_repl_succ, z_cons_app, z_nil_app, Nat.reduceAdd, Nat.reduceSub]
  simp only [F1, z_nil_app, List.isEmpty_nil, val_pvs, frozen_pvs, msnoc_len, msnoc_get, msnoc_set, msnoc_take, Int.le_refl, take_map_all, Nat.le_refl, St.freezeRows, BV.frozen, List.take_length, List.take_append_drop, z_repl_zero, Int.toNat_zero, true_and, and_true, and_self, eq_self, z_take_zero, List.drop_nil, List.take_nil, vAll, List.foldl_nil, List.foldl_cons, resultsOf, resultList, resultOf, zBV, splice, PV.remade, St.freezeAt, St.freezeBox, St.freezeCap, PV.single, plain, act, dstOf, if_true, if_false, reduceCtorEq, St.get, St.put, St.pvOf, St.putRow, St.consume, St.freeze, St.row, St.elems, St.grab, St.takeRow, St.setRow, St.place, St.optPv, St.setCell, St.setCellRow, binPV, intBin, unPV, BV.val, Nat.reduceEqDiff, bound, consumeAll, buildParts, capsOf, capOf, List.append_nil, Nat.reduceAdd, Nat.reduceLT, Nat.reduceLeDiff, beq_self_eq_true, List.length_map, Nat.beq, dcall, dcallP, List.mapM_cons, St.snapFn, St.snap, St.layAll, St.lay, St.freezeArg, St.freezeArg1]
theorem clone53_ok : ∀ args rs, cloneX 3 args = some rs → callable Try.prog 53 = true ∧ CallOk Try.prog 53 args rs := fun args rs h => by
  unfold cloneX at h
  split at h
  case h_2 => cases h
  rename_i sz es
  split at h
  case isFalse => cases h
  rename_i hc
  obtain ⟨rfl, hl⟩ := hc
  cases h
  cases es with
  | cons e es =>
    obtain ⟨n, hn⟩ := vmCall_of_cal (clone53_some (en := oneEnv 53 fn53) (if_pos rfl) hl)
    exact vmCall_ok (oneEnv_ok clone53_fn) hn
  | nil =>
    refine ⟨by kernel_rfl, fun T0 w vs h1 h2 h3 h4 => ?_⟩
    match vs, h3 with
    | [v], _ =>
      have hv := h4 0 _ v rfl rfl
      obtain ⟨a, c, rfl, hsl⟩ := sl_nil hv
      refine (cempty53 (ok := fun _ => True) hsl (by omega)).mono ?_
      rintro e w' ⟨a', n', c', rfl, hrd, hB⟩
      obtain ⟨v, hv, hb, ⟨xs, hown, _⟩, hnil⟩ := hrd
      obtain rfl : Value.slice a' n' c' = v := by simpa using hv
      rcases hown.2 with ⟨e1, _⟩ | ⟨g, cap, cur, e1, _, hg, _, hm, hs, _⟩
      · refine ⟨_, T0, rfl, hB, fun _ _ => rfl, fun b hb => h2 b (by have := hB.size; omega), #[_], rfl, rfl, fun i r u hr hu => ?_⟩
        cases i with
        | zero => cases hr; cases hu; exact .inl ⟨rfl, none, e1⟩
        | succ i => simp at hr
      · have hg0 : w.heap.size ≤ g := hb g (by rw [e1]; rfl)
        have hgl : g < w'.heap.size := (Array.getElem?_eq_some_iff.1 hg).1
        refine ⟨_, fun b => if b = g then .row (.part 0 0) else T0 b, rfl, hB, fun b hb => if_neg (by omega), fun b hb => ?_, #[_], rfl, rfl, fun i r u hr hu => ?_⟩
        · show (if b = g then _ else T0 b) = _
          rw [if_neg (by omega)]; exact h2 b (by have := hB.size; omega)
        · cases i with
          | zero =>
            cases hr; cases hu
            exact .inr ⟨g, cap, cur, _, e1, if_pos rfl, hg, hs, Nat.zero_le _, hm, (fun e he => by cases he), fun i e j x hi => by simp at hi⟩
          | succ i => simp at hr
end Go.Proofs.Ytpdfhckdmblicaa
