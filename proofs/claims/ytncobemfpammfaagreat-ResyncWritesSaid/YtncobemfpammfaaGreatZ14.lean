/-
  Part 14 of the texts that the statement stands on.
-/
import Derived.Test.YtncobemfpammfaaGreatZ13
import Derived.ProofKit
import Derived.SizedLaws
import Derived.OpenShut
import Derived.Deep.Strs
import Derived.Test.YtncobemfpammfaaGreatRows
set_option linter.all false
namespace Go.Proofs.YtncobemfpammfaaGreat.V
theorem few7_b' {im : Img} (h : few7 im = true) : im.length ≤ 9 ∧ ∀ v ∈ im, v.length ≤ 24 := by
  unfold few7 at h
  simp only [Bool.and_eq_true, decide_eq_true_eq] at h
  exact ⟨h.1, fun v hv => by simpa using List.all_eq_true.1 h.2 v hv⟩
theorem wrN_len {im : Img} {l : List (List Exn)} {k : Nat} (hr : ∀ x ∈ l, x.length ≤ k) : ∀ n, n ≤ l.length → (wrN im l n).length ≤ k * n
  | 0, _ => by simp [wrN]
  | n + 1, h => by
    have ih := wrN_len (im := im) hr n (by omega)
    have h2 := hr _ (List.getElem_mem (show n < l.length by omega))
    rw [wrN_succ, List.length_append, show l.getD n [] = l[n] by simp [show n < l.length by omega], Nat.mul_add, Nat.mul_one]
    simp only [wrV, List.length_map]
    omega
def ePlan (b n t : Int) (p : List Int) : PV := .agg [.int .i64 b, .int .i64 n, .int .i64 t, .list 1 (p.map eI)]
set_option maxRecDepth 20000 in
theorem cal3 {a : Img} {l : List (List Exn)} {b n t : Int} {p : List Int} (ho : ∀ x ∈ l, okEs x) : cal env 3 [.list 1 (a.map eSecs), .list 1 (l.map eExts), ePlan b n t p] = some [(.bool true, false)] := by
  have e3 := calAwake
  have e0 := cal5 (im := a)
  have e2 := cal6 (l := l)
  have Q : ∀ n : Int, (n == n) = true := fun n => by simp
  unfold ePlan
  cases hfa : few7 a with
  | false =>
    rw [hfa] at e0
    rw [cal_code env3 rfl]; simp only [fn3, slAll, Nat.reduceBEq, Nat.reduceLeDiff, Nat.reduceAdd, List.length_cons, List.length_nil]
    simp only [e0, e3, slAll, Nat.reduceMul, Nat.reduceBEq, Nat.reduceLT, Nat.reduceLeDiff, Nat.zero_le, List.take_zero, List.take_nil, List.take_succ_cons, List.length_cons, List.length_nil, Nat.le_refl, List.isEmpty_nil, val_pvs, frozen_pvs, msnoc_len, msnoc_get, msnoc_set, msnoc_take, Int.le_refl, take_map_all, Nat.le_refl, St.freezeRows, BV.frozen, List.take_length, List.take_append_drop, z_repl_zero, Int.toNat_zero, true_and, and_true, and_self, eq_self, z_take_zero, List.drop_nil, List.take_nil, vAll, List.foldl_nil, List.foldl_cons, resultsOf, resultList, resultOf, zBV, splice, PV.remade, St.freezeAt, St.freezeBox, St.freezeCap, PV.single, plain, act, dstOf, if_true, if_false, reduceCtorEq, St.get, St.put, St.pvOf, St.putRow, St.consume, St.freeze, St.row, St.elems, St.grab, St.takeRow, St.setRow, St.place, St.optPv, St.setCell, St.setCellRow, binPV, intBin, unPV, BV.val, Nat.reduceEqDiff, bound, consumeAll, buildParts, capsOf, capOf, List.append_nil, Nat.reduceAdd, Nat.reduceLT, Nat.reduceLeDiff, beq_self_eq_true, List.length_map, Nat.beq, dcall, dcallP, List.mapM_cons, St.snapFn, St.snap, St.layAll, St.lay, St.freezeArg, St.freezeArg1]
  | true =>
    rw [hfa] at e0
    cases hfl : fewL l with
    | false =>
      rw [hfl] at e2
      rw [cal_code env3 rfl]; simp only [fn3, slAll, Nat.reduceBEq, Nat.reduceLeDiff, Nat.reduceAdd, List.length_cons, List.length_nil]
      simp only [e0, e2, e3, slAll, Nat.reduceMul, Nat.reduceBEq, Nat.reduceLT, Nat.reduceLeDiff, Nat.zero_le, List.take_zero, List.take_nil, List.take_succ_cons, List.length_cons, List.length_nil, Nat.le_refl, List.isEmpty_nil, val_pvs, frozen_pvs, msnoc_len, msnoc_get, msnoc_set, msnoc_take, Int.le_refl, take_map_all, Nat.le_refl, St.freezeRows, BV.frozen, List.take_length, List.take_append_drop, z_repl_zero, Int.toNat_zero, true_and, and_true, and_self, eq_self, z_take_zero, List.drop_nil, List.take_nil, vAll, List.foldl_nil, List.foldl_cons, resultsOf, resultList, resultOf, zBV, splice, PV.remade, St.freezeAt, St.freezeBox, St.freezeCap, PV.single, plain, act, dstOf, if_true, if_false, reduceCtorEq, St.get, St.put, St.pvOf, St.putRow, St.consume, St.freeze, St.row, St.elems, St.grab, St.takeRow, St.setRow, St.place, St.optPv, St.setCell, St.setCellRow, binPV, intBin, unPV, BV.val, Nat.reduceEqDiff, bound, consumeAll, buildParts, capsOf, capOf, List.append_nil, Nat.reduceAdd, Nat.reduceLT, Nat.reduceLeDiff, beq_self_eq_true, List.length_map, Nat.beq, dcall, dcallP, List.mapM_cons, St.snapFn, St.snap, St.layAll, St.lay, St.freezeArg, St.freezeArg1]
    | true =>
      rw [hfl] at e2
      by_cases hp : p.length > 20
      · have G : ((p.length : Int) > 20) = True := eq_true (by omega)
        rw [cal_code env3 rfl]; simp only [fn3, slAll, Nat.reduceBEq, Nat.reduceLeDiff, Nat.reduceAdd, List.length_cons, List.length_nil]
        simp only [e0, e2, e3, G, List.length_map, slAll, Nat.reduceMul, Nat.reduceBEq, Nat.reduceLT, Nat.reduceLeDiff, Nat.zero_le, List.take_zero, List.take_nil, List.take_succ_cons, List.length_cons, List.length_nil, Nat.le_refl, List.isEmpty_nil, val_pvs, frozen_pvs, msnoc_len, msnoc_get, msnoc_set, msnoc_take, Int.le_refl, take_map_all, Nat.le_refl, St.freezeRows, BV.frozen, List.take_length, List.take_append_drop, z_repl_zero, Int.toNat_zero, true_and, and_true, and_self, eq_self, z_take_zero, List.drop_nil, List.take_nil, vAll, List.foldl_nil, List.foldl_cons, resultsOf, resultList, resultOf, zBV, splice, PV.remade, St.freezeAt, St.freezeBox, St.freezeCap, PV.single, plain, act, dstOf, if_true, if_false, reduceCtorEq, St.get, St.put, St.pvOf, St.putRow, St.consume, St.freeze, St.row, St.elems, St.grab, St.takeRow, St.setRow, St.place, St.optPv, St.setCell, St.setCellRow, binPV, intBin, unPV, BV.val, Nat.reduceEqDiff, bound, consumeAll, buildParts, capsOf, capOf, List.append_nil, Nat.reduceAdd, Nat.reduceLT, Nat.reduceLeDiff, beq_self_eq_true, List.length_map, Nat.beq, dcall, dcallP, List.mapM_cons, St.snapFn, St.snap, St.layAll, St.lay, St.freezeArg, St.freezeArg1]
      · have G : ((p.length : Int) > 20) = False := eq_false (by omega)
        obtain ⟨a1, a2⟩ := few7_b' hfa
        obtain ⟨l1, l2⟩ := fewL_of hfl
        have hlim : lim = 1073741824 := rfl
        have hri : ∀ v ∈ a, v.length ≤ 1000000 := fun v hv => by have := a2 v hv; omega
        have hr : ∀ x ∈ l, x.length ≤ 10000 := fun x hx => by have := l2 x hx; omega
        have hW : (wrL a l).length ≤ 1000000 := by
          have := wrN_len (im := a) l2 l.length (Nat.le_refl _)
          have : 40 * l.length ≤ 40 * 20 := Nat.mul_le_mul_left _ l1
          unfold wrL; omega
        have hL : fitE a l = 0 → (wrL a l).length ≤ 1000000 := fun _ => hW
        have hd := wrL_data (l := l) a2
        have k1 := cal8 (im := a) (l := l) (by omega) hri ho hr (by omega) hL
        have k2 := cal9 (im := a) (l := l) (by omega) hri ho hr (by omega) hL
        have k3 := cal10 (im := a) (l := l) (b := b) (n := n) (t := t) (p := p) (by omega) hri ho hr (by omega) hL (by omega)
        have k4 := cal11 (im := a) (l := l) (b := b) (n := n) (t := t) (p := p) (by omega) hri ho hr (by omega) hL (by omega)
        have k5 := cal12 (a := wrO a l) (by unfold wrO; split; (· omega); (· simp)) (fun x hx => by
          unfold wrO at hx
          split at hx
          · have := hd x hx; omega
          · cases hx)
        by_cases c : cyE a l b n t p = 0
        · have k6 := cal13 (b := b) (n := n) (t := t) (p := p) (w := wrL a l) (by omega) (by omega) (fun x hx => by have := hd x hx; omega)
          unfold cyO at k3 k4
          rw [if_pos c] at k3 k4
          unfold eCyc at *
          generalize wrE a l = ne at *
          generalize cyE a l b n t p = ce at *
          generalize wrO a l = wo at *
          rw [cal_code env3 rfl]; simp only [fn3, slAll, Nat.reduceBEq, Nat.reduceLeDiff, Nat.reduceAdd, List.length_cons, List.length_nil]
          simp only [e0, e2, e3, G, k1, k2, k3, k4, k5, k6, Q, List.length_map, slAll, Nat.reduceMul, Nat.reduceBEq, Nat.reduceLT, Nat.reduceLeDiff, Nat.zero_le, List.take_zero, List.take_nil, List.take_succ_cons, List.length_cons, List.length_nil, Nat.le_refl, List.isEmpty_nil, val_pvs, frozen_pvs, msnoc_len, msnoc_get, msnoc_set, msnoc_take, Int.le_refl, take_map_all, Nat.le_refl, St.freezeRows, BV.frozen, List.take_length, List.take_append_drop, z_repl_zero, Int.toNat_zero, true_and, and_true, and_self, eq_self, z_take_zero, List.drop_nil, List.take_nil, vAll, List.foldl_nil, List.foldl_cons, resultsOf, resultList, resultOf, zBV, splice, PV.remade, St.freezeAt, St.freezeBox, St.freezeCap, PV.single, plain, act, dstOf, if_true, if_false, reduceCtorEq, St.get, St.put, St.pvOf, St.putRow, St.consume, St.freeze, St.row, St.elems, St.grab, St.takeRow, St.setRow, St.place, St.optPv, St.setCell, St.setCellRow, binPV, intBin, unPV, BV.val, Nat.reduceEqDiff, bound, consumeAll, buildParts, capsOf, capOf, List.append_nil, Nat.reduceAdd, Nat.reduceLT, Nat.reduceLeDiff, beq_self_eq_true, List.length_map, Nat.beq, dcall, dcallP, List.mapM_cons, St.snapFn, St.snap, St.layAll, St.lay, St.freezeArg, St.freezeArg1]
        · have k6 := cal13z
          unfold cyO at k3 k4
          rw [if_neg c] at k3 k4
          unfold zCyc at *
          generalize wrE a l = ne at *
          generalize cyE a l b n t p = ce at *
          generalize wrO a l = wo at *
          rw [cal_code env3 rfl]; simp only [fn3, slAll, Nat.reduceBEq, Nat.reduceLeDiff, Nat.reduceAdd, List.length_cons, List.length_nil]
          simp only [e0, e2, e3, G, k1, k2, k3, k4, k5, k6, Q, List.length_map, slAll, Nat.reduceMul, Nat.reduceBEq, Nat.reduceLT, Nat.reduceLeDiff, Nat.zero_le, List.take_zero, List.take_nil, List.take_succ_cons, List.length_cons, List.length_nil, Nat.le_refl, List.isEmpty_nil, val_pvs, frozen_pvs, msnoc_len, msnoc_get, msnoc_set, msnoc_take, Int.le_refl, take_map_all, Nat.le_refl, St.freezeRows, BV.frozen, List.take_length, List.take_append_drop, z_repl_zero, Int.toNat_zero, true_and, and_true, and_self, eq_self, z_take_zero, List.drop_nil, List.take_nil, vAll, List.foldl_nil, List.foldl_cons, resultsOf, resultList, resultOf, zBV, splice, PV.remade, St.freezeAt, St.freezeBox, St.freezeCap, PV.single, plain, act, dstOf, if_true, if_false, reduceCtorEq, St.get, St.put, St.pvOf, St.putRow, St.consume, St.freeze, St.row, St.elems, St.grab, St.takeRow, St.setRow, St.place, St.optPv, St.setCell, St.setCellRow, binPV, intBin, unPV, BV.val, Nat.reduceEqDiff, bound, consumeAll, buildParts, capsOf, capOf, List.append_nil, Nat.reduceAdd, Nat.reduceLT, Nat.reduceLeDiff, beq_self_eq_true, List.length_map, Nat.beq, dcall, dcallP, List.mapM_cons, St.snapFn, St.snap, St.layAll, St.lay, St.freezeArg, St.freezeArg1]
end Go.Proofs.YtncobemfpammfaaGreat.V

namespace Go.Proofs.YtncobemfpammfaaGreat
open Go.RowKit Go.ChangeShapes Go.WideShapes Go.ChangeAt

theorem resrep_true {T : Tags} {w : World} {b : Bool} {v : Value} (h : ResRep T w [(.bool b, false)] v) : v = .bool b := by
  obtain ⟨arr, h1, h2, h3⟩ := h
  have ha : arr.size = 1 := h1
  have e0 : arr[0]? = some arr[0] := Array.getElem?_eq_getElem (by omega)
  have hv : v = arr[0] := by rw [h2, if_pos ha, Array.getD_eq_getD_getElem?, e0]; rfl
  have hr : PRep (fun b => T b = .ro) w (.bool b) arr[0] := h3 0 (.bool b, false) arr[0] rfl e0
  rw [hv]
  exact hr.bool_inv
def GlobIn (w : World) : Prop := GlobOk (fun b => if b < w.heap.size then .ro else .other) w
theorem GlobIn.none {w : World} : GlobIn w := fun p hp => by cases hp
theorem calls_true {P : Program} {env : Env} {f : Nat} {args : List PV} {vs : List Value} {w : World} (hE : EnvOk P env) (h : cal env f args = some [(.bool true, false)]) (hl : vs.length = args.length)
    (hr : ∀ (i : Nat) x v, args[i]? = some x → vs[i]? = some v → PRep (fun b => b < w.heap.size) w x v) (hG : GlobIn w) : Calls P f vs.toArray w (fun e w' => e = .returned (.bool true) ∧ Below w.heap.size w w') := by
  obtain ⟨n, hn⟩ := vmCall_of_cal h
  have hC := (vmCall_ok hE hn).2 (fun b => if b < w.heap.size then .ro else .other) w vs (fun b => by
    by_cases hb : b < w.heap.size
    · exact .inl (if_pos hb)
    · exact .inr (if_neg hb)) (fun b hb => if_neg (by omega)) hl (fun i x v hx hv => (hr i x v hx hv).frame fun b hb _ => ⟨if_pos hb, rfl⟩) hG
  refine hC.mono ?_
  rintro e w' ⟨v, T', rfl, h1, _, _, h2⟩
  exact ⟨by rw [resrep_true h2], h1⟩

def RepAll (w : World) : List PV → List Value → Prop
  | [], [] => True
  | x :: xs, v :: vs => PRep (fun b => b < w.heap.size) w x v ∧ RepAll w xs vs
  | _, _ => False
theorem RepAll.get {w : World} : ∀ {xs : List PV} {vs : List Value}, RepAll w xs vs → vs.length = xs.length ∧ ∀ (i : Nat) x v, xs[i]? = some x → vs[i]? = some v → PRep (fun b => b < w.heap.size) w x v
  | [], [], _ => ⟨rfl, fun i x v hx => by simp at hx⟩
  | x :: xs, v :: vs, h => by
    obtain ⟨h1, h2⟩ := h
    obtain ⟨k1, k2⟩ := h2.get
    refine ⟨by simp [k1], fun i y u hy hu => ?_⟩
    cases i with
    | zero => cases hy; cases hu; exact h1
    | succ i => exact k2 i y u hy hu
  | [], _ :: _, h => h.elim
  | _ :: _, [], h => h.elim
theorem calls_all {P : Program} {env : Env} {f : Nat} {args : List PV} {vs : List Value} {w : World} (hE : EnvOk P env) (h : cal env f args = some [(.bool true, false)]) (hr : RepAll w args vs) (hG : GlobIn w := by exact GlobIn.none) : Calls P f vs.toArray w (fun e w' => e = .returned (.bool true) ∧ Below w.heap.size w w') :=
  calls_true hE h hr.get.1 hr.get.2 hG
def CRep (w : World) (cs : List Value) (ps : List PV) : Prop :=
  cs.length = ps.length ∧ (∀ c ∈ cs, c.oneCell' = true) ∧ ∀ (j : Nat) x v, ps[j]? = some x → cs[j]? = some v → PRep (fun b => b < w.heap.size) w x v
def RdsC (P : Program) (t : TypeId) (n : Nat) (S : List PV → Prop) : Prop :=
  P.cellsOf t = n ∧ ∀ {H : Type} {enc : TypeId × Value → H} {w : World} {fuel : Nat} {cs : List Value} {x : DataW H × List MemPlace}, DataW.trod enc P w 0 (fun _ => true) true fuel t cs = some x → ∃ ps, S ps ∧ ps.length = n ∧ CRep w cs ps
def SInt (k : IntKind) (ps : List PV) : Prop := ∃ n, (Lit.int k n).wf = true ∧ ps = [.int k n]
def SBool (ps : List PV) : Prop := ∃ b, ps = [.bool b]
def SArr (n : Nat) (S : List PV → Prop) (ps : List PV) : Prop := ps.length = n ∧ ∀ p ∈ ps, S [p]
def wrS (ps : List PV) : PV := ps.headD .void
def SList (n : Nat) (S : List PV → Prop) (wr : List PV → PV) (ps : List PV) : Prop := ∃ es, ps = [.list n es] ∧ ∀ x ∈ es, ∃ q, S q ∧ x = wr q
def SCat : List (List PV → Prop) → List PV → Prop
  | [], ps => ps = []
  | S :: Ss, ps => ∃ p q, ps = p ++ q ∧ S p ∧ SCat Ss q

section
variable {P : Program} {t e : TypeId} {n m : Nat} {S : List PV → Prop} {k : IntKind}
theorem crep_one {w : World} {c : Value} {p : PV} (hc : c.oneCell' = true) (h : PRep (fun b => b < w.heap.size) w p c) : CRep w [c] [p] :=
  ⟨rfl, fun x hx => by rw [List.mem_singleton.1 hx]; exact hc, fun j x v hx hv => by
    cases j with
    | zero => cases hx; cases hv; exact h
    | succ j => simp at hx⟩
theorem RdsC.int (ht : P.underlying t = some (.int k)) (hc : P.cellsOf t = 1) : RdsC P t 1 (SInt k) := ⟨hc, fun h => by
  obtain ⟨n, rfl, _, hw⟩ := DataW.trod_int ht h
  exact ⟨[.int k n], ⟨n, hw, rfl⟩, rfl, crep_one rfl (.int k n)⟩⟩
theorem RdsC.bool (ht : P.underlying t = some .bool) (hc : P.cellsOf t = 1) : RdsC P t 1 SBool := ⟨hc, fun h => by
  obtain ⟨b, rfl, _⟩ := DataW.trod_bool ht h
  exact ⟨[.bool b], ⟨b, rfl⟩, rfl, crep_one rfl (.bool b)⟩⟩
theorem each_pick {α : Type} {p : Nat → α → Prop} : ∀ n : Nat, (∀ i, i < n → ∃ y, p i y) → ∃ l : List α, l.length = n ∧ ∀ i x, l[i]? = some x → p i x
  | 0, _ => ⟨[], rfl, fun i x h => by simp at h⟩
  | n + 1, h => by
    obtain ⟨l, h1, h2⟩ := each_pick n fun i hi => h i (by omega)
    obtain ⟨y, hy⟩ := h n (by omega)
    refine ⟨l ++ [y], by simp [h1], fun i x hx => ?_⟩
    by_cases hi : i < n
    · rw [List.getElem?_append_left (by omega)] at hx; exact h2 i x hx
    · have := (List.getElem?_eq_some_iff.1 hx).1
      obtain rfl : i = n := by simp at this; omega
      rw [List.getElem?_append_right (by omega), h1, Nat.sub_self] at hx
      cases hx
      exact hy
theorem RdsC.arr (ht : P.underlying t = some (.array n e)) (he : RdsC P e 1 S) (hc : P.cellsOf t = n) : RdsC P t n (SArr n S) := ⟨hc, fun {H enc w fuel cs x} h => by
  obtain ⟨xs, m, _, _, hl, hx, hE⟩ := DataW.trod_array ht h
  rw [hc] at hl
  obtain ⟨l, h1, h2⟩ := each_pick (p := fun i (b : PV) => S [b] ∧ ∃ c, cs[i]? = some c ∧ c.oneCell' = true ∧ PRep (fun b => b < w.heap.size) w b c) n fun i hi => by
    have := hE i hi
    rw [List.getElem?_eq_getElem (by omega), he.1] at this
    obtain ⟨ps, g1, g2, g3, g4, g5⟩ := he.2 this
    match ps, g2 with
    | [p], _ =>
      have hci : cs[i]? = some cs[i] := List.getElem?_eq_getElem (by omega)
      have h0 : ((cs.drop (i * 1)).take 1)[0]? = some cs[i] := by
        rw [List.getElem?_take, if_pos (by decide), List.getElem?_drop]
        simpa using hci
      exact ⟨p, g1, cs[i], hci, g4 _ (List.mem_of_getElem? h0), g5 0 p _ rfl h0⟩
  refine ⟨l, ⟨h1, fun p hp => ?_⟩, h1, by omega, fun c hc => ?_, fun j x v hx hv => ?_⟩
  · obtain ⟨i, hi⟩ := List.mem_iff_getElem?.1 hp
    exact (h2 i p hi).1
  · obtain ⟨i, hi⟩ := List.mem_iff_getElem?.1 hc
    have hil : i < l.length := by
      have := (List.getElem?_eq_some_iff.1 hi).1
      omega
    obtain ⟨_, c', e1, e2, _⟩ := h2 i l[i] (List.getElem?_eq_getElem hil)
    rw [hi] at e1; cases e1; exact e2
  · obtain ⟨_, c', e1, _, e3⟩ := h2 j x hx
    rw [hv] at e1; cases e1; exact e3⟩
theorem cellish_of {w : World} {b off : Nat} {v : Value} (h : w.cell? ⟨b, off, none⟩ = some v) : Cellish w b := by
  unfold World.cell? at h
  split at h
  · rename_i arr E q hb
    exact ⟨arr, E, q, hb⟩
  · cases h
theorem RdsC.list {wr : List PV → PV} (ht : P.underlying t = some (.slice e)) (hc : P.cellsOf t = 1) (hr : RdsC P e n S) (hpos : 0 < n) (hw : ∀ ps, S ps → ps.length = n → (wr ps).cells = ps) : RdsC P t 1 (SList n S wr) := ⟨hc, fun {H enc w fuel cs x} h => by
  rcases DataW.trod_slice ht h with ⟨rfl, _⟩ | ⟨a, len, cap, elems, rest, m, _, rfl, _, _, hl, hm, hel, hE, hR, _⟩
  · exact ⟨[.list n []], ⟨[], rfl, fun x hx => by cases hx⟩, rfl, crep_one rfl (.nil n none)⟩
  · obtain ⟨l, h1, h2⟩ := each_pick (p := fun i (y : List Value × List PV) => w.cells? 0 (a.add (i * n)) n = some y.1 ∧ S y.2 ∧ y.2.length = n ∧ CRep w y.1 y.2) len fun i hi => by
      have := hE i hi
      rw [List.getElem?_eq_getElem (by omega), hr.1, Option.bind_eq_some_iff] at this
      obtain ⟨c, h3, h4⟩ := this
      obtain ⟨ps, g1, g2, g3⟩ := hr.2 h4
      exact ⟨(c, ps), h3, g1, g2, g3⟩
    refine ⟨[.list n (l.map fun y => wr y.2)], ⟨_, rfl, fun x hx => ?_⟩, rfl, crep_one rfl ?_⟩
    · obtain ⟨y, hy, rfl⟩ := List.mem_map.1 hx
      obtain ⟨i, hi⟩ := List.mem_iff_getElem?.1 hy
      exact ⟨y.2, (h2 i y hi).2.1, rfl⟩
    · by_cases hcap : cap = 0
      · have : len = 0 := by omega
        subst hcap; subst this
        have : l = [] := List.eq_nil_of_length_eq_zero h1
        subst this
        exact .nil n (some a)
      · -- there are cells
        have hcell : ∃ off v, w.cell? ⟨a.block, off, none⟩ = some v ∧ a.spot = none := by
          have fromc : ∀ (i : Nat) (c : List Value), w.cells? 0 (a.add (i * n)) n = some c → ∃ off v, w.cell? ⟨a.block, off, none⟩ = some v ∧ a.spot = none := fun i c h3 => by
            obtain ⟨_, hc0, h4⟩ := World.cells?_some h3
            have h5 := h4 0 hpos
            rw [List.getElem?_eq_getElem (by omega)] at h5
            have hs : (a.add (i * n)).spot = none := by simpa [Addr.add] using World.cell?_spot h5
            have hs0 : a.spot = none := by
              unfold Addr.add at hs
              split at hs
              · exact hs
              · rename_i hne
                by_cases h0 : i * n = 0
                · rename_i q; exact absurd h0 (by simpa using hne)
                · rcases Nat.eq_zero_or_pos i with hi0 | hi0
                  · subst hi0; simp at h0
                  · -- the row begins at a: its first cell
                    have : 0 < len ∨ len = 0 := by omega
                    rcases this with hlen | hlen
                    · obtain ⟨y, hy⟩ : ∃ y, l[0]? = some y := ⟨l[0], List.getElem?_eq_getElem (by omega)⟩
                      obtain ⟨_, hc1, h6⟩ := World.cells?_some (h2 0 y hy).1
                      have h7 := h6 0 hpos
                      rw [List.getElem?_eq_getElem (by omega)] at h7
                      simpa [Addr.add] using World.cell?_spot h7
                    · have hrl : 0 < rest.length := by have := (hR rfl).1; omega
                      have := (hR rfl).2 0 (by omega)
                      have h8 : rest[0]? = some rest[0] := List.getElem?_eq_getElem hrl
                      rw [h8, hr.1, hlen, Option.bind_eq_some_iff] at this
                      obtain ⟨c1, h9, _⟩ := this
                      obtain ⟨_, hc1, h6⟩ := World.cells?_some h9
                      have h7 := h6 0 hpos
                      rw [List.getElem?_eq_getElem (by omega)] at h7
                      simpa [Addr.add] using World.cell?_spot h7
            obtain ⟨b, off, spot⟩ := a
            simp only at hs0
            subst hs0
            rw [Addr.add_lit, Addr.add_lit] at h5
            exact ⟨_, _, h5, rfl⟩
          rcases Nat.eq_zero_or_pos len with hlen | hlen
          · have hrl : 0 < rest.length := by have := (hR rfl).1; omega
            have := (hR rfl).2 0 (by omega)
            have h8 : rest[0]? = some rest[0] := List.getElem?_eq_getElem hrl
            rw [h8, hr.1, Option.bind_eq_some_iff] at this
            obtain ⟨c1, h9, _⟩ := this
            exact fromc _ c1 h9
          · obtain ⟨y, hy⟩ : ∃ y, l[0]? = some y := ⟨l[0], List.getElem?_eq_getElem (by omega)⟩
            exact fromc 0 _ (h2 0 y hy).1
        obtain ⟨off0, v0, hv0, hspot⟩ := hcell
        obtain ⟨b, off, spot⟩ := a
        simp only at hspot hv0
        subst hspot
        have hC : Cellish w b := cellish_of hv0
        have hget : ∀ (i : Nat) x, (l.map fun y => wr y.2)[i]? = some x → ∃ y, l[i]? = some y ∧ x = wr y.2 := fun i x hx => by
          rw [List.getElem?_map] at hx
          cases e : l[i]? with
          | none => rw [e] at hx; cases hx
          | some y => rw [e] at hx; exact ⟨y, rfl, (Option.some.inj hx).symm⟩
        have hlen : (l.map fun y => wr y.2).length = len := by simp [h1]
        have := PRep.list (ok := fun b => b < w.heap.size) (w := w) n (l.map fun y => wr y.2) b off cap (fun i j => (((l[i]?).map (·.1)).getD []).getD j default) hC.lt hC (by rw [hlen]; exact hl) hm
          (fun x hx => by
            obtain ⟨i, hi⟩ := List.mem_iff_getElem?.1 hx
            obtain ⟨y, hy, rfl⟩ := hget i x hi
            obtain ⟨_, g1, g2, _⟩ := h2 i y hy
            rw [hw _ g1 g2, g2])
          (fun i x j p hi hj => by
            obtain ⟨y, hy, rfl⟩ := hget i x hi
            obtain ⟨g0, g1, g2, g3, g4, g5⟩ := h2 i y hy
            rw [hw _ g1 g2] at hj
            have hjn : j < n := by have := (List.getElem?_eq_some_iff.1 hj).1; omega
            obtain ⟨_, hc1, h6⟩ := World.cells?_some g0
            have h7 := h6 j hjn
            have hcj : y.1[j]? = some y.1[j] := List.getElem?_eq_getElem (by omega)
            have hd : (((l[i]?).map (·.1)).getD []).getD j default = y.1[j] := by
              rw [hy]; simp [List.getD_eq_getElem?_getD, hcj]
            rw [hd]
            rw [hcj, Addr.add_lit, Addr.add_lit] at h7
            exact ⟨h7, g4 _ (List.mem_of_getElem? hcj)⟩)
          (fun i x j p hi hj => by
            obtain ⟨y, hy, rfl⟩ := hget i x hi
            obtain ⟨g0, g1, g2, g3, g4, g5⟩ := h2 i y hy
            rw [hw _ g1 g2] at hj
            have hjn : j < n := by have := (List.getElem?_eq_some_iff.1 hj).1; omega
            have hcj : y.1[j]? = some y.1[j] := List.getElem?_eq_getElem (by omega)
            have hd : (((l[i]?).map (·.1)).getD []).getD j default = y.1[j] := by
              rw [hy]; simp [List.getD_eq_getElem?_getD, hcj]
            rw [hd]
            exact g5 j p _ hj hcj)
        rw [hlen] at this
        exact this⟩
theorem CRep.append {w : World} {c1 c2 : List Value} {p1 p2 : List PV} (h1 : CRep w c1 p1) (h2 : CRep w c2 p2) : CRep w (c1 ++ c2) (p1 ++ p2) := by
  obtain ⟨a1, a2, a3⟩ := h1
  obtain ⟨b1, b2, b3⟩ := h2
  refine ⟨by simp [a1, b1], fun c hc => ?_, fun j x v hx hv => ?_⟩
  · rcases List.mem_append.1 hc with h | h
    · exact a2 c h
    · exact b2 c h
  · by_cases hj : j < p1.length
    · rw [List.getElem?_append_left hj] at hx
      rw [List.getElem?_append_left (by omega)] at hv
      exact a3 j x v hx hv
    · rw [List.getElem?_append_right (by omega)] at hx
      rw [List.getElem?_append_right (by omega), a1] at hv
      exact b3 _ x v hx hv
inductive Flds (P : Program) : Nat → List Field → List (List PV → Prop) → Nat → Prop
  | nil (o : Nat) : Flds P o [] [] 0
  | cons {o n m : Nat} {f : Field} {fs : List Field} {S : List PV → Prop} {Ss : List (List PV → Prop)} : f.offset = o → RdsC P f.type n S → Flds P (o + n) fs Ss m → Flds P o (f :: fs) (S :: Ss) (n + m)
theorem Flds.read {o : Nat} {fs : List Field} {Ss : List (List PV → Prop)} (h : Flds P o fs Ss m) {H : Type} {enc : TypeId × Value → H} {w : World} {fuel : Nat} {cs : List Value} {xs : List (DataW H × List MemPlace)} (hl : cs.length = o + m)
    (hx : ∀ (i : Nat) (f : Field), fs[i]? = some f → ∃ x, DataW.trod enc P w 0 (fun _ => true) true fuel f.type ((cs.drop f.offset).take (P.cellsOf f.type)) = some x) : ∃ ps, SCat Ss ps ∧ ps.length = m ∧ CRep w (cs.drop o) ps := by
  induction h with
  | nil o => exact ⟨[], rfl, rfl, by rw [List.drop_of_length_le (by omega)]; exact (⟨rfl, fun c hc => (by cases hc), fun j x v hx => (by simp at hx)⟩ : CRep w [] [])⟩
  | @cons o n m f fs S Ss h1 h2 h3 ih =>
    obtain ⟨x, h4⟩ := hx 0 f rfl
    rw [h2.1, h1] at h4
    obtain ⟨p, g1, g2, g3⟩ := h2.2 h4
    obtain ⟨q, k1, k2, k3⟩ := ih (by omega) (fun i f hf => hx (i + 1) f hf)
    refine ⟨p ++ q, ⟨p, q, rfl, g1, k1⟩, by simp [g2, k2], ?_⟩
    have : cs.drop o = (cs.drop o).take n ++ cs.drop (o + n) := by rw [← List.drop_drop, List.take_append_drop]
    rw [this]
    exact g3.append k3
theorem RdsC.struct {fs : Array Field} {Ss : List (List PV → Prop)} (ht : P.underlying t = some (.struct fs)) (hf : Flds P 0 fs.toList Ss n) (hc : P.cellsOf t = n) : RdsC P t n (SCat Ss) := ⟨hc, fun {H enc w fuel cs x} h => by
  obtain ⟨xs, m, _, _, hl, hx, hE⟩ := DataW.trod_struct ht h
  obtain ⟨ps, h1, h2, h3⟩ := hf.read (xs := xs) (enc := enc) (w := w) (fuel := m) (cs := cs) (by omega) (fun i f hi => by
    have hi' : fs[i]? = some f := by simpa using hi
    have := hE i f hi'
    have hil : i < xs.length := by rw [hx]; exact (Array.getElem?_eq_some_iff.1 hi').1
    exact ⟨xs[i], by rw [this, List.getElem?_eq_getElem hil]⟩)
  exact ⟨ps, h1, h2, by simpa using h3⟩⟩

theorem RdsC.struct2 {f0 f1 : Field} {n0 n1 : Nat} {S0 S1 : List PV → Prop} (ht : P.underlying t = some (.struct #[f0, f1])) (h0 : RdsC P f0.type n0 S0) (h1 : RdsC P f1.type n1 S1) (o0 : f0.offset = 0) (o1 : f1.offset = 0 + n0) (hc : P.cellsOf t = n0 + (n1 + 0)) : RdsC P t (n0 + (n1 + 0)) (SCat [S0, S1]) :=
  RdsC.struct ht (show Flds P 0 [f0, f1] [S0, S1] (n0 + (n1 + 0)) from .cons o0 h0 (.cons o1 h1 (.nil _))) hc
theorem RdsC.struct4 {f0 f1 f2 f3 : Field} {n0 n1 n2 n3 : Nat} {S0 S1 S2 S3 : List PV → Prop} (ht : P.underlying t = some (.struct #[f0, f1, f2, f3])) (h0 : RdsC P f0.type n0 S0) (h1 : RdsC P f1.type n1 S1) (h2 : RdsC P f2.type n2 S2) (h3 : RdsC P f3.type n3 S3) (o0 : f0.offset = 0) (o1 : f1.offset = 0 + n0) (o2 : f2.offset = 0 + n0 + n1) (o3 : f3.offset = 0 + n0 + n1 + n2) (hc : P.cellsOf t = n0 + (n1 + (n2 + (n3 + 0)))) : RdsC P t (n0 + (n1 + (n2 + (n3 + 0)))) (SCat [S0, S1, S2, S3]) :=
  RdsC.struct ht (show Flds P 0 [f0, f1, f2, f3] [S0, S1, S2, S3] (n0 + (n1 + (n2 + (n3 + 0)))) from .cons o0 h0 (.cons o1 h1 (.cons o2 h2 (.cons o3 h3 (.nil _))))) hc
theorem arg_one {H : Type} {enc : TypeId × Value → H} {w : World} {v : Value} {d : DataW H} {p : List MemPlace} (hr : RdsC P t 1 S) (hone : v.cells.toList = [v]) (h : DataW.Trod enc P w 0 (fun _ => true) true t v d p) :
    ∃ q, S [q] ∧ PRep (fun b => b < w.heap.size) w q v := by
  obtain ⟨fuel, hf⟩ := h
  obtain ⟨ps, h1, h2, h3, h4, h5⟩ := hr.2 hf
  match ps, h2 with
  | [q], _ => exact ⟨q, h1, h5 0 q v rfl (by rw [hone]; rfl)⟩
theorem arg_agg {H : Type} {enc : TypeId × Value → H} {w : World} {arr : Array Value} {d : DataW H} {p : List MemPlace} (hr : RdsC P t n S) (h : DataW.Trod enc P w 0 (fun _ => true) true t (.agg arr) d p) :
    ∃ ps, S ps ∧ PRep (fun b => b < w.heap.size) w (.agg ps) (.agg arr) := by
  obtain ⟨fuel, hf⟩ := h
  obtain ⟨ps, h1, h2, h3, h4, h5⟩ := hr.2 hf
  have hc : (Value.agg arr).cells = arr := rfl
  rw [hc] at h3 h4 h5
  refine ⟨ps, h1, .agg ps arr (by simpa using h3) (fun j v hv => h4 v (List.mem_of_getElem? (i := j) (by simpa using hv))) (fun j x v hx hv => h5 j x v hx (by simpa using hv))⟩
theorem arg_slice {H : Type} {enc : TypeId × Value → H} {w : World} {v : Value} {d : DataW H} {p : List MemPlace} {m : Reach} {base : Nat} (ht : P.underlying t = some (.slice e)) (hr : RdsC P t 1 S) (hv : Value.okWide P w m base t v) (h : DataW.Trod enc P w 0 (fun _ => true) true t v d p) :
    ∃ q, S [q] ∧ PRep (fun b => b < w.heap.size) w q v := by
  obtain ⟨a, l, c, rfl⟩ := okWide_slice ht hv
  exact arg_one hr rfl h
theorem arg_struct {H : Type} {enc : TypeId × Value → H} {w : World} {v : Value} {d : DataW H} {p : List MemPlace} {m : Reach} {base : Nat} {fs : Array Field} (ht : P.underlying t = some (.struct fs)) (hr : RdsC P t n S) (hv : Value.okWide P w m base t v) (h : DataW.Trod enc P w 0 (fun _ => true) true t v d p) :
    ∃ ps, S ps ∧ PRep (fun b => b < w.heap.size) w (.agg ps) v := by
  simp only [Value.okWide, ht] at hv
  obtain ⟨cs, rfl, _, _⟩ := hv
  exact arg_agg hr h
end
end Go.Proofs.YtncobemfpammfaaGreat

namespace Go.Proofs.YtncobemfpammfaaGreat.V
open Go.RowKit Go.ChangeShapes Go.WideShapes Go.ChangeAt

theorem Tryz.ownKnobV : ownKnob Tryz.prog.godebug = none := by kernel_rfl
theorem Tryz.laidOutV : laidOutB Tryz.prog = true := by kernel_rfl
def okI (n : Int) : Prop := -9223372036854775808 ≤ n ∧ n ≤ 9223372036854775807
theorem sint_i64 {q : PV} (h : SInt .i64 [q]) : ∃ n, okI n ∧ q = eI n := by
  obtain ⟨n, h1, h2⟩ := h
  have h3 : IntKind.i64.min = -9223372036854775808 := rfl
  have h4 : IntKind.i64.max = 9223372036854775807 := rfl
  simp only [Lit.wf, Bool.and_eq_true, decide_eq_true_eq] at h1
  cases h2
  exact ⟨n, ⟨by omega, by omega⟩, rfl⟩
theorem sint_u8 {q : PV} (h : SInt .u8 [q]) : ∃ b : UInt8, q = .int .u8 (b.toNat : Int) := by
  obtain ⟨n, h1, h2⟩ := h
  have h3 : IntKind.u8.min = 0 := rfl
  have h4 : IntKind.u8.max = 255 := rfl
  simp only [Lit.wf, Bool.and_eq_true, decide_eq_true_eq] at h1
  cases h2
  refine ⟨UInt8.ofNat n.toNat, ?_⟩
  rw [UInt8.toNat_ofNat_of_lt' (show n.toNat < 2 ^ 8 by omega)]
  congr 1; omega
def SSec : List PV → Prop := SArr 8 (SInt .u8)
theorem ssec {ps : List PV} (h : SSec ps) : ∃ s : Sec, ps = secPV s := by
  obtain ⟨h1, h2⟩ := h
  have : ∀ l : List PV, (∀ p ∈ l, SInt .u8 [p]) → ∃ m : List UInt8, m.length = l.length ∧ l = m.map fun b => .int .u8 (b.toNat : Int) := by
    intro l
    induction l with
    | nil => exact fun _ => ⟨[], rfl, rfl⟩
    | cons p l ih =>
      intro h
      obtain ⟨b, hb⟩ := sint_u8 (h p (by simp))
      obtain ⟨m, e1, e2⟩ := ih fun q hq => h q (by simp [hq])
      exact ⟨b :: m, by simp [e1], by rw [hb, e2]; rfl⟩
  obtain ⟨m, e1, e2⟩ := this ps h2
  refine ⟨⟨m.toArray, by simp [e1, h1]⟩, ?_⟩
  subst e2
  simp [secPV, Vector.toList]
theorem slist {α : Type} {n : Nat} {S : List PV → Prop} {wr : List PV → PV} {enc : α → PV} {ok : α → Prop} (hS : ∀ ps, S ps → ∃ a, ok a ∧ wr ps = enc a) {q : PV} (h : SList n S wr [q]) : ∃ l : List α, (∀ a ∈ l, ok a) ∧ q = .list n (l.map enc) := by
  obtain ⟨es, h1, h2⟩ := h
  cases h1
  have : ∀ es : List PV, (∀ x ∈ es, ∃ q, S q ∧ x = wr q) → ∃ l : List α, (∀ a ∈ l, ok a) ∧ es = l.map enc := by
    intro es
    induction es with
    | nil => exact fun _ => ⟨[], by simp, rfl⟩
    | cons e es ih =>
      intro h
      obtain ⟨q, h3, h4⟩ := h e (by simp)
      obtain ⟨a, h5, h6⟩ := hS q h3
      obtain ⟨l, h7, h8⟩ := ih fun x hx => h x (by simp [hx])
      exact ⟨a :: l, by simp; exact ⟨h5, h7⟩, by rw [h4, h6, h8]; rfl⟩
  obtain ⟨l, h3, h4⟩ := this es h2
  exact ⟨l, h3, by rw [h4]⟩
theorem wr_list {n : Nat} {S : List PV → Prop} {wr : List PV → PV} {ps : List PV} (h : SList n S wr ps) : (wrS ps).cells = ps := by
  obtain ⟨es, rfl, _⟩ := h; rfl
def okExt (x : Exn) : Prop := okI x.start ∧ okI x.count
def SExt : List PV → Prop := SCat [SInt .i64, SInt .i64]
theorem sext {ps : List PV} (h : SExt ps) : ∃ x : Exn, okExt x ∧ PV.agg ps = eExt x := by
  obtain ⟨p, q, rfl, ⟨n, h1, rfl⟩, p2, q2, rfl, ⟨m, h2, rfl⟩, rfl⟩ := h
  obtain ⟨a, o1, e1⟩ := sint_i64 ⟨n, h1, rfl⟩
  obtain ⟨b, o2, e2⟩ := sint_i64 ⟨m, h2, rfl⟩
  refine ⟨⟨a, b⟩, ⟨o1, o2⟩, ?_⟩
  rw [e1, e2]; rfl
def SSecs : List PV → Prop := SList 8 SSec .agg
theorem ssecs {q : PV} (h : SSecs [q]) : ∃ l : List Sec, q = eSecs l := by
  obtain ⟨l, _, e⟩ := slist (enc := eSec) (ok := fun _ => True) (fun ps h => by obtain ⟨s, rfl⟩ := ssec h; exact ⟨s, trivial, rfl⟩) h
  exact ⟨l, e⟩
def SImg : List PV → Prop := SList 1 SSecs wrS
theorem simg {q : PV} (h : SImg [q]) : ∃ l : Img, q = .list 1 (l.map eSecs) := by
  obtain ⟨l, _, e⟩ := slist (enc := eSecs) (ok := fun _ => True) (fun ps h => by
    obtain ⟨es, rfl, h2⟩ := h
    obtain ⟨l, e⟩ := ssecs (q := .list 8 es) ⟨es, rfl, h2⟩
    exact ⟨l, trivial, e⟩) h
  exact ⟨l, e⟩
theorem Tryz.rdInt : RdsC Tryz.prog 3 1 (SInt .i64) := RdsC.int Tryz.underlying3 (by kernel_rfl)
theorem Tryz.rdU8 : RdsC Tryz.prog 5 1 (SInt .u8) := RdsC.int Tryz.underlying5 (by kernel_rfl)
theorem Tryz.rdSec : RdsC Tryz.prog 59 8 SSec := RdsC.arr Tryz.underlying59 Tryz.rdU8 (by kernel_rfl)
theorem Tryz.rdSecs : RdsC Tryz.prog 56 1 SSecs := RdsC.list Tryz.underlying56 (by kernel_rfl) Tryz.rdSec (by decide) (fun _ _ _ => rfl)
theorem Tryz.rdImg : RdsC Tryz.prog 23 1 SImg := RdsC.list Tryz.underlying23 (by kernel_rfl) Tryz.rdSecs (by decide) (fun _ h _ => wr_list h)
theorem Tryz.rdExt : RdsC Tryz.prog 61 2 SExt := RdsC.struct2 Tryz.underlying61 Tryz.rdInt Tryz.rdInt rfl rfl (by kernel_rfl)
end Go.Proofs.YtncobemfpammfaaGreat.V

namespace Go.Proofs.YtncobemfpammfaaGreat
open V
open Go.RowKit Go.ChangeShapes Go.WideShapes Go.ChangeAt
def SExts : List PV → Prop := SList 2 SExt .agg
theorem sexts {q : PV} (h : SExts [q]) : ∃ l : List Exn, okEs l ∧ q = eExts l :=
  slist (enc := eExt) (ok := fun x => okExt x) (fun ps h => by obtain ⟨x, o, e⟩ := sext h; exact ⟨x, o, e⟩) h
def SExtss : List PV → Prop := SList 1 SExts wrS
theorem sextss {q : PV} (h : SExtss [q]) : ∃ l : List (List Exn), (∀ x ∈ l, okEs x) ∧ q = .list 1 (l.map eExts) :=
  slist (enc := eExts) (ok := okEs) (fun ps h => by
    obtain ⟨es, rfl, h2⟩ := h
    obtain ⟨l, o, e⟩ := sexts (q := .list 2 es) ⟨es, rfl, h2⟩
    exact ⟨l, o, e⟩) h
theorem Tryz.rdExts : RdsC Tryz.prog 57 1 SExts := RdsC.list Tryz.underlying57 (by kernel_rfl) Tryz.rdExt (by decide) (fun _ _ _ => rfl)
theorem Tryz.rdExtss : RdsC Tryz.prog 24 1 SExtss := RdsC.list Tryz.underlying24 (by kernel_rfl) Tryz.rdExts (by decide) (fun _ h _ => wr_list h)
end Go.Proofs.YtncobemfpammfaaGreat

namespace Go.Proofs.YtncobemfpammfaaGreat
open V
open Go.RowKit Go.ChangeShapes Go.WideShapes Go.ChangeAt
def SInts : List PV → Prop := SList 1 (SInt .i64) wrS
theorem sints' {q : PV} (h : SInts [q]) : ∃ l : List Int, q = .list 1 (l.map eI) := by
  obtain ⟨l, _, e⟩ := slist (enc := eI) (ok := fun _ => True) (fun ps h => by
    obtain ⟨n, h1, rfl⟩ := h
    exact ⟨n, trivial, rfl⟩) h
  exact ⟨l, e⟩
theorem Tryz.rdInts' : RdsC Tryz.prog 25 1 SInts := RdsC.list Tryz.underlying25 (by kernel_rfl) Tryz.rdInt (by decide) (fun _ h _ => by obtain ⟨n, _, rfl⟩ := h; rfl)
structure Plan where
  b : Int
  n : Int
  t : Int
  p : List Int
def SPlan : List PV → Prop := SCat [SInt .i64, SInt .i64, SInt .i64, SInts]
theorem splan {ps : List PV} (h : SPlan ps) : ∃ x : Plan, PV.agg ps = ePlan x.b x.n x.t x.p := by
  obtain ⟨p, q, rfl, ⟨n, h1, rfl⟩, p2, q2, rfl, ⟨m, h2, rfl⟩, p3, q3, rfl, ⟨k, h3, rfl⟩, p4, q4, rfl, h4, rfl⟩ := h
  obtain ⟨es, rfl, h5⟩ := h4
  obtain ⟨l, e⟩ := sints' (q := .list 1 es) ⟨es, rfl, h5⟩
  refine ⟨⟨n, m, k, l⟩, ?_⟩
  rw [e]; rfl
theorem Tryz.rdPlan : RdsC Tryz.prog 27 4 SPlan := RdsC.struct4 Tryz.underlying27 Tryz.rdInt Tryz.rdInt Tryz.rdInt Tryz.rdInts' rfl rfl rfl rfl (by kernel_rfl)
end Go.Proofs.YtncobemfpammfaaGreat

namespace Go.Proofs.YtncobemfpammfaaGreat
open Go.RowKit V

end Go.Proofs.YtncobemfpammfaaGreat

namespace Go.Proofs.YtncobemfpammfaaGreat
open Go.RowKit V

def oneEnv (f : Nat) (fn : VFn) : Env := fun k => if k = f then some (.code fn) else none
theorem oneEnv_ok {P : Program} {f : Nat} {fn : VFn} (h : fnOk P f fn = true) : EnvOk P (oneEnv f fn) := fun k d hk => by
  unfold oneEnv at hk
  split at hk
  · rename_i e; subst e; cases hk; exact h
  · cases hk
def emR (n : Nat) : Rep Unit where
  sz := n
  rd _ _ cs _ := cs.length = n ∧ ∀ u ∈ cs, u.oneCell' = true
  len h := h.1
  mono _ h := h
  live h := h
  frame _ h := h
  one h := h.2
theorem Flat.em (n : Nat) : Flat (emR n) := fun h => h
theorem sl_nil {ok : Nat → Prop} {w : World} {sz : Nat} {v : Value} (h : PRep ok w (.list sz []) v) : ∃ a c, v = .slice a 0 c ∧ Sl (emR sz) (fun _ => True) w a 0 c [] := by
  obtain ⟨l, hl⟩ : ∃ l : List PV, l = [] := ⟨_, rfl⟩
  rw [← hl] at h
  cases h with
  | nil _ a => exact ⟨a, 0, rfl, ⟨rfl, Nat.le_refl _, Nat.zero_le _, fun _ => rfl, .inl rfl⟩⟩
  | list _ _ b off c cv h1 h2 h3 h4 h6 h7 h8 => subst hl; exact ⟨_, c, rfl, ⟨rfl, Nat.zero_le _, h4, (fun e => by cases e), .inl rfl⟩⟩
--+
theorem slt27 : SliceT Tryz.prog 56 59 8 8 (.agg #[.int .u8 0, .int .u8 0, .int .u8 0, .int .u8 0, .int .u8 0, .int .u8 0, .int .u8 0, .int .u8 0]) := ⟨Tryz.underlying56, by kernel_rfl, rfl, by decide⟩
set_option maxHeartbeats 1000000 in
theorem cempty27 {a : Option Addr} {n c : Nat} {l : List Unit} {ok : Nat → Prop} {w : World} (h : Sl (emR 8) ok w a n c l) (hn : n ≤ 1000000) :
    Calls Tryz.prog 27 #[.slice a n c] w fun e w' => ∃ a' n' c', e = .returned (.slice a' n' c') ∧ (ownRowR (emR 8) 59).rd (w.heap.size ≤ ·) w' [.slice a' n' c'] l ∧ Below w.heap.size w w' := by
  have heq := fun (a : Option Addr) (n c : Nat) (w : World) => Lib.run_eql_slice_nil (P := Tryz.prog) w 56 59 a n c 0 0 Tryz.underlying56
  cases a with
  | none =>
    have h0 : l = [] := List.eq_nil_of_length_eq_zero (by rw [h.len]; have := h.nil rfl; have := h.cap; omega)
    have H0 := Lib.hid h0; clear h0
    go_enter Tryz.func27, Tryz.ntmps27
    go_wp2
    go_ret
    refine ⟨_, _, _, rfl, ?_, Below.refl _ _⟩
    rw [H0.out]
    exact ownRowR.mk (Own.nil _ _ _ _ _) (fun _ => .inl rfl)
  | some ad =>
    have hs := h.small
    go_enter Tryz.func27, Tryz.ntmps27
    go_wp2_with (at_builtin; refine wpList_app slt27 rfl _ _ rfl rfl (Own.lit0 (emR 8) (ok := fun _ => False) (Nat.le_refl _)) rfl ((Src.of_sl (h.below ((Below.refl _ _).alloc (Nat.le_refl _) _))).flat (Flat.em 8)) ?c1 ?c2 ?c3 ?_)
    case c1 => simp; unfold maxLen; omega
    case c2 => simp; omega
    case c3 => simp
    intro v' w1 hown hgrow hat
    obtain ⟨a', n', c', rfl, _⟩ := hown.sl
    go_wp2
    go_ret
    refine ⟨_, _, _, rfl, ownRowR.mk (by simpa using hown) (fun e => ?_), ((Below.refl _ _).alloc (Nat.le_refl _) _).grown hgrow (by simp) (fun k hk => by cases hk; exact Nat.le_refl _)⟩
    subst e
    obtain ⟨xs, h1, _⟩ := hown
    rcases h1.2 with ⟨hv, _⟩ | ⟨g, cap, cur, hv, _⟩
    · exact .inl hv
    · exact .inr ⟨g, cap, by simpa using hv⟩
theorem clone27_fn : fnOk Tryz.prog 27 fn27 = true := by kernel_rfl
theorem clone27_some {en : Env} (hen : en 27 = some (.code fn27)) {e : PV} {es : List PV} (hl : (e :: es).length ≤ lim) : cal en 27 [.list 8 (e :: es)] = some [(.list 8 (e :: es), true)] := by
  have F1 : (es.length + 1 ≤ lim) = True := eq_true (by simpa using hl)
  rw [cal_code hen rfl]
  simp only [fn27]
  simp only [start, z_map_cons, z_map_nil, z_len_cons, z_len_nil, z_repl_zero, z_repl_succ, z_cons_app, z_nil_app, Nat.reduceAdd, Nat.reduceSub]
  simp only [F1, z_nil_app, List.isEmpty_nil, val_pvs, frozen_pvs, msnoc_len, msnoc_get, msnoc_set, msnoc_take, Int.le_refl, take_map_all, Nat.le_refl, St.freezeRows, BV.frozen, List.take_length, List.take_append_drop, z_repl_zero, Int.toNat_zero, true_and, and_true, and_self, eq_self, z_take_zero, List.drop_nil, List.take_nil, vAll, List.foldl_nil, List.foldl_cons, resultsOf, resultList, resultOf, zBV, splice, PV.remade, St.freezeAt, St.freezeBox, St.freezeCap, PV.single, plain, act, dstOf, if_true, if_false, reduceCtorEq, St.get, St.put, St.pvOf, St.putRow, St.consume, St.freeze, St.row, St.elems, St.grab, St.takeRow, St.setRow, St.place, St.optPv, St.setCell, St.setCellRow, binPV, intBin, unPV, BV.val, Nat.reduceEqDiff, bound, consumeAll, buildParts, capsOf, capOf, List.append_nil, Nat.reduceAdd, Nat.reduceLT, Nat.reduceLeDiff, beq_self_eq_true, List.length_map, Nat.beq, dcall, dcallP, List.mapM_cons, St.snapFn, St.snap, St.layAll, St.lay, St.freezeArg, St.freezeArg1]
theorem clone27_ok : ∀ args rs, cloneX 8 args = some rs → callable Tryz.prog 27 = true ∧ CallOk Tryz.prog 27 args rs := fun args rs h => by
  unfold cloneX at h
  split at h
  case h_2 => cases h
  rename_i sz es
  split at h
  case isFalse => cases h
  rename_i hc
  obtain ⟨rfl, hl⟩ := hc
  cases h
  cases es with
  | cons e es =>
    obtain ⟨n, hn⟩ := vmCall_of_cal (clone27_some (en := oneEnv 27 fn27) (if_pos rfl) hl)
    exact vmCall_ok (oneEnv_ok clone27_fn) hn
  | nil =>
    refine ⟨by kernel_rfl, fun T0 w vs h1 h2 h3 h4 _ => ?_⟩
    match vs, h3 with
    | [v], _ =>
      have hv := h4 0 _ v rfl rfl
      obtain ⟨a, c, rfl, hsl⟩ := sl_nil hv
      refine (cempty27 (ok := fun _ => True) hsl (by omega)).mono ?_
      rintro e w' ⟨a', n', c', rfl, hrd, hB⟩
      obtain ⟨v, hv, hb, ⟨xs, hown, _⟩, hnil⟩ := hrd
      obtain rfl : Value.slice a' n' c' = v := by simpa using hv
      rcases hown.2 with ⟨e1, _⟩ | ⟨g, cap, cur, e1, _, hg, _, hm, hs, _⟩
      · refine ⟨_, T0, rfl, hB, fun _ _ => rfl, fun b hb => h2 b (by have := hB.size; omega), #[_], rfl, rfl, fun i r u hr hu => ?_⟩
        cases i with
        | zero => cases hr; cases hu; exact .inl ⟨rfl, none, e1⟩
        | succ i => simp at hr
      · have hg0 : w.heap.size ≤ g := hb g (by rw [e1]; rfl)
        have hgl : g < w'.heap.size := (Array.getElem?_eq_some_iff.1 hg).1
        refine ⟨_, fun b => if b = g then .row (.part 0 0) else T0 b, rfl, hB, fun b hb => if_neg (by omega), fun b hb => ?_, #[_], rfl, rfl, fun i r u hr hu => ?_⟩
        · show (if b = g then _ else T0 b) = _
          rw [if_neg (by omega)]; exact h2 b (by have := hB.size; omega)
        · cases i with
          | zero =>
            cases hr; cases hu
            exact .inr ⟨g, cap, cur, _, e1, if_pos rfl, hg, hs, Nat.zero_le _, hm, (fun e he => by cases he), fun i e j x hi => by simp at hi⟩
          | succ i => simp at hr
--+
theorem slt30 : SliceT Tryz.prog 25 3 1 8 (.int .i64 0) := ⟨Tryz.underlying25, by kernel_rfl, rfl, by decide⟩
set_option maxHeartbeats 1000000 in
theorem cempty30 {a : Option Addr} {n c : Nat} {l : List Unit} {ok : Nat → Prop} {w : World} (h : Sl (emR 1) ok w a n c l) (hn : n ≤ 1000000) :
    Calls Tryz.prog 30 #[.slice a n c] w fun e w' => ∃ a' n' c', e = .returned (.slice a' n' c') ∧ (ownRowR (emR 1) 3).rd (w.heap.size ≤ ·) w' [.slice a' n' c'] l ∧ Below w.heap.size w w' := by
  have heq := fun (a : Option Addr) (n c : Nat) (w : World) => Lib.run_eql_slice_nil (P := Tryz.prog) w 25 3 a n c 0 0 Tryz.underlying25
  cases a with
  | none =>
    have h0 : l = [] := List.eq_nil_of_length_eq_zero (by rw [h.len]; have := h.nil rfl; have := h.cap; omega)
    have H0 := Lib.hid h0; clear h0
    go_enter Tryz.func30, Tryz.ntmps30
    go_wp2
    go_ret
    refine ⟨_, _, _, rfl, ?_, Below.refl _ _⟩
    rw [H0.out]
    exact ownRowR.mk (Own.nil _ _ _ _ _) (fun _ => .inl rfl)
  | some ad =>
    have hs := h.small
    go_enter Tryz.func30, Tryz.ntmps30
    go_wp2_with (at_builtin; refine wpList_app slt30 rfl _ _ rfl rfl (Own.lit0 (emR 1) (ok := fun _ => False) (Nat.le_refl _)) rfl ((Src.of_sl (h.below ((Below.refl _ _).alloc (Nat.le_refl _) _))).flat (Flat.em 1)) ?c1 ?c2 ?c3 ?_)
    case c1 => simp; unfold maxLen; omega
    case c2 => simp; omega
    case c3 => simp
    intro v' w1 hown hgrow hat
    obtain ⟨a', n', c', rfl, _⟩ := hown.sl
    go_wp2
    go_ret
    refine ⟨_, _, _, rfl, ownRowR.mk (by simpa using hown) (fun e => ?_), ((Below.refl _ _).alloc (Nat.le_refl _) _).grown hgrow (by simp) (fun k hk => by cases hk; exact Nat.le_refl _)⟩
    subst e
    obtain ⟨xs, h1, _⟩ := hown
    rcases h1.2 with ⟨hv, _⟩ | ⟨g, cap, cur, hv, _⟩
    · exact .inl hv
    · exact .inr ⟨g, cap, by simpa using hv⟩
theorem clone30_fn : fnOk Tryz.prog 30 fn30 = true := by kernel_rfl
theorem clone30_some {en : Env} (hen : en 30 = some (.code fn30)) {e : PV} {es : List PV} (hl : (e :: es).length ≤ lim) : cal en 30 [.list 1 (e :: es)] = some [(.list 1 (e :: es), true)] := by
  have F1 : (es.length + 1 ≤ lim) = True := eq_true (by simpa using hl)
  rw [cal_code hen rfl]
  simp only [fn30]
  simp only [start, z_map_cons, z_map_nil, z_len_cons, z_len_nil, z_repl_zero, z_repl_succ, z_cons_app, z_nil_app, Nat.reduceAdd, Nat.reduceSub]
  simp only [F1, z_nil_app, List.isEmpty_nil, val_pvs, frozen_pvs, msnoc_len, msnoc_get, msnoc_set, msnoc_take, Int.le_refl, take_map_all, Nat.le_refl, St.freezeRows, BV.frozen, List.take_length, List.take_append_drop, z_repl_zero, Int.toNat_zero, true_and, and_true, and_self, eq_self, z_take_zero, List.drop_nil, List.take_nil, vAll, List.foldl_nil, List.foldl_cons, resultsOf, resultList, resultOf, zBV, splice, PV.remade, St.freezeAt, St.freezeBox, St.freezeCap, PV.single, plain, act, dstOf, if_true, if_false, reduceCtorEq, St.get, St.put, St.pvOf, St.putRow, St.consume, St.freeze, St.row, St.elems, St.grab, St.takeRow, St.setRow, St.place, St.optPv, St.setCell, St.setCellRow, binPV, intBin, unPV, BV.val, Nat.reduceEqDiff, bound, consumeAll, buildParts, capsOf, capOf, List.append_nil, Nat.reduceAdd, Nat.reduceLT, Nat.reduceLeDiff, beq_self_eq_true, List.length_map, Nat.beq, dcall, dcallP, List.mapM_cons, St.snapFn, St.snap, St.layAll, St.lay, St.freezeArg, St.freezeArg1]
theorem clone30_ok : ∀ args rs, cloneX 1 args = some rs → callable Tryz.prog 30 = true ∧ CallOk Tryz.prog 30 args rs := fun args rs h => by
  unfold cloneX at h
  split at h
  case h_2 => cases h
  rename_i sz es
  split at h
  case isFalse => cases h
  rename_i hc
  obtain ⟨rfl, hl⟩ := hc
  cases h
  cases es with
  | cons e es =>
    obtain ⟨n, hn⟩ := vmCall_of_cal (clone30_some (en := oneEnv 30 fn30) (if_pos rfl) hl)
    exact vmCall_ok (oneEnv_ok clone30_fn) hn
  | nil =>
    refine ⟨by kernel_rfl, fun T0 w vs h1 h2 h3 h4 _ => ?_⟩
    match vs, h3 with
    | [v], _ =>
      have hv := h4 0 _ v rfl rfl
      obtain ⟨a, c, rfl, hsl⟩ := sl_nil hv
      refine (cempty30 (ok := fun _ => True) hsl (by omega)).mono ?_
      rintro e w' ⟨a', n', c', rfl, hrd, hB⟩
      obtain ⟨v, hv, hb, ⟨xs, hown, _⟩, hnil⟩ := hrd
      obtain rfl : Value.slice a' n' c' = v := by simpa using hv
      rcases hown.2 with ⟨e1, _⟩ | ⟨g, cap, cur, e1, _, hg, _, hm, hs, _⟩
      · refine ⟨_, T0, rfl, hB, fun _ _ => rfl, fun b hb => h2 b (by have := hB.size; omega), #[_], rfl, rfl, fun i r u hr hu => ?_⟩
        cases i with
        | zero => cases hr; cases hu; exact .inl ⟨rfl, none, e1⟩
        | succ i => simp at hr
      · have hg0 : w.heap.size ≤ g := hb g (by rw [e1]; rfl)
        have hgl : g < w'.heap.size := (Array.getElem?_eq_some_iff.1 hg).1
        refine ⟨_, fun b => if b = g then .row (.part 0 0) else T0 b, rfl, hB, fun b hb => if_neg (by omega), fun b hb => ?_, #[_], rfl, rfl, fun i r u hr hu => ?_⟩
        · show (if b = g then _ else T0 b) = _
          rw [if_neg (by omega)]; exact h2 b (by have := hB.size; omega)
        · cases i with
          | zero =>
            cases hr; cases hu
            exact .inr ⟨g, cap, cur, _, e1, if_pos rfl, hg, hs, Nat.zero_le _, hm, (fun e he => by cases he), fun i e j x hi => by simp at hi⟩
          | succ i => simp at hr
end Go.Proofs.YtncobemfpammfaaGreat
