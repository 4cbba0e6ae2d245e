/-
  Part 12 of the texts that the statement stands on.
-/
import Derived.Test.YtncobemfpammfaaZ11
set_option linter.all false
namespace Go.Proofs.Ytncobemfpammfaa.V
def ordW (x w : Wrt) : Prop := x.volume < w.volume ∨ x.volume = w.volume ∧ x.start + x.data.length < w.start
def seqW (im : Img) (l : List Wrt) : Prop := (∀ w ∈ l, fitsErr im w = 0) ∧ ∀ i (h : i + 1 < l.length), ordW l[i] l[i + 1]
theorem fits_in {im : Img} {w : Wrt} (h : fitsErr im w = 0) : 0 ≤ w.volume ∧ w.volume < im.length ∧ 0 ≤ w.start ∧ w.start + w.data.length ≤ ((im.getD w.volume.toNat []).length : Int) := by
  unfold fitsErr at h
  split at h
  · omega
  · split at h
    · omega
    · split at h
      · omega
      · omega
theorem getD_len {im : Img} (hr : ∀ v ∈ im, v.length ≤ 1000000) (v : Nat) : (im.getD v []).length ≤ 1000000 := by
  by_cases h : v < im.length
  · have e : im.getD v [] = im[v] := by simp [h]
    rw [e]; exact hr _ (List.getElem_mem h)
  · have e : im.getD v [] = [] := by simp [List.getD_eq_getElem?_getD, List.getElem?_eq_none (Nat.le_of_not_lt h)]
    rw [e]; simp
end Go.Proofs.Ytncobemfpammfaa.V

namespace Go.Proofs.Ytncobemfpammfaa.V
theorem chkGo_pair {size : Int} : ∀ (l : List Exn) (nx : Int), chkGo size nx l = 0 → (∀ e ∈ l, nx ≤ e.start ∧ 1 ≤ e.count) ∧ l.Pairwise (fun a b => a.start + a.count < b.start)
  | [], _, _ => ⟨fun e he => (by cases he), List.Pairwise.nil⟩
  | x :: l, nx, h => by
    unfold chkGo at h
    split at h
    · omega
    · split at h
      · omega
      · split at h
        · omega
        · obtain ⟨h1, h2⟩ := chkGo_pair l _ h
          refine ⟨fun e he => ?_, List.pairwise_cons.2 ⟨fun e he => by have := h1 e he; omega, h2⟩⟩
          rcases List.mem_cons.1 he with rfl | he
          · omega
          · have := h1 e he; omega
theorem chkX_pair {l : List Exn} {size : Int} (h : chkX l size = 0) : l.Pairwise (fun a b => a.start + a.count < b.start) := by
  unfold chkX at h
  split at h
  · omega
  · exact (chkGo_pair l 0 h).2
theorem wOf_len {im : Img} {v : Nat} {e : Exn} (h0 : 0 ≤ e.start) (h1 : 1 ≤ e.count) (h2 : e.start + e.count ≤ ((im.getD v []).length : Int)) : (((wOf im v e).data.length : Nat) : Int) = e.count := by
  simp only [wOf, List.length_take, List.length_drop]; omega
theorem wrL_mem {im : Img} {l : List (List Exn)} {n : Nat} {w : Wrt} (h : w ∈ wrN im l n) : ∃ v, v < n ∧ ∃ e ∈ l.getD v [], w = wOf im v e := by
  simp only [wrN, List.mem_flatMap, List.mem_range, wrV, List.mem_map] at h
  obtain ⟨v, hv, e, he, rfl⟩ := h
  exact ⟨v, hv, e, he, rfl⟩
theorem wr_at {im : Img} {l : List (List Exn)} (h : fitE im l = 0) {v : Nat} (hv : v < l.length) {e : Exn} (he : e ∈ l.getD v []) : 0 ≤ e.start ∧ 1 ≤ e.count ∧ e.start + e.count ≤ ((im.getD v []).length : Int) := by
  have hf := fit_len h
  have e1 : l.getD v [] = l[v] := by simp [hv]
  have e2 : im.getD v [] = im[v] := by simp [show v < im.length by omega]
  rw [e1] at he
  rw [e2]
  exact chkX_in (fit_at h hv (by omega)) e he
theorem wrL_seq {im : Img} {l : List (List Exn)} (h : fitE im l = 0) : seqW im (wrL im l) := by
  have hf := fit_len h
  refine ⟨fun w hw => ?_, ?_⟩
  · obtain ⟨v, hv, e, he, rfl⟩ := wrL_mem hw
    obtain ⟨q1, q2, q3⟩ := wr_at h hv he
    have q4 := wOf_len q1 q2 q3
    have e1 : (wOf im v e).volume = (v : Int) := rfl
    have e2 : (wOf im v e).start = e.start := rfl
    unfold fitsErr
    rw [if_neg (by rw [e1]; omega), if_neg (by omega), if_neg (by rw [e1, e2, q4, Int.toNat_natCast]; omega)]
  · have hp : (wrL im l).Pairwise ordW := by
      unfold wrL wrN
      rw [List.pairwise_flatMap]
      refine ⟨fun v hv => ?_, ?_⟩
      · have hv := List.mem_range.1 hv
        unfold wrV
        rw [List.pairwise_map]
        have e1 : l.getD v [] = l[v] := by simp [hv]
        have hp := chkX_pair (fit_at h hv (by omega))
        rw [e1]
        refine List.Pairwise.imp_of_mem ?_ hp
        intro a b ha hb hab
        rw [← e1] at ha
        obtain ⟨q1, q2, q3⟩ := wr_at h hv ha
        have q4 := wOf_len q1 q2 q3
        refine .inr ⟨rfl, ?_⟩
        rw [q4]
        exact hab
      · refine List.Pairwise.imp ?_ List.pairwise_lt_range
        intro a b hab x hx y hy
        obtain ⟨_, _, rfl⟩ := List.mem_map.1 hx
        obtain ⟨_, _, rfl⟩ := List.mem_map.1 hy
        exact .inl (show ((a : Nat) : Int) < (b : Int) by omega)
    exact fun i hi => List.pairwise_iff_getElem.1 hp i (i + 1) (by omega) hi (by omega)
theorem wrL_data {im : Img} {l : List (List Exn)} {k : Nat} (hr : ∀ v ∈ im, v.length ≤ k) : ∀ w ∈ wrL im l, w.data.length ≤ k := fun w hw => by
  obtain ⟨v, hv, e, he, rfl⟩ := wrL_mem hw
  have : (im.getD v []).length ≤ k := by
    by_cases h : v < im.length
    · have e : im.getD v [] = im[v] := by simp [h]
      rw [e]; exact hr _ (List.getElem_mem h)
    · have e : im.getD v [] = [] := by simp [List.getD_eq_getElem?_getD, List.getElem?_eq_none (Nat.le_of_not_lt h)]
      rw [e]; simp
  simp only [wOf, List.length_take, List.length_drop]; omega
end Go.Proofs.Ytncobemfpammfaa.V

namespace Go.Proofs.Ytncobemfpammfaa.V
end Go.Proofs.Ytncobemfpammfaa.V

namespace Go.Proofs.Ytncobemfpammfaa.V
theorem wrE_zero {im : Img} {l : List (List Exn)} (h : wrE im l = 0) : imCheck im = 0 ∧ fitE im l = 0 := by
  unfold wrE at h
  split at h
  · omega
  · rename_i c; exact ⟨by omega, h⟩
end Go.Proofs.Ytncobemfpammfaa.V

namespace Go.Proofs.Ytncobemfpammfaa.V
end Go.Proofs.Ytncobemfpammfaa.V

namespace Go.Proofs.Ytncobemfpammfaa.V
def sK (n : UInt8) : Sec := #v[n, 0, 0, 0, 0, 0, 0, 0]
theorem eS0 : eSec (sK 0) = .agg [.int .u8 0, .int .u8 0, .int .u8 0, .int .u8 0, .int .u8 0, .int .u8 0, .int .u8 0, .int .u8 0] := rfl
theorem eS1 : eSec (sK 1) = .agg [.int .u8 1, .int .u8 0, .int .u8 0, .int .u8 0, .int .u8 0, .int .u8 0, .int .u8 0, .int .u8 0] := rfl
theorem eS2 : eSec (sK 2) = .agg [.int .u8 2, .int .u8 0, .int .u8 0, .int .u8 0, .int .u8 0, .int .u8 0, .int .u8 0, .int .u8 0] := rfl
theorem eS3 : eSec (sK 3) = .agg [.int .u8 3, .int .u8 0, .int .u8 0, .int .u8 0, .int .u8 0, .int .u8 0, .int .u8 0, .int .u8 0] := rfl
def awS : Img := [[sK 1, sK 2, sK 0, sK 0, sK 3]]
def awT : Img := [[sK 0, sK 2, sK 0, sK 0, sK 0]]
def awL : List (List Exn) := [[⟨0, 2⟩, ⟨4, 1⟩]]
def awN : List (List Exn) := [[⟨0, 1⟩, ⟨4, 1⟩]]
def awW : List Wrt := [⟨0, 0, [sK 1, sK 2]⟩, ⟨0, 4, [sK 3]⟩]
theorem xW : wrO awS awL = awW := by kernel_rfl
theorem xWe : wrE awS awL = 0 := by kernel_rfl
theorem xN : needO awS awT awL = awN := by kernel_rfl
theorem xNe : needE awS awT awL = 0 := by kernel_rfl
theorem xNe2 : needE awS awT awN = 0 := by kernel_rfl
theorem xE1 : exactB awS awT awN = true := by kernel_rfl
theorem xE2 : exactB awS awT awL = false := by kernel_rfl
theorem xC1 : costL awL = 3 := by kernel_rfl
theorem xC2 : costL awN = 2 := by kernel_rfl
theorem okL : ∀ x ∈ awL, okEs x := by unfold awL okEs okE; decide
theorem okN : ∀ x ∈ awN, okEs x := by unfold awN okEs okE; decide
theorem shL : ∀ x ∈ awL, x.length ≤ 10000 := by decide
theorem shN : ∀ x ∈ awN, x.length ≤ 10000 := by decide
theorem shS : ∀ v ∈ awS, v.length ≤ 4096 := by unfold awS; intro v hv; simp only [List.mem_singleton] at hv; subst hv; decide
set_option maxRecDepth 20000 in
theorem calAwake : cal env 8 [] = some [(.bool true, false)] := by
  have w1 := cal16 (im := awS) (l := awL) (by decide) (fun v hv => Nat.le_trans (shS v hv) (by decide)) okL shL (by decide) (fun _ => by decide)
  rw [xW, xWe] at w1
  have n1 := cal9 (a := awS) (b := awT) (l := awL) (by decide) (by decide) shS okL shL (by decide)
  rw [xN, xNe] at n1
  have d1 := cal11 (a := awS) (b := awT) (l := awN) (by decide) (by decide) shS okN shN (by decide)
  rw [xE1, xNe2] at d1
  have d2 := cal11 (a := awS) (b := awT) (l := awL) (by decide) (by decide) shS okL shL (by decide)
  rw [xE2, xNe] at d2
  have s1 := cal21 (a := awW) (by decide) (by decide)
  have s2 := cal13 (l := awN) (m := awN) (by decide) (by decide)
  rw [decide_eq_true rfl] at s2
  have c1 := cal14 (l := awL) okL shL (by decide)
  rw [xC1] at c1
  have c2 := cal14 (l := awN) okN shN (by decide)
  rw [xC2] at c2
  simp only [awS, awT, awL, awN, awW, eWr, eSecs, eExts, eExt, eS0, eS1, eS2, eS3, List.map_cons, List.map_nil] at w1 n1 d1 d2 s1 s2 c1 c2
  have L1 : (1 ≤ lim) = True := eq_true (by decide)
  have L2 : (2 ≤ lim) = True := eq_true (by decide)
  have L3 : (3 ≤ lim) = True := eq_true (by decide)
  have L5 : (5 ≤ lim) = True := eq_true (by decide)
  have W0 : IntKind.i64.wrap 0 = 0 := by kernel_rfl
  have Z0 : ((0 : Int) != 0) = false := rfl
  have Q3 : ((3 : Int) == 3) = true := rfl
  have Q2 : ((2 : Int) == 2) = true := rfl
  rw [cal_code env8 rfl]; simp only [fn8, slAll, Nat.reduceBEq, Nat.reduceLeDiff, Nat.reduceAdd, List.length_cons, List.length_nil]
  simp only [W0, Z0, Q3, Q2, Int.add_zero, w1, n1, d1, d2, s1, s2, c1, c2, L1, L2, L3, L5, List.length_cons, List.length_nil, slAll, Nat.reduceMul, Nat.reduceBEq, Nat.reduceLT, Nat.reduceLeDiff, Nat.zero_le, List.take_zero, List.take_nil, List.take_succ_cons, List.length_cons, List.length_nil, Nat.le_refl, List.isEmpty_nil, val_pvs, frozen_pvs, msnoc_len, msnoc_get, msnoc_set, msnoc_take, Int.le_refl, take_map_all, Nat.le_refl, St.freezeRows, BV.frozen, List.take_length, List.take_append_drop, z_repl_zero, Int.toNat_zero, true_and, and_true, and_self, eq_self, z_take_zero, List.drop_nil, List.take_nil, vAll, List.foldl_nil, List.foldl_cons, resultsOf, resultList, resultOf, zBV, splice, PV.remade, St.freezeAt, St.freezeBox, St.freezeCap, PV.single, plain, act, dstOf, if_true, if_false, reduceCtorEq, St.get, St.put, St.pvOf, St.putRow, St.consume, St.freeze, St.row, St.elems, St.grab, St.takeRow, St.setRow, St.place, St.optPv, St.setCell, St.setCellRow, binPV, intBin, unPV, BV.val, Nat.reduceEqDiff, bound, consumeAll, buildParts, capsOf, capOf, List.append_nil, Nat.reduceAdd, Nat.reduceLT, Nat.reduceLeDiff, beq_self_eq_true, List.length_map, Nat.beq, dcall, dcallP, List.mapM_cons, St.snapFn, St.snap, St.layAll, St.lay, St.freezeArg, St.freezeArg1]
end Go.Proofs.Ytncobemfpammfaa.V
