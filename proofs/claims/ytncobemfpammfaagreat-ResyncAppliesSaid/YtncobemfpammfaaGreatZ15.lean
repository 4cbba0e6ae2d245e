/-
  Part 15 of the texts that the statement stands on.
-/
import Derived.Test.YtncobemfpammfaaGreatZ14
import Derived.Test.YtncobemfpammfaaGreatRows
set_option linter.all false
namespace Go.Proofs.YtncobemfpammfaaGreat.V
theorem dif_symm {a b : List Sec} (h : a.length = b.length) : difs a b = difs b a := by
  unfold difs difN
  rw [h]
  refine List.filter_congr fun i _ => ?_
  unfold dif
  exact decide_eq_decide.2 ⟨fun c e => c e.symm, fun c e => c e.symm⟩
theorem volDiff_symm {a b : List Sec} (h : a.length = b.length) : volDiff a b = volDiff b a := by unfold volDiff; rw [dif_symm h]
theorem wr_patch {a b : Img} (hs : imSizes a = imSizes b) : ∀ n, n ≤ a.length → wrN a (differ a b) n = patchN b a n
  | 0, _ => rfl
  | n + 1, h => by
    obtain ⟨z1, z2⟩ := sizes_inj hs
    have ha : n < a.length := by omega
    have hb : n < b.length := by omega
    have e1 : (differ a b).getD n [] = volDiff a[n] b[n] := by
      rw [List.getD_eq_getElem?_getD, zip_get ha hb]; rfl
    rw [wrN_succ, patchN_succ, wr_patch hs n (by omega), e1, getD_lt ha, getD_lt hb, volDiff_symm (z2 n ha hb)]
    congr 1
    unfold wrV patchV
    refine List.map_congr_left fun x _ => ?_
    unfold wOf
    rw [getD_lt ha]
theorem fit_differ {a b : Img} (hs : imSizes a = imSizes b) (hr : ∀ v ∈ a, v.length ≤ 4096) : fitE a (differ a b) = 0 := by
  obtain ⟨z1, z2⟩ := sizes_inj hs
  have hl := dfr_len (a := a) (b := b) z1
  unfold fitE
  rw [if_neg (by omega), if_neg]
  intro hc
  have hm := List.contains_iff_mem.1 hc
  unfold fitB eachX at hm
  obtain ⟨i, hi, e⟩ := List.mem_mapIdx.1 hm
  have ha : i < a.length := by omega
  have hb : i < b.length := by omega
  have e1 : (differ a b)[i] = volDiff a[i] b[i] := by
    have := zip_get (a := a) (b := b) ha hb
    rw [List.getElem?_eq_getElem hi] at this
    exact Option.some.inj this
  rw [e1, getD_lt ha, volDiff_ext] at e
  have h1 := hr _ (List.getElem_mem ha)
  have h2 : chkX (ext (dif a[i] b[i]) a[i].length) (a[i].length : Int) = 0 := by
    unfold chkX
    rw [if_neg (by omega)]
    exact chk_ext' _ _
  rw [h2] at e
  simp at e
theorem secs_dat : ∀ l : List Wrt, secsW l = (datLen l : Int)
  | [] => rfl
  | w :: l => by
    have := secs_dat l
    simp only [secsW, datLen, List.map_cons, List.sum_cons] at this ⊢
    omega
theorem cnt_symm {a b : Img} (hs : imSizes a = imSizes b) : ∀ n, n ≤ a.length → cntA b a n = numD a b n
  | 0, _ => rfl
  | n + 1, h => by
    obtain ⟨z1, z2⟩ := sizes_inj hs
    have ha : n < a.length := by omega
    have hb : n < b.length := by omega
    rw [cntA_succ, numD_succ, cnt_symm hs n (by omega), getD_lt ha, getD_lt hb, dif_symm (z2 n ha hb)]
theorem secs_diff {a b : Img} (hs : imSizes a = imSizes b) : secsW (wrL a (differ a b)) = (numD a b a.length : Int) := by
  obtain ⟨z1, z2⟩ := sizes_inj hs
  unfold wrL
  rw [dfr_len z1, wr_patch hs _ (Nat.le_refl _), secs_dat, patch_cnt hs.symm _ (by omega), cnt_symm hs _ (Nat.le_refl _)]
theorem seq_ok {im : Img} {l : List Wrt} (h : seqW im l) (hl : im.length ≤ lim) (hr : ∀ v ∈ im, v.length ≤ 1000000) : okW l := fun w hw => by
  obtain ⟨q1, q2, q3, q4⟩ := fits_in (h.1 w hw)
  have q5 := getD_len hr w.volume.toNat
  have hlim : lim = 1073741824 := rfl
  simp only [i64b, Bool.and_eq_true, decide_eq_true_eq]
  omega
theorem cyc_zero {c : Nat} (h : c < 256) : cycE (c : Int) ((c : Int) + 1) 5 [1, 2] = 0 := by
  unfold cycE
  rw [if_neg (by omega), if_neg (by decide)]
  decide
set_option maxRecDepth 20000 in
theorem cal4 {a b : Img} {c : Nat} (hc : c < 256) : cal env 4 [.list 1 (a.map eSecs), .list 1 (b.map eSecs), .int .u8 (c : Int)] = some [(.bool true, false)] := by
  have e3 := calAwake
  have e0 := cal5 (im := a)
  have e2 := cal5 (im := b)
  cases hfa : few7 a with
  | false =>
    rw [hfa] at e0
    rw [cal_code env4 rfl]; simp only [fn4, slAll, Nat.reduceBEq, Nat.reduceLeDiff, Nat.reduceAdd, List.length_cons, List.length_nil]
    simp only [e0, e3, slAll, Nat.reduceMul, Nat.reduceBEq, Nat.reduceLT, Nat.reduceLeDiff, Nat.zero_le, List.take_zero, List.take_nil, List.take_succ_cons, List.length_cons, List.length_nil, Nat.le_refl, List.isEmpty_nil, val_pvs, frozen_pvs, msnoc_len, msnoc_get, msnoc_set, msnoc_take, Int.le_refl, take_map_all, Nat.le_refl, St.freezeRows, BV.frozen, List.take_length, List.take_append_drop, z_repl_zero, Int.toNat_zero, true_and, and_true, and_self, eq_self, z_take_zero, List.drop_nil, List.take_nil, vAll, List.foldl_nil, List.foldl_cons, resultsOf, resultList, resultOf, zBV, splice, PV.remade, St.freezeAt, St.freezeBox, St.freezeCap, PV.single, plain, act, dstOf, if_true, if_false, reduceCtorEq, St.get, St.put, St.pvOf, St.putRow, St.consume, St.freeze, St.row, St.elems, St.grab, St.takeRow, St.setRow, St.place, St.optPv, St.setCell, St.setCellRow, binPV, intBin, unPV, BV.val, Nat.reduceEqDiff, bound, consumeAll, buildParts, capsOf, capOf, List.append_nil, Nat.reduceAdd, Nat.reduceLT, Nat.reduceLeDiff, beq_self_eq_true, List.length_map, Nat.beq, dcall, dcallP, List.mapM_cons, St.snapFn, St.snap, St.layAll, St.lay, St.freezeArg, St.freezeArg1]
  | true =>
    rw [hfa] at e0
    cases hfb : few7 b with
    | false =>
      rw [hfb] at e2
      rw [cal_code env4 rfl]; simp only [fn4, slAll, Nat.reduceBEq, Nat.reduceLeDiff, Nat.reduceAdd, List.length_cons, List.length_nil]
      simp only [e0, e2, e3, slAll, Nat.reduceMul, Nat.reduceBEq, Nat.reduceLT, Nat.reduceLeDiff, Nat.zero_le, List.take_zero, List.take_nil, List.take_succ_cons, List.length_cons, List.length_nil, Nat.le_refl, List.isEmpty_nil, val_pvs, frozen_pvs, msnoc_len, msnoc_get, msnoc_set, msnoc_take, Int.le_refl, take_map_all, Nat.le_refl, St.freezeRows, BV.frozen, List.take_length, List.take_append_drop, z_repl_zero, Int.toNat_zero, true_and, and_true, and_self, eq_self, z_take_zero, List.drop_nil, List.take_nil, vAll, List.foldl_nil, List.foldl_cons, resultsOf, resultList, resultOf, zBV, splice, PV.remade, St.freezeAt, St.freezeBox, St.freezeCap, PV.single, plain, act, dstOf, if_true, if_false, reduceCtorEq, St.get, St.put, St.pvOf, St.putRow, St.consume, St.freeze, St.row, St.elems, St.grab, St.takeRow, St.setRow, St.place, St.optPv, St.setCell, St.setCellRow, binPV, intBin, unPV, BV.val, Nat.reduceEqDiff, bound, consumeAll, buildParts, capsOf, capOf, List.append_nil, Nat.reduceAdd, Nat.reduceLT, Nat.reduceLeDiff, beq_self_eq_true, List.length_map, Nat.beq, dcall, dcallP, List.mapM_cons, St.snapFn, St.snap, St.layAll, St.lay, St.freezeArg, St.freezeArg1]
    | true =>
      rw [hfb] at e2
      obtain ⟨a1, a2⟩ := few7_b' hfa
      obtain ⟨b1, b2⟩ := few7_b' hfb
      have hlim : lim = 1073741824 := rfl
      have hrl : ∀ v ∈ a, v.length ≤ lim := fun v hv => by have := a2 v hv; omega
      have e1 := cal14 (a := a) (b := b) (by omega) (by omega) hrl
      have Q : ∀ n : Int, (n == n) = true := fun n => by simp
      have Q2 : ∀ n : Int, (n != n) = false := fun n => by simp
      by_cases hp : pairErr a b = 0
      · obtain ⟨p1, p2, p3, hs⟩ := pair_len hp
        obtain ⟨z1, z2⟩ := sizes_inj hs
        unfold differOut at e1
        rw [if_pos hp, hp] at e1
        have hra : ∀ v ∈ a, v.length ≤ 4096 := fun v hv => by have := a2 v hv; omega
        have hri : ∀ v ∈ a, v.length ≤ 1000000 := fun v hv => by have := a2 v hv; omega
        have hri' : ∀ v ∈ b, v.length ≤ 1000000 := fun v hv => by have := b2 v hv; omega
        have hdo := differ_ok (a := a) (b := b) hra
        have hdl := dfr_len (a := a) (b := b) z1
        have hf := fit_differ hs hra
        have hw : wrE a (differ a b) = 0 := by
          unfold wrE
          rw [if_neg (by rw [p2]; simp)]
          exact hf
        have hcy : cyE a (differ a b) c ((c : Int) + 1) 5 [1, 2] = 0 := by
          unfold cyE
          rw [if_neg (by rw [hw]; simp)]
          exact cyc_zero hc
        have hlen : ∀ x ∈ differ a b, x.length ≤ 4096 := fun x hx => (hdo x hx).2
        have hW : (wrL a (differ a b)).length ≤ 1000000 := by
          have := wrN_len (im := a) hlen (differ a b).length (Nat.le_refl _)
          have h9 : 4096 * (differ a b).length ≤ 4096 * 9 := Nat.mul_le_mul_left _ (by omega)
          unfold wrL; omega
        have hseq := wrL_seq (im := a) hf
        have k1 : cal env 10 [.list 1 (a.map eSecs), .list 1 ((differ a b).map eExts), .int .i64 (c : Int), .int .i64 ((c : Int) + 1), .int .i64 5, .list 1 [.int .i64 1, .int .i64 2]] = some [(cyO a (differ a b) c ((c : Int) + 1) 5 [1, 2], false), (.int .i64 (cyE a (differ a b) c ((c : Int) + 1) 5 [1, 2]), false)] :=
          cal10 (p := [1, 2]) (by omega) hri (fun x hx => (hdo x hx).1) (fun x hx => by have := hlen x hx; omega) (by omega) (fun _ => hW) (by decide)
        unfold cyO at k1
        rw [if_pos hcy, hcy] at k1
        have k1 : cal env 10 [.list 1 (a.map eSecs), .list 1 ((differ a b).map eExts), .int .i64 (c : Int), .int .i64 ((c : Int) + 1), .int .i64 5, .list 1 [.int .i64 1, .int .i64 2]] = some [(.agg [.int .i64 (c : Int), .int .i64 ((c : Int) + 1), .int .i64 5, .list 1 [.int .i64 1, .int .i64 2], .list 3 ((wrL a (differ a b)).map eWr)], false), (.int .i64 0, false)] := k1
        have k2 : cal env 15 [.list 1 [.int .i64 1, .int .i64 2], .list 1 [.int .i64 1, .int .i64 2]] = some [(.bool true, false)] := cal15 (l := [1, 2]) (sz := 1) (.inr rfl) (by decide)
        have k3 := cal16 (im := b) (l := wrL a (differ a b)) (seq_ok hseq (by omega) hri) (by omega) hri'
        have hpt : wrL a (differ a b) = patchOf b a := by
          unfold wrL patchOf
          rw [hdl, wr_patch hs _ (Nat.le_refl _), z1]
        have hmk := patch_makes (a := b) (b := a) hs.symm p3 (by omega) (fun v hv => by have := b2 v hv; omega)
        rw [← hpt] at hmk
        rw [hmk.1, hmk.2] at k3
        have k4 := cal17 (a := a) (b := b) (l := differ a b) z1 z2 (by omega) (by omega) (fun v hv => by have := a2 v hv; omega) (fun x hx => (hdo x hx).1) (fun x hx => by have := hlen x hx; omega)
        have k5 := cal18 (a := a) (b := a) (by omega) hrl
        rw [decide_eq_true rfl] at k5
        have k6 := cal19 (l := wrL a (differ a b)) (fun w hw => by have := wrL_data (k := 24) a2 w hw; omega) hW
        rw [secs_diff hs] at k6
        have W1 : IntKind.i64.wrap (c : Int) = (c : Int) := i64_fits (by omega)
        have W2 : IntKind.i64.wrap ((c : Int) + 1) = (c : Int) + 1 := i64_fits (by omega)
        generalize hA : apI b (wrL a (differ a b)) = ai at *
        generalize hB : wrL a (differ a b) = wl at *
        generalize hC : differ a b = dl at *
        generalize hD : numD a b a.length = cn at *
        generalize hE : numM a b dl a.length = cm at *
        rw [cal_code env4 rfl]; simp only [fn4, slAll, Nat.reduceBEq, Nat.reduceLeDiff, Nat.reduceAdd, List.length_cons, List.length_nil]
        simp only [e0, e1, e2, e3, k1, k2, k3, k4, k5, k6, W1, W2, Q, Q2, PV.scalar, slAll, Nat.reduceMul, Nat.reduceBEq, Nat.reduceLT, Nat.reduceLeDiff, Nat.zero_le, List.take_zero, List.take_nil, List.take_succ_cons, List.length_cons, List.length_nil, Nat.le_refl, List.isEmpty_nil, val_pvs, frozen_pvs, msnoc_len, msnoc_get, msnoc_set, msnoc_take, Int.le_refl, take_map_all, Nat.le_refl, St.freezeRows, BV.frozen, List.take_length, List.take_append_drop, z_repl_zero, Int.toNat_zero, true_and, and_true, and_self, eq_self, z_take_zero, List.drop_nil, List.take_nil, vAll, List.foldl_nil, List.foldl_cons, resultsOf, resultList, resultOf, zBV, splice, PV.remade, St.freezeAt, St.freezeBox, St.freezeCap, PV.single, plain, act, dstOf, if_true, if_false, reduceCtorEq, St.get, St.put, St.pvOf, St.putRow, St.consume, St.freeze, St.row, St.elems, St.grab, St.takeRow, St.setRow, St.place, St.optPv, St.setCell, St.setCellRow, binPV, intBin, unPV, BV.val, Nat.reduceEqDiff, bound, consumeAll, buildParts, capsOf, capOf, List.append_nil, Nat.reduceAdd, Nat.reduceLT, Nat.reduceLeDiff, beq_self_eq_true, List.length_map, Nat.beq, dcall, dcallP, List.mapM_cons, St.snapFn, St.snap, St.layAll, St.lay, St.freezeArg, St.freezeArg1]
      · have G : (pairErr a b != 0) = true := by simp [hp]
        rw [cal_code env4 rfl]; simp only [fn4, slAll, Nat.reduceBEq, Nat.reduceLeDiff, Nat.reduceAdd, List.length_cons, List.length_nil]
        simp only [e0, e1, e2, e3, G, slAll, Nat.reduceMul, Nat.reduceBEq, Nat.reduceLT, Nat.reduceLeDiff, Nat.zero_le, List.take_zero, List.take_nil, List.take_succ_cons, List.length_cons, List.length_nil, Nat.le_refl, List.isEmpty_nil, val_pvs, frozen_pvs, msnoc_len, msnoc_get, msnoc_set, msnoc_take, Int.le_refl, take_map_all, Nat.le_refl, St.freezeRows, BV.frozen, List.take_length, List.take_append_drop, z_repl_zero, Int.toNat_zero, true_and, and_true, and_self, eq_self, z_take_zero, List.drop_nil, List.take_nil, vAll, List.foldl_nil, List.foldl_cons, resultsOf, resultList, resultOf, zBV, splice, PV.remade, St.freezeAt, St.freezeBox, St.freezeCap, PV.single, plain, act, dstOf, if_true, if_false, reduceCtorEq, St.get, St.put, St.pvOf, St.putRow, St.consume, St.freeze, St.row, St.elems, St.grab, St.takeRow, St.setRow, St.place, St.optPv, St.setCell, St.setCellRow, binPV, intBin, unPV, BV.val, Nat.reduceEqDiff, bound, consumeAll, buildParts, capsOf, capOf, List.append_nil, Nat.reduceAdd, Nat.reduceLT, Nat.reduceLeDiff, beq_self_eq_true, List.length_map, Nat.beq, dcall, dcallP, List.mapM_cons, St.snapFn, St.snap, St.layAll, St.lay, St.freezeArg, St.freezeArg1]
end Go.Proofs.YtncobemfpammfaaGreat.V

namespace Go.Proofs.YtncobemfpammfaaGreat.V
open Go.RowKit Go.ChangeShapes Go.WideShapes Go.ChangeAt

theorem Tryz.ownKnobV : ownKnob Tryz.prog.godebug = none := by kernel_rfl
theorem Tryz.laidOutV : laidOutB Tryz.prog = true := by kernel_rfl
theorem sint_u8 {q : PV} (h : SInt .u8 [q]) : ∃ b : UInt8, q = .int .u8 (b.toNat : Int) := by
  obtain ⟨n, h1, h2⟩ := h
  have h3 : IntKind.u8.min = 0 := rfl
  have h4 : IntKind.u8.max = 255 := rfl
  simp only [Lit.wf, Bool.and_eq_true, decide_eq_true_eq] at h1
  cases h2
  refine ⟨UInt8.ofNat n.toNat, ?_⟩
  rw [UInt8.toNat_ofNat_of_lt' (show n.toNat < 2 ^ 8 by omega)]
  congr 1; omega
def SSec : List PV → Prop := SArr 8 (SInt .u8)
theorem ssec {ps : List PV} (h : SSec ps) : ∃ s : Sec, ps = secPV s := by
  obtain ⟨h1, h2⟩ := h
  have : ∀ l : List PV, (∀ p ∈ l, SInt .u8 [p]) → ∃ m : List UInt8, m.length = l.length ∧ l = m.map fun b => .int .u8 (b.toNat : Int) := by
    intro l
    induction l with
    | nil => exact fun _ => ⟨[], rfl, rfl⟩
    | cons p l ih =>
      intro h
      obtain ⟨b, hb⟩ := sint_u8 (h p (by simp))
      obtain ⟨m, e1, e2⟩ := ih fun q hq => h q (by simp [hq])
      exact ⟨b :: m, by simp [e1], by rw [hb, e2]; rfl⟩
  obtain ⟨m, e1, e2⟩ := this ps h2
  refine ⟨⟨m.toArray, by simp [e1, h1]⟩, ?_⟩
  subst e2
  simp [secPV, Vector.toList]
theorem slist {α : Type} {n : Nat} {S : List PV → Prop} {wr : List PV → PV} {enc : α → PV} {ok : α → Prop} (hS : ∀ ps, S ps → ∃ a, ok a ∧ wr ps = enc a) {q : PV} (h : SList n S wr [q]) : ∃ l : List α, (∀ a ∈ l, ok a) ∧ q = .list n (l.map enc) := by
  obtain ⟨es, h1, h2⟩ := h
  cases h1
  have : ∀ es : List PV, (∀ x ∈ es, ∃ q, S q ∧ x = wr q) → ∃ l : List α, (∀ a ∈ l, ok a) ∧ es = l.map enc := by
    intro es
    induction es with
    | nil => exact fun _ => ⟨[], by simp, rfl⟩
    | cons e es ih =>
      intro h
      obtain ⟨q, h3, h4⟩ := h e (by simp)
      obtain ⟨a, h5, h6⟩ := hS q h3
      obtain ⟨l, h7, h8⟩ := ih fun x hx => h x (by simp [hx])
      exact ⟨a :: l, by simp; exact ⟨h5, h7⟩, by rw [h4, h6, h8]; rfl⟩
  obtain ⟨l, h3, h4⟩ := this es h2
  exact ⟨l, h3, by rw [h4]⟩
theorem wr_list {n : Nat} {S : List PV → Prop} {wr : List PV → PV} {ps : List PV} (h : SList n S wr ps) : (wrS ps).cells = ps := by
  obtain ⟨es, rfl, _⟩ := h; rfl
def SSecs : List PV → Prop := SList 8 SSec .agg
theorem ssecs {q : PV} (h : SSecs [q]) : ∃ l : List Sec, q = eSecs l := by
  obtain ⟨l, _, e⟩ := slist (enc := eSec) (ok := fun _ => True) (fun ps h => by obtain ⟨s, rfl⟩ := ssec h; exact ⟨s, trivial, rfl⟩) h
  exact ⟨l, e⟩
def SImg : List PV → Prop := SList 1 SSecs wrS
theorem simg {q : PV} (h : SImg [q]) : ∃ l : Img, q = .list 1 (l.map eSecs) := by
  obtain ⟨l, _, e⟩ := slist (enc := eSecs) (ok := fun _ => True) (fun ps h => by
    obtain ⟨es, rfl, h2⟩ := h
    obtain ⟨l, e⟩ := ssecs (q := .list 8 es) ⟨es, rfl, h2⟩
    exact ⟨l, trivial, e⟩) h
  exact ⟨l, e⟩
theorem Tryz.rdU8 : RdsC Tryz.prog 5 1 (SInt .u8) := RdsC.int Tryz.underlying5 (by kernel_rfl)
theorem Tryz.rdSec : RdsC Tryz.prog 59 8 SSec := RdsC.arr Tryz.underlying59 Tryz.rdU8 (by kernel_rfl)
theorem Tryz.rdSecs : RdsC Tryz.prog 56 1 SSecs := RdsC.list Tryz.underlying56 (by kernel_rfl) Tryz.rdSec (by decide) (fun _ _ _ => rfl)
theorem Tryz.rdImg : RdsC Tryz.prog 23 1 SImg := RdsC.list Tryz.underlying23 (by kernel_rfl) Tryz.rdSecs (by decide) (fun _ h _ => wr_list h)
end Go.Proofs.YtncobemfpammfaaGreat.V

namespace Go.Proofs.YtncobemfpammfaaGreat.V
open Go.RowKit Go.ChangeShapes Go.WideShapes Go.ChangeAt
theorem su8 {q : PV} (h : SInt .u8 [q]) : ∃ c : Nat, c < 256 ∧ q = .int .u8 (c : Int) := by
  obtain ⟨b, e⟩ := sint_u8 h
  exact ⟨b.toNat, b.toNat_lt, e⟩
end Go.Proofs.YtncobemfpammfaaGreat.V
