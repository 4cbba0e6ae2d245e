/-
  Part 14 of the texts that the statement stands on.
-/
import Derived.Test.YtldnpgbacakfeaaZ13
set_option linter.all false
namespace Go.Proofs.Ytldnpgbacakfeaa.V
set_option linter.all false

theorem take_snoc' {α : Type} {l : List α} {i : Nat} (h : i < l.length) : l.take (i + 1) = l.take i ++ [l[i]] := by
  rw [List.take_add_one, List.getElem?_eq_getElem h]; rfl
def getS (im : Img) (v s : Nat) : Sec := (im.getD v []).getD s zSec
def hit (w : Wrt) (v s : Nat) : Bool := decide (w.volume = (v : Int)) && (decide (w.start ≤ (s : Int)) && decide ((s : Int) - w.start < w.data.length))
def wantStep (v s : Nat) (x : Sec) (w : Wrt) : Sec := if hit w v s then w.data.getD ((s : Int) - w.start).toNat zSec else x
def wantOf (v s : Nat) (l : List Wrt) (x : Sec) : Sec := l.foldl (wantStep v s) x
theorem wrErr_facts {im : Img} {w : Wrt} (h : wrErr (szsOf im) w = 0) : 0 ≤ w.volume ∧ w.volume < (im.length : Int) ∧ 0 < w.data.length ∧ 0 ≤ w.start ∧ w.start + w.data.length ≤ ((im.getD w.volume.toNat []).length : Int) := by
  unfold wrErr at h
  have hl : (szsOf im).length = im.length := by simp [szsOf]
  rw [hl] at h
  split at h
  · omega
  · rename_i h1
    split at h
    · omega
    · rename_i h2
      split at h
      · omega
      · rename_i h3
        have h4 : w.volume.toNat < im.length := by omega
        have e : (szsOf im).getD w.volume.toNat 0 = ((im.getD w.volume.toNat []).length : Int) := by
          simp only [szsOf, List.getD_eq_getElem?_getD, List.getElem?_map, List.getElem?_eq_getElem h4, Option.map_some, Option.getD_some]
        rw [e] at h3
        exact ⟨by omega, by omega, by omega, by omega, by omega⟩
theorem putAt_len {l d : List Sec} {s : Nat} (h : s + d.length ≤ l.length) : (putAt l s d).length = l.length := by
  unfold putAt; simp; omega
theorem putAt_get {l d : List Sec} {s k : Nat} (h : s + d.length ≤ l.length) (hk : k < l.length) : (putAt l s d).getD k zSec = if s ≤ k ∧ k < s + d.length then d.getD (k - s) zSec else l.getD k zSec := by
  have h1 : (l.take s).length = s := by rw [List.length_take]; omega
  simp only [putAt, List.getD_eq_getElem?_getD]
  by_cases c1 : k < s
  · rw [List.append_assoc, List.getElem?_append_left (by omega), if_neg (by omega), List.getElem?_take_of_lt c1]
  · by_cases c2 : k < s + d.length
    · rw [List.append_assoc, List.getElem?_append_right (by omega), h1, List.getElem?_append_left (by omega), if_pos (by omega)]
    · rw [List.getElem?_append_right (by simp; omega), if_neg (by omega)]
      simp only [List.length_append, h1, List.getElem?_drop]
      congr 2; omega
theorem put1_get {im : Img} {w : Wrt} {v s : Nat} (h : wrErr (szsOf im) w = 0) (hv : v < im.length) (hs : s < (im.getD v []).length) : getS (put1 im w) v s = wantStep v s (getS im v s) w := by
  obtain ⟨h1, h2, h3, h4, h5⟩ := wrErr_facts h
  unfold getS put1 wantStep hit
  by_cases e : w.volume.toNat = v
  · subst e
    have : (im.set w.volume.toNat (putAt (im.getD w.volume.toNat []) w.start.toNat w.data)).getD w.volume.toNat [] = putAt (im.getD w.volume.toNat []) w.start.toNat w.data := by
      simp [List.getD_eq_getElem?_getD, List.getElem?_set, hv]
    rw [this, putAt_get (by omega) hs]
    have ev : decide (w.volume = ((w.volume.toNat : Nat) : Int)) = true := by simp; omega
    rw [ev, Bool.true_and]
    by_cases c : w.start.toNat ≤ s ∧ s < w.start.toNat + w.data.length
    · rw [if_pos c, decide_eq_true (show w.start ≤ (s : Int) by omega), decide_eq_true (show (s : Int) - w.start < w.data.length by omega)]
      simp only [Bool.and_self, if_true]
      congr 1; omega
    · rw [if_neg c]
      by_cases c1 : w.start ≤ (s : Int)
      · rw [decide_eq_true c1, decide_eq_false (show ¬ (s : Int) - w.start < w.data.length by omega)]; rfl
      · rw [decide_eq_false c1]; rfl
  · have : (im.set w.volume.toNat (putAt (im.getD w.volume.toNat []) w.start.toNat w.data)).getD v [] = im.getD v [] := by
      simp [List.getD_eq_getElem?_getD, List.getElem?_set, e]
    rw [this, decide_eq_false (show ¬ w.volume = (v : Int) by omega)]
    rfl
theorem szs_getD {a b : Img} (h : szsOf a = szsOf b) (v : Nat) : (a.getD v []).length = (b.getD v []).length ∧ a.length = b.length := by
  obtain ⟨h1, h2⟩ := sizes_inj (a := a) (b := b) h
  refine ⟨?_, h1⟩
  by_cases hv : v < a.length
  · rw [getD_lt hv, getD_lt (show v < b.length by omega)]; exact h2 v hv (by omega)
  · simp [List.getD_eq_getElem?_getD, List.getElem?_eq_none (show a.length ≤ v by omega), List.getElem?_eq_none (show b.length ≤ v by omega)]
theorem puts_get : ∀ (l : List Wrt) (im : Img) (i : Nat), (wrErrs (szsOf im) l i).2 = 0 → ∀ {v s : Nat}, v < im.length → s < (im.getD v []).length → getS (l.foldl put1 im) v s = wantOf v s l (getS im v s)
  | [], _, _, _, _, _, _, _ => rfl
  | w :: l, im, i, h, v, s, hv, hs => by
    unfold wrErrs at h
    split at h
    · rename_i h2; exact absurd h h2
    · rename_i h2
      have h2 : wrErr (szsOf im) w = 0 := by omega
      have e := wrErr_ok h2
      obtain ⟨q1, q2⟩ := szs_getD e v
      rw [List.foldl_cons, puts_get l (put1 im w) (i + 1) (by rw [e]; exact h) (by omega) (by omega), put1_get h2 hv hs]
      rfl
theorem all_fit : ∀ (l : List Wrt) (im : Img) (i : Nat), (wrErrs (szsOf im) l i).2 = 0 → ∀ w ∈ l, wrErr (szsOf im) w = 0
  | [], _, _, _, w, hw => by cases hw
  | x :: l, im, i, h, w, hw => by
    unfold wrErrs at h
    split at h
    · rename_i h2; exact absurd h h2
    · rename_i h2
      rcases List.mem_cons.1 hw with rfl | hw
      · omega
      · exact all_fit l im (i + 1) h w hw
set_option maxHeartbeats 2000000 in
theorem loopw5 {im a : Img} {l : List Wrt} {v s : Nat} {x : Sec} {n m j : PV} (hl : l.length ≤ lim) (hs : s ≤ 1000) (hfit : ∀ w ∈ l, 0 ≤ w.start ∧ w.data.length ≤ 1000)
   {st : St} (h : st.head [1, 5, 6, 9, 10, 11, 24, 29, 52, 53, 71, 72, 82, 83, 84] st.boxes.length = some ⟨[.any, .pv (.list 3 (l.map eWr)), .any, .any, .any, .row 1 (im.map eSecs), .pv (.list 1 (a.map eSecs)), .any, .any, .pv (.int .i64 (v : Int)), .pv (.int .i64 (s : Int)), .pbox 0 0, .any, .any, .any, .any, .any, .any, .any, .any, .any, .any, .any, .any, .any, .any, .any, .any, .any, .pv (.list 1 (a.map eSecs)), .any, .any, .any, .any, .any, .any, .any, .any, .any, .any, .any, .any, .any, .any, .any, .any, .any, .any, .any, .any, .any, .any, .pv n, .pv (.int .i64 (v : Int)), .any, .any, .any, .any, .any, .any, .any, .any, .any, .any, .any, .any, .any, .any, .any, .any, .any, .pv m, .pv j, .any, .any, .any, .any, .any, .any, .any, .any, .any, .pv (.list 3 (l.map eWr)), .pv (.int .i64 l.length), .pv (.int .i64 (0 : Nat)), .any, .any, .any, .any, .any, .any, .any, .any, .any, .any, .any, .any, .any, .any, .any, .any, .any, .any, .any, .any, .any, .any, .any, .any, .any, .any, .any, .any, .any, .any, .any, .any, .any, .any, .any, .any, .any, .any, .any, .any, .any, .any, .any, .any], [⟨false, (secPV x).map BV.pv⟩], [], none⟩) :
   den env fn5_l1 st = some (.normal, ⟨[.any, .pv (.list 3 (l.map eWr)), .any, .any, .any, .row 1 (im.map eSecs), .pv (.list 1 (a.map eSecs)), .any, .any, .pv (.int .i64 (v : Int)), .pv (.int .i64 (s : Int)), .pbox 0 0, .any, .any, .any, .any, .any, .any, .any, .any, .any, .any, .any, .any, .any, .any, .any, .any, .any, .pv (.list 1 (a.map eSecs)), .any, .any, .any, .any, .any, .any, .any, .any, .any, .any, .any, .any, .any, .any, .any, .any, .any, .any, .any, .any, .any, .any, .pv n, .pv (.int .i64 (v : Int)), .any, .any, .any, .any, .any, .any, .any, .any, .any, .any, .any, .any, .any, .any, .any, .any, .any, .pv m, .pv j, .any, .any, .any, .any, .any, .any, .any, .any, .any, .any, .any, .any, .any, .any, .any, .any, .any, .any, .any, .any, .any, .any, .any, .any, .any, .any, .any, .any, .any, .any, .any, .any, .any, .any, .any, .any, .any, .any, .any, .any, .any, .any, .any, .any, .any, .any, .any, .any, .any, .any, .any, .any, .any, .any, .any, .any], [⟨false, (secPV (wantOf v s l x)).map BV.pv⟩], [], none⟩) := by
  unfold fn5_l1
  refine clean_up (env := env) l.length (fun k => ⟨[.any, .pv (.list 3 (l.map eWr)), .any, .any, .any, .row 1 (im.map eSecs), .pv (.list 1 (a.map eSecs)), .any, .any, .pv (.int .i64 (v : Int)), .pv (.int .i64 (s : Int)), .pbox 0 0, .any, .any, .any, .any, .any, .any, .any, .any, .any, .any, .any, .any, .any, .any, .any, .any, .any, .pv (.list 1 (a.map eSecs)), .any, .any, .any, .any, .any, .any, .any, .any, .any, .any, .any, .any, .any, .any, .any, .any, .any, .any, .any, .any, .any, .any, .pv n, .pv (.int .i64 (v : Int)), .any, .any, .any, .any, .any, .any, .any, .any, .any, .any, .any, .any, .any, .any, .any, .any, .any, .pv m, .pv j, .any, .any, .any, .any, .any, .any, .any, .any, .any, .pv (.list 3 (l.map eWr)), .pv (.int .i64 l.length), .pv (.int .i64 k), .any, .any, .any, .any, .any, .any, .any, .any, .any, .any, .any, .any, .any, .any, .any, .any, .any, .any, .any, .any, .any, .any, .any, .any, .any, .any, .any, .any, .any, .any, .any, .any, .any, .any, .any, .any, .any, .any, .any, .any, .any, .any, .any, .any], [⟨false, (secPV (wantOf v s (l.take k) x)).map BV.pv⟩], [], none⟩)
    (fun k => some (.normal, ⟨[.any, .pv (.list 3 (l.map eWr)), .any, .any, .any, .row 1 (im.map eSecs), .pv (.list 1 (a.map eSecs)), .any, .any, .pv (.int .i64 (v : Int)), .pv (.int .i64 (s : Int)), .pbox 0 0, .any, .any, .any, .any, .any, .any, .any, .any, .any, .any, .any, .any, .any, .any, .any, .any, .any, .pv (.list 1 (a.map eSecs)), .any, .any, .any, .any, .any, .any, .any, .any, .any, .any, .any, .any, .any, .any, .any, .any, .any, .any, .any, .any, .any, .any, .pv n, .pv (.int .i64 (v : Int)), .any, .any, .any, .any, .any, .any, .any, .any, .any, .any, .any, .any, .any, .any, .any, .any, .any, .pv m, .pv j, .any, .any, .any, .any, .any, .any, .any, .any, .any, .any, .any, .any, .any, .any, .any, .any, .any, .any, .any, .any, .any, .any, .any, .any, .any, .any, .any, .any, .any, .any, .any, .any, .any, .any, .any, .any, .any, .any, .any, .any, .any, .any, .any, .any, .any, .any, .any, .any, .any, .any, .any, .any, .any, .any, .any, .any], [⟨false, (secPV (wantOf v s l x)).map BV.pv⟩], [], none⟩)) h (fun _ => rfl) (fun _ => rfl) ?_ ?_
  · intro k rb hi ih
    have hi1 := i64_next hi hl
    have F1 : ((k : Int) < (l.length : Int)) = True := eq_true (by omega)
    obtain ⟨f1, f2⟩ := hfit _ (List.getElem_mem hi)
    have hw : wantOf v s (l.take (k + 1)) x = wantStep v s (wantOf v s (l.take k) x) l[k] := by
      rw [take_snoc' hi, wantOf, List.foldl_append]; rfl
    have hk : l[k]? = some l[k] := List.getElem?_eq_getElem hi
    generalize wantOf v s (l.take k) x = y at hw ih
    generalize l[k] = w at *
    obtain ⟨wv, ws, wd⟩ := w
    simp only at f1 f2
    have len8 : ∀ z : Sec, ((secPV z).map BV.pv).length = 8 := fun z => by simp [secPV]
    have part8 : ∀ z : Sec, (List.map BV.pv (secPV z)).take 0 = [] := fun z => rfl
    by_cases c1 : wv = (v : Int)
    · have G1 : (wv == (v : Int)) = true := by simpa using c1
      by_cases c2 : ws ≤ (s : Int)
      · have G2 : ((s : Int) ≥ ws) = True := eq_true c2
        have G3 : IntKind.i64.wrap ((s : Int) - ws) = (s : Int) - ws := i64_fits (by omega)
        by_cases c3 : (s : Int) - ws < wd.length
        · have G4 : ((s : Int) - ws < (wd.length : Int)) = True := eq_true c3
          have h0 : ((s : Int) - ws).toNat < wd.length := by omega
          have G5 := index_int (k := .i64) (show 0 ≤ (s : Int) - ws by omega) c3
          have G6 : ((secPV wd[((s : Int) - ws).toNat]).map BV.pv).length = 8 := len8 _
          have hst : wantStep v s y ⟨wv, ws, wd⟩ = wd[((s : Int) - ws).toNat] := by
            simp only [wantStep, hit, decide_eq_true c1, decide_eq_true c2, decide_eq_true c3, Bool.and_self, if_true, getD_lt h0]
          rw [hst] at hw
          have G7 : List.drop 8 (List.map BV.pv (secPV y)) = [] := List.drop_eq_nil_of_le (by rw [len8]; exact Nat.le_refl _)
          simp only [fn5_b0, F1, G1, G2, G3, G4, G5, G7, eWr, eSec, index_nat hi, hk, List.getElem?_map, Option.map_some, List.getElem?_eq_getElem h0, part_sec, secPV_length, len8, val_pvs, frozen_pvs, msnoc_len, msnoc_get, msnoc_set, msnoc_take, Int.le_refl, take_map_all, Nat.le_refl, St.freezeRows, BV.frozen, List.take_length, List.take_append_drop, z_repl_zero, Int.toNat_zero, true_and, and_true, and_self, eq_self, z_take_zero, List.drop_nil, List.take_nil, vAll, List.foldl_nil, List.foldl_cons, resultsOf, resultList, resultOf, zBV, splice, PV.remade, St.freezeAt, St.freezeBox, PV.single, plain, act, dstOf, if_true, if_false, reduceCtorEq, St.get, St.put, St.pvOf, St.putRow, St.consume, St.freeze, St.row, St.elems, St.grab, St.takeRow, St.setRow, St.place, St.optPv, St.setCell, St.setCellRow, binPV, intBin, unPV, BV.val, Nat.reduceEqDiff, bound, consumeAll, buildParts, capsOf, capOf, List.append_nil, Nat.reduceAdd, Nat.reduceLT, Nat.reduceLeDiff, beq_self_eq_true, List.length_map, Nat.beq, dcall, dcallP, List.mapM_cons, St.snapFn, St.snap, St.layAll, St.lay, St.freezeArg, St.freezeArg1]
          rw [ih _ (by simp only [hi1]; rw [hw]; rfl)]
        · have G4 : ((s : Int) - ws < (wd.length : Int)) = False := eq_false c3
          have hst : wantStep v s y ⟨wv, ws, wd⟩ = y := by
            simp only [wantStep, hit, decide_eq_false c3, Bool.and_false, Bool.false_eq_true, if_false]
          rw [hst] at hw
          simp only [fn5_b0, F1, G1, G2, G3, G4, eWr, eSec, index_nat hi, hk, List.getElem?_map, Option.map_some, val_pvs, frozen_pvs, msnoc_len, msnoc_get, msnoc_set, msnoc_take, Int.le_refl, take_map_all, Nat.le_refl, St.freezeRows, BV.frozen, List.take_length, List.take_append_drop, z_repl_zero, Int.toNat_zero, true_and, and_true, and_self, eq_self, z_take_zero, List.drop_nil, List.take_nil, vAll, List.foldl_nil, List.foldl_cons, resultsOf, resultList, resultOf, zBV, splice, PV.remade, St.freezeAt, St.freezeBox, PV.single, plain, act, dstOf, if_true, if_false, reduceCtorEq, St.get, St.put, St.pvOf, St.putRow, St.consume, St.freeze, St.row, St.elems, St.grab, St.takeRow, St.setRow, St.place, St.optPv, St.setCell, St.setCellRow, binPV, intBin, unPV, BV.val, Nat.reduceEqDiff, bound, consumeAll, buildParts, capsOf, capOf, List.append_nil, Nat.reduceAdd, Nat.reduceLT, Nat.reduceLeDiff, beq_self_eq_true, List.length_map, Nat.beq, dcall, dcallP, List.mapM_cons, St.snapFn, St.snap, St.layAll, St.lay, St.freezeArg, St.freezeArg1]
          rw [ih _ (by simp only [hi1]; rw [hw]; rfl)]
      · have G2 : ((s : Int) ≥ ws) = False := eq_false (by omega)
        have hst : wantStep v s y ⟨wv, ws, wd⟩ = y := by
          simp only [wantStep, hit, decide_eq_false c2, Bool.and_false, Bool.false_and, Bool.false_eq_true, if_false]
        rw [hst] at hw
        simp only [fn5_b0, F1, G1, G2, eWr, eSec, index_nat hi, hk, List.getElem?_map, Option.map_some, val_pvs, frozen_pvs, msnoc_len, msnoc_get, msnoc_set, msnoc_take, Int.le_refl, take_map_all, Nat.le_refl, St.freezeRows, BV.frozen, List.take_length, List.take_append_drop, z_repl_zero, Int.toNat_zero, true_and, and_true, and_self, eq_self, z_take_zero, List.drop_nil, List.take_nil, vAll, List.foldl_nil, List.foldl_cons, resultsOf, resultList, resultOf, zBV, splice, PV.remade, St.freezeAt, St.freezeBox, PV.single, plain, act, dstOf, if_true, if_false, reduceCtorEq, St.get, St.put, St.pvOf, St.putRow, St.consume, St.freeze, St.row, St.elems, St.grab, St.takeRow, St.setRow, St.place, St.optPv, St.setCell, St.setCellRow, binPV, intBin, unPV, BV.val, Nat.reduceEqDiff, bound, consumeAll, buildParts, capsOf, capOf, List.append_nil, Nat.reduceAdd, Nat.reduceLT, Nat.reduceLeDiff, beq_self_eq_true, List.length_map, Nat.beq, dcall, dcallP, List.mapM_cons, St.snapFn, St.snap, St.layAll, St.lay, St.freezeArg, St.freezeArg1]
        rw [ih _ (by simp only [hi1]; rw [hw]; rfl)]
    · have G1 : (wv == (v : Int)) = false := by simpa using c1
      have hst : wantStep v s y ⟨wv, ws, wd⟩ = y := by
        simp only [wantStep, hit, decide_eq_false c1, Bool.false_and, Bool.false_eq_true, if_false]
      rw [hst] at hw
      simp only [fn5_b0, F1, G1, eWr, eSec, index_nat hi, hk, List.getElem?_map, Option.map_some, val_pvs, frozen_pvs, msnoc_len, msnoc_get, msnoc_set, msnoc_take, Int.le_refl, take_map_all, Nat.le_refl, St.freezeRows, BV.frozen, List.take_length, List.take_append_drop, z_repl_zero, Int.toNat_zero, true_and, and_true, and_self, eq_self, z_take_zero, List.drop_nil, List.take_nil, vAll, List.foldl_nil, List.foldl_cons, resultsOf, resultList, resultOf, zBV, splice, PV.remade, St.freezeAt, St.freezeBox, PV.single, plain, act, dstOf, if_true, if_false, reduceCtorEq, St.get, St.put, St.pvOf, St.putRow, St.consume, St.freeze, St.row, St.elems, St.grab, St.takeRow, St.setRow, St.place, St.optPv, St.setCell, St.setCellRow, binPV, intBin, unPV, BV.val, Nat.reduceEqDiff, bound, consumeAll, buildParts, capsOf, capOf, List.append_nil, Nat.reduceAdd, Nat.reduceLT, Nat.reduceLeDiff, beq_self_eq_true, List.length_map, Nat.beq, dcall, dcallP, List.mapM_cons, St.snapFn, St.snap, St.layAll, St.lay, St.freezeArg, St.freezeArg1]
      rw [ih _ (by simp only [hi1]; rw [hw]; rfl)]
  · intro rb
    simp only [fn5_b0, Int.lt_irrefl, List.take_length, val_pvs, frozen_pvs, msnoc_len, msnoc_get, msnoc_set, msnoc_take, Int.le_refl, take_map_all, Nat.le_refl, St.freezeRows, BV.frozen, List.take_length, List.take_append_drop, z_repl_zero, Int.toNat_zero, true_and, and_true, and_self, eq_self, z_take_zero, List.drop_nil, List.take_nil, vAll, List.foldl_nil, List.foldl_cons, resultsOf, resultList, resultOf, zBV, splice, PV.remade, St.freezeAt, St.freezeBox, PV.single, plain, act, dstOf, if_true, if_false, reduceCtorEq, St.get, St.put, St.pvOf, St.putRow, St.consume, St.freeze, St.row, St.elems, St.grab, St.takeRow, St.setRow, St.place, St.optPv, St.setCell, St.setCellRow, binPV, intBin, unPV, BV.val, Nat.reduceEqDiff, bound, consumeAll, buildParts, capsOf, capOf, List.append_nil, Nat.reduceAdd, Nat.reduceLT, Nat.reduceLeDiff, beq_self_eq_true, List.length_map, Nat.beq, dcall, dcallP, List.mapM_cons, St.snapFn, St.snap, St.layAll, St.lay, St.freezeArg, St.freezeArg1]
    rfl
set_option maxHeartbeats 2000000 in
theorem loopq5 {im a : Img} {l : List Wrt} {v : Nat} {n : PV} (hl : l.length ≤ lim) (hv : v < im.length) (hva : v < a.length) (h1000 : im[v].length ≤ 1000) (hva2 : a[v].length = im[v].length) (hfit : ∀ w ∈ l, 0 ≤ w.start ∧ w.data.length ≤ 1000) (hok : ∀ s (h : s < im[v].length) (h2 : s < a[v].length), a[v][s] = wantOf v s l im[v][s])
   {st : St} (h : st.head [1, 5, 6, 9, 24, 29, 52, 53, 71, 72] st.boxes.length = some ⟨[.any, .pv (.list 3 (l.map eWr)), .any, .any, .any, .row 1 (im.map eSecs), .pv (.list 1 (a.map eSecs)), .any, .any, .pv (.int .i64 (v : Int)), .any, .any, .any, .any, .any, .any, .any, .any, .any, .any, .any, .any, .any, .any, .any, .any, .any, .any, .any, .pv (.list 1 (a.map eSecs)), .any, .any, .any, .any, .any, .any, .any, .any, .any, .any, .any, .any, .any, .any, .any, .any, .any, .any, .any, .any, .any, .any, .pv n, .pv (.int .i64 (v : Int)), .any, .any, .any, .any, .any, .any, .any, .any, .any, .any, .any, .any, .any, .any, .any, .any, .any, .pv (.int .i64 (im[v].length : Int)), .pv (.int .i64 (0 : Nat)), .any, .any, .any, .any, .any, .any, .any, .any, .any, .any, .any, .any, .any, .any, .any, .any, .any, .any, .any, .any, .any, .any, .any, .any, .any, .any, .any, .any, .any, .any, .any, .any, .any, .any, .any, .any, .any, .any, .any, .any, .any, .any, .any, .any, .any, .any, .any, .any, .any, .any, .any, .any, .any, .any, .any, .any], [], [], none⟩) :
   den env fn5_l3 st = some (.normal, ⟨[.any, .pv (.list 3 (l.map eWr)), .any, .any, .any, .row 1 (im.map eSecs), .pv (.list 1 (a.map eSecs)), .any, .any, .any, .any, .any, .any, .any, .any, .any, .any, .any, .any, .any, .any, .any, .any, .any, .any, .any, .any, .any, .any, .pv (.list 1 (a.map eSecs)), .any, .any, .any, .any, .any, .any, .any, .any, .any, .any, .any, .any, .any, .any, .any, .any, .any, .any, .any, .any, .any, .any, .pv n, .pv (.int .i64 (v : Int)), .any, .any, .any, .any, .any, .any, .any, .any, .any, .any, .any, .any, .any, .any, .any, .any, .any, .any, .any, .any, .any, .any, .any, .any, .any, .any, .any, .any, .any, .any, .any, .any, .any, .any, .any, .any, .any, .any, .any, .any, .any, .any, .any, .any, .any, .any, .any, .any, .any, .any, .any, .any, .any, .any, .any, .any, .any, .any, .any, .any, .any, .any, .any, .any, .any, .any, .any, .any, .any, .any, .any, .any, .any, .any, .any], [], [], none⟩) := by
  unfold fn5_l3
  have hlim : lim = 1073741824 := rfl
  refine clean_up (env := env) im[v].length (fun s => ⟨[.any, .pv (.list 3 (l.map eWr)), .any, .any, .any, .row 1 (im.map eSecs), .pv (.list 1 (a.map eSecs)), .any, .any, .pv (.int .i64 (v : Int)), .any, .any, .any, .any, .any, .any, .any, .any, .any, .any, .any, .any, .any, .any, .any, .any, .any, .any, .any, .pv (.list 1 (a.map eSecs)), .any, .any, .any, .any, .any, .any, .any, .any, .any, .any, .any, .any, .any, .any, .any, .any, .any, .any, .any, .any, .any, .any, .pv n, .pv (.int .i64 (v : Int)), .any, .any, .any, .any, .any, .any, .any, .any, .any, .any, .any, .any, .any, .any, .any, .any, .any, .pv (.int .i64 (im[v].length : Int)), .pv (.int .i64 s), .any, .any, .any, .any, .any, .any, .any, .any, .any, .any, .any, .any, .any, .any, .any, .any, .any, .any, .any, .any, .any, .any, .any, .any, .any, .any, .any, .any, .any, .any, .any, .any, .any, .any, .any, .any, .any, .any, .any, .any, .any, .any, .any, .any, .any, .any, .any, .any, .any, .any, .any, .any, .any, .any, .any, .any], [], [], none⟩)
    (fun _ => some (.normal, ⟨[.any, .pv (.list 3 (l.map eWr)), .any, .any, .any, .row 1 (im.map eSecs), .pv (.list 1 (a.map eSecs)), .any, .any, .any, .any, .any, .any, .any, .any, .any, .any, .any, .any, .any, .any, .any, .any, .any, .any, .any, .any, .any, .any, .pv (.list 1 (a.map eSecs)), .any, .any, .any, .any, .any, .any, .any, .any, .any, .any, .any, .any, .any, .any, .any, .any, .any, .any, .any, .any, .any, .any, .pv n, .pv (.int .i64 (v : Int)), .any, .any, .any, .any, .any, .any, .any, .any, .any, .any, .any, .any, .any, .any, .any, .any, .any, .any, .any, .any, .any, .any, .any, .any, .any, .any, .any, .any, .any, .any, .any, .any, .any, .any, .any, .any, .any, .any, .any, .any, .any, .any, .any, .any, .any, .any, .any, .any, .any, .any, .any, .any, .any, .any, .any, .any, .any, .any, .any, .any, .any, .any, .any, .any, .any, .any, .any, .any, .any, .any, .any, .any, .any, .any, .any], [], [], none⟩)) h (fun _ => rfl) (fun _ => rfl) ?_ ?_
  · intro s rb hi ih
    have hi1 := i64_next hi (by omega)
    have F1 : ((s : Int) < (im[v].length : Int)) = True := eq_true (by omega)
    have hsa : s < a[v].length := by omega
    have hvv : im[v]? = some im[v] := List.getElem?_eq_getElem hv
    have hva' : a[v]? = some a[v] := List.getElem?_eq_getElem hva
    have hss : im[v][s]? = some im[v][s] := List.getElem?_eq_getElem hi
    have hsa' : a[v][s]? = some a[v][s] := List.getElem?_eq_getElem hsa
    have e := hok s hi hsa
    simp only [fn5_b2, F1, eSecs, eSec, index_nat hv, index_nat hva, index_nat hi, index_nat hsa, hvv, hss, List.getElem?_map, Option.map_some, part_sec, secPV_length, val_pvs, frozen_pvs, msnoc_len, msnoc_get, msnoc_set, msnoc_take, Int.le_refl, take_map_all, Nat.le_refl, St.freezeRows, BV.frozen, List.take_length, List.take_append_drop, z_repl_zero, Int.toNat_zero, true_and, and_true, and_self, eq_self, z_take_zero, List.drop_nil, List.take_nil, vAll, List.foldl_nil, List.foldl_cons, resultsOf, resultList, resultOf, zBV, splice, PV.remade, St.freezeAt, St.freezeBox, PV.single, plain, act, dstOf, if_true, if_false, reduceCtorEq, St.get, St.put, St.pvOf, St.putRow, St.consume, St.freeze, St.row, St.elems, St.grab, St.takeRow, St.setRow, St.place, St.optPv, St.setCell, St.setCellRow, binPV, intBin, unPV, BV.val, Nat.reduceEqDiff, bound, consumeAll, buildParts, capsOf, capOf, List.append_nil, Nat.reduceAdd, Nat.reduceLT, Nat.reduceLeDiff, beq_self_eq_true, List.length_map, Nat.beq, dcall, dcallP, List.mapM_cons, St.snapFn, St.snap, St.layAll, St.lay, St.freezeArg, St.freezeArg1]
    rw [loopw5 (im := im) (a := a) (l := l) (v := v) (s := s) (x := im[v][s]) (n := n) (m := .int .i64 (im[v].length : Int)) (j := .int .i64 (s : Int)) hl (by omega) hfit]
    rotate_left
    · rfl
    · simp only [eSecs, eSec, index_nat hv, index_nat hva, index_nat hi, index_nat hsa, hva', hsa', List.getElem?_map, Option.map_some, part_sec, secPV_length, e, eqCells_sec, decide_true, val_pvs, frozen_pvs, msnoc_len, msnoc_get, msnoc_set, msnoc_take, Int.le_refl, take_map_all, Nat.le_refl, St.freezeRows, BV.frozen, List.take_length, List.take_append_drop, z_repl_zero, Int.toNat_zero, true_and, and_true, and_self, eq_self, z_take_zero, List.drop_nil, List.take_nil, vAll, List.foldl_nil, List.foldl_cons, resultsOf, resultList, resultOf, zBV, splice, PV.remade, St.freezeAt, St.freezeBox, PV.single, plain, act, dstOf, if_true, if_false, reduceCtorEq, St.get, St.put, St.pvOf, St.putRow, St.consume, St.freeze, St.row, St.elems, St.grab, St.takeRow, St.setRow, St.place, St.optPv, St.setCell, St.setCellRow, binPV, intBin, unPV, BV.val, Nat.reduceEqDiff, bound, consumeAll, buildParts, capsOf, capOf, List.append_nil, Nat.reduceAdd, Nat.reduceLT, Nat.reduceLeDiff, beq_self_eq_true, List.length_map, Nat.beq, dcall, dcallP, List.mapM_cons, St.snapFn, St.snap, St.layAll, St.lay, St.freezeArg, St.freezeArg1]
      rw [ih _ (by simp only [hi1]; rfl)]
  · intro rb
    simp only [fn5_b2, Int.lt_irrefl, val_pvs, frozen_pvs, msnoc_len, msnoc_get, msnoc_set, msnoc_take, Int.le_refl, take_map_all, Nat.le_refl, St.freezeRows, BV.frozen, List.take_length, List.take_append_drop, z_repl_zero, Int.toNat_zero, true_and, and_true, and_self, eq_self, z_take_zero, List.drop_nil, List.take_nil, vAll, List.foldl_nil, List.foldl_cons, resultsOf, resultList, resultOf, zBV, splice, PV.remade, St.freezeAt, St.freezeBox, PV.single, plain, act, dstOf, if_true, if_false, reduceCtorEq, St.get, St.put, St.pvOf, St.putRow, St.consume, St.freeze, St.row, St.elems, St.grab, St.takeRow, St.setRow, St.place, St.optPv, St.setCell, St.setCellRow, binPV, intBin, unPV, BV.val, Nat.reduceEqDiff, bound, consumeAll, buildParts, capsOf, capOf, List.append_nil, Nat.reduceAdd, Nat.reduceLT, Nat.reduceLeDiff, beq_self_eq_true, List.length_map, Nat.beq, dcall, dcallP, List.mapM_cons, St.snapFn, St.snap, St.layAll, St.lay, St.freezeArg, St.freezeArg1]
    rfl
set_option maxHeartbeats 2000000 in
theorem loopv5 {im a : Img} {l : List Wrt} (hl : l.length ≤ lim) (hii : im.length ≤ 1000) (h1000 : ∀ v ∈ im, v.length ≤ 1000) (hsz : imSizes a = imSizes im) (hfit : ∀ w ∈ l, 0 ≤ w.start ∧ w.data.length ≤ 1000) (hok : ∀ v (hv : v < im.length) (hva : v < a.length) s (h : s < im[v].length) (h2 : s < a[v].length), a[v][s] = wantOf v s l im[v][s])
   {st : St} (h : st.head [1, 5, 6, 24, 29, 52, 53] st.boxes.length = some ⟨[.any, .pv (.list 3 (l.map eWr)), .any, .any, .any, .row 1 (im.map eSecs), .pv (.list 1 (a.map eSecs)), .any, .any, .any, .any, .any, .any, .any, .any, .any, .any, .any, .any, .any, .any, .any, .any, .any, .any, .any, .any, .any, .any, .pv (.list 1 (a.map eSecs)), .any, .any, .any, .any, .any, .any, .any, .any, .any, .any, .any, .any, .any, .any, .any, .any, .any, .any, .any, .any, .any, .any, .pv (.int .i64 (im.length : Int)), .pv (.int .i64 (0 : Nat)), .any, .any, .any, .any, .any, .any, .any, .any, .any, .any, .any, .any, .any, .any, .any, .any, .any, .any, .any, .any, .any, .any, .any, .any, .any, .any, .any, .any, .any, .any, .any, .any, .any, .any, .any, .any, .any, .any, .any, .any, .any, .any, .any, .any, .any, .any, .any, .any, .any, .any, .any, .any, .any, .any, .any, .any, .any, .any, .any, .any, .any, .any, .any, .any, .any, .any, .any, .any, .any, .any, .any, .any, .any, .any, .any], [], [], none⟩) :
   den env fn5_l5 st = some (.normal, ⟨[.any, .any, .any, .any, .any, .any, .any, .any, .any, .any, .any, .any, .any, .any, .any, .any, .any, .any, .any, .any, .any, .any, .any, .any, .any, .any, .any, .any, .any, .any, .any, .any, .any, .any, .any, .any, .any, .any, .any, .any, .any, .any, .any, .any, .any, .any, .any, .any, .any, .any, .any, .any, .any, .any, .any, .any, .any, .any, .any, .any, .any, .any, .any, .any, .any, .any, .any, .any, .any, .any, .any, .any, .any, .any, .any, .any, .any, .any, .any, .any, .any, .any, .any, .any, .any, .any, .any, .any, .any, .any, .any, .any, .any, .any, .any, .any, .any, .any, .any, .any, .any, .any, .any, .any, .any, .any, .any, .any, .any, .any, .any, .any, .any, .any, .any, .any, .any, .any, .any, .any, .any, .any, .any, .any, .any, .any, .any, .any, .any], [], [], none⟩) := by
  unfold fn5_l5
  have hlim : lim = 1073741824 := rfl
  obtain ⟨z1, z2⟩ := sizes_inj hsz
  refine clean_up (env := env) im.length (fun v => ⟨[.any, .pv (.list 3 (l.map eWr)), .any, .any, .any, .row 1 (im.map eSecs), .pv (.list 1 (a.map eSecs)), .any, .any, .any, .any, .any, .any, .any, .any, .any, .any, .any, .any, .any, .any, .any, .any, .any, .any, .any, .any, .any, .any, .pv (.list 1 (a.map eSecs)), .any, .any, .any, .any, .any, .any, .any, .any, .any, .any, .any, .any, .any, .any, .any, .any, .any, .any, .any, .any, .any, .any, .pv (.int .i64 (im.length : Int)), .pv (.int .i64 v), .any, .any, .any, .any, .any, .any, .any, .any, .any, .any, .any, .any, .any, .any, .any, .any, .any, .any, .any, .any, .any, .any, .any, .any, .any, .any, .any, .any, .any, .any, .any, .any, .any, .any, .any, .any, .any, .any, .any, .any, .any, .any, .any, .any, .any, .any, .any, .any, .any, .any, .any, .any, .any, .any, .any, .any, .any, .any, .any, .any, .any, .any, .any, .any, .any, .any, .any, .any, .any, .any, .any, .any, .any, .any, .any], [], [], none⟩) (fun _ => some (.normal, ⟨[.any, .any, .any, .any, .any, .any, .any, .any, .any, .any, .any, .any, .any, .any, .any, .any, .any, .any, .any, .any, .any, .any, .any, .any, .any, .any, .any, .any, .any, .any, .any, .any, .any, .any, .any, .any, .any, .any, .any, .any, .any, .any, .any, .any, .any, .any, .any, .any, .any, .any, .any, .any, .any, .any, .any, .any, .any, .any, .any, .any, .any, .any, .any, .any, .any, .any, .any, .any, .any, .any, .any, .any, .any, .any, .any, .any, .any, .any, .any, .any, .any, .any, .any, .any, .any, .any, .any, .any, .any, .any, .any, .any, .any, .any, .any, .any, .any, .any, .any, .any, .any, .any, .any, .any, .any, .any, .any, .any, .any, .any, .any, .any, .any, .any, .any, .any, .any, .any, .any, .any, .any, .any, .any, .any, .any, .any, .any, .any, .any], [], [], none⟩)) h (fun _ => rfl) (fun _ => rfl) ?_ ?_
  · intro v rb hi ih
    have hi1 := i64_next hi (by omega)
    have F1 : ((v : Int) < (im.length : Int)) = True := eq_true (by omega)
    have hva : v < a.length := by omega
    have hvv : im[v]? = some im[v] := List.getElem?_eq_getElem hi
    have hva' : a[v]? = some a[v] := List.getElem?_eq_getElem hva
    have F2 : (((a[v].length : Int)) != (im[v].length : Int)) = false := by simp; have := z2 v hva hi; omega
    simp only [fn5_b4, F1, F2, eSecs, index_nat hi, index_nat hva, hvv, hva', List.getElem?_map, Option.map_some, val_pvs, frozen_pvs, msnoc_len, msnoc_get, msnoc_set, msnoc_take, Int.le_refl, take_map_all, Nat.le_refl, St.freezeRows, BV.frozen, List.take_length, List.take_append_drop, z_repl_zero, Int.toNat_zero, true_and, and_true, and_self, eq_self, z_take_zero, List.drop_nil, List.take_nil, vAll, List.foldl_nil, List.foldl_cons, resultsOf, resultList, resultOf, zBV, splice, PV.remade, St.freezeAt, St.freezeBox, PV.single, plain, act, dstOf, if_true, if_false, reduceCtorEq, St.get, St.put, St.pvOf, St.putRow, St.consume, St.freeze, St.row, St.elems, St.grab, St.takeRow, St.setRow, St.place, St.optPv, St.setCell, St.setCellRow, binPV, intBin, unPV, BV.val, Nat.reduceEqDiff, bound, consumeAll, buildParts, capsOf, capOf, List.append_nil, Nat.reduceAdd, Nat.reduceLT, Nat.reduceLeDiff, beq_self_eq_true, List.length_map, Nat.beq, dcall, dcallP, List.mapM_cons, St.snapFn, St.snap, St.layAll, St.lay, St.freezeArg, St.freezeArg1]
    rw [loopq5 (im := im) (a := a) (l := l) (v := v) (n := .int .i64 (im.length : Int)) hl hi hva (h1000 _ (List.getElem_mem hi)) (z2 v hva hi) hfit (fun s h h2 => hok v hi hva s h h2)]
    rotate_left
    · rfl
    · simp only [val_pvs, frozen_pvs, msnoc_len, msnoc_get, msnoc_set, msnoc_take, Int.le_refl, take_map_all, Nat.le_refl, St.freezeRows, BV.frozen, List.take_length, List.take_append_drop, z_repl_zero, Int.toNat_zero, true_and, and_true, and_self, eq_self, z_take_zero, List.drop_nil, List.take_nil, vAll, List.foldl_nil, List.foldl_cons, resultsOf, resultList, resultOf, zBV, splice, PV.remade, St.freezeAt, St.freezeBox, PV.single, plain, act, dstOf, if_true, if_false, reduceCtorEq, St.get, St.put, St.pvOf, St.putRow, St.consume, St.freeze, St.row, St.elems, St.grab, St.takeRow, St.setRow, St.place, St.optPv, St.setCell, St.setCellRow, binPV, intBin, unPV, BV.val, Nat.reduceEqDiff, bound, consumeAll, buildParts, capsOf, capOf, List.append_nil, Nat.reduceAdd, Nat.reduceLT, Nat.reduceLeDiff, beq_self_eq_true, List.length_map, Nat.beq, dcall, dcallP, List.mapM_cons, St.snapFn, St.snap, St.layAll, St.lay, St.freezeArg, St.freezeArg1]
      rw [ih _ (by simp only [hi1]; rfl)]
  · intro rb
    simp only [fn5_b4, Int.lt_irrefl, val_pvs, frozen_pvs, msnoc_len, msnoc_get, msnoc_set, msnoc_take, Int.le_refl, take_map_all, Nat.le_refl, St.freezeRows, BV.frozen, List.take_length, List.take_append_drop, z_repl_zero, Int.toNat_zero, true_and, and_true, and_self, eq_self, z_take_zero, List.drop_nil, List.take_nil, vAll, List.foldl_nil, List.foldl_cons, resultsOf, resultList, resultOf, zBV, splice, PV.remade, St.freezeAt, St.freezeBox, PV.single, plain, act, dstOf, if_true, if_false, reduceCtorEq, St.get, St.put, St.pvOf, St.putRow, St.consume, St.freeze, St.row, St.elems, St.grab, St.takeRow, St.setRow, St.place, St.optPv, St.setCell, St.setCellRow, binPV, intBin, unPV, BV.val, Nat.reduceEqDiff, bound, consumeAll, buildParts, capsOf, capOf, List.append_nil, Nat.reduceAdd, Nat.reduceLT, Nat.reduceLeDiff, beq_self_eq_true, List.length_map, Nat.beq, dcall, dcallP, List.mapM_cons, St.snapFn, St.snap, St.layAll, St.lay, St.freezeArg, St.freezeArg1]
    rfl
end Go.Proofs.Ytldnpgbacakfeaa.V
