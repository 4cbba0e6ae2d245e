/-
  Part 5 of the texts that the statement stands on.
-/
import Derived.Test.YtdahanchdjadiaaGreatDoorZ4
import Derived.Test.YtdahanchdjadiaaGreatDoorProg
import Derived.Shelf.SlSortCmp.WholeK
import Derived.Shelf.SlSortCmp.NoneTotal
import Derived.Shelf.SlicesG.Cmp
import Derived.Shelf.Small.Bits
import Derived.Ground.SlsfProg
import Derived.Ground.SlgcProg
import Derived.Ground.NamesProg
set_option linter.all false
namespace Go.Proofs.YtdahanchdjadiaaGreatDoor.V
theorem bmE_ok {b : Bm} (h : okB b = true) : bmE b = 0 := by unfold bmE; rw [if_pos h]
theorem bmE_no {b : Bm} (h : okB b = false) : bmE b = 3 := by unfold bmE; rw [if_neg (by rw [h]; exact Bool.false_ne_true)]
theorem q64 {n : Int} (h : 0 ≤ n) : (n + 64 - 1).tdiv 64 = wdsN n := by
  unfold wdsN; rw [Int.tdiv_eq_ediv_of_nonneg (by omega)]; congr 1; omega
theorem q63 {n : Int} (h : 0 ≤ n) : (n + 63).tdiv 64 = wdsN n := by
  unfold wdsN; rw [Int.tdiv_eq_ediv_of_nonneg (by omega)]
theorem z64 : ((64 : Int) = 0) = False := eq_false (by decide)
theorem cal61 {n : Int} (h : 0 ≤ n ∧ n ≤ 4096) : cal env 61 [.int .i64 n] = some [(.int .i64 (wdsN n), false)] := by
  have W1 : IntKind.i64.wrap (n + 64) = n + 64 := i64_fits (by omega)
  have W2 : IntKind.i64.wrap (n + 64 - 1) = n + 64 - 1 := i64_fits (by omega)
  have W3 : IntKind.i64.wrap (wdsN n) = wdsN n := i64_fits (by unfold wdsN; omega)
  rw [cal_code env61 rfl]; simp only [fn61]; simp only [start, z_map_cons, z_map_nil, z_len_cons, z_len_nil, z_repl_zero, z_repl_succ, z_cons_app, z_nil_app, Nat.reduceAdd, Nat.reduceSub]
  simp only [W1, W2, q64 h.1, W3, z64, memAll, vAll, reduceCtorEq, Nat.reduceEqDiff, Nat.reduceAdd, Nat.reduceLT, Nat.reduceLeDiff, Nat.beq]
theorem cal33 {b : Bm} : cal env 33 [eBm b] = some [(.int .i64 (bmE b), false)] := by
  unfold eBm
  have P : ∀ x y : PV, part [x, y] 0 (some 2) = some (.agg [x, y]) := fun _ _ => rfl
  by_cases c0 : b.size < 0
  · have hE : bmE b = 3 := bmE_no (by rw [Bool.eq_false_iff]; intro h; have := okB_size h; omega)
    rw [hE]
    rw [cal_code env33 rfl]; simp only [fn33]; simp only [start, z_map_cons, z_map_nil, z_len_cons, z_len_nil, z_repl_zero, z_repl_succ, z_cons_app, z_nil_app, Nat.reduceAdd, Nat.reduceSub]
    simp only [c0, P, memAll, vAll, reduceCtorEq, Nat.reduceEqDiff, Nat.reduceAdd, Nat.reduceLT, Nat.reduceLeDiff, Nat.beq]
  · by_cases c1 : b.size > 4096
    · have hE : bmE b = 3 := bmE_no (by rw [Bool.eq_false_iff]; intro h; have := okB_size h; omega)
      rw [hE]
      have F1 : (b.size > 4096) = True := eq_true c1
      rw [cal_code env33 rfl]; simp only [fn33]; simp only [start, z_map_cons, z_map_nil, z_len_cons, z_len_nil, z_repl_zero, z_repl_succ, z_cons_app, z_nil_app, Nat.reduceAdd, Nat.reduceSub]
      simp only [c0, F1, P, memAll, vAll, reduceCtorEq, Nat.reduceEqDiff, Nat.reduceAdd, Nat.reduceLT, Nat.reduceLeDiff, Nat.beq]
    · have F1 : (b.size > 4096) = False := eq_false c1
      have e1 := cal61 (n := b.size) (by omega)
      by_cases c2 : (b.ws.length : Int) = wdsN b.size
      · have F2 : ((b.ws.length : Int) != wdsN b.size) = false := by simp [c2]
        have hr := rest_iff (b := b) ⟨by omega, by omega, c2⟩
        have hw := c2
        unfold wdsN at hw
        have M : b.size.tmod 64 = b.size % 64 := Int.tmod_eq_emod_of_nonneg (by omega)
        by_cases c3 : b.size % 64 = 0
        · have hE : bmE b = 0 := bmE_ok (hr.2 (.inl c3))
          rw [hE]
          have F3 : (b.size % 64 > 0) = False := eq_false (by omega)
          rw [cal_code env33 rfl]; simp only [fn33]; simp only [start, z_map_cons, z_map_nil, z_len_cons, z_len_nil, z_repl_zero, z_repl_succ, z_cons_app, z_nil_app, Nat.reduceAdd, Nat.reduceSub]
          simp only [c0, F1, F2, F3, M, e1, z64, P, memAll, vAll, reduceCtorEq, Nat.reduceEqDiff, Nat.reduceAdd, Nat.reduceLT, Nat.reduceLeDiff, Nat.beq]
        · have F3 : (b.size % 64 > 0) = True := eq_true (by omega)
          have hi : b.ws.length - 1 < b.ws.length := by omega
          have W : IntKind.i64.wrap ((b.ws.length : Int) - 1) = ((b.ws.length - 1 : Nat) : Int) := by rw [i64_fits (by omega)]; omega
          have S0 : (b.size % 64 < 0) = False := eq_false (by omega)
          have S := w_shr b.ws[b.ws.length - 1] (s := b.size % 64) (n := (b.size % 64).toNat) (by omega)
          have B := w_beq (b.ws[b.ws.length - 1] >>> (b.size % 64).toNat) 0
          have B0 : ((0 : Wd).toNat : Int) = 0 := rfl
          rw [B0] at B
          have B' : (((b.ws[b.ws.length - 1] >>> (b.size % 64).toNat).toNat : Int) != 0) = !decide (b.ws[b.ws.length - 1] >>> (b.size % 64).toNat = 0) := by unfold bne; rw [B]
          by_cases c4 : b.ws[b.ws.length - 1] >>> (b.size % 64).toNat = 0
          · have hE : bmE b = 0 := bmE_ok (hr.2 (.inr fun _ => c4))
            rw [hE]
            rw [decide_eq_true c4] at B'
            rw [cal_code env33 rfl]; simp only [fn33]; simp only [start, z_map_cons, z_map_nil, z_len_cons, z_len_nil, z_repl_zero, z_repl_succ, z_cons_app, z_nil_app, Nat.reduceAdd, Nat.reduceSub]
            simp only [c0, F1, F2, F3, M, e1, z64, P, W, S0, S, B', index_nat hi, eW, List.getElem?_map, List.getElem?_eq_getElem hi, memAll, vAll, reduceCtorEq, Nat.reduceEqDiff, Nat.reduceAdd, Nat.reduceLT, Nat.reduceLeDiff, Nat.beq]
          · have hE : bmE b = 3 := bmE_no (by
              rw [Bool.eq_false_iff]; intro h
              rcases hr.1 h with h | h
              · exact c3 h
              · exact c4 (h hi))
            rw [hE]
            rw [decide_eq_false c4] at B'
            rw [cal_code env33 rfl]; simp only [fn33]; simp only [start, z_map_cons, z_map_nil, z_len_cons, z_len_nil, z_repl_zero, z_repl_succ, z_cons_app, z_nil_app, Nat.reduceAdd, Nat.reduceSub]
            simp only [c0, F1, F2, F3, M, e1, z64, P, W, S0, S, B', index_nat hi, eW, List.getElem?_map, List.getElem?_eq_getElem hi, memAll, vAll, reduceCtorEq, Nat.reduceEqDiff, Nat.reduceAdd, Nat.reduceLT, Nat.reduceLeDiff, Nat.beq]
      · have F2 : ((b.ws.length : Int) != wdsN b.size) = true := by simp [c2]
        have hE : bmE b = 3 := bmE_no (by rw [Bool.eq_false_iff]; intro h; exact c2 (okB_iff.1 h).1.2.2)
        rw [hE]
        rw [cal_code env33 rfl]; simp only [fn33]; simp only [start, z_map_cons, z_map_nil, z_len_cons, z_len_nil, z_repl_zero, z_repl_succ, z_cons_app, z_nil_app, Nat.reduceAdd, Nat.reduceSub]
        simp only [c0, F1, F2, e1, P, memAll, vAll, reduceCtorEq, Nat.reduceEqDiff, Nat.reduceAdd, Nat.reduceLT, Nat.reduceLeDiff, Nat.beq]
theorem cal82 {k : Nat} {a b : Int} (hk : k ≤ 100000) (ha : -1000000 ≤ a ∧ a ≤ 1000000) (hb' : -1000000 ≤ b ∧ b ≤ 1000000) : cal env 82 [.int .i64 (k : Nat), .int .i64 a, .int .i64 b] = some [(eW (maskW k a b), false)] := by
  have W0 : IntKind.i64.wrap ((k : Int) * 64) = 64 * (k : Int) := by rw [i64_fits (by omega)]; omega
  have W1 : IntKind.i64.wrap (a - 64 * (k : Int)) = a - 64 * (k : Int) := i64_fits (by omega)
  have W2 : IntKind.i64.wrap (b - 64 * (k : Int)) = b - 64 * (k : Int) := i64_fits (by omega)
  have X1 : (if a - 64 * (k : Int) < 0 then 0 else a - 64 * (k : Int)) = max (a - 64 * (k : Int)) 0 := by split <;> omega
  have X2 : (if 64 < b - 64 * (k : Int) then 64 else b - 64 * (k : Int)) = min (b - 64 * (k : Int)) 64 := by split <;> omega
  unfold maskW eW
  generalize hf : max (a - 64 * (k : Int)) 0 = f at X1 ⊢
  generalize ht : min (b - 64 * (k : Int)) 64 = t at X2 ⊢
  by_cases c : f ≥ t
  · have F1 : (f ≥ t) = True := eq_true c
    rw [if_pos c]
    have B0 : ((0 : Wd).toNat : Int) = 0 := rfl
    rw [B0]
    rw [cal_code env82 rfl]; simp only [fn82]; simp only [start, z_map_cons, z_map_nil, z_len_cons, z_len_nil, z_repl_zero, z_repl_succ, z_cons_app, z_nil_app, Nat.reduceAdd, Nat.reduceSub]
    simp only [W0, W1, W2, X1, X2, F1, memAll, vAll, reduceCtorEq, Nat.reduceEqDiff, Nat.reduceAdd, Nat.reduceLT, Nat.reduceLeDiff, Nat.beq]
  · have F1 : (f ≥ t) = False := eq_false c
    rw [if_neg c]
    have W3 : IntKind.i64.wrap (t - f) = t - f := i64_fits (by omega)
    have W4 : IntKind.i64.wrap (64 - (t - f)) = 64 - (t - f) := i64_fits (by omega)
    have A : (18446744073709551615 : Int) = ((BitVec.allOnes 64).toNat : Int) := rfl
    have S0 : (64 - (t - f) < 0) = False := eq_false (by omega)
    have S1 : (f < 0) = False := eq_false (by omega)
    have S2 := w_shr (BitVec.allOnes 64) (s := 64 - (t - f)) (n := (64 - (t - f)).toNat) (by omega)
    have S3 := w_shl (BitVec.allOnes 64 >>> (64 - (t - f)).toNat) (s := f) (n := f.toNat) (by omega)
    rw [← A] at S2
    rw [cal_code env82 rfl]; simp only [fn82]; simp only [start, z_map_cons, z_map_nil, z_len_cons, z_len_nil, z_repl_zero, z_repl_succ, z_cons_app, z_nil_app, Nat.reduceAdd, Nat.reduceSub]
    simp only [W0, W1, W2, W3, W4, X1, X2, F1, S0, S1, S2, S3, memAll, vAll, reduceCtorEq, Nat.reduceEqDiff, Nat.reduceAdd, Nat.reduceLT, Nat.reduceLeDiff, Nat.beq]
end Go.Proofs.YtdahanchdjadiaaGreatDoor.V

namespace Go.Proofs.YtdahanchdjadiaaGreatDoor.V
def eB2 (b : Bm) : List PV := [.int .i64 b.size, .list 1 (b.ws.map eW)]
def tz (w : Wd) : Nat := Lib.ctz 64 w.toNat
theorem cal94 {w : Wd} : cal env 94 [.int .u64 (w.toNat : Int)] = some [(.int .i64 (tz w : Nat), false)] := by
  rw [cal_ext env94]
  have := w.isLt
  have e : tzX [.int .u64 (w.toNat : Int)] = if (0 : Int) ≤ (w.toNat : Int) ∧ (w.toNat : Int) < 18446744073709551616 then some [(.int .i64 (Lib.ctz 64 (w.toNat : Int).toNat : Nat), false)] else none := rfl
  rw [e, if_pos (by omega), Int.toNat_natCast]
  rfl
theorem loop93 {b : Bm} {a : Int} {k : Nat} {w0 : Wd} {ys0 : List (List PV)} (hk : k ≤ 100000)
   {st : St} (h : st.head [0, 1, 2, 4, 5, 10, 11, 12] st.boxes.length = some ⟨[.yld, .pv (.iptr (eB2 b) 0), .pv (.iptr [.int .i64 a] 0), .any, .pv (.int .i64 (k : Nat)), .pv (eW w0), .any, .any, .any, .any, .pv (.list 1 (b.ws.map eW)), .pv (.int .i64 b.ws.length), .pv (.int .i64 (k : Nat)), .any, .any, .any, .any, .any, .any, .any, .any, .any, .any, .any, .any, .any, .any, .any, .any, .any, .any, .any, .any, .any, .any, .any, .any, .any, .any], [], ys0, some none⟩) :
   den env fn93_l1 st = some (.normal, ⟨[.yld, .pv (.iptr (eB2 b) 0), .pv (.iptr [.int .i64 a] 0), .any, .any, .any, .any, .any, .any, .any, .pv (.list 1 (b.ws.map eW)), .pv (.int .i64 b.ws.length), .pv (.int .i64 (k : Nat)), .any, .any, .any, .any, .any, .any, .any, .any, .any, .any, .any, .any, .any, .any, .any, .any, .any, .any, .any, .any, .any, .any, .any, .any, .any, .any], [], ys0 ++ yI ((bitsOf w0).map (64 * k + ·)), some none⟩) := by
  unfold fn93_l1
  refine clean_rec (env := env) (fun p : Wd × List (List PV) => ⟨[.yld, .pv (.iptr (eB2 b) 0), .pv (.iptr [.int .i64 a] 0), .any, .pv (.int .i64 (k : Nat)), .pv (eW p.1), .any, .any, .any, .any, .pv (.list 1 (b.ws.map eW)), .pv (.int .i64 b.ws.length), .pv (.int .i64 (k : Nat)), .any, .any, .any, .any, .any, .any, .any, .any, .any, .any, .any, .any, .any, .any, .any, .any, .any, .any, .any, .any, .any, .any, .any, .any, .any, .any], [], p.2, some none⟩)
    (fun p => some (.normal, ⟨[.yld, .pv (.iptr (eB2 b) 0), .pv (.iptr [.int .i64 a] 0), .any, .any, .any, .any, .any, .any, .any, .pv (.list 1 (b.ws.map eW)), .pv (.int .i64 b.ws.length), .pv (.int .i64 (k : Nat)), .any, .any, .any, .any, .any, .any, .any, .any, .any, .any, .any, .any, .any, .any, .any, .any, .any, .any, .any, .any, .any, .any, .any, .any, .any, .any], [], p.2 ++ yI ((bitsOf p.1).map (64 * k + ·)), some none⟩)) (fun _ => True) (fun p => (bitsOf p.1).length) (w0, ys0) h trivial (fun _ => rfl) (fun _ => rfl) ?_
  rintro ⟨w, ys⟩ rb _ ih
  simp only [eW] at ih ⊢
  have B := w_beq w 0
  have B0 : ((0 : Wd).toNat : Int) = 0 := rfl
  rw [B0] at B
  have B' : ((w.toNat : Int) != 0) = !decide (w = 0) := by unfold bne; rw [B]
  by_cases c : w = 0
  · rw [decide_eq_true c] at B'
    subst c
    simp only [fn93_b0, B', bits_zero, List.map_nil, memAll, vAll, reduceCtorEq, Nat.reduceEqDiff, Nat.reduceAdd, Nat.reduceLT, Nat.reduceLeDiff, Nat.beq]
    simp only [yI, List.map_nil, List.append_nil]
    rfl
  · rw [decide_eq_false c] at B'
    have e1 := cal94 (w := w)
    have ht := (ctz_low c).1
    have W0 : IntKind.i64.wrap ((k : Int) * 64) = 64 * (k : Int) := by rw [i64_fits (by omega)]; omega
    have W1 : IntKind.i64.wrap (64 * (k : Int) + ((tz w : Nat) : Int)) = ((64 * k + tz w : Nat) : Int) := by unfold tz; rw [i64_fits (by omega)]; omega
    have W2 := w_sub w 1
    have W3 := w_and w (w - 1)
    have B1 : ((1 : Wd).toNat : Int) = 1 := rfl
    rw [B1] at W2
    have hc := bits_cons c
    simp only [fn93_b0, B', e1, W0, W1, W2, W3, memAll, vAll, reduceCtorEq, Nat.reduceEqDiff, Nat.reduceAdd, Nat.reduceLT, Nat.reduceLeDiff, Nat.beq]
    rw [ih (w &&& (w - 1), ys ++ [[.int .i64 ((64 * k + tz w : Nat) : Int)]]) (by simp only; rw [hc, List.length_cons]; omega) trivial _ rfl]
    rw [hc]
    simp only [yI, List.map_cons, List.append_assoc, List.cons_append, List.nil_append]
    rfl
theorem loop93b {b : Bm} {a : Int} (hb : b.ws.length ≤ 64) (hs : 0 ≤ b.size ∧ b.size ≤ 4096) (ha : -1000000 ≤ a ∧ a ≤ 1000000)
   {st : St} (h : st.head [0, 1, 2, 10, 11, 12] st.boxes.length = some ⟨[.yld, .pv (.iptr (eB2 b) 0), .pv (.iptr [.int .i64 a] 0), .any, .any, .any, .any, .any, .any, .any, .pv (.list 1 (b.ws.map eW)), .pv (.int .i64 b.ws.length), .pv (.int .i64 (0 : Nat)), .any, .any, .any, .any, .any, .any, .any, .any, .any, .any, .any, .any, .any, .any, .any, .any, .any, .any, .any, .any, .any, .any, .any, .any, .any, .any], [], [], some none⟩) :
   den env fn93_l3 st = some (.normal, ⟨[.any, .any, .any, .any, .any, .any, .any, .any, .any, .any, .any, .any, .any, .any, .any, .any, .any, .any, .any, .any, .any, .any, .any, .any, .any, .any, .any, .any, .any, .any, .any, .any, .any, .any, .any, .any, .any, .any, .any], [], yI (elemsW b.ws a b.size), some none⟩) := by
  unfold fn93_l3
  refine clean_up (env := env) b.ws.length (fun k => ⟨[.yld, .pv (.iptr (eB2 b) 0), .pv (.iptr [.int .i64 a] 0), .any, .any, .any, .any, .any, .any, .any, .pv (.list 1 (b.ws.map eW)), .pv (.int .i64 b.ws.length), .pv (.int .i64 k), .any, .any, .any, .any, .any, .any, .any, .any, .any, .any, .any, .any, .any, .any, .any, .any, .any, .any, .any, .any, .any, .any, .any, .any, .any, .any], [], yI ((List.range (64 * k)).filter fun (i : Nat) => bit b.ws i && decide (a ≤ (i : Int) ∧ (i : Int) < b.size)), some none⟩)
    (fun _ => some (.normal, ⟨[.any, .any, .any, .any, .any, .any, .any, .any, .any, .any, .any, .any, .any, .any, .any, .any, .any, .any, .any, .any, .any, .any, .any, .any, .any, .any, .any, .any, .any, .any, .any, .any, .any, .any, .any, .any, .any, .any, .any], [], yI (elemsW b.ws a b.size), some none⟩)) h (fun _ => rfl) (fun _ => rfl) ?_ ?_
  · intro k rb hi ih
    have hi1 := i64_next hi (by unfold lim; omega)
    have F1 : ((k : Int) < (b.ws.length : Int)) = True := eq_true (by omega)
    have e1 := cal82 (k := k) (a := a) (b := b.size) (by omega) ha (by omega)
    have W3 := w_and b.ws[k] (maskW k a b.size)
    rw [elems_take hi] at ih
    unfold eW at e1
    simp only [fn93_b2, F1, e1, W3, eB2, eW, index_nat hi, List.getElem?_map, List.getElem?_eq_getElem hi, memAll, vAll, reduceCtorEq, Nat.reduceEqDiff, Nat.reduceAdd, Nat.reduceLT, Nat.reduceLeDiff, Nat.beq]
    rw [loop93 (b := b) (a := a) (k := k) (w0 := b.ws[k] &&& maskW k a b.size) (ys0 := yI ((List.range (64 * k)).filter fun (i : Nat) => bit b.ws i && decide (a ≤ (i : Int) ∧ (i : Int) < b.size))) (by omega)]
    rotate_left
    · rfl
    simp only [memAll, vAll, reduceCtorEq, Nat.reduceEqDiff, Nat.reduceAdd, Nat.reduceLT, Nat.reduceLeDiff, Nat.beq]
    rw [ih _ (by simp only [hi1]; simp only [yI, List.map_append]; rfl)]
  · intro rb
    simp only [fn93_b2, Int.lt_irrefl, memAll, vAll, reduceCtorEq, Nat.reduceEqDiff, Nat.reduceAdd, Nat.reduceLT, Nat.reduceLeDiff, Nat.beq]
    rfl
theorem iter93 {b : Bm} {a : Int} (ha : -1000000 ≤ a ∧ a ≤ 1000000) : iter env 93 [.iptr (eB2 b) 0, .iptr [.int .i64 a] 0] none = some (yI (if okB b then elemsW b.ws a b.size else [])) := by
  have P : part (eB2 b) 0 (some 2) = some (eBm b) := rfl
  have e1 := cal33 (b := b)
  rw [iter_code env93 rfl rfl]
  simp only [fn93, ystart, z_map_cons, z_map_nil, z_len_cons, z_len_nil, z_repl_zero, z_repl_succ, z_cons_app, z_nil_app, Nat.reduceAdd, Nat.reduceSub]
  cases c : okB b with
  | false =>
    rw [bmE_no c] at e1
    have Z : ((3 : Int) != 0) = true := rfl
    simp only [P, e1, Z, vRng, memAll, vAll, reduceCtorEq, Nat.reduceEqDiff, Nat.reduceAdd, Nat.reduceLT, Nat.reduceLeDiff, Nat.beq]
    rfl
  | true =>
    rw [bmE_ok c] at e1
    have Z : ((0 : Int) != 0) = false := rfl
    obtain ⟨h1, h2, h3, _⟩ := okB_size c
    have P2 : part (eB2 b) 1 none = some (.list 1 (b.ws.map eW)) := rfl
    simp only [P, P2, e1, Z, List.length_map, vRng, memAll, vAll, reduceCtorEq, Nat.reduceEqDiff, Nat.reduceAdd, Nat.reduceLT, Nat.reduceLeDiff, Nat.beq]
    rw [loop93b (a := a) h3 ⟨h1, h2⟩ ha]
    rotate_left
    · rfl
    · rfl
theorem cal79 {b : Bm} {a : Int} : cal env 79 [eBm b, .int .i64 a] = some [(.func 93 [.iptr (eB2 b) 0, .iptr [.int .i64 a] 0], false)] := by
  unfold eBm eB2
  rw [cal_code env79 rfl]; simp only [fn79]; simp only [start, z_map_cons, z_map_nil, z_len_cons, z_len_nil, z_repl_zero, z_repl_succ, z_cons_app, z_nil_app, Nat.reduceAdd, Nat.reduceSub]
  simp only [ memAll, vAll, reduceCtorEq, Nat.reduceEqDiff, Nat.reduceAdd, Nat.reduceLT, Nat.reduceLeDiff, Nat.beq]
end Go.Proofs.YtdahanchdjadiaaGreatDoor.V

namespace Go.Proofs.YtdahanchdjadiaaGreatDoor

def look : List (Nat × AV) → Nat → AV
  | [], _ => .any
  | (j, v) :: l, i => bcase (Nat.beq i j) v (look l i)
def sl (n : Nat) (l : List (Nat × AV)) : List AV := (List.range n).map (look l)
def mapA (f : AV → AV) : List (Nat × AV) → List (Nat × AV)
  | [] => []
  | (j, v) :: l => (j, f v) :: mapA f l
def keepA (l : List (Nat × AV)) : List Nat → List (Nat × AV)
  | [] => []
  | k :: ks => (k, look l k) :: keepA l ks
def argsA : Nat → List PV → List (Nat × AV)
  | _, [] => []
  | k, v :: l => (k, .pv v) :: argsA (k + 1) l
def lowA (nb : Nat) : List (Nat × AV) → Bool
  | [] => true
  | (_, v) :: l => AV.low nb v && lowA nb l
def insA (n : Nat) : List Nat → Bool
  | [] => true
  | k :: ks => decide (k < n) && insA n ks
theorem look_hit (i : Nat) (v : AV) (l : List (Nat × AV)) : look ((i, v) :: l) i = v := by
  show bcase (Nat.beq i i) v _ = v
  rw [Nat.beq_refl]; rfl
theorem look_nil (i : Nat) : look [] i = .any := (rfl)
theorem sl_get {n i : Nat} {l : List (Nat × AV)} (h' : i < n) : (sl n l).getD i .any = look l i := by
  simp [sl, List.getD_eq_getElem?_getD, h']
theorem sl_some {n i : Nat} {l : List (Nat × AV)} (h' : i < n) : (sl n l)[i]? = some (look l i) := by
  simp [sl, h']
theorem look_cons (l : List (Nat × AV)) (i j : Nat) (v : AV) : look ((j, v) :: l) i = if i = j then v else look l i := by
  show bcase (Nat.beq i j) v _ = _
  by_cases h : i = j
  · subst h; rw [Nat.beq_refl, if_pos rfl]; rfl
  · rw [if_neg h]
    have : Nat.beq i j = false := by
      cases e : Nat.beq i j with
      | false => rfl
      | true => exact absurd (Nat.eq_of_beq_eq_true e) h
    rw [this]; rfl
theorem sl_set (n i : Nat) (v : AV) (l : List (Nat × AV)) : (sl n l).set i v = sl n ((i, v) :: l) := by
  apply List.ext_getElem (by simp [sl])
  intro k h1 h2
  have hk : k < n := by simpa [sl] using h2
  simp only [sl, List.getElem_set, List.getElem_map, List.getElem_range, look_cons]
  by_cases h : i = k
  · subst h; simp
  · rw [if_neg h, if_neg (fun e => h e.symm)]
theorem look_skip {i j : Nat} {v : AV} {l : List (Nat × AV)} (h : (i == j) = false) : look ((j, v) :: l) i = look l i := by
  rw [look_cons, if_neg (by simpa using h)]
theorem look_mapA (f : AV → AV) (hf : f .any = .any) : ∀ (l : List (Nat × AV)) (i : Nat), look (mapA f l) i = f (look l i)
  | [], i => hf.symm
  | (j, v) :: l, i => by
    show look ((j, f v) :: mapA f l) i = _
    rw [look_cons, look_cons, look_mapA f hf l i]
    split <;> rfl
theorem sl_map {f : AV → AV} (hf : f .any = .any) (n : Nat) (l : List (Nat × AV)) : (sl n l).map f = sl n (mapA f l) := by
  unfold sl
  rw [List.map_map]
  apply List.map_congr_left
  intro i _
  exact (look_mapA f hf l i).symm
theorem sl_kill (n d : Nat) (l : List (Nat × AV)) : (sl n l).map (AV.kill d) = sl n (mapA (AV.kill d) l) := sl_map rfl n l
theorem sl_killc (n d : Nat) (l : List (Nat × AV)) : (sl n l).map (AV.killCell d) = sl n (mapA (AV.killCell d) l) := sl_map rfl n l
theorem sl_froze (n : Nat) (l : List (Nat × AV)) : (sl n l).map AV.froze = sl n (mapA AV.froze l) := sl_map rfl n l
theorem mapA_nil (f : AV → AV) : mapA f [] = [] := (rfl)
theorem mapA_cons (f : AV → AV) (j : Nat) (v : AV) (l : List (Nat × AV)) : mapA f ((j, v) :: l) = (j, f v) :: mapA f l := (rfl)
theorem keepA_nil (l : List (Nat × AV)) : keepA l [] = [] := (rfl)
theorem keepA_cons (l : List (Nat × AV)) (k : Nat) (ks : List Nat) : keepA l (k :: ks) = (k, look l k) :: keepA l ks := (rfl)
theorem lowA_nil (nb : Nat) : lowA nb [] = true := (rfl)
theorem lowA_cons (nb k : Nat) (v : AV) (l : List (Nat × AV)) : lowA nb ((k, v) :: l) = (AV.low nb v && lowA nb l) := (rfl)
theorem insA_nil (n : Nat) : insA n [] = true := (rfl)
theorem insA_cons (n k : Nat) (l : List Nat) : insA n (k :: l) = (decide (k < n) && insA n l) := (rfl)
theorem argsA_nil (k : Nat) : argsA k [] = [] := (rfl)
theorem argsA_cons (k : Nat) (v : PV) (l : List PV) : argsA k (v :: l) = (k, .pv v) :: argsA (k + 1) l := (rfl)
theorem look_keepA (l : List (Nat × AV)) : ∀ (ks : List Nat) (i : Nat), look (keepA l ks) i = if ks.contains i then look l i else .any
  | [], i => rfl
  | k :: ks, i => by
    rw [keepA_cons, look_cons, look_keepA l ks i, List.contains_cons]
    by_cases h : i = k
    · subst h; simp
    · have : (i == k) = false := by simpa using h
      rw [if_neg h, this, Bool.false_or]
theorem lowA_iff (nb n : Nat) (l : List (Nat × AV)) : ∀ ks : List Nat, insA n ks = true → (lowA nb (keepA l ks) = true ↔ ∀ k ∈ ks, (look l k).low nb = true)
  | [], _ => by simp [keepA, lowA]
  | k :: ks, h => by
    rw [insA_cons, Bool.and_eq_true] at h
    rw [keepA_cons, lowA_cons, Bool.and_eq_true, lowA_iff nb n l ks h.2]
    simp
theorem head_sl {n nb : Nat} {l : List (Nat × AV)} {keep : List Nat} {bx : List Box} {ys : List (List PV)} {sp : Option (Option Nat)} (h : insA n keep = true) (hb : nb ≤ bx.length) (hl : lowA nb (keepA l keep) = true) :
    St.head ⟨sl n l, bx, ys, sp⟩ keep nb = some ⟨sl n (keepA l keep), bx.take nb, ys, sp⟩ := by
  have e : ((sl n l).zipIdx.map fun (v, i) => if keep.contains i then v else AV.any) = sl n (keepA l keep) := by
    apply List.ext_getElem (by simp [sl])
    intro i h1 h2
    simp only [sl, List.getElem_map, List.getElem_zipIdx, List.getElem_range, look_keepA, Nat.zero_add]
  unfold St.head
  simp only
  rw [e, if_pos]
  rw [Bool.and_eq_true, decide_eq_true_eq]
  refine ⟨?_, hb⟩
  rw [List.all_eq_true]
  intro v hv
  unfold sl at hv
  obtain ⟨i, hi, rfl⟩ := List.mem_map.1 hv
  rw [look_keepA]
  split
  · rename_i hc
    exact (lowA_iff nb n l keep h).1 hl i (by simpa using hc)
  · rfl
theorem clean_sl {n nb : Nat} {e : Ex} {l : List (Nat × AV)} {keep : List Nat} {bx : List Box} {ys : List (List PV)} {sp : Option (Option Nat)} (h : insA n keep = true) (hb : nb ≤ bx.length) (hl : lowA nb (keepA l keep) = true) :
    cleanEnd keep nb (e, ⟨sl n l, bx, ys, sp⟩) = some (e, ⟨sl n (keepA l keep), bx.take nb, ys, sp⟩) := by
  unfold cleanEnd
  simp only
  rw [head_sl h hb hl]
  rfl
theorem look_argsA : ∀ (l : List PV) (k i : Nat), look (argsA k l) i = if k ≤ i then ((l[i - k]?).map AV.pv).getD .any else .any := by
  intro l
  induction l with
  | nil => intro k i; simp [argsA, look]
  | cons v l ih =>
    intro k i
    rw [argsA_cons, look_cons, ih]
    by_cases h1 : i = k
    · subst h1; simp
    · rw [if_neg h1]
      by_cases h2 : k ≤ i
      · rw [if_pos (by omega), if_pos h2, show i - k = (i - (k + 1)) + 1 by omega, List.getElem?_cons_succ]
      · rw [if_neg (by omega), if_neg h2]
theorem startL_sl {n : Nat} {x : LArg} {args : List PV} (hn : args.length + 1 ≤ n) : startL n x args = ⟨sl n ((0, x.av) :: argsA 1 args), x.boxes, [], none⟩ := by
  unfold startL
  congr 1
  apply List.ext_getElem (by simp [sl]; omega)
  intro i h1 h2
  simp only [sl, List.getElem_map, List.getElem_range, look_cons, look_argsA]
  cases i with
  | zero => simp
  | succ i =>
    rw [List.getElem_cons_succ, if_neg (by omega), if_pos (by omega), show i + 1 - 1 = i by omega]
    by_cases hi : i < args.length
    · rw [List.getElem_append_left (by simpa using hi)]
      simp [hi]
    · rw [List.getElem_append_right (by simp; omega)]
      simp [hi]
theorem start_sl {n : Nat} {args : List PV} (hn : args.length ≤ n) : start n args = ⟨sl n (argsA 0 args), [], [], none⟩ := by
  have key := look_argsA
  unfold start
  congr 1
  apply List.ext_getElem (by simp [sl]; omega)
  intro i h1 h2
  simp only [sl, List.getElem_map, List.getElem_range, key, Nat.zero_le, if_true, Nat.sub_zero]
  by_cases hi : i < args.length
  · rw [List.getElem_append_left (by simpa using hi)]
    simp [hi]
  · rw [List.getElem_append_right (by simp; omega)]
    simp [hi]
theorem low_pv (nb : Nat) (v : PV) : AV.low nb (.pv v) = true := (rfl)
theorem low_any (nb : Nat) : AV.low nb .any = true := (rfl)
theorem low_yld (nb : Nat) : AV.low nb .yld = true := (rfl)
theorem low_row (nb sz : Nat) (es : List PV) : AV.low nb (.row sz es) = true := (rfl)
theorem low_pbox (nb o j : Nat) : AV.low nb (.pbox o j) = decide (o < nb) := (rfl)
theorem low_refs (nb t off len : Nat) : AV.low nb (.ref (.slot t) off len) = true := (rfl)
theorem low_refc (nb o j off len : Nat) : AV.low nb (.ref (.cell o j) off len) = decide (o < nb) := (rfl)
theorem low_pels (nb t i j : Nat) : AV.low nb (.pel (.slot t) i j) = true := (rfl)
theorem low_pelc (nb o q i j : Nat) : AV.low nb (.pel (.cell o q) i j) = decide (o < nb) := (rfl)
theorem low_fn (nb f : Nat) (caps : List AV) : AV.low nb (.fn f caps) = caps.all fun c => match c with
    | .pv _ => true
    | .pbox o _ => o < nb
    | _ => false := (rfl)
def slAll := And.intro @look_hit (And.intro @look_skip (And.intro @look_nil (And.intro @sl_get (And.intro @sl_some (And.intro @sl_set (And.intro @sl_kill (And.intro @sl_killc (And.intro @sl_froze (And.intro @mapA_nil (And.intro @mapA_cons (And.intro @keepA_nil (And.intro @keepA_cons (And.intro @lowA_nil (And.intro @lowA_cons (And.intro @insA_nil (And.intro @insA_cons (And.intro @argsA_nil (And.intro @argsA_cons (And.intro @head_sl (And.intro @clean_sl (And.intro @start_sl (And.intro @startL_sl (And.intro @low_pv (And.intro @low_any (And.intro @low_yld (And.intro @low_row (And.intro @low_pbox (And.intro @low_refs (And.intro @low_refc (And.intro @low_pels (And.intro @low_pelc (@low_fn))))))))))))))))))))))))))))))))
end Go.Proofs.YtdahanchdjadiaaGreatDoor

namespace Go.Proofs.YtdahanchdjadiaaGreatDoor.V
theorem eBm_zero : eBm ⟨0, []⟩ = .agg [.int .i64 0, .list 1 []] := rfl
def orW (x y : Wd) : Wd := x ||| y
end Go.Proofs.YtdahanchdjadiaaGreatDoor.V

namespace Go.Proofs.YtdahanchdjadiaaGreatDoor.V
theorem wds_nat {n : Int} (h : 0 ≤ n) : ((wdsN n).toNat : Int) = wdsN n := by unfold wdsN; omega
def newE (n : Int) : Int := if n < 0 ∨ n > 4096 then 2 else 0
def newO (n : Int) : Bm := if n < 0 ∨ n > 4096 then ⟨0, []⟩ else ⟨n, List.replicate (wdsN n).toNat 0⟩
theorem cal51 {n : Int} : cal env 51 [.int .i64 n] = some [(eBm (newO n), false), (.int .i64 (newE n), false)] := by
  have hz := eBm_zero
  unfold newE newO
  by_cases c0 : n < 0
  · rw [if_pos (.inl c0), if_pos (.inl c0), hz]
    have F0 : (n < 0) = True := eq_true c0
    rw [cal_code env51 rfl]; simp only [fn51, slAll, Nat.reduceBEq, Nat.reduceLeDiff, Nat.reduceAdd, List.length_cons, List.length_nil]
    simp only [F0, slAll, slsAll, Nat.reduceMul, Nat.reduceBEq, Nat.reduceLT, Nat.reduceLeDiff, memAll, vAll, reduceCtorEq, Nat.reduceEqDiff, Nat.reduceAdd, Nat.reduceLT, Nat.reduceLeDiff, Nat.beq]
  · have F0 : (n < 0) = False := eq_false c0
    by_cases c1 : n > 4096
    · rw [if_pos (.inr c1), if_pos (.inr c1), hz]
      have F1 : (n > 4096) = True := eq_true c1
      rw [cal_code env51 rfl]; simp only [fn51, slAll, Nat.reduceBEq, Nat.reduceLeDiff, Nat.reduceAdd, List.length_cons, List.length_nil]
      simp only [F0, F1, slAll, slsAll, Nat.reduceMul, Nat.reduceBEq, Nat.reduceLT, Nat.reduceLeDiff, memAll, vAll, reduceCtorEq, Nat.reduceEqDiff, Nat.reduceAdd, Nat.reduceLT, Nat.reduceLeDiff, Nat.beq]
    · have F1 : (n > 4096) = False := eq_false c1
      rw [if_neg (by omega), if_neg (by omega)]
      have e1 := cal61 (n := n) (by omega)
      have hw : 0 ≤ wdsN n ∧ wdsN n ≤ 64 := by unfold wdsN; omega
      have F3 : (0 ≤ wdsN n) = True := eq_true hw.1
      have F4 : (wdsN n ≤ (lim : Int)) = True := eq_true (by unfold lim; omega)
      have F5 : (wdsN n ≤ wdsN n) = True := eq_true (Int.le_refl _)
      have z0 : eW 0 = .int .u64 0 := rfl
      unfold eBm
      rw [List.map_replicate, z0]
      rw [cal_code env51 rfl]; simp only [fn51, slAll, Nat.reduceBEq, Nat.reduceLeDiff, Nat.reduceAdd, List.length_cons, List.length_nil]
      simp only [F0, F1, e1, F3, F4, F5, slAll, slsAll, Nat.reduceMul, Nat.reduceBEq, Nat.reduceLT, Nat.reduceLeDiff, memAll, vAll, reduceCtorEq, Nat.reduceEqDiff, Nat.reduceAdd, Nat.reduceLT, Nat.reduceLeDiff, Nat.beq]
def bmFit (size : Int) (e : Exn) : Bool := decide (0 ≤ e.start) && decide (0 ≤ e.count) && decide (e.start ≤ size) && decide (e.count ≤ size - e.start)
theorem bmFit_iff {size : Int} {e : Exn} : bmFit size e = true ↔ 0 ≤ e.start ∧ 0 ≤ e.count ∧ e.start ≤ size ∧ e.count ≤ size - e.start := by
  unfold bmFit; simp [and_assoc]
theorem cal80 {size : Int} {e : Exn} (hs : 0 ≤ size ∧ size ≤ 4096) : cal env 80 [eExt e, .int .i64 size] = some [(.bool (bmFit size e), false)] := by
  unfold bmFit eExt
  by_cases c0 : 0 ≤ e.start
  · have F0 : (e.start ≥ 0) = True := eq_true c0
    rw [decide_eq_true c0]
    by_cases c1 : 0 ≤ e.count
    · have F1 : (e.count ≥ 0) = True := eq_true c1
      rw [decide_eq_true c1]
      by_cases c2 : e.start ≤ size
      · have F2 : (e.start ≤ size) = True := eq_true c2
        have W : IntKind.i64.wrap (size - e.start) = size - e.start := i64_fits (by omega)
        rw [decide_eq_true c2]
        rw [cal_code env80 rfl]; simp only [fn80, slAll, Nat.reduceBEq, Nat.reduceLeDiff, Nat.reduceAdd, List.length_cons, List.length_nil]
        simp only [F0, F1, F2, W, slAll, slsAll, Nat.reduceMul, Nat.reduceBEq, Nat.reduceLT, Nat.reduceLeDiff, memAll, vAll, reduceCtorEq, Nat.reduceEqDiff, Nat.reduceAdd, Nat.reduceLT, Nat.reduceLeDiff, Nat.beq]
      · have F2 : (e.start ≤ size) = False := eq_false c2
        rw [decide_eq_false c2]
        rw [cal_code env80 rfl]; simp only [fn80, slAll, Nat.reduceBEq, Nat.reduceLeDiff, Nat.reduceAdd, List.length_cons, List.length_nil]
        simp only [F0, F1, F2, slAll, slsAll, Nat.reduceMul, Nat.reduceBEq, Nat.reduceLT, Nat.reduceLeDiff, memAll, vAll, reduceCtorEq, Nat.reduceEqDiff, Nat.reduceAdd, Nat.reduceLT, Nat.reduceLeDiff, Nat.beq]
    · have F1 : (e.count ≥ 0) = False := eq_false c1
      rw [decide_eq_false c1]
      rw [cal_code env80 rfl]; simp only [fn80, slAll, Nat.reduceBEq, Nat.reduceLeDiff, Nat.reduceAdd, List.length_cons, List.length_nil]
      simp only [F0, F1, slAll, slsAll, Nat.reduceMul, Nat.reduceBEq, Nat.reduceLT, Nat.reduceLeDiff, memAll, vAll, reduceCtorEq, Nat.reduceEqDiff, Nat.reduceAdd, Nat.reduceLT, Nat.reduceLeDiff, Nat.beq]
  · have F0 : (e.start ≥ 0) = False := eq_false c0
    rw [decide_eq_false c0]
    rw [cal_code env80 rfl]; simp only [fn80, slAll, Nat.reduceBEq, Nat.reduceLeDiff, Nat.reduceAdd, List.length_cons, List.length_nil]
    simp only [F0, slAll, slsAll, Nat.reduceMul, Nat.reduceBEq, Nat.reduceLT, Nat.reduceLeDiff, memAll, vAll, reduceCtorEq, Nat.reduceEqDiff, Nat.reduceAdd, Nat.reduceLT, Nat.reduceLeDiff, Nat.beq]
def chW (f : Wd → Wd → Wd) (ws : List Wd) (e : Exn) : List Wd := ws.mapIdx fun k w => f w (maskW k e.start (e.start + e.count))
theorem chW_len (f : Wd → Wd → Wd) (ws : List Wd) (e : Exn) : (chW f ws e).length = ws.length := by simp [chW]
def chE (b : Bm) (e : Exn) : Int := if okB b = false then 3 else if bmFit b.size e = false then 2 else 0
def chO (f : Wd → Wd → Wd) (b : Bm) (e : Exn) : Bm := if chE b e = 0 then ⟨b.size, chW f b.ws e⟩ else ⟨0, []⟩
def mixR (a b : List Wd) (i : Nat) : List PV := (a.take i ++ b.drop i).map eW
theorem mixR_len {a b : List Wd} (h : a.length = b.length) (i : Nat) : (mixR a b i).length = b.length := by simp [mixR]; omega
theorem mixR_get {a b : List Wd} (h : a.length = b.length) {i : Nat} (hi : i < b.length) : (mixR a b i)[i]? = some (eW b[i]) := by
  unfold mixR
  rw [List.getElem?_map, List.getElem?_append_right (by simp; omega), List.length_take, Nat.min_eq_left (by omega), Nat.sub_self, List.getElem?_drop, Nat.add_zero, List.getElem?_eq_getElem hi]
  rfl
theorem mixR_set {a b : List Wd} (h : a.length = b.length) {i : Nat} (hi : i < a.length) : (mixR a b i).set i (eW a[i]) = mixR a b (i + 1) := by
  unfold mixR
  rw [← List.map_set, List.set_append_right _ _ (by simp; omega), List.length_take, Nat.min_eq_left (by omega), Nat.sub_self, List.take_succ_eq_append_getElem hi, List.append_assoc]
  congr 2
  rw [List.drop_eq_getElem_cons (show i < b.length by omega)]
  rfl
theorem mixR_zero (a b : List Wd) : mixR a b 0 = b.map eW := by simp [mixR]
theorem mixR_all {a b : List Wd} (h : a.length = b.length) : mixR a b b.length = a.map eW := by
  unfold mixR
  rw [List.take_of_length_le (by omega), List.drop_of_length_le (Nat.le_refl _), List.append_nil]
theorem chW_get {f : Wd → Wd → Wd} {ws : List Wd} {e : Exn} {i : Nat} (h : i < (chW f ws e).length) (h2 : i < ws.length) : (chW f ws e)[i] = f ws[i] (maskW i e.start (e.start + e.count)) := by
  simp [chW]
theorem cal81 {es : List PV} (hl : es.length ≤ lim) : cal env 81 [.list 1 es] = some [(.list 1 es, true)] := (cal_ext env81).trans (if_pos ⟨rfl, hl⟩)
set_option maxRecDepth 20000 in
theorem loop59 {b : Bm} {e : Exn} {f : Wd → Wd → Wd} {gf : Nat} (hf : ∀ x y, cal env gf [eW x, eW y] = some [(eW (f x y), false)]) (hm : b.ws.length ≤ 64) (he : 0 ≤ e.start ∧ e.start ≤ 4096 ∧ 0 ≤ e.count ∧ e.count ≤ 4096) {st : St} (h : st.head [3, 4, 5, 6, 9, 25, 27, 28] st.boxes.length = some ⟨sl 55 [(3, .pbox 0 0), (4, .pbox 1 0), (5, .pbox 2 0), (6, .pbox 3 0), (9, .row 1 (mixR (chW f b.ws e) b.ws ((0 : Nat)))), (25, .any), (27, .pv (.int .i64 b.ws.length)), (28, .pv (.int .i64 (0 : Nat)))], [⟨false, [.pv (.func gf [])]⟩, ⟨false, [.pv (.int .i64 b.size), .pv (.list 1 (b.ws.map eW))]⟩, ⟨false, [.pv (.int .i64 e.start), .pv (.int .i64 e.count)]⟩, ⟨false, [.pv (.int .i64 0), .row 1 []]⟩], [], none⟩) :
   den env fn59_l1 st = some (.normal, ⟨sl 55 [(4, .pbox 1 0), (6, .pbox 3 0), (7, .any), (9, .row 1 ((chW f b.ws e).map eW))], [⟨false, [.pv (.func gf [])]⟩, ⟨false, [.pv (.int .i64 b.size), .pv (.list 1 (b.ws.map eW))]⟩, ⟨false, [.pv (.int .i64 e.start), .pv (.int .i64 e.count)]⟩, ⟨false, [.pv (.int .i64 0), .row 1 []]⟩], [], none⟩) := by
  unfold fn59_l1
  refine clean_up (env := env) (nb := 4) (b.ws.length) (fun i => ⟨sl 55 [(3, .pbox 0 0), (4, .pbox 1 0), (5, .pbox 2 0), (6, .pbox 3 0), (9, .row 1 (mixR (chW f b.ws e) b.ws (i))), (25, .any), (27, .pv (.int .i64 b.ws.length)), (28, .pv (.int .i64 i))], [⟨false, [.pv (.func gf [])]⟩, ⟨false, [.pv (.int .i64 b.size), .pv (.list 1 (b.ws.map eW))]⟩, ⟨false, [.pv (.int .i64 e.start), .pv (.int .i64 e.count)]⟩, ⟨false, [.pv (.int .i64 0), .row 1 []]⟩], [], none⟩) (fun i => some (.normal, ⟨sl 55 [(4, .pbox 1 0), (6, .pbox 3 0), (7, .any), (9, .row 1 ((chW f b.ws e).map eW))], [⟨false, [.pv (.func gf [])]⟩, ⟨false, [.pv (.int .i64 b.size), .pv (.list 1 (b.ws.map eW))]⟩, ⟨false, [.pv (.int .i64 e.start), .pv (.int .i64 e.count)]⟩, ⟨false, [.pv (.int .i64 0), .row 1 []]⟩], [], none⟩)) h (fun _ => rfl) (fun _ => by simp only [slAll, slsAll, Nat.reduceMul, Nat.reduceBEq, Nat.reduceLT, Nat.reduceLeDiff, Nat.reduceAdd, decide_true, Bool.and_self, Bool.true_and]) ?_ ?_
  · intro i rb hi ih

    have hi1 := i64_next hi (by unfold lim; omega)
    have F1 : ((i : Int) < (b.ws.length : Int)) = True := eq_true (by omega)
    have hcl := chW_len f b.ws e
    have f1 := mixR_len hcl i
    have f2 := mixR_get hcl hi
    have f3 := mixR_set hcl (i := i) (by omega)
    have e1 := hf b.ws[i] (maskW i e.start (e.start + e.count))
    rw [chW_get (by omega) hi] at f3
    have W : IntKind.i64.wrap (e.start + e.count) = e.start + e.count := i64_fits (by omega)
    have e2 := cal82 (k := i) (a := e.start) (b := e.start + e.count) (by omega) (by omega) (by omega)
    unfold eW at e1 e2 f2 f3 ih ⊢
    simp only [fn59_b0, F1, W, e1, e2, f1, f2, f3, index_nat hi, Option.map_some, List.length_map, slAll, slsAll, Nat.reduceMul, Nat.reduceBEq, Nat.reduceLT, Nat.reduceLeDiff, memAll, vAll, reduceCtorEq, Nat.reduceEqDiff, Nat.reduceAdd, Nat.reduceLT, Nat.reduceLeDiff, Nat.beq]
    rw [ih _ (by simp only [hi1, slAll, slsAll, Nat.reduceMul, Nat.reduceBEq, Nat.reduceLT, Nat.reduceLeDiff, memAll, vAll, reduceCtorEq, Nat.reduceEqDiff, Nat.reduceAdd, Nat.reduceLT, Nat.reduceLeDiff, Nat.beq] <;> rfl)]
  · intro rb

    rw [mixR_all (chW_len f b.ws e)]
    simp only [fn59_b0, Int.lt_irrefl, slAll, slsAll, Nat.reduceMul, Nat.reduceBEq, Nat.reduceLT, Nat.reduceLeDiff, memAll, vAll, reduceCtorEq, Nat.reduceEqDiff, Nat.reduceAdd, Nat.reduceLT, Nat.reduceLeDiff, Nat.beq]

theorem cal59 {b : Bm} {e : Exn} {f : Wd → Wd → Wd} {gf : Nat} (hf : ∀ x y, cal env gf [eW x, eW y] = some [(eW (f x y), false)]) :
    cal env 59 [.agg [.func gf []], eBm b, eExt e] = some [(eBm (chO f b e), false), (.int .i64 (chE b e), false)] := by
  have P : ∀ b : Bm, part [PV.int .i64 b.size, .list 1 (b.ws.map eW)] 0 (some 2) = some (eBm b) := fun _ => rfl
  have e1 := cal33 (b := b)
  have Z0 : ((0 : Int) != 0) = false := rfl
  have Z3 : ((3 : Int) != 0) = true := rfl
  have hz := eBm_zero
  have eA : eBm b = .agg [.int .i64 b.size, .list 1 (b.ws.map eW)] := rfl
  have eX : eExt e = .agg [.int .i64 e.start, .int .i64 e.count] := rfl
  unfold chO
  cases c1 : okB b with
  | false =>
    have hE : chE b e = 3 := by unfold chE; rw [if_pos c1]
    rw [hE, if_neg (by decide), hz]
    rw [bmE_no c1] at e1
    rw [eA] at e1 ⊢; rw [eX]
    rw [cal_code env59 rfl]; simp only [fn59, slAll, Nat.reduceBEq, Nat.reduceLeDiff, Nat.reduceAdd, List.length_cons, List.length_nil]
    simp only [e1, Z3, part_more, part_succ, part_one, slAll, slsAll, Nat.reduceMul, Nat.reduceBEq, Nat.reduceLT, Nat.reduceLeDiff, memAll, vAll, reduceCtorEq, Nat.reduceEqDiff, Nat.reduceAdd, Nat.reduceLT, Nat.reduceLeDiff, Nat.beq]
  | true =>
    rw [bmE_ok c1] at e1
    have hsz := okB_size c1
    have e2 := cal80 (size := b.size) (e := e) ⟨hsz.1, hsz.2.1⟩
    cases c2 : bmFit b.size e with
    | false =>
      have hE : chE b e = 2 := by unfold chE; rw [if_neg (by rw [c1]; decide), if_pos c2]
      rw [hE, if_neg (by decide), hz]
      rw [c2] at e2
      rw [eA] at e1 ⊢; rw [eX] at e2 ⊢
      rw [cal_code env59 rfl]; simp only [fn59, slAll, Nat.reduceBEq, Nat.reduceLeDiff, Nat.reduceAdd, List.length_cons, List.length_nil]
      simp only [e1, e2, Z0, slAll, slsAll, Nat.reduceMul, Nat.reduceBEq, Nat.reduceLT, Nat.reduceLeDiff, memAll, vAll, reduceCtorEq, Nat.reduceEqDiff, Nat.reduceAdd, Nat.reduceLT, Nat.reduceLeDiff, Nat.beq]
    | true =>
      have hE : chE b e = 0 := by unfold chE; rw [if_neg (by rw [c1]; decide), if_neg (by rw [c2]; decide)]
      rw [hE, if_pos rfl]
      rw [c2] at e2
      have hfi := bmFit_iff.1 c2
      have k1 := cal81 (es := b.ws.map eW) (by rw [List.length_map]; unfold lim; omega)
      rw [eA] at e1 ⊢; rw [eX] at e2 ⊢
      rw [cal_code env59 rfl]; simp only [fn59, slAll, Nat.reduceBEq, Nat.reduceLeDiff, Nat.reduceAdd, List.length_cons, List.length_nil]
      simp only [e1, e2, k1, Z0, List.length_map, slAll, slsAll, Nat.reduceMul, Nat.reduceBEq, Nat.reduceLT, Nat.reduceLeDiff, memAll, vAll, reduceCtorEq, Nat.reduceEqDiff, Nat.reduceAdd, Nat.reduceLT, Nat.reduceLeDiff, Nat.beq]
      have q1 : b.ws.length ≤ 64 := by omega
      have q2 : 0 ≤ e.start ∧ e.start ≤ 4096 ∧ 0 ≤ e.count ∧ e.count ≤ 4096 := by omega
      rw [loop59 hf q1 q2]
      rotate_left
      · rw [mixR_zero]
        simp only [slAll, slsAll, Nat.reduceMul, Nat.reduceBEq, Nat.reduceLT, Nat.reduceLeDiff, Nat.reduceAdd, decide_true, Bool.and_self, Bool.true_and] <;> rfl
      · simp only [e1, e2, k1, Z0, List.length_map, slAll, slsAll, Nat.reduceMul, Nat.reduceBEq, Nat.reduceLT, Nat.reduceLeDiff, memAll, vAll, reduceCtorEq, Nat.reduceEqDiff, Nat.reduceAdd, Nat.reduceLT, Nat.reduceLeDiff, Nat.beq]
        rfl
theorem cal58 (x y : Wd) : cal env 58 [eW x, eW y] = some [(eW (x ||| y), false)] := by
  have W := w_or x y
  unfold eW
  rw [cal_code env58 rfl]; simp only [fn58]; simp only [start, z_map_cons, z_map_nil, z_len_cons, z_len_nil, z_repl_zero, z_repl_succ, z_cons_app, z_nil_app, Nat.reduceAdd, Nat.reduceSub]
  simp only [W, memAll, vAll, reduceCtorEq, Nat.reduceEqDiff, Nat.reduceAdd, Nat.reduceLT, Nat.reduceLeDiff, Nat.beq]
theorem cal62 (x y : Wd) : cal env 62 [eW x, eW y] = some [(eW (x &&& ~~~y), false)] := by
  have W := w_andNot x y
  unfold eW
  rw [cal_code env62 rfl]; simp only [fn62]; simp only [start, z_map_cons, z_map_nil, z_len_cons, z_len_nil, z_repl_zero, z_repl_succ, z_cons_app, z_nil_app, Nat.reduceAdd, Nat.reduceSub]
  simp only [W, memAll, vAll, reduceCtorEq, Nat.reduceEqDiff, Nat.reduceAdd, Nat.reduceLT, Nat.reduceLeDiff, Nat.beq]
def clW (x y : Wd) : Wd := x &&& ~~~y
--+
theorem cal26 {b : Bm} {e : Exn} : cal env 26 [eBm b, eExt e] = some [(eBm (chO orW b e), false), (.int .i64 (chE b e), false)] := by
  have e1 := cal59 (b := b) (e := e) (f := orW) (gf := 58) cal58
  have eA : ∀ a : Bm, eBm a = .agg [.int .i64 a.size, .list 1 (a.ws.map eW)] := fun _ => rfl
  have eX : eExt e = .agg [.int .i64 e.start, .int .i64 e.count] := rfl
  rw [eA, eA, eX] at e1 ⊢
  rw [cal_code env26 rfl]; simp only [fn26]; simp only [start, z_map_cons, z_map_nil, z_len_cons, z_len_nil, z_repl_zero, z_repl_succ, z_cons_app, z_nil_app, Nat.reduceAdd, Nat.reduceSub]
  simp only [e1, memAll, vAll, reduceCtorEq, Nat.reduceEqDiff, Nat.reduceAdd, Nat.reduceLT, Nat.reduceLeDiff, Nat.beq]
--+
theorem cal39 {b : Bm} {e : Exn} : cal env 39 [eBm b, eExt e] = some [(eBm (chO clW b e), false), (.int .i64 (chE b e), false)] := by
  have e1 := cal59 (b := b) (e := e) (f := clW) (gf := 62) cal62
  have eA : ∀ a : Bm, eBm a = .agg [.int .i64 a.size, .list 1 (a.ws.map eW)] := fun _ => rfl
  have eX : eExt e = .agg [.int .i64 e.start, .int .i64 e.count] := rfl
  rw [eA, eA, eX] at e1 ⊢
  rw [cal_code env39 rfl]; simp only [fn39]; simp only [start, z_map_cons, z_map_nil, z_len_cons, z_len_nil, z_repl_zero, z_repl_succ, z_cons_app, z_nil_app, Nat.reduceAdd, Nat.reduceSub]
  simp only [e1, memAll, vAll, reduceCtorEq, Nat.reduceEqDiff, Nat.reduceAdd, Nat.reduceLT, Nat.reduceLeDiff, Nat.beq]
end Go.Proofs.YtdahanchdjadiaaGreatDoor.V

namespace Go.Proofs.YtdahanchdjadiaaGreatDoor.V
theorem sorted_at {l : List Nat} (hs : l.Pairwise (· < ·)) {j i : Nat} (h : l[j]? = some i) : j ≤ i ∧ ∀ k ∈ l.take j, k < i := by
  obtain ⟨hj, rfl⟩ := List.getElem?_eq_some_iff.1 h
  have hp := List.pairwise_iff_getElem.1 hs
  refine ⟨?_, fun k hk => ?_⟩
  · clear h
    induction j with
    | zero => exact Nat.zero_le _
    | succ j ih =>
      have h1 := ih (by omega)
      have h2 := hp j (j + 1) (by omega) hj (by omega)
      omega
  · obtain ⟨m, hm, rfl⟩ := List.mem_iff_getElem.1 hk
    rw [List.getElem_take]
    simp only [List.length_take] at hm
    exact hp m j (by omega) hj (by omega)
def bmEl (b : Bm) : List Nat := if okB b then elemsW b.ws 0 b.size else []
theorem bmEl_at {b : Bm} {j i : Nat} (h : (bmEl b)[j]? = some i) : i < 4096 ∧ j ≤ i ∧ ∀ k ∈ (bmEl b).take j, k < i := by
  unfold bmEl at h ⊢
  split at h
  · rename_i c
    rw [if_pos c]
    have hs : (elemsW b.ws 0 b.size).Pairwise (· < ·) := List.pairwise_lt_range.filter _
    have hm := List.mem_of_getElem? h
    simp only [elemsW, List.mem_filter, List.mem_range, Bool.and_eq_true, decide_eq_true_eq] at hm
    have := okB_size c
    exact ⟨by omega, sorted_at hs h⟩
  · simp at h
def bmX (b : Bm) : List Exn := if okB b then bmExts b else []
theorem bmEl_x (b : Bm) : exts (bmEl b) = bmX b := by
  unfold bmEl bmX bmExts ext
  split
  · rename_i c; rw [elems_ok c 0 (by omega)]
  · rfl
theorem cal54 {b : Bm} : cal env 54 [eBm b] = some [(.list 2 ((bmX b).map eExt), true)] := by
  have e1 := cal79 (b := b) (a := 0)
  have eA : ∀ a : Bm, eBm a = .agg [.int .i64 a.size, .list 1 (a.ws.map eW)] := fun _ => rfl
  rw [eA] at e1 ⊢
  rw [cal_code env54 rfl]; simp only [fn54]; simp only [start, z_map_cons, z_map_nil, z_len_cons, z_len_nil, z_repl_zero, z_repl_succ, z_cons_app, z_nil_app, Nat.reduceAdd, Nat.reduceSub]
  simp only [e1, memAll, vAll, reduceCtorEq, Nat.reduceEqDiff, Nat.reduceAdd, Nat.reduceLT, Nat.reduceLeDiff, Nat.beq]
  rw [rng_idx (env := env) (fun j => [⟨false, [.pv (.int .i64 b.size), .pv (.list 1 (b.ws.map eW))]⟩, ⟨false, [.row 2 ((exts ((bmEl b).take j)).map eExt)]⟩]) (xs := yI (bmEl b)) rfl (by have := iter93 (b := b) (a := 0) (by omega); exact this) rfl ?_]
  · simp only [yI, List.length_map, List.take_length, vRng, memAll, vAll, reduceCtorEq, Nat.reduceEqDiff, Nat.reduceAdd, Nat.reduceLT, Nat.reduceLeDiff, Nat.beq]
    rw [bmEl_x]
  · intro j x hx sl0
    simp only [yI, List.getElem?_map, Option.map_eq_some_iff] at hx
    obtain ⟨i, hi, rfl⟩ := hx
    obtain ⟨k1, k2, k3⟩ := bmEl_at hi
    have hlim : lim = 1073741824 := rfl
    have hj := (List.getElem?_eq_some_iff.1 hi).1
    have ht : (bmEl b).take (j + 1) = (bmEl b).take j ++ [i] := by rw [List.take_add_one, hi]; rfl
    have hlen : ((bmEl b).take j).length = j := by simp; omega
    rw [ht]
    rcases snoc_cases ((bmEl b).take j) with h0 | ⟨p, q, h0⟩
    · have F2 : (((0 : Nat) : Int) > 0) = False := eq_false (by omega)
      have F3 : (0 + 1 ≤ lim) = True := eq_true (by omega)
      have e0 : exts ([] : List Nat) = [] := rfl
      have e2 : exts [i] = [⟨i, 1⟩] := rfl
      refine ⟨?_, ?_⟩
      rotate_left
      · simp only [h0, List.nil_append, fn54_b0, fn54_b1, F2, F3, e0, e2, eExt, List.map_nil, List.map_cons, vRng, memAll, vAll, reduceCtorEq, Nat.reduceEqDiff, Nat.reduceAdd, Nat.reduceLT, Nat.reduceLeDiff, Nat.beq]
        rfl
    · obtain ⟨pre, ⟨s, c⟩, e0, h1, h2, h3, h4⟩ := exts_last _ p rfl q
      have hqi : q < i := k3 q (by rw [h0]; simp)
      simp only at h1 h2 h3
      have hpl : p.length + 1 = j := by rw [h0] at hlen; simpa using hlen
      have F2 : (((pre.length + 1 : Nat) : Int) > 0) = True := eq_true (by omega)
      have F3 := wrap_pred (n := pre.length) (by omega)
      have F4 : IntKind.i64.wrap (s + c) = s + c := i64_fits (by omega)
      have F5 : IntKind.i64.wrap (c + 1) = c + 1 := i64_fits (by omega)
      have F6 : (pre.length + 1 + 1 ≤ lim) = True := eq_true (by omega)
      have F7 : index (.int .i64 (pre.length : Int)) (pre.length + 1) = some pre.length := index_nat (by omega)
      by_cases hc : s + c = (i : Int)
      · have F8 : (s + c == (i : Int)) = true := by simpa using hc
        have e2 : exts (p ++ [q] ++ [i]) = pre ++ [⟨s, c + 1⟩] := by rw [exts_snoc, e0, addAt_snoc, if_pos hc]
        refine ⟨?_, ?_⟩
        rotate_left
        · simp only [h0, fn54_b0, fn54_b1, e0, e2, F2, F3, F4, F5, F6, F7, F8, eExt, List.map_append, List.map_cons, List.map_nil, vRng, memAll, vAll, reduceCtorEq, Nat.reduceEqDiff, Nat.reduceAdd, Nat.reduceLT, Nat.reduceLeDiff, Nat.beq]
          rfl
      · have F8 : (s + c == (i : Int)) = false := by simpa using hc
        have e2 : exts (p ++ [q] ++ [i]) = pre ++ [⟨s, c⟩] ++ [⟨i, 1⟩] := by rw [exts_snoc, e0, addAt_snoc, if_neg hc]
        refine ⟨?_, ?_⟩
        rotate_left
        · simp only [h0, fn54_b0, fn54_b1, e0, e2, F2, F3, F4, F5, F6, F7, F8, eExt, List.map_append, List.map_cons, List.map_nil, vRng, memAll, vAll, reduceCtorEq, Nat.reduceEqDiff, Nat.reduceAdd, Nat.reduceLT, Nat.reduceLeDiff, Nat.beq]
          rfl
theorem w_bit (w : Wd) (s : Nat) : (w >>> s &&& 1 == (1 : Wd)) = w.getLsbD s := by
  have h : w >>> s &&& 1 = if w.getLsbD s then 1 else 0 := by
    apply BitVec.eq_of_getLsbD_eq
    intro j hj
    rw [BitVec.getLsbD_and, BitVec.getLsbD_ushiftRight]
    cases j with
    | zero => cases h : w.getLsbD s <;> simp [h]
    | succ j =>
      have : (1 : Wd).getLsbD (j + 1) = false := by
        rw [show (1 : Wd) = 1#64 from rfl, BitVec.getLsbD_one]; simp
      rw [this, Bool.and_false]
      cases w.getLsbD s <;> simp
  rw [h]
  cases w.getLsbD s <;> rfl
theorem cal55 {b : Bm} {i : Nat} (h : i / 64 < b.ws.length) (hi : i ≤ 1000000) : cal env 55 [eBm b, .int .i64 (i : Nat)] = some [(.bool (bit b.ws i), false)] := by
  unfold eBm
  have T1 : (i : Int).tdiv 64 = ((i / 64 : Nat) : Int) := by rw [Int.tdiv_eq_ediv_of_nonneg (by omega)]; omega
  have T2 : (i : Int).tmod 64 = ((i % 64 : Nat) : Int) := by rw [Int.tmod_eq_emod_of_nonneg (by omega)]; omega
  have W1 : IntKind.i64.wrap ((i / 64 : Nat) : Int) = ((i / 64 : Nat) : Int) := i64_fits (by omega)
  have W2 : IntKind.u64.wrap ((i % 64 : Nat) : Int) = ((i % 64 : Nat) : Int) := by rw [u64_wrap]; omega
  have S0 : (((i % 64 : Nat) : Int) < 0) = False := eq_false (by omega)
  have S1 := w_shr b.ws[i / 64] (s := ((i % 64 : Nat) : Int)) (n := i % 64) rfl
  have S2 := w_and (b.ws[i / 64] >>> (i % 64)) 1
  have B1 : ((1 : Wd).toNat : Int) = 1 := rfl
  have S3 := w_beq (b.ws[i / 64] >>> (i % 64) &&& 1) 1
  rw [B1] at S2 S3
  have S4 : decide (b.ws[i / 64] >>> (i % 64) &&& 1 = (1 : Wd)) = bit b.ws i := by rw [bit_of h, ← w_bit]; rfl
  rw [S4] at S3
  rw [cal_code env55 rfl]; simp only [fn55]; simp only [start, z_map_cons, z_map_nil, z_len_cons, z_len_nil, z_repl_zero, z_repl_succ, z_cons_app, z_nil_app, Nat.reduceAdd, Nat.reduceSub]
  simp only [z64, T1, T2, W1, W2, S0, S1, S2, S3, eW, index_nat h, List.getElem?_map, List.getElem?_eq_getElem h, memAll, vAll, reduceCtorEq, Nat.reduceEqDiff, Nat.reduceAdd, Nat.reduceLT, Nat.reduceLeDiff, Nat.beq]
def anyFrom (ws : List Wd) (k : Nat) : Bool := (List.range (64 * ws.length)).any fun i => decide (k ≤ i) && bit ws i
theorem anyFrom_iff {ws : List Wd} {k : Nat} : anyFrom ws k = true ↔ ∃ i, k ≤ i ∧ i < 64 * ws.length ∧ bit ws i = true := by
  simp only [anyFrom, List.any_eq_true, List.mem_range, Bool.and_eq_true, decide_eq_true_eq]
  exact ⟨fun ⟨i, h1, h2, h3⟩ => ⟨i, h2, h1, h3⟩, fun ⟨i, h1, h2, h3⟩ => ⟨i, h2, h1, h3⟩⟩
theorem anyFrom_succ {ws : List Wd} {k : Nat} (h : bit ws k = false) : anyFrom ws k = anyFrom ws (k + 1) := by
  rw [Bool.eq_iff_iff, anyFrom_iff, anyFrom_iff]
  constructor
  · rintro ⟨j, h1, h2, h3⟩
    have : j ≠ k := fun e => by rw [e, h] at h3; cases h3
    exact ⟨j, by omega, h2, h3⟩
  · rintro ⟨j, h1, h2, h3⟩
    exact ⟨j, by omega, h2, h3⟩
theorem loop36 {b : Bm} {s : Nat} (hs : b.size = (s : Int)) (hl : b.ws.length ≤ 64) (hsl : s ≤ 64 * b.ws.length) {st : St} (h : st.head [1, 3] st.boxes.length = some ⟨[.any, .pbox 0 0, .any, .pv (.int .i64 ((s + (0 : Nat) : Nat) : Int)), .any, .any, .any, .any, .any, .any, .any, .any, .any, .any, .any, .any, .any, .any, .any, .any, .any, .any, .any, .any, .any, .any, .any, .any, .any, .any, .any, .any, .any, .any, .any], [⟨false, [.pv (.int .i64 b.size), .pv (.list 1 (b.ws.map eW))]⟩], [], none⟩) :
   den env fn36_l1 st = if anyFrom b.ws (s + (0 : Nat)) then some (.ret, ⟨[.any, .any, .pv (.int .i64 3), .any, .any, .any, .any, .any, .any, .any, .any, .any, .any, .any, .any, .any, .any, .any, .any, .any, .any, .any, .any, .any, .any, .any, .any, .any, .any, .any, .any, .any, .any, .any, .any], [⟨false, [.pv (.int .i64 b.size), .pv (.list 1 (b.ws.map eW))]⟩], [], none⟩) else some (.normal, ⟨[.any, .any, .any, .any, .any, .any, .any, .any, .any, .any, .any, .any, .any, .any, .any, .any, .any, .any, .any, .any, .any, .any, .any, .any, .any, .any, .any, .any, .any, .any, .any, .any, .any, .any, .any], [⟨false, [.pv (.int .i64 b.size), .pv (.list 1 (b.ws.map eW))]⟩], [], none⟩) := by
  unfold fn36_l1
  refine clean_up (env := env) (64 * b.ws.length - s) (fun i => ⟨[.any, .pbox 0 0, .any, .pv (.int .i64 ((s + i : Nat) : Int)), .any, .any, .any, .any, .any, .any, .any, .any, .any, .any, .any, .any, .any, .any, .any, .any, .any, .any, .any, .any, .any, .any, .any, .any, .any, .any, .any, .any, .any, .any, .any], [⟨false, [.pv (.int .i64 b.size), .pv (.list 1 (b.ws.map eW))]⟩], [], none⟩) (fun i => if anyFrom b.ws (s + i) then some (.ret, ⟨[.any, .any, .pv (.int .i64 3), .any, .any, .any, .any, .any, .any, .any, .any, .any, .any, .any, .any, .any, .any, .any, .any, .any, .any, .any, .any, .any, .any, .any, .any, .any, .any, .any, .any, .any, .any, .any, .any], [⟨false, [.pv (.int .i64 b.size), .pv (.list 1 (b.ws.map eW))]⟩], [], none⟩) else some (.normal, ⟨[.any, .any, .any, .any, .any, .any, .any, .any, .any, .any, .any, .any, .any, .any, .any, .any, .any, .any, .any, .any, .any, .any, .any, .any, .any, .any, .any, .any, .any, .any, .any, .any, .any, .any, .any], [⟨false, [.pv (.int .i64 b.size), .pv (.list 1 (b.ws.map eW))]⟩], [], none⟩)) h (fun _ => rfl) (fun _ => rfl) ?_ ?_
  · intro i rb hi ih

    have hi1 : IntKind.i64.wrap (((s + i : Nat) : Int) + 1) = ((s + (i + 1) : Nat) : Int) := by rw [i64_fits (by omega)]; omega
    have W1 : IntKind.i64.wrap (64 * (b.ws.length : Int)) = 64 * (b.ws.length : Int) := i64_fits (by omega)
    have F1 : (((s + i : Nat) : Int) < 64 * (b.ws.length : Int)) = True := eq_true (by omega)
    have e1 := cal55 (b := b) (i := s + i) (by omega) (by omega)
    have P2 : part [PV.int .i64 b.size, .list 1 (b.ws.map fun w => PV.int .u64 (w.toNat : Int))] 0 (some 2) = some (.agg [PV.int .i64 b.size, .list 1 (b.ws.map fun w => PV.int .u64 (w.toNat : Int))]) := rfl
    unfold eBm at e1
    unfold eW at e1 ih ⊢
    cases c : bit b.ws (s + i) with
    | true =>
      rw [c] at e1
      have h : anyFrom b.ws (s + i) = true := anyFrom_iff.2 ⟨s + i, by omega, by omega, c⟩
      rw [if_pos h]
      simp only [fn36_b0, F1, W1, e1, P2, List.length_map, memAll, vAll, reduceCtorEq, Nat.reduceEqDiff, Nat.reduceAdd, Nat.reduceLT, Nat.reduceLeDiff, Nat.beq]
      rfl
    | false =>
      rw [c] at e1
      have h := anyFrom_succ c
      simp only [fn36_b0, F1, W1, e1, P2, List.length_map, memAll, vAll, reduceCtorEq, Nat.reduceEqDiff, Nat.reduceAdd, Nat.reduceLT, Nat.reduceLeDiff, Nat.beq]
      rw [ih _ (by simp only [hi1]; rfl), h]
      rfl
  · intro rb

    have W1 : IntKind.i64.wrap (64 * (b.ws.length : Int)) = 64 * (b.ws.length : Int) := i64_fits (by omega)
    have F1 : (((s + (64 * b.ws.length - s) : Nat) : Int) < 64 * (b.ws.length : Int)) = False := eq_false (by omega)
    rw [if_neg (by rw [anyFrom_iff]; rintro ⟨j, h1, h2, _⟩; omega)]
    simp only [fn36_b0, F1, W1, List.length_map, memAll, vAll, reduceCtorEq, Nat.reduceEqDiff, Nat.reduceAdd, Nat.reduceLT, Nat.reduceLeDiff, Nat.beq]
    rfl

end Go.Proofs.YtdahanchdjadiaaGreatDoor.V

namespace Go.Proofs.YtdahanchdjadiaaGreatDoor.V
structure Itn where
  size : Int
  gran : Int
  act : List Int
  bm : Bm
def eItn (i : Itn) : PV := .agg [.int .i64 i.size, .int .i64 i.gran, .list 1 (i.act.map eI), .int .i64 i.bm.size, .list 1 (i.bm.ws.map eW)]
def zItn : Itn := ⟨0, 0, [], ⟨0, []⟩⟩
theorem eItn_zero : eItn zItn = .agg [.int .i64 0, .int .i64 0, .list 1 [], .int .i64 0, .list 1 []] := rfl
def szOkI (s g : Int) : Bool := decide (1 ≤ s) && decide (s ≤ 4096) && decide (1 ≤ g) && decide (g ≤ 4096)
theorem szOkI_iff {s g : Int} : szOkI s g = true ↔ 1 ≤ s ∧ s ≤ 4096 ∧ 1 ≤ g ∧ g ≤ 4096 := by unfold szOkI; simp [and_assoc]
--+
theorem cal31 {s g : Int} : cal env 31 [.int .i64 s, .int .i64 g] = some [(.bool (szOkI s g), false)] := by
  unfold szOkI
  by_cases c0 : 1 ≤ s
  · have F0 : (s ≥ 1) = True := eq_true c0
    rw [decide_eq_true c0]
    by_cases c1 : s ≤ 4096
    · have F1 : (s ≤ 4096) = True := eq_true c1
      rw [decide_eq_true c1]
      by_cases c2 : 1 ≤ g
      · have F2 : (g ≥ 1) = True := eq_true c2
        rw [decide_eq_true c2]
        rw [cal_code env31 rfl]; simp only [fn31, slAll, Nat.reduceBEq, Nat.reduceLeDiff, Nat.reduceAdd, List.length_cons, List.length_nil]
        simp only [F0, F1, F2, slAll, slsAll, Nat.reduceMul, Nat.reduceBEq, Nat.reduceLT, Nat.reduceLeDiff, memAll, vAll, reduceCtorEq, Nat.reduceEqDiff, Nat.reduceAdd, Nat.reduceLT, Nat.reduceLeDiff, Nat.beq]
      · have F2 : (g ≥ 1) = False := eq_false c2
        rw [decide_eq_false c2]
        rw [cal_code env31 rfl]; simp only [fn31, slAll, Nat.reduceBEq, Nat.reduceLeDiff, Nat.reduceAdd, List.length_cons, List.length_nil]
        simp only [F0, F1, F2, slAll, slsAll, Nat.reduceMul, Nat.reduceBEq, Nat.reduceLT, Nat.reduceLeDiff, memAll, vAll, reduceCtorEq, Nat.reduceEqDiff, Nat.reduceAdd, Nat.reduceLT, Nat.reduceLeDiff, Nat.beq]
    · have F1 : (s ≤ 4096) = False := eq_false c1
      rw [decide_eq_false c1]
      rw [cal_code env31 rfl]; simp only [fn31, slAll, Nat.reduceBEq, Nat.reduceLeDiff, Nat.reduceAdd, List.length_cons, List.length_nil]
      simp only [F0, F1, slAll, slsAll, Nat.reduceMul, Nat.reduceBEq, Nat.reduceLT, Nat.reduceLeDiff, memAll, vAll, reduceCtorEq, Nat.reduceEqDiff, Nat.reduceAdd, Nat.reduceLT, Nat.reduceLeDiff, Nat.beq]
  · have F0 : (s ≥ 1) = False := eq_false c0
    rw [decide_eq_false c0]
    rw [cal_code env31 rfl]; simp only [fn31, slAll, Nat.reduceBEq, Nat.reduceLeDiff, Nat.reduceAdd, List.length_cons, List.length_nil]
    simp only [F0, slAll, slsAll, Nat.reduceMul, Nat.reduceBEq, Nat.reduceLT, Nat.reduceLeDiff, memAll, vAll, reduceCtorEq, Nat.reduceEqDiff, Nat.reduceAdd, Nat.reduceLT, Nat.reduceLeDiff, Nat.beq]
--+
theorem cal34 {s g : Int} : cal env 34 [.int .i64 s, .int .i64 g] = some [(.bool (szOkI s g), false)] := by
  unfold szOkI
  by_cases c0 : 1 ≤ s
  · have F0 : (s ≥ 1) = True := eq_true c0
    rw [decide_eq_true c0]
    by_cases c1 : s ≤ 4096
    · have F1 : (s ≤ 4096) = True := eq_true c1
      rw [decide_eq_true c1]
      by_cases c2 : 1 ≤ g
      · have F2 : (g ≥ 1) = True := eq_true c2
        rw [decide_eq_true c2]
        rw [cal_code env34 rfl]; simp only [fn34, slAll, Nat.reduceBEq, Nat.reduceLeDiff, Nat.reduceAdd, List.length_cons, List.length_nil]
        simp only [F0, F1, F2, slAll, slsAll, Nat.reduceMul, Nat.reduceBEq, Nat.reduceLT, Nat.reduceLeDiff, memAll, vAll, reduceCtorEq, Nat.reduceEqDiff, Nat.reduceAdd, Nat.reduceLT, Nat.reduceLeDiff, Nat.beq]
      · have F2 : (g ≥ 1) = False := eq_false c2
        rw [decide_eq_false c2]
        rw [cal_code env34 rfl]; simp only [fn34, slAll, Nat.reduceBEq, Nat.reduceLeDiff, Nat.reduceAdd, List.length_cons, List.length_nil]
        simp only [F0, F1, F2, slAll, slsAll, Nat.reduceMul, Nat.reduceBEq, Nat.reduceLT, Nat.reduceLeDiff, memAll, vAll, reduceCtorEq, Nat.reduceEqDiff, Nat.reduceAdd, Nat.reduceLT, Nat.reduceLeDiff, Nat.beq]
    · have F1 : (s ≤ 4096) = False := eq_false c1
      rw [decide_eq_false c1]
      rw [cal_code env34 rfl]; simp only [fn34, slAll, Nat.reduceBEq, Nat.reduceLeDiff, Nat.reduceAdd, List.length_cons, List.length_nil]
      simp only [F0, F1, slAll, slsAll, Nat.reduceMul, Nat.reduceBEq, Nat.reduceLT, Nat.reduceLeDiff, memAll, vAll, reduceCtorEq, Nat.reduceEqDiff, Nat.reduceAdd, Nat.reduceLT, Nat.reduceLeDiff, Nat.beq]
  · have F0 : (s ≥ 1) = False := eq_false c0
    rw [decide_eq_false c0]
    rw [cal_code env34 rfl]; simp only [fn34, slAll, Nat.reduceBEq, Nat.reduceLeDiff, Nat.reduceAdd, List.length_cons, List.length_nil]
    simp only [F0, slAll, slsAll, Nat.reduceMul, Nat.reduceBEq, Nat.reduceLT, Nat.reduceLeDiff, memAll, vAll, reduceCtorEq, Nat.reduceEqDiff, Nat.reduceAdd, Nat.reduceLT, Nat.reduceLeDiff, Nat.beq]
def grN (s g : Int) : Int := (s + g - 1) / g
theorem grN_le {s g : Int} (h : szOkI s g = true) : 1 ≤ grN s g ∧ grN s g ≤ s := by
  obtain ⟨h1, h2, h3, h4⟩ := szOkI_iff.1 h
  unfold grN
  constructor
  · exact (Int.le_ediv_iff_mul_le (by omega)).2 (by omega)
  · have : s + g - 1 < (s + 1) * g := by
      have h5 : s ≤ s * g := by
        have := Int.mul_le_mul_of_nonneg_left h3 (show 0 ≤ s by omega)
        omega
      rw [Int.add_mul, Int.one_mul]; omega
    have := Int.ediv_lt_of_lt_mul (by omega) this
    omega
--+
theorem cal32 {s g : Int} (h : szOkI s g = true) : cal env 32 [.int .i64 s, .int .i64 g] = some [(.int .i64 (grN s g), false)] := by
  obtain ⟨h1, h2, h3, h4⟩ := szOkI_iff.1 h
  have hg := grN_le h
  have W1 : IntKind.i64.wrap (s + g) = s + g := i64_fits (by omega)
  have W2 : IntKind.i64.wrap (s + g - 1) = s + g - 1 := i64_fits (by omega)
  have Q : (s + g - 1).tdiv g = grN s g := by unfold grN; exact Int.tdiv_eq_ediv_of_nonneg (by omega)
  have W3 : IntKind.i64.wrap (grN s g) = grN s g := i64_fits (by omega)
  have Z : (g = 0) = False := eq_false (by omega)
  rw [cal_code env32 rfl]; simp only [fn32, slAll, Nat.reduceBEq, Nat.reduceLeDiff, Nat.reduceAdd, List.length_cons, List.length_nil]
  simp only [W1, W2, Q, W3, Z, slAll, slsAll, Nat.reduceMul, Nat.reduceBEq, Nat.reduceLT, Nat.reduceLeDiff, memAll, vAll, reduceCtorEq, Nat.reduceEqDiff, Nat.reduceAdd, Nat.reduceLT, Nat.reduceLeDiff, Nat.beq]
--+
theorem cal35 {s g : Int} (h : szOkI s g = true) : cal env 35 [.int .i64 s, .int .i64 g] = some [(.int .i64 (grN s g), false)] := by
  obtain ⟨h1, h2, h3, h4⟩ := szOkI_iff.1 h
  have hg := grN_le h
  have W1 : IntKind.i64.wrap (s + g) = s + g := i64_fits (by omega)
  have W2 : IntKind.i64.wrap (s + g - 1) = s + g - 1 := i64_fits (by omega)
  have Q : (s + g - 1).tdiv g = grN s g := by unfold grN; exact Int.tdiv_eq_ediv_of_nonneg (by omega)
  have W3 : IntKind.i64.wrap (grN s g) = grN s g := i64_fits (by omega)
  have Z : (g = 0) = False := eq_false (by omega)
  rw [cal_code env35 rfl]; simp only [fn35, slAll, Nat.reduceBEq, Nat.reduceLeDiff, Nat.reduceAdd, List.length_cons, List.length_nil]
  simp only [W1, W2, Q, W3, Z, slAll, slsAll, Nat.reduceMul, Nat.reduceBEq, Nat.reduceLT, Nat.reduceLeDiff, memAll, vAll, reduceCtorEq, Nat.reduceEqDiff, Nat.reduceAdd, Nat.reduceLT, Nat.reduceLeDiff, Nat.beq]
def newIE (s g : Int) : Int := if szOkI s g then 0 else 2
def newI (s g : Int) : Itn := if szOkI s g then ⟨s, g, List.replicate (grN s g).toNat 0, newO (grN s g)⟩ else zItn
theorem cal19 {s g : Int} : cal env 19 [.int .i64 s, .int .i64 g] = some [(eItn (newI s g), false), (.int .i64 (newIE s g), false)] := by
  have e0 := cal31 (s := s) (g := g)
  unfold newI newIE
  cases c : szOkI s g with
  | false =>
    rw [if_neg (by decide), if_neg (by decide), eItn_zero]
    rw [c] at e0
    rw [cal_code env19 rfl]; simp only [fn19, slAll, Nat.reduceBEq, Nat.reduceLeDiff, Nat.reduceAdd, List.length_cons, List.length_nil]
    simp only [e0, slAll, slsAll, Nat.reduceMul, Nat.reduceBEq, Nat.reduceLT, Nat.reduceLeDiff, memAll, vAll, reduceCtorEq, Nat.reduceEqDiff, Nat.reduceAdd, Nat.reduceLT, Nat.reduceLeDiff, Nat.beq]
  | true =>
    rw [if_pos rfl, if_pos rfl]
    rw [c] at e0
    have hg := grN_le c
    obtain ⟨_, h2, _, _⟩ := szOkI_iff.1 c
    have e1 := cal32 c
    have e2 := cal51 (n := grN s g)
    have hE : newE (grN s g) = 0 := by unfold newE; rw [if_neg (by omega)]
    rw [hE] at e2
    have F3 : (0 ≤ grN s g) = True := eq_true (by omega)
    have F4 : (grN s g ≤ (lim : Int)) = True := eq_true (by unfold lim; omega)
    have F5 : (grN s g ≤ grN s g) = True := eq_true (Int.le_refl _)
    have eA : eBm (newO (grN s g)) = .agg [.int .i64 (newO (grN s g)).size, .list 1 ((newO (grN s g)).ws.map eW)] := rfl
    rw [eA] at e2
    unfold eItn
    rw [List.map_replicate, show eI 0 = .int .i64 0 from rfl]
    rw [cal_code env19 rfl]; simp only [fn19, slAll, Nat.reduceBEq, Nat.reduceLeDiff, Nat.reduceAdd, List.length_cons, List.length_nil]
    simp only [e0, e1, e2, F3, F4, F5, slAll, slsAll, Nat.reduceMul, Nat.reduceBEq, Nat.reduceLT, Nat.reduceLeDiff, memAll, vAll, reduceCtorEq, Nat.reduceEqDiff, Nat.reduceAdd, Nat.reduceLT, Nat.reduceLeDiff, Nat.beq]
def getX (b : Bm) (s : Int) : Bool := okB b && (decide (0 ≤ s) && (decide (s < b.size) && bit b.ws s.toNat))
theorem cal25 {b : Bm} {s : Int} : cal env 25 [eBm b, .int .i64 s] = some [(.bool (getX b s), false)] := by
  have e1 := cal33 (b := b)
  have P : ∀ x y : PV, part [x, y] 0 (some 2) = some (.agg [x, y]) := fun _ _ => rfl
  have eA : eBm b = .agg [.int .i64 b.size, .list 1 (b.ws.map eW)] := rfl
  have Z0 : ((0 : Int) == 0) = true := rfl
  have Z3 : ((3 : Int) == 0) = false := rfl
  unfold getX
  rw [eA] at e1 ⊢
  cases c : okB b with
  | false =>
    rw [bmE_no c] at e1
    rw [cal_code env25 rfl]; simp only [fn25, slAll, Nat.reduceBEq, Nat.reduceLeDiff, Nat.reduceAdd, List.length_cons, List.length_nil]
    simp only [e1, Z3, P, slAll, slsAll, Nat.reduceMul, Nat.reduceBEq, Nat.reduceLT, Nat.reduceLeDiff, memAll, vAll, reduceCtorEq, Nat.reduceEqDiff, Nat.reduceAdd, Nat.reduceLT, Nat.reduceLeDiff, Nat.beq]
  | true =>
    rw [bmE_ok c] at e1
    have hs := okB_size c
    by_cases c0 : 0 ≤ s
    · have F0 : (s ≥ 0) = True := eq_true c0
      rw [decide_eq_true c0]
      by_cases c1 : s < b.size
      · have F1 : (s < b.size) = True := eq_true c1
        rw [decide_eq_true c1]
        obtain ⟨i, rfl⟩ : ∃ i : Nat, s = (i : Int) := ⟨s.toNat, by omega⟩
        have h : i / 64 < b.ws.length := by omega
        have T1 : (i : Int).tdiv 64 = ((i / 64 : Nat) : Int) := by rw [Int.tdiv_eq_ediv_of_nonneg (by omega)]; omega
        have T2 : (i : Int).tmod 64 = ((i % 64 : Nat) : Int) := by rw [Int.tmod_eq_emod_of_nonneg (by omega)]; omega
        have W1 : IntKind.i64.wrap ((i / 64 : Nat) : Int) = ((i / 64 : Nat) : Int) := i64_fits (by omega)
        have S0 : (((i % 64 : Nat) : Int) < 0) = False := eq_false (by omega)
        have S1 := w_shr b.ws[i / 64] (s := ((i % 64 : Nat) : Int)) (n := i % 64) rfl
        have S2 := w_and (b.ws[i / 64] >>> (i % 64)) 1
        have B1 : ((1 : Wd).toNat : Int) = 1 := rfl
        have S3 := w_beq (b.ws[i / 64] >>> (i % 64) &&& 1) 1
        rw [B1] at S2 S3
        have S4 : decide (b.ws[i / 64] >>> (i % 64) &&& 1 = (1 : Wd)) = bit b.ws i := by rw [bit_of h, ← w_bit]; rfl
        rw [S4] at S3
        have e9 : (i : Int).toNat = i := by omega
        rw [e9]
        rw [cal_code env25 rfl]; simp only [fn25, slAll, Nat.reduceBEq, Nat.reduceLeDiff, Nat.reduceAdd, List.length_cons, List.length_nil]
        simp only [e1, Z0, P, F0, F1, z64, T1, T2, W1, S0, S1, S2, S3, eW, index_nat h, List.getElem?_map, List.getElem?_eq_getElem h, slAll, slsAll, Nat.reduceMul, Nat.reduceBEq, Nat.reduceLT, Nat.reduceLeDiff, memAll, vAll, reduceCtorEq, Nat.reduceEqDiff, Nat.reduceAdd, Nat.reduceLT, Nat.reduceLeDiff, Nat.beq]
      · have F1 : (s < b.size) = False := eq_false c1
        rw [decide_eq_false c1]
        rw [cal_code env25 rfl]; simp only [fn25, slAll, Nat.reduceBEq, Nat.reduceLeDiff, Nat.reduceAdd, List.length_cons, List.length_nil]
        simp only [e1, Z0, P, F0, F1, slAll, slsAll, Nat.reduceMul, Nat.reduceBEq, Nat.reduceLT, Nat.reduceLeDiff, memAll, vAll, reduceCtorEq, Nat.reduceEqDiff, Nat.reduceAdd, Nat.reduceLT, Nat.reduceLeDiff, Nat.beq]
    · have F0 : (s ≥ 0) = False := eq_false c0
      rw [decide_eq_false c0]
      rw [cal_code env25 rfl]; simp only [fn25, slAll, Nat.reduceBEq, Nat.reduceLeDiff, Nat.reduceAdd, List.length_cons, List.length_nil]
      simp only [e1, Z0, P, F0, slAll, slsAll, Nat.reduceMul, Nat.reduceBEq, Nat.reduceLT, Nat.reduceLeDiff, memAll, vAll, reduceCtorEq, Nat.reduceEqDiff, Nat.reduceAdd, Nat.reduceLT, Nat.reduceLeDiff, Nat.beq]
end Go.Proofs.YtdahanchdjadiaaGreatDoor.V

namespace Go.Proofs.YtdahanchdjadiaaGreatDoor.V
theorem cal36 {b : Bm} : cal env 36 [eBm b] = some [(.int .i64 (bmE b), false)] := by
  unfold eBm
  have P : ∀ x y : PV, part [x, y] 0 (some 2) = some (.agg [x, y]) := fun _ _ => rfl
  by_cases c0 : b.size < 0
  · have hE : bmE b = 3 := bmE_no (by rw [Bool.eq_false_iff]; intro h; have := okB_size h; omega)
    rw [hE]
    rw [cal_code env36 rfl]; simp only [fn36]; simp only [start, z_map_cons, z_map_nil, z_len_cons, z_len_nil, z_repl_zero, z_repl_succ, z_cons_app, z_nil_app, Nat.reduceAdd, Nat.reduceSub]
    simp only [c0, P, memAll, vAll, reduceCtorEq, Nat.reduceEqDiff, Nat.reduceAdd, Nat.reduceLT, Nat.reduceLeDiff, Nat.beq]
  · by_cases c1 : b.size > 4096
    · have hE : bmE b = 3 := bmE_no (by rw [Bool.eq_false_iff]; intro h; have := okB_size h; omega)
      rw [hE]
      have F1 : (b.size > 4096) = True := eq_true c1
      rw [cal_code env36 rfl]; simp only [fn36]; simp only [start, z_map_cons, z_map_nil, z_len_cons, z_len_nil, z_repl_zero, z_repl_succ, z_cons_app, z_nil_app, Nat.reduceAdd, Nat.reduceSub]
      simp only [c0, F1, P, memAll, vAll, reduceCtorEq, Nat.reduceEqDiff, Nat.reduceAdd, Nat.reduceLT, Nat.reduceLeDiff, Nat.beq]
    · have F1 : (b.size > 4096) = False := eq_false c1
      have W0 : IntKind.i64.wrap (b.size + 63) = b.size + 63 := i64_fits (by omega)
      have W3 : IntKind.i64.wrap (wdsN b.size) = wdsN b.size := i64_fits (by unfold wdsN; omega)
      have T := q63 (n := b.size) (by omega)
      by_cases c2 : (b.ws.length : Int) = wdsN b.size
      · have F2 : ((b.ws.length : Int) != wdsN b.size) = false := by simp [c2]
        have hw := c2
        unfold wdsN at hw
        have hs : b.size = ((b.size.toNat : Nat) : Int) := by omega
        rw [cal_code env36 rfl]; simp only [fn36]; simp only [start, z_map_cons, z_map_nil, z_len_cons, z_len_nil, z_repl_zero, z_repl_succ, z_cons_app, z_nil_app, Nat.reduceAdd, Nat.reduceSub]
        simp only [c0, F1, F2, W0, W3, T, z64, P, List.length_map, memAll, vAll, reduceCtorEq, Nat.reduceEqDiff, Nat.reduceAdd, Nat.reduceLT, Nat.reduceLeDiff, Nat.beq]
        rw [loop36 (b := b) (s := b.size.toNat) hs (by omega) (by omega)]
        rotate_left
        · rw [Nat.add_zero, ← hs]; rfl
        · cases c : okB b with
          | true =>
            rw [bmE_ok c, if_neg]
            · simp only [c0, F1, F2, W0, W3, T, z64, P, List.length_map, memAll, vAll, reduceCtorEq, Nat.reduceEqDiff, Nat.reduceAdd, Nat.reduceLT, Nat.reduceLeDiff, Nat.beq]
            · rw [anyFrom_iff]
              rintro ⟨i, h1, h2, h3⟩
              rw [(okB_iff.1 c).2 i (by omega)] at h3
              cases h3
          | false =>
            rw [bmE_no c, if_pos]
            · simp only [c0, F1, F2, W0, W3, T, z64, P, List.length_map, memAll, vAll, reduceCtorEq, Nat.reduceEqDiff, Nat.reduceAdd, Nat.reduceLT, Nat.reduceLeDiff, Nat.beq]
            · rw [anyFrom_iff]
              apply Classical.byContradiction
              intro hn
              have : okB b = true := okB_iff.2 ⟨⟨by omega, by omega, c2⟩, fun i hi => by
                by_cases hl : i < 64 * b.ws.length
                · cases hb : bit b.ws i with
                  | false => rfl
                  | true => exact absurd ⟨i, by omega, hl, hb⟩ hn
                · exact bit_out (by omega)⟩
              rw [this] at c; cases c
      · have F2 : ((b.ws.length : Int) != wdsN b.size) = true := by simp [c2]
        have hE : bmE b = 3 := bmE_no (by rw [Bool.eq_false_iff]; intro h; exact c2 (okB_iff.1 h).1.2.2)
        rw [hE]
        rw [cal_code env36 rfl]; simp only [fn36]; simp only [start, z_map_cons, z_map_nil, z_len_cons, z_len_nil, z_repl_zero, z_repl_succ, z_cons_app, z_nil_app, Nat.reduceAdd, Nat.reduceSub]
        simp only [c0, F1, F2, W0, W3, T, z64, P, List.length_map, memAll, vAll, reduceCtorEq, Nat.reduceEqDiff, Nat.reduceAdd, Nat.reduceLT, Nat.reduceLeDiff, Nat.beq]
theorem cal84 {b : Bm} (hl : b.ws.length ≤ lim) : cal env 84 [eBm b] = some [(eBm b, true)] := by
  unfold eBm
  have F1 : (b.ws.length ≤ lim) = True := eq_true hl
  rw [cal_code env84 rfl]; simp only [fn84]; simp only [start, z_map_cons, z_map_nil, z_len_cons, z_len_nil, z_repl_zero, z_repl_succ, z_cons_app, z_nil_app, Nat.reduceAdd, Nat.reduceSub]
  simp only [F1, List.length_map, List.nil_append, memAll, vAll, reduceCtorEq, Nat.reduceEqDiff, Nat.reduceAdd, Nat.reduceLT, Nat.reduceLeDiff, Nat.beq]
end Go.Proofs.YtdahanchdjadiaaGreatDoor.V

namespace Go.Proofs.YtdahanchdjadiaaGreatDoor.V
def badG (i : Itn) (g : Nat) (n : Int) : Bool := decide (n < 0) || (decide (n > 4096) || (decide (n > 0) && !getX i.bm g))
def goodFrom (i : Itn) (k : Nat) : Bool := ((List.range i.act.length).drop k).all fun g => !badG i g (i.act.getD g 0)
theorem good_succ {i : Itn} {k : Nat} (h : k < i.act.length) : goodFrom i k = (!badG i k i.act[k] && goodFrom i (k + 1)) := by
  unfold goodFrom
  rw [List.drop_eq_getElem_cons (by rw [List.length_range]; exact h), List.all_cons, List.getElem_range]
  congr 2
  rw [List.getD_eq_getElem?_getD, List.getElem?_eq_getElem h]
  rfl
theorem good_end (i : Itn) : goodFrom i i.act.length = true := by
  unfold goodFrom
  rw [List.drop_of_length_le (by rw [List.length_range]; exact Nat.le_refl _)]
  rfl
def okI0 (i : Itn) : Bool := szOkI i.size i.gran && (decide ((i.act.length : Int) = grN i.size i.gran) && (okB i.bm && decide (i.bm.size = (i.act.length : Int))))
def okItn (i : Itn) : Bool := okI0 i && goodFrom i 0
def chkI (i : Itn) : Int := if okItn i then 0 else 3
def cellsI (i : Itn) : List BV := [.pv (.int .i64 i.size), .pv (.int .i64 i.gran), .pv (.list 1 (i.act.map eI)), .pv (.int .i64 i.bm.size), .pv (.list 1 (i.bm.ws.map eW))]
theorem cellsI_eq (i : Itn) : cellsI i = [.pv (.int .i64 i.size), .pv (.int .i64 i.gran), .pv (.list 1 (i.act.map eI)), .pv (.int .i64 i.bm.size), .pv (.list 1 (i.bm.ws.map eW))] := rfl
def resG (n : Nat) (i : Itn) (b : Bool) : Option (Ex × St) := if b then some (.normal, ⟨sl n [(2, .any)], [⟨false, cellsI i⟩], [], none⟩) else some (.ret, ⟨sl n [(2, .pv (.int .i64 3))], [⟨false, cellsI i⟩], [], none⟩)
theorem resG_t (n : Nat) (i : Itn) : resG n i true = some (.normal, ⟨sl n [(2, .any)], [⟨false, cellsI i⟩], [], none⟩) := rfl
theorem resG_f (n : Nat) (i : Itn) : resG n i false = some (.ret, ⟨sl n [(2, .pv (.int .i64 3))], [⟨false, cellsI i⟩], [], none⟩) := rfl
theorem part_bm (a b c : PV) (x y : PV) : part [a, b, c, x, y] 3 (some 2) = some (.agg [x, y]) := rfl
set_option maxRecDepth 20000 in
theorem loop10 {i0 : Itn} (hl : i0.act.length ≤ lim) {st : St} (h : st.head [1, 38, 39, 40] st.boxes.length = some ⟨sl 63 [(1, .pbox 0 0), (38, .pv (.list 1 (i0.act.map eI))), (39, .pv (.int .i64 i0.act.length)), (40, .pv (.int .i64 (0 : Nat)))], [⟨false, cellsI i0⟩], [], none⟩) :
   den env fn10_l1 st = resG 63 i0 (goodFrom i0 ((0 : Nat))) := by
  unfold fn10_l1
  refine clean_up (env := env) (nb := 1) (i0.act.length) (fun i => ⟨sl 63 [(1, .pbox 0 0), (38, .pv (.list 1 (i0.act.map eI))), (39, .pv (.int .i64 i0.act.length)), (40, .pv (.int .i64 i))], [⟨false, cellsI i0⟩], [], none⟩) (fun i => resG 63 i0 (goodFrom i0 (i))) h (fun _ => rfl) (fun _ => by simp only [slAll, slsAll, Nat.reduceMul, Nat.reduceBEq, Nat.reduceLT, Nat.reduceLeDiff, Nat.reduceAdd, decide_true, Bool.and_self, Bool.true_and]) ?_ ?_
  · intro i rb hi ih

    have hi1 := i64_next hi hl
    have F1 : ((i : Int) < (i0.act.length : Int)) = True := eq_true (by omega)
    rw [good_succ hi]
    have e1 := cal25 (b := i0.bm) (s := (i : Int))
    have eA : eBm i0.bm = .agg [.int .i64 i0.bm.size, .list 1 (i0.bm.ws.map eW)] := rfl
    rw [eA] at e1
    have hx : (i0.act.map eI)[i]? = some (.int .i64 i0.act[i]) := by rw [List.getElem?_map, List.getElem?_eq_getElem hi]; rfl
    unfold badG
    generalize i0.act[i] = n at *
    by_cases c0 : n < 0
    · have F2 : (n < 0) = True := eq_true c0
      rw [decide_eq_true c0]
      simp only [fn10_b0, F1, F2, hx, index_nat hi, List.length_map, cellsI_eq, resG_f, slAll, slsAll, Nat.reduceMul, Nat.reduceBEq, Nat.reduceLT, Nat.reduceLeDiff, memAll, vAll, reduceCtorEq, Nat.reduceEqDiff, Nat.reduceAdd, Nat.reduceLT, Nat.reduceLeDiff, Nat.beq]
    · have F2 : (n < 0) = False := eq_false c0
      rw [decide_eq_false c0]
      by_cases c1 : n > 4096
      · have F3 : (n > 4096) = True := eq_true c1
        rw [decide_eq_true c1]
        simp only [fn10_b0, F1, F2, F3, hx, index_nat hi, List.length_map, cellsI_eq, resG_f, slAll, slsAll, Nat.reduceMul, Nat.reduceBEq, Nat.reduceLT, Nat.reduceLeDiff, memAll, vAll, reduceCtorEq, Nat.reduceEqDiff, Nat.reduceAdd, Nat.reduceLT, Nat.reduceLeDiff, Nat.beq]
      · have F3 : (n > 4096) = False := eq_false c1
        rw [decide_eq_false c1]
        by_cases c2 : n > 0
        · have F4 : (n > 0) = True := eq_true c2
          rw [decide_eq_true c2]
          cases c3 : getX i0.bm (i : Int) with
          | true =>
            rw [c3] at e1
            simp only [fn10_b0, F1, F2, F3, F4, hx, e1, part_bm, index_nat hi, List.length_map, cellsI_eq, slAll, slsAll, Nat.reduceMul, Nat.reduceBEq, Nat.reduceLT, Nat.reduceLeDiff, memAll, vAll, reduceCtorEq, Nat.reduceEqDiff, Nat.reduceAdd, Nat.reduceLT, Nat.reduceLeDiff, Nat.beq]
            rw [ih _ (by simp only [hi1, cellsI_eq, slAll, slsAll, Nat.reduceMul, Nat.reduceBEq, Nat.reduceLT, Nat.reduceLeDiff, memAll, vAll, reduceCtorEq, Nat.reduceEqDiff, Nat.reduceAdd, Nat.reduceLT, Nat.reduceLeDiff, Nat.beq] <;> rfl)]
          | false =>
            rw [c3] at e1
            simp only [fn10_b0, F1, F2, F3, F4, hx, e1, part_bm, index_nat hi, List.length_map, cellsI_eq, resG_f, slAll, slsAll, Nat.reduceMul, Nat.reduceBEq, Nat.reduceLT, Nat.reduceLeDiff, memAll, vAll, reduceCtorEq, Nat.reduceEqDiff, Nat.reduceAdd, Nat.reduceLT, Nat.reduceLeDiff, Nat.beq]
        · have F4 : (n > 0) = False := eq_false c2
          rw [decide_eq_false c2]
          simp only [fn10_b0, F1, F2, F3, F4, hx, index_nat hi, List.length_map, cellsI_eq, slAll, slsAll, Nat.reduceMul, Nat.reduceBEq, Nat.reduceLT, Nat.reduceLeDiff, memAll, vAll, reduceCtorEq, Nat.reduceEqDiff, Nat.reduceAdd, Nat.reduceLT, Nat.reduceLeDiff, Nat.beq]
          rw [ih _ (by simp only [hi1, cellsI_eq, slAll, slsAll, Nat.reduceMul, Nat.reduceBEq, Nat.reduceLT, Nat.reduceLeDiff, memAll, vAll, reduceCtorEq, Nat.reduceEqDiff, Nat.reduceAdd, Nat.reduceLT, Nat.reduceLeDiff, Nat.beq] <;> rfl)]
  · intro rb

    rw [good_end, resG_t]
    simp only [fn10_b0, Int.lt_irrefl, cellsI_eq, slAll, slsAll, Nat.reduceMul, Nat.reduceBEq, Nat.reduceLT, Nat.reduceLeDiff, memAll, vAll, reduceCtorEq, Nat.reduceEqDiff, Nat.reduceAdd, Nat.reduceLT, Nat.reduceLeDiff, Nat.beq]

theorem cal10 {i : Itn} (hl : i.act.length ≤ lim) : cal env 10 [eItn i] = some [(.int .i64 (chkI i), false)] := by
  have e0 := cal31 (s := i.size) (g := i.gran)
  have e2 := cal33 (b := i.bm)
  have eA : eBm i.bm = .agg [.int .i64 i.bm.size, .list 1 (i.bm.ws.map eW)] := rfl
  have eI5 : eItn i = .agg [.int .i64 i.size, .int .i64 i.gran, .list 1 (i.act.map eI), .int .i64 i.bm.size, .list 1 (i.bm.ws.map eW)] := rfl
  have Z0 : ((0 : Int) != 0) = false := rfl
  have Z3 : ((3 : Int) != 0) = true := rfl
  rw [eA] at e2
  rw [eI5]
  unfold chkI okItn okI0
  cases c0 : szOkI i.size i.gran with
  | false =>
    rw [c0] at e0
    rw [cal_code env10 rfl]; simp only [fn10, slAll, Nat.reduceBEq, Nat.reduceLeDiff, Nat.reduceAdd, List.length_cons, List.length_nil]
    simp only [e0, slAll, slsAll, Nat.reduceMul, Nat.reduceBEq, Nat.reduceLT, Nat.reduceLeDiff, memAll, vAll, reduceCtorEq, Nat.reduceEqDiff, Nat.reduceAdd, Nat.reduceLT, Nat.reduceLeDiff, Nat.beq]
  | true =>
    rw [c0] at e0
    have e1 := cal32 c0
    by_cases c1 : (i.act.length : Int) = grN i.size i.gran
    · have G1 : ((i.act.length : Int) != grN i.size i.gran) = false := by simp [c1]
      rw [decide_eq_true c1]
      cases c2 : okB i.bm with
      | false =>
        rw [bmE_no c2] at e2
        rw [cal_code env10 rfl]; simp only [fn10, slAll, Nat.reduceBEq, Nat.reduceLeDiff, Nat.reduceAdd, List.length_cons, List.length_nil]
        simp only [e0, e1, e2, G1, Z3, part_bm, List.length_map, slAll, slsAll, Nat.reduceMul, Nat.reduceBEq, Nat.reduceLT, Nat.reduceLeDiff, memAll, vAll, reduceCtorEq, Nat.reduceEqDiff, Nat.reduceAdd, Nat.reduceLT, Nat.reduceLeDiff, Nat.beq]
      | true =>
        rw [bmE_ok c2] at e2
        by_cases c3 : i.bm.size = (i.act.length : Int)
        · have G3 : (i.bm.size != (i.act.length : Int)) = false := by simp [c3]
          rw [decide_eq_true c3]
          rw [cal_code env10 rfl]; simp only [fn10, slAll, Nat.reduceBEq, Nat.reduceLeDiff, Nat.reduceAdd, List.length_cons, List.length_nil]
          simp only [e0, e1, e2, G1, G3, Z0, part_bm, List.length_map, slAll, slsAll, Nat.reduceMul, Nat.reduceBEq, Nat.reduceLT, Nat.reduceLeDiff, memAll, vAll, reduceCtorEq, Nat.reduceEqDiff, Nat.reduceAdd, Nat.reduceLT, Nat.reduceLeDiff, Nat.beq]
          rw [loop10 (i0 := i) hl]
          rotate_left
          · rw [cellsI_eq]
            simp only [slAll, slsAll, Nat.reduceMul, Nat.reduceBEq, Nat.reduceLT, Nat.reduceLeDiff, Nat.reduceAdd, decide_true, Bool.and_self, Bool.true_and] <;> rfl
          · cases goodFrom i 0 with
            | true =>
              rw [resG_t, cellsI_eq]
              simp only [e0, e1, e2, G1, G3, Z0, part_bm, List.length_map, slAll, slsAll, Nat.reduceMul, Nat.reduceBEq, Nat.reduceLT, Nat.reduceLeDiff, memAll, vAll, reduceCtorEq, Nat.reduceEqDiff, Nat.reduceAdd, Nat.reduceLT, Nat.reduceLeDiff, Nat.beq]
            | false =>
              rw [resG_f, cellsI_eq]
              simp only [e0, e1, e2, G1, G3, Z0, part_bm, List.length_map, slAll, slsAll, Nat.reduceMul, Nat.reduceBEq, Nat.reduceLT, Nat.reduceLeDiff, memAll, vAll, reduceCtorEq, Nat.reduceEqDiff, Nat.reduceAdd, Nat.reduceLT, Nat.reduceLeDiff, Nat.beq]
        · have G3 : (i.bm.size != (i.act.length : Int)) = true := by simp [c3]
          rw [decide_eq_false c3]
          rw [cal_code env10 rfl]; simp only [fn10, slAll, Nat.reduceBEq, Nat.reduceLeDiff, Nat.reduceAdd, List.length_cons, List.length_nil]
          simp only [e0, e1, e2, G1, G3, Z0, part_bm, List.length_map, slAll, slsAll, Nat.reduceMul, Nat.reduceBEq, Nat.reduceLT, Nat.reduceLeDiff, memAll, vAll, reduceCtorEq, Nat.reduceEqDiff, Nat.reduceAdd, Nat.reduceLT, Nat.reduceLeDiff, Nat.beq]
    · have G1 : ((i.act.length : Int) != grN i.size i.gran) = true := by simp [c1]
      rw [decide_eq_false c1]
      rw [cal_code env10 rfl]; simp only [fn10, slAll, Nat.reduceBEq, Nat.reduceLeDiff, Nat.reduceAdd, List.length_cons, List.length_nil]
      simp only [e0, e1, G1, List.length_map, slAll, slsAll, Nat.reduceMul, Nat.reduceBEq, Nat.reduceLT, Nat.reduceLeDiff, memAll, vAll, reduceCtorEq, Nat.reduceEqDiff, Nat.reduceAdd, Nat.reduceLT, Nat.reduceLeDiff, Nat.beq]
end Go.Proofs.YtdahanchdjadiaaGreatDoor.V

namespace Go.Proofs.YtdahanchdjadiaaGreatDoor.V
def tchB (s : Int) (e : Exn) : Bool := decide (0 ≤ e.start) && (decide (1 ≤ e.count) && (decide (e.start < s) && decide (e.count ≤ s - e.start)))
theorem tchB_iff {s : Int} {e : Exn} : tchB s e = true ↔ 0 ≤ e.start ∧ 1 ≤ e.count ∧ e.start < s ∧ e.count ≤ s - e.start := by unfold tchB; simp
def tchX (s g : Int) (e : Exn) : Exn := if tchB s e then ⟨e.start / g, (e.start + e.count - 1) / g - e.start / g + 1⟩ else ⟨0, 0⟩
def tchE (s : Int) (e : Exn) : Int := if tchB s e then 0 else 2
theorem tch_in {s g : Int} {e : Exn} (h : szOkI s g = true) (hb : tchB s e = true) : 0 ≤ (tchX s g e).start ∧ 1 ≤ (tchX s g e).count ∧ (tchX s g e).start + (tchX s g e).count ≤ grN s g := by
  obtain ⟨h1, h2, h3, h4⟩ := szOkI_iff.1 h
  obtain ⟨b1, b2, b3, b4⟩ := tchB_iff.1 hb
  have k0 : 0 ≤ e.start / g := Int.ediv_nonneg b1 (by omega)
  have k1 : e.start / g ≤ (e.start + e.count - 1) / g := Int.ediv_le_ediv (by omega) (by omega)
  have k2 : (e.start + e.count - 1) / g ≤ (s - 1) / g := Int.ediv_le_ediv (by omega) (by omega)
  have k3 : grN s g = (s - 1) / g + 1 := by
    unfold grN
    rw [show s + g - 1 = (s - 1) + 1 * g by omega, Int.add_mul_ediv_right _ _ (by omega)]
  unfold tchX
  rw [if_pos hb, k3]
  simp only
  omega
theorem cal56 {i : Itn} {e : Exn} (h : szOkI i.size i.gran = true) : cal env 56 [eItn i, eExt e] = some [(eExt (tchX i.size i.gran e), false), (.int .i64 (tchE i.size e), false)] := by
  obtain ⟨h1, h2, h3, h4⟩ := szOkI_iff.1 h
  have eI5 : eItn i = .agg [.int .i64 i.size, .int .i64 i.gran, .list 1 (i.act.map eI), .int .i64 i.bm.size, .list 1 (i.bm.ws.map eW)] := rfl
  have eX : eExt e = .agg [.int .i64 e.start, .int .i64 e.count] := rfl
  have hz : eExt ⟨0, 0⟩ = .agg [.int .i64 0, .int .i64 0] := rfl
  rw [eI5, eX]
  unfold tchE tchX
  by_cases c0 : e.start < 0
  · have F0 : (e.start < 0) = True := eq_true c0
    have hb : tchB i.size e = false := by rw [Bool.eq_false_iff]; intro hh; have := tchB_iff.1 hh; omega
    rw [hb, if_neg (by decide), if_neg (by decide), hz]
    rw [cal_code env56 rfl]; simp only [fn56, slAll, Nat.reduceBEq, Nat.reduceLeDiff, Nat.reduceAdd, List.length_cons, List.length_nil]
    simp only [F0, slAll, slsAll, Nat.reduceMul, Nat.reduceBEq, Nat.reduceLT, Nat.reduceLeDiff, memAll, vAll, reduceCtorEq, Nat.reduceEqDiff, Nat.reduceAdd, Nat.reduceLT, Nat.reduceLeDiff, Nat.beq]
  · have F0 : (e.start < 0) = False := eq_false c0
    by_cases c1 : e.count < 1
    · have F1 : (e.count < 1) = True := eq_true c1
      have hb : tchB i.size e = false := by rw [Bool.eq_false_iff]; intro hh; have := tchB_iff.1 hh; omega
      rw [hb, if_neg (by decide), if_neg (by decide), hz]
      rw [cal_code env56 rfl]; simp only [fn56, slAll, Nat.reduceBEq, Nat.reduceLeDiff, Nat.reduceAdd, List.length_cons, List.length_nil]
      simp only [F0, F1, slAll, slsAll, Nat.reduceMul, Nat.reduceBEq, Nat.reduceLT, Nat.reduceLeDiff, memAll, vAll, reduceCtorEq, Nat.reduceEqDiff, Nat.reduceAdd, Nat.reduceLT, Nat.reduceLeDiff, Nat.beq]
    · have F1 : (e.count < 1) = False := eq_false c1
      by_cases c2 : e.start ≥ i.size
      · have F2 : (e.start ≥ i.size) = True := eq_true c2
        have hb : tchB i.size e = false := by rw [Bool.eq_false_iff]; intro hh; have := tchB_iff.1 hh; omega
        rw [hb, if_neg (by decide), if_neg (by decide), hz]
        rw [cal_code env56 rfl]; simp only [fn56, slAll, Nat.reduceBEq, Nat.reduceLeDiff, Nat.reduceAdd, List.length_cons, List.length_nil]
        simp only [F0, F1, F2, slAll, slsAll, Nat.reduceMul, Nat.reduceBEq, Nat.reduceLT, Nat.reduceLeDiff, memAll, vAll, reduceCtorEq, Nat.reduceEqDiff, Nat.reduceAdd, Nat.reduceLT, Nat.reduceLeDiff, Nat.beq]
      · have F2 : (e.start ≥ i.size) = False := eq_false c2
        have W1 : IntKind.i64.wrap (i.size - e.start) = i.size - e.start := i64_fits (by omega)
        by_cases c3 : e.count > i.size - e.start
        · have F3 : (e.count > i.size - e.start) = True := eq_true c3
          have hb : tchB i.size e = false := by rw [Bool.eq_false_iff]; intro hh; have := tchB_iff.1 hh; omega
          rw [hb, if_neg (by decide), if_neg (by decide), hz]
          rw [cal_code env56 rfl]; simp only [fn56, slAll, Nat.reduceBEq, Nat.reduceLeDiff, Nat.reduceAdd, List.length_cons, List.length_nil]
          simp only [F0, F1, F2, F3, W1, slAll, slsAll, Nat.reduceMul, Nat.reduceBEq, Nat.reduceLT, Nat.reduceLeDiff, memAll, vAll, reduceCtorEq, Nat.reduceEqDiff, Nat.reduceAdd, Nat.reduceLT, Nat.reduceLeDiff, Nat.beq]
        · have F3 : (e.count > i.size - e.start) = False := eq_false c3
          have hb : tchB i.size e = true := tchB_iff.2 (by omega)
          have hin := tch_in h hb
          have hgl := grN_le h
          rw [hb, if_pos rfl, if_pos rfl]
          have Zg : (i.gran = 0) = False := eq_false (by omega)
          have Q1 : e.start.tdiv i.gran = e.start / i.gran := Int.tdiv_eq_ediv_of_nonneg (by omega)
          have Q2 : (e.start + e.count - 1).tdiv i.gran = (e.start + e.count - 1) / i.gran := Int.tdiv_eq_ediv_of_nonneg (by omega)
          have d1 : 0 ≤ e.start / i.gran ∧ e.start / i.gran ≤ 4096 := by
            refine ⟨Int.ediv_nonneg (by omega) (by omega), ?_⟩
            have := Int.ediv_le_self i.gran (show 0 ≤ e.start by omega); omega
          have d2 : 0 ≤ (e.start + e.count - 1) / i.gran ∧ (e.start + e.count - 1) / i.gran ≤ 4096 := by
            refine ⟨Int.ediv_nonneg (by omega) (by omega), ?_⟩
            have := Int.ediv_le_self i.gran (show 0 ≤ e.start + e.count - 1 by omega); omega
          have W2 : IntKind.i64.wrap (e.start / i.gran) = e.start / i.gran := i64_fits (by omega)
          have W3 : IntKind.i64.wrap (e.start + e.count) = e.start + e.count := i64_fits (by omega)
          have W4 : IntKind.i64.wrap (e.start + e.count - 1) = e.start + e.count - 1 := i64_fits (by omega)
          have W5 : IntKind.i64.wrap ((e.start + e.count - 1) / i.gran) = (e.start + e.count - 1) / i.gran := i64_fits (by omega)
          have W6 : IntKind.i64.wrap ((e.start + e.count - 1) / i.gran - e.start / i.gran) = (e.start + e.count - 1) / i.gran - e.start / i.gran := i64_fits (by omega)
          have W7 : IntKind.i64.wrap ((e.start + e.count - 1) / i.gran - e.start / i.gran + 1) = (e.start + e.count - 1) / i.gran - e.start / i.gran + 1 := i64_fits (by omega)
          unfold eExt
          rw [cal_code env56 rfl]; simp only [fn56, slAll, Nat.reduceBEq, Nat.reduceLeDiff, Nat.reduceAdd, List.length_cons, List.length_nil]
          simp only [F0, F1, F2, F3, W1, W2, W3, W4, W5, W6, W7, Q1, Q2, Zg, slAll, slsAll, Nat.reduceMul, Nat.reduceBEq, Nat.reduceLT, Nat.reduceLeDiff, memAll, vAll, reduceCtorEq, Nat.reduceEqDiff, Nat.reduceAdd, Nat.reduceLT, Nat.reduceLeDiff, Nat.beq]
end Go.Proofs.YtdahanchdjadiaaGreatDoor.V

namespace Go.Proofs.YtdahanchdjadiaaGreatDoor.V
def yR (s : Int) (n : Nat) : List (List PV) := (List.range n).map fun (j : Nat) => [PV.int .i64 (s + (j : Int))]
theorem yR_snoc (s : Int) (n : Nat) : yR s (n + 1) = yR s n ++ [[.int .i64 (s + (n : Int))]] := by simp [yR, List.range_succ]
theorem yR_len (s : Int) (n : Nat) : (yR s n).length = n := by simp [yR]
theorem yR_take (s : Int) {n m : Nat} (h : m ≤ n) : (yR s n).take m = yR s m := by
  unfold yR
  rw [← List.map_take, List.take_range, Nat.min_eq_left h]
theorem yR_at {s : Int} {n j : Nat} {x : List PV} (h : (yR s n)[j]? = some x) : j < n ∧ x = [.int .i64 (s + (j : Int))] := by
  have hj := (List.getElem?_eq_some_iff.1 h).1
  rw [yR_len] at hj
  refine ⟨hj, ?_⟩
  unfold yR at h
  rw [List.getElem?_map, List.getElem?_range hj] at h
  simpa using h.symm
theorem loop57 {s : Int} {n : Nat} (hs : 0 ≤ s ∧ s ≤ 100000) (hn : n ≤ 100000)
   {st : St} (h : st.head [0, 1, 5, 6] st.boxes.length = some ⟨[.yld, .pv (.iptr [.int .i64 s, .int .i64 n] 0), .any, .any, .any, .pv (.int .i64 n), .pv (.int .i64 (0 : Nat)), .any, .any, .any, .any, .any, .any, .any, .any, .any, .any], [], [], some none⟩) :
   den env fn57_l1 st = some (.normal, ⟨[.any, .any, .any, .any, .any, .any, .any, .any, .any, .any, .any, .any, .any, .any, .any, .any, .any], [], yR s n, some none⟩) := by
  unfold fn57_l1
  refine clean_up (env := env) n (fun i => ⟨[.yld, .pv (.iptr [.int .i64 s, .int .i64 n] 0), .any, .any, .any, .pv (.int .i64 n), .pv (.int .i64 i), .any, .any, .any, .any, .any, .any, .any, .any, .any, .any], [], yR s i, some none⟩) (fun _ => some (.normal, ⟨[.any, .any, .any, .any, .any, .any, .any, .any, .any, .any, .any, .any, .any, .any, .any, .any, .any], [], yR s n, some none⟩)) h (fun _ => rfl) (fun _ => rfl) ?_ ?_
  · intro i rb hi ih
    have hi1 := i64_next hi (by unfold lim; omega)
    have F1 : ((i : Int) < (n : Int)) = True := eq_true (by omega)
    have W1 : IntKind.i64.wrap (s + (i : Int)) = s + (i : Int) := i64_fits (by omega)
    simp only [fn57_b0, F1, W1, memAll, vAll, reduceCtorEq, Nat.reduceEqDiff, Nat.reduceAdd, Nat.reduceLT, Nat.reduceLeDiff, Nat.beq]
    rw [ih _ (by simp only [hi1]; rw [yR_snoc]; rfl)]
  · intro rb
    simp only [fn57_b0, Int.lt_irrefl, memAll, vAll, reduceCtorEq, Nat.reduceEqDiff, Nat.reduceAdd, Nat.reduceLT, Nat.reduceLeDiff, Nat.beq]
    rfl
theorem loop57o {s : Int} {n m : Nat} (hs : 0 ≤ s ∧ s ≤ 100000) (hn : n ≤ 100000) (hm : m < n)
   {st : St} (h : st.head [0, 1, 5, 6] st.boxes.length = some ⟨[.yld, .pv (.iptr [.int .i64 s, .int .i64 n] 0), .any, .any, .any, .pv (.int .i64 n), .pv (.int .i64 (0 : Nat)), .any, .any, .any, .any, .any, .any, .any, .any, .any, .any], [], [], some (some (m + 1))⟩) :
   den env fn57_l1 st = some (.ret, ⟨[.any, .any, .any, .any, .any, .any, .any, .any, .any, .any, .any, .any, .any, .any, .any, .any, .any], [], yR s (m + 1), some (some (m + 1))⟩) := by
  unfold fn57_l1
  refine clean_up (env := env) m (fun i => ⟨[.yld, .pv (.iptr [.int .i64 s, .int .i64 n] 0), .any, .any, .any, .pv (.int .i64 n), .pv (.int .i64 i), .any, .any, .any, .any, .any, .any, .any, .any, .any, .any], [], yR s i, some (some (m + 1))⟩) (fun _ => some (.ret, ⟨[.any, .any, .any, .any, .any, .any, .any, .any, .any, .any, .any, .any, .any, .any, .any, .any, .any], [], yR s (m + 1), some (some (m + 1))⟩)) h (fun _ => rfl) (fun _ => rfl) ?_ ?_
  · intro i rb hi ih
    have hi1 := i64_next hi (by unfold lim; omega)
    have F1 : ((i : Int) < (n : Int)) = True := eq_true (by omega)
    have F2 : ((yR s i).length < m + 1) = True := eq_true (by rw [yR_len]; omega)
    have F3 : ((yR s i).length + 1 == m + 1) = false := by rw [yR_len]; simp; omega
    have W1 : IntKind.i64.wrap (s + (i : Int)) = s + (i : Int) := i64_fits (by omega)
    simp only [fn57_b0, F1, F2, F3, W1, memAll, vAll, reduceCtorEq, Nat.reduceEqDiff, Nat.reduceAdd, Nat.reduceLT, Nat.reduceLeDiff, Nat.beq]
    rw [ih _ (by simp only [hi1]; rw [yR_snoc]; rfl)]
  · intro rb
    have F1 : ((m : Int) < (n : Int)) = True := eq_true (by omega)
    have F2 : ((yR s m).length < m + 1) = True := eq_true (by rw [yR_len]; omega)
    have F3 : ((yR s m).length + 1 == m + 1) = true := by rw [yR_len]; simp
    have W1 : IntKind.i64.wrap (s + (m : Int)) = s + (m : Int) := i64_fits (by omega)
    simp only [fn57_b0, F1, F2, F3, W1, memAll, vAll, reduceCtorEq, Nat.reduceEqDiff, Nat.reduceAdd, Nat.reduceLT, Nat.reduceLeDiff, Nat.beq]
    rw [yR_snoc]
    rfl
theorem iter57 {s : Int} {n : Nat} (hs : 0 ≤ s ∧ s ≤ 100000) (hn : n ≤ 100000) : iter env 57 [.iptr [.int .i64 s, .int .i64 n] 0] none = some (yR s n) := by
  rw [iter_code env57 rfl rfl]
  simp only [fn57, ystart, z_map_cons, z_map_nil, z_len_cons, z_len_nil, z_repl_zero, z_repl_succ, z_cons_app, z_nil_app, Nat.reduceAdd, Nat.reduceSub]
  simp only [ memAll, vAll, reduceCtorEq, Nat.reduceEqDiff, Nat.reduceAdd, Nat.reduceLT, Nat.reduceLeDiff, Nat.beq]
  rw [loop57 hs hn]
  rotate_left
  · rfl
  · rfl
theorem iter57o {s : Int} {n m : Nat} (hs : 0 ≤ s ∧ s ≤ 100000) (hn : n ≤ 100000) (hm : m < n) : iter env 57 [.iptr [.int .i64 s, .int .i64 n] 0] (some (m + 1)) = some ((yR s n).take (m + 1)) := by
  rw [yR_take s (by omega), iter_code env57 rfl rfl]
  simp only [fn57, ystart, z_map_cons, z_map_nil, z_len_cons, z_len_nil, z_repl_zero, z_repl_succ, z_cons_app, z_nil_app, Nat.reduceAdd, Nat.reduceSub]
  simp only [ memAll, vAll, reduceCtorEq, Nat.reduceEqDiff, Nat.reduceAdd, Nat.reduceLT, Nat.reduceLeDiff, Nat.beq]
  rw [loop57o hs hn hm]
  rotate_left
  · rfl
  · rfl
theorem cal24 {e : Exn} : cal env 24 [eExt e] = some [(.func 57 [.iptr [.int .i64 e.start, .int .i64 e.count] 0], false)] := by
  unfold eExt
  rw [cal_code env24 rfl]; simp only [fn24]; simp only [start, z_map_cons, z_map_nil, z_len_cons, z_len_nil, z_repl_zero, z_repl_succ, z_cons_app, z_nil_app, Nat.reduceAdd, Nat.reduceSub]
  simp only [ memAll, vAll, reduceCtorEq, Nat.reduceEqDiff, Nat.reduceAdd, Nat.reduceLT, Nat.reduceLeDiff, Nat.beq]
def begV (n : Int) : Int := if n = 4096 then 0 else n + 1
def begE (n : Int) : Int := if n = 4096 then 6 else 0
def endV (n : Int) : Int := if n = 0 then 0 else n - 1
def endE (n : Int) : Int := if n = 0 then 12 else 0
theorem cal23 {n : Int} (hn : 0 ≤ n ∧ n ≤ 4096) : cal env 23 [.int .i64 n] = some [(.int .i64 (begV n), false), (.int .i64 (begE n), false)] := by
  have W : IntKind.i64.wrap (n + 1) = n + 1 := i64_fits (by omega)
  unfold begV begE
  by_cases c : n = 4096
  · have F1 : (n == 4096) = true := by simp [c]
    rw [if_pos c, if_pos c]
    rw [cal_code env23 rfl]; simp only [fn23]; simp only [start, z_map_cons, z_map_nil, z_len_cons, z_len_nil, z_repl_zero, z_repl_succ, z_cons_app, z_nil_app, Nat.reduceAdd, Nat.reduceSub]
    simp only [F1, memAll, vAll, reduceCtorEq, Nat.reduceEqDiff, Nat.reduceAdd, Nat.reduceLT, Nat.reduceLeDiff, Nat.beq]
  · have F1 : (n == 4096) = false := by simp [c]
    rw [if_neg c, if_neg c]
    rw [cal_code env23 rfl]; simp only [fn23]; simp only [start, z_map_cons, z_map_nil, z_len_cons, z_len_nil, z_repl_zero, z_repl_succ, z_cons_app, z_nil_app, Nat.reduceAdd, Nat.reduceSub]
    simp only [F1, W, memAll, vAll, reduceCtorEq, Nat.reduceEqDiff, Nat.reduceAdd, Nat.reduceLT, Nat.reduceLeDiff, Nat.beq]
theorem cal37 {n : Int} (hn : 0 ≤ n ∧ n ≤ 4096) : cal env 37 [.int .i64 n] = some [(.int .i64 (endV n), false), (.int .i64 (endE n), false)] := by
  have W : IntKind.i64.wrap (n - 1) = n - 1 := i64_fits (by omega)
  unfold endV endE
  by_cases c : n = 0
  · have F1 : (n == 0) = true := by simp [c]
    rw [if_pos c, if_pos c]
    rw [cal_code env37 rfl]; simp only [fn37]; simp only [start, z_map_cons, z_map_nil, z_len_cons, z_len_nil, z_repl_zero, z_repl_succ, z_cons_app, z_nil_app, Nat.reduceAdd, Nat.reduceSub]
    simp only [F1, memAll, vAll, reduceCtorEq, Nat.reduceEqDiff, Nat.reduceAdd, Nat.reduceLT, Nat.reduceLeDiff, Nat.beq]
  · have F1 : (n == 0) = false := by simp [c]
    rw [if_neg c, if_neg c]
    rw [cal_code env37 rfl]; simp only [fn37]; simp only [start, z_map_cons, z_map_nil, z_len_cons, z_len_nil, z_repl_zero, z_repl_succ, z_cons_app, z_nil_app, Nat.reduceAdd, Nat.reduceSub]
    simp only [F1, W, memAll, vAll, reduceCtorEq, Nat.reduceEqDiff, Nat.reduceAdd, Nat.reduceLT, Nat.reduceLeDiff, Nat.beq]
end Go.Proofs.YtdahanchdjadiaaGreatDoor.V

namespace Go.Proofs.YtdahanchdjadiaaGreatDoor.V
theorem good_iff {i : Itn} : goodFrom i 0 = true ↔ ∀ g (h : g < i.act.length), badG i g i.act[g] = false := by
  unfold goodFrom
  rw [List.drop_zero, List.all_eq_true]
  constructor
  · intro h g hg
    have := h g (List.mem_range.2 hg)
    rw [List.getD_eq_getElem?_getD, List.getElem?_eq_getElem hg] at this
    simpa using this
  · intro h g hg
    have hg := List.mem_range.1 hg
    rw [List.getD_eq_getElem?_getD, List.getElem?_eq_getElem hg]
    simpa using h g hg
theorem okItn_iff {i : Itn} : okItn i = true ↔ szOkI i.size i.gran = true ∧ (i.act.length : Int) = grN i.size i.gran ∧ okB i.bm = true ∧ i.bm.size = (i.act.length : Int) ∧ ∀ g (h : g < i.act.length), badG i g i.act[g] = false := by
  unfold okItn okI0
  rw [Bool.and_eq_true, good_iff]
  simp [and_assoc]
theorem badG_in {i : Itn} {g : Nat} {n : Int} (h : badG i g n = false) : (0 ≤ n ∧ n ≤ 4096) ∧ (0 < n → getX i.bm g = true) := by
  unfold badG at h
  simp only [Bool.or_eq_false_iff, decide_eq_false_iff_not, Bool.and_eq_false_iff, Bool.not_eq_false'] at h
  obtain ⟨h1, h2, h3⟩ := h
  refine ⟨by omega, fun h4 => ?_⟩
  rcases h3 with h3 | h3
  · omega
  · simpa using h3
theorem act_in {i : Itn} (h : okItn i = true) {g : Nat} (hg : g < i.act.length) : 0 ≤ i.act[g] ∧ i.act[g] ≤ 4096 := (badG_in ((okItn_iff.1 h).2.2.2.2 g hg)).1
def actTo (v : Int → Int) (l : List Int) (s j : Nat) : List Int := l.mapIdx fun k n => if s ≤ k ∧ k < s + j then v n else n
theorem actTo_len (v : Int → Int) (l : List Int) (s j : Nat) : (actTo v l s j).length = l.length := by simp [actTo]
theorem actTo_at {v : Int → Int} {l : List Int} {s j k : Nat} (h : k < (actTo v l s j).length) : (actTo v l s j)[k] = if s ≤ k ∧ k < s + j then v (l[k]'(by rw [actTo_len] at h; exact h)) else l[k]'(by rw [actTo_len] at h; exact h) := List.getElem_mapIdx
theorem actTo_zero (v : Int → Int) (l : List Int) (s : Nat) : actTo v l s 0 = l := by
  apply List.ext_getElem
  · exact actTo_len ..
  · intro k h1 h2
    rw [actTo_at, if_neg (by omega)]
theorem actTo_get (v : Int → Int) {l : List Int} {s j : Nat} (h : s + j < l.length) : (actTo v l s j)[s + j]? = some l[s + j] := by
  rw [List.getElem?_eq_getElem (by rw [actTo_len]; exact h), actTo_at, if_neg (by omega)]
theorem actTo_set (v : Int → Int) {l : List Int} {s j : Nat} (h : s + j < l.length) : (actTo v l s j).set (s + j) (v l[s + j]) = actTo v l s (j + 1) := by
  apply List.ext_getElem
  · simp [actTo_len]
  · intro k h1 h2
    rw [List.getElem_set, actTo_at, actTo_at]
    split
    · subst_vars; rw [if_pos (by omega)]
    · by_cases c : s ≤ k ∧ k < s + j
      · rw [if_pos c, if_pos (by omega)]
      · rw [if_neg c, if_neg (by omega)]
def badA (er : Int → Int) (l : List Int) (s c : Nat) : Int := match ((l.drop s).take c).find? fun n => er n != 0 with
  | some n => er n
  | none => 0
theorem badA_cases (er : Int → Int) {l : List Int} {s c : Nat} (h : s + c ≤ l.length) : (badA er l s c = 0 ∧ ∀ j (hj : j < c), er (l[s + j]'(by omega)) = 0) ∨ ∃ m, ∃ hm : m < c, (∀ j (hj : j < m), er (l[s + j]'(by omega)) = 0) ∧ er (l[s + m]'(by omega)) ≠ 0 ∧ badA er l s c = er (l[s + m]'(by omega)) := by
  induction c generalizing s with
  | zero => exact .inl ⟨by simp [badA], fun j hj => by omega⟩
  | succ c ih =>
    have hs : s < l.length := by omega
    have e : badA er l s (c + 1) = if er l[s] = 0 then badA er l (s + 1) c else er l[s] := by
      unfold badA
      rw [List.drop_eq_getElem_cons hs, List.take_succ_cons, List.find?_cons]
      by_cases c0 : er l[s] = 0
      · rw [if_pos c0]; simp [c0]
      · rw [if_neg c0]
        have : (er l[s] != 0) = true := by simp [c0]
        rw [this]
    rw [e]
    by_cases c0 : er l[s] = 0
    · rw [if_pos c0]
      rcases ih (s := s + 1) (by omega) with ⟨h1, h2⟩ | ⟨m, hm, h1, h2, h3⟩
      · refine .inl ⟨h1, fun j hj => ?_⟩
        cases j with
        | zero => exact c0
        | succ j =>
          have := h2 j (by omega)
          simp only [show s + 1 + j = s + (j + 1) by omega] at this
          exact this
      · refine .inr ⟨m + 1, by omega, fun j hj => ?_, ?_, ?_⟩
        · cases j with
          | zero => exact c0
          | succ j =>
            have := h1 j (by omega)
            simp only [show s + 1 + j = s + (j + 1) by omega] at this
            exact this
        · simp only [show s + 1 + m = s + (m + 1) by omega] at h2
          exact h2
        · rw [h3]
          simp only [show s + 1 + m = s + (m + 1) by omega]
    · rw [if_neg c0]
      exact .inr ⟨0, by omega, fun j hj => by omega, c0, rfl⟩
def cgE (er : Int → Int) (i : Itn) (e : Exn) : Int := if okItn i = false then 3 else if tchB i.size e = false then 2 else badA er i.act (tchX i.size i.gran e).start.toNat (tchX i.size i.gran e).count.toNat
def cgI (v er : Int → Int) (i : Itn) (e : Exn) : Itn := if cgE er i e = 0 then { i with act := actTo v i.act (tchX i.size i.gran e).start.toNat (tchX i.size i.gran e).count.toNat } else zItn
def cgX (er : Int → Int) (i : Itn) (e : Exn) : Exn := if cgE er i e = 0 then tchX i.size i.gran e else ⟨0, 0⟩
theorem cloneI {es : List PV} (hl : es.length ≤ lim) : cal env 38 [.list 1 es] = some [(.list 1 es, true)] := (cal_ext env38).trans (if_pos ⟨rfl, hl⟩)
set_option maxRecDepth 20000 in
theorem cal22 {f : Nat} {v er : Int → Int} (hf : ∀ n, 0 ≤ n ∧ n ≤ 4096 → cal env f [.int .i64 n] = some [(.int .i64 (v n), false), (.int .i64 (er n), false)]) {i : Itn} {e : Exn} (hl : i.act.length ≤ lim) :
    cal env 22 [eItn i, eExt e, .func f []] = some [(eItn (cgI v er i e), false), (eExt (cgX er i e), false), (.int .i64 (cgE er i e), false)] := by
  have e0 := cal10 (i := i) hl
  have eI5 : eItn i = .agg [.int .i64 i.size, .int .i64 i.gran, .list 1 (i.act.map eI), .int .i64 i.bm.size, .list 1 (i.bm.ws.map eW)] := rfl
  have eX : eExt e = .agg [.int .i64 e.start, .int .i64 e.count] := rfl
  have hz : eExt ⟨0, 0⟩ = .agg [.int .i64 0, .int .i64 0] := rfl
  have Z0 : ((0 : Int) != 0) = false := rfl
  have Z3 : ((3 : Int) != 0) = true := rfl
  have Z2 : ((2 : Int) != 0) = true := rfl
  have N3 : ¬ ((3 : Int) = 0) := by decide
  have N2 : ¬ ((2 : Int) = 0) := by decide
  unfold chkI at e0
  cases c0 : okItn i with
  | false =>
    have hE : cgE er i e = 3 := by unfold cgE; rw [c0]; rfl
    unfold cgI cgX
    rw [hE, if_neg N3, if_neg N3, hz, eItn_zero]
    rw [c0] at e0
    rw [eI5] at e0 ⊢
    rw [eX]
    rw [cal_code env22 rfl]; simp only [fn22, slAll, Nat.reduceBEq, Nat.reduceLeDiff, Nat.reduceAdd, List.length_cons, List.length_nil]
    simp only [e0, Z3, slAll, slsAll, Nat.reduceMul, Nat.reduceBEq, Nat.reduceLT, Nat.reduceLeDiff, memAll, vAll, reduceCtorEq, Nat.reduceEqDiff, Nat.reduceAdd, Nat.reduceLT, Nat.reduceLeDiff, Nat.beq]
  | true =>
    obtain ⟨h1, h2, h3, h4, h5⟩ := okItn_iff.1 c0
    rw [c0, if_pos rfl] at e0
    have e1 := cal56 (i := i) (e := e) h1
    unfold tchE at e1
    have P5 : ∀ a b c d e : PV, part [a, b, c, d, e] 0 (some 5) = some (.agg [a, b, c, d, e]) := fun _ _ _ _ _ => rfl
    have P2 : ∀ a b : PV, part [a, b] 0 (some 2) = some (.agg [a, b]) := fun _ _ => rfl
    cases c1 : tchB i.size e with
    | false =>
      have hE : cgE er i e = 2 := by unfold cgE; rw [c0, c1]; rfl
      unfold cgI cgX
      rw [hE, if_neg N2, if_neg N2, hz, eItn_zero]
      have ht : tchX i.size i.gran e = ⟨0, 0⟩ := by unfold tchX; rw [c1]; rfl
      rw [c1, ht, hz, if_neg (by decide)] at e1
      rw [eI5] at e0 e1 ⊢
      rw [eX] at e1 ⊢
      rw [cal_code env22 rfl]; simp only [fn22, slAll, Nat.reduceBEq, Nat.reduceLeDiff, Nat.reduceAdd, List.length_cons, List.length_nil]
      simp only [e0, e1, Z0, Z2, P5, P2, slAll, slsAll, Nat.reduceMul, Nat.reduceBEq, Nat.reduceLT, Nat.reduceLeDiff, memAll, vAll, reduceCtorEq, Nat.reduceEqDiff, Nat.reduceAdd, Nat.reduceLT, Nat.reduceLeDiff, Nat.beq]
    | true =>
      have hgl := grN_le h1
      obtain ⟨t1, t2, t3⟩ := tch_in h1 c1
      have e2 := cal24 (e := tchX i.size i.gran e)
      have e4 := cloneI (es := i.act.map eI) (by simpa using hl)
      have hE : cgE er i e = badA er i.act (tchX i.size i.gran e).start.toNat (tchX i.size i.gran e).count.toNat := by unfold cgE; rw [c0, c1]; rfl
      rw [c1, if_pos rfl] at e1
      unfold cgI cgX
      rw [hE]
      generalize tchX i.size i.gran e = t at *
      obtain ⟨ts, tc⟩ := t
      simp only at t1 t2 t3
      obtain ⟨s, rfl⟩ : ∃ s : Nat, ts = (s : Int) := ⟨ts.toNat, by omega⟩
      obtain ⟨c, rfl⟩ : ∃ c : Nat, tc = (c : Int) := ⟨tc.toNat, by omega⟩
      simp only [Int.toNat_natCast]
      have hx : eExt ⟨(s : Int), (c : Int)⟩ = .agg [.int .i64 (s : Int), .int .i64 (c : Int)] := rfl
      rw [hx] at e1 e2
      rw [eI5] at e0 e1 ⊢
      rw [eX] at e1 ⊢
      have hlen : i.act.length ≤ 4096 := by have := (szOkI_iff.1 h1).2.1; omega
      have hsc : s + c ≤ i.act.length := by omega
      have hit := iter57 (s := (s : Int)) (n := c) (by omega) (by omega)
      have hb0 : (i.act.map eI) = (actTo v i.act s 0).map eI := by rw [actTo_zero]
      have hset : ∀ j (hj : j < c), ((actTo v i.act s j).map eI).set (s + j) (.int .i64 (v (i.act[s + j]'(by omega)))) = (actTo v i.act s (j + 1)).map eI := fun j hj => by
        rw [← actTo_set v (show s + j < i.act.length by omega), List.map_set]; rfl
      have hget : ∀ j (hj : j < c), ((actTo v i.act s j).map eI)[s + j]? = some (.int .i64 (i.act[s + j]'(by omega))) := fun j hj => by
        rw [List.getElem?_map, actTo_get v (show s + j < i.act.length by omega)]; rfl
      have hcl : ∀ j, (actTo v i.act s j).length = i.act.length := fun j => actTo_len ..
      have hact : ∀ j (hj : j < c), 0 ≤ i.act[s + j]'(by omega) ∧ i.act[s + j]'(by omega) ≤ 4096 := fun j hj => act_in c0 _
      have hround : ∀ j (hj : j < c), cal env f [.int .i64 (i.act[s + j]'(by omega))] = some [(.int .i64 (v (i.act[s + j]'(by omega))), false), (.int .i64 (er (i.act[s + j]'(by omega))), false)] := fun j hj => hf _ (hact j hj)
      rcases badA_cases er hsc with ⟨b1, b2⟩ | ⟨m, hm, b1, b2, b3⟩
      · rw [if_pos b1, if_pos b1, b1, hx]
        rw [cal_code env22 rfl]; simp only [fn22]; simp only [start, z_map_cons, z_map_nil, z_len_cons, z_len_nil, z_repl_zero, z_repl_succ, z_cons_app, z_nil_app, Nat.reduceAdd, Nat.reduceSub]
        simp only [e0, e1, e2, e4, Z0, Z2, P5, P2, List.length_map, memAll, vAll, reduceCtorEq, Nat.reduceEqDiff, Nat.reduceAdd, Nat.reduceLT, Nat.reduceLeDiff, Nat.beq]
        rw [rng_idx (env := env) (fun j => [⟨false, [.pv (.int .i64 i.size), .pv (.int .i64 i.gran), .row 1 ((actTo v i.act s j).map eI), .pv (.int .i64 i.bm.size), .pv (.list 1 (i.bm.ws.map eW))]⟩, ⟨false, [.pv (.int .i64 e.start), .pv (.int .i64 e.count)]⟩, ⟨false, [.pv (.func f [])]⟩, ⟨false, [.pv (.int .i64 0), .pv (.int .i64 0), .row 1 [], .pv (.int .i64 0), .row 1 []]⟩, ⟨false, [.pv (.int .i64 0), .pv (.int .i64 0)]⟩, ⟨false, [.pv (.int .i64 0)]⟩, ⟨false, [.pv (.int .i64 (s : Int)), .pv (.int .i64 (c : Int))]⟩, ⟨false, [.pv (.int .i64 0)]⟩]) (xs := yR s c) rfl hit (by simp only [actTo_zero]) ?_]
        · simp only [yR_len, eItn, vRng, memAll, vAll, reduceCtorEq, Nat.reduceEqDiff, Nat.reduceAdd, Nat.reduceLT, Nat.reduceLeDiff, Nat.beq]
        · intro j x hj sl0
          obtain ⟨hjc, rfl⟩ := yR_at hj
          have g1 := hget j hjc
          have g2 := hset j hjc
          have g3 := hround j hjc
          have g4 : er (i.act[s + j]'(by omega)) = 0 := b2 j hjc
          rw [g4] at g3
          have g5 : (s : Int) + (j : Int) = ((s + j : Nat) : Int) := by omega
          have g6 : index (.int .i64 ((s + j : Nat) : Int)) i.act.length = some (s + j) := index_nat (by omega)
          rw [g5]
          refine ⟨?_, ?_⟩
          rotate_left
          · simp only [fn22_b0, fn22_b1, g1, g2, g3, g6, hcl, Z0, List.length_map, vRng, memAll, vAll, reduceCtorEq, Nat.reduceEqDiff, Nat.reduceAdd, Nat.reduceLT, Nat.reduceLeDiff, Nat.beq]
            rfl
      · rw [if_neg (by rw [b3]; exact b2), if_neg (by rw [b3]; exact b2), b3, hz, eItn_zero]
        rw [cal_code env22 rfl]; simp only [fn22]; simp only [start, z_map_cons, z_map_nil, z_len_cons, z_len_nil, z_repl_zero, z_repl_succ, z_cons_app, z_nil_app, Nat.reduceAdd, Nat.reduceSub]
        simp only [e0, e1, e2, e4, Z0, Z2, P5, P2, List.length_map, memAll, vAll, reduceCtorEq, Nat.reduceEqDiff, Nat.reduceAdd, Nat.reduceLT, Nat.reduceLeDiff, Nat.beq]
        have hito := iter57o (s := (s : Int)) (n := c) (m := m) (by omega) (by omega) hm
        rw [rng_idx_out (env := env) (fun j => [⟨false, [.pv (.int .i64 i.size), .pv (.int .i64 i.gran), .row 1 ((actTo v i.act s j).map eI), .pv (.int .i64 i.bm.size), .pv (.list 1 (i.bm.ws.map eW))]⟩, ⟨false, [.pv (.int .i64 e.start), .pv (.int .i64 e.count)]⟩, ⟨false, [.pv (.func f [])]⟩, ⟨false, [.pv (.int .i64 0), .pv (.int .i64 0), .row 1 [], .pv (.int .i64 0), .row 1 []]⟩, ⟨false, [.pv (.int .i64 0), .pv (.int .i64 0)]⟩, ⟨false, [.pv (.int .i64 0)]⟩, ⟨false, [.pv (.int .i64 (s : Int)), .pv (.int .i64 (c : Int))]⟩, ⟨false, [.pv (.int .i64 0)]⟩]) m (e := .ret) (s := ⟨[], [⟨false, [.pv (.int .i64 i.size), .pv (.int .i64 i.gran), .row 1 ((actTo v i.act s (m + 1)).map eI), .pv (.int .i64 i.bm.size), .pv (.list 1 (i.bm.ws.map eW))]⟩, ⟨false, [.pv (.int .i64 e.start), .pv (.int .i64 e.count)]⟩, ⟨false, [.pv (.func f [])]⟩, ⟨false, [.pv (.int .i64 0), .pv (.int .i64 0), .pv (.list 1 []), .pv (.int .i64 0), .pv (.list 1 [])]⟩, ⟨false, [.pv (.int .i64 0), .pv (.int .i64 0)]⟩, ⟨false, [.pv (.int .i64 (er (i.act[s + m]'(by omega))))]⟩, ⟨false, [.pv (.int .i64 (s : Int)), .pv (.int .i64 (c : Int))]⟩, ⟨true, [.pv (.int .i64 (er (i.act[s + m]'(by omega))))]⟩], [], none⟩) rfl hit hito (by simp only [actTo_zero]) (by rw [yR_len]; exact hm) ?_ (by intro h; cases h) ?_]
        · simp only [vRng, memAll, vAll, reduceCtorEq, Nat.reduceEqDiff, Nat.reduceAdd, Nat.reduceLT, Nat.reduceLeDiff, Nat.beq]
        · intro j x hjm hj sl0
          obtain ⟨hjc, rfl⟩ := yR_at hj
          have g1 := hget j hjc
          have g2 := hset j hjc
          have g3 := hround j hjc
          have g4 : er (i.act[s + j]'(by omega)) = 0 := b1 j hjm
          rw [g4] at g3
          have g5 : (s : Int) + (j : Int) = ((s + j : Nat) : Int) := by omega
          have g6 : index (.int .i64 ((s + j : Nat) : Int)) i.act.length = some (s + j) := index_nat (by omega)
          rw [g5]
          refine ⟨?_, ?_⟩
          rotate_left
          · simp only [fn22_b0, fn22_b1, g1, g2, g3, g6, hcl, Z0, List.length_map, vRng, memAll, vAll, reduceCtorEq, Nat.reduceEqDiff, Nat.reduceAdd, Nat.reduceLT, Nat.reduceLeDiff, Nat.beq]
            rfl
        · intro x hj sl0
          obtain ⟨hjc, rfl⟩ := yR_at hj
          have g1 := hget m hjc
          have g2 := hset m hjc
          have g3 := hround m hjc
          have g5 : (s : Int) + (m : Int) = ((s + m : Nat) : Int) := by omega
          have g6 : index (.int .i64 ((s + m : Nat) : Int)) i.act.length = some (s + m) := index_nat (by omega)
          have g7 : (er (i.act[s + m]'(by omega)) != 0) = true := by simpa using b2
          rw [g5]
          refine ⟨?_, ?_⟩
          rotate_left
          · simp only [fn22_b0, fn22_b1, g1, g2, g3, g6, g7, hcl, List.length_map, vRng, memAll, vAll, reduceCtorEq, Nat.reduceEqDiff, Nat.reduceAdd, Nat.reduceLT, Nat.reduceLeDiff, Nat.beq]
            rfl
end Go.Proofs.YtdahanchdjadiaaGreatDoor.V

namespace Go.Proofs.YtdahanchdjadiaaGreatDoor.V
def newG (b : Bm) (s : Int) (n : Nat) : Bool := (List.range n).any fun (k : Nat) => !getX b (s + (k : Int))
theorem newG_succ (b : Bm) (s : Int) (n : Nat) : newG b s (n + 1) = (newG b s n || !getX b (s + (n : Int))) := by
  unfold newG
  rw [List.range_succ, List.any_append]
  simp
def bgE (i : Itn) (e : Exn) : Int := cgE begE i e
def bgS (i : Itn) (e : Exn) : Bool := decide (bgE i e = 0) && newG i.bm (tchX i.size i.gran e).start (tchX i.size i.gran e).count.toNat
def bgI (i : Itn) (e : Exn) : Itn := if bgE i e = 0 then { cgI begV begE i e with bm := chO orW i.bm (tchX i.size i.gran e) } else zItn
theorem cg_ok {er : Int → Int} {i : Itn} {e : Exn} (hn : ∀ n, er n = 0 ∨ er n = 6 ∨ er n = 12) (h : cgE er i e = 0) : okItn i = true ∧ tchB i.size e = true := by
  unfold cgE at h
  split at h
  · cases h
  · split at h
    · cases h
    · rename_i h1 h2
      exact ⟨by simpa using h1, by simpa using h2⟩
theorem begE_cases (n : Int) : begE n = 0 ∨ begE n = 6 ∨ begE n = 12 := by unfold begE; split <;> simp
theorem tch_fit {i : Itn} {e : Exn} (h : okItn i = true) (hb : tchB i.size e = true) : chE i.bm (tchX i.size i.gran e) = 0 := by
  obtain ⟨h1, h2, h3, h4, h5⟩ := okItn_iff.1 h
  obtain ⟨t1, t2, t3⟩ := tch_in h1 hb
  unfold chE
  have : bmFit i.bm.size (tchX i.size i.gran e) = true := bmFit_iff.2 (by omega)
  rw [h3, this]
  rfl
set_option maxRecDepth 20000 in
theorem cal7 {i : Itn} {e : Exn} (hl : i.act.length ≤ lim) :
    cal env 7 [eItn i, eExt e] = some [(eItn (bgI i e), false), (.bool (bgS i e), false), (.int .i64 (bgE i e), false)] := by
  have e0 := cal22 (v := begV) (er := begE) (fun n hn => cal23 hn) (i := i) (e := e) hl
  have eI5 : ∀ i : Itn, eItn i = .agg [.int .i64 i.size, .int .i64 i.gran, .list 1 (i.act.map eI), .int .i64 i.bm.size, .list 1 (i.bm.ws.map eW)] := fun _ => rfl
  have eX : ∀ e : Exn, eExt e = .agg [.int .i64 e.start, .int .i64 e.count] := fun _ => rfl
  have P5 : ∀ a b c d e : PV, part [a, b, c, d, e] 0 (some 5) = some (.agg [a, b, c, d, e]) := fun _ _ _ _ _ => rfl
  have P2 : ∀ a b : PV, part [a, b] 0 (some 2) = some (.agg [a, b]) := fun _ _ => rfl
  have Z0 : ((0 : Int) != 0) = false := rfl
  unfold bgS bgI bgE
  by_cases c0 : cgE begE i e = 0
  · obtain ⟨k0, k1⟩ := cg_ok begE_cases c0
    obtain ⟨h1, h2, h3, h4, h5⟩ := okItn_iff.1 k0
    obtain ⟨t1, t2, t3⟩ := tch_in h1 k1
    have hgl := grN_le h1
    have hlen : i.act.length ≤ 4096 := by have := (szOkI_iff.1 h1).2.1; omega
    have hX : cgX begE i e = tchX i.size i.gran e := by unfold cgX; rw [if_pos c0]
    have e3 := cal26 (b := i.bm) (e := tchX i.size i.gran e)
    have e2 := cal24 (e := tchX i.size i.gran e)
    rw [tch_fit k0 k1] at e3
    rw [hX, c0] at e0
    rw [if_pos c0, decide_eq_true c0, c0]
    generalize cgI begV begE i e = o at *
    generalize tchX i.size i.gran e = t at *
    obtain ⟨ts, tc⟩ := t
    simp only at t1 t2 t3 ⊢
    obtain ⟨s, rfl⟩ : ∃ s : Nat, ts = (s : Int) := ⟨ts.toNat, by omega⟩
    obtain ⟨c, rfl⟩ : ∃ c : Nat, tc = (c : Int) := ⟨tc.toNat, by omega⟩
    simp only [Int.toNat_natCast, Bool.true_and]
    have hit := iter57 (s := (s : Int)) (n := c) (by omega) (by omega)
    generalize chO orW i.bm ⟨(s : Int), (c : Int)⟩ = b2 at *
    have eA : ∀ b : Bm, eBm b = .agg [.int .i64 b.size, .list 1 (b.ws.map eW)] := fun _ => rfl
    rw [eA, eX, eA] at e3
    simp only [eX] at e2
    simp only [eI5, eX] at e0 ⊢
    rw [cal_code env7 rfl]; simp only [fn7]; simp only [start, z_map_cons, z_map_nil, z_len_cons, z_len_nil, z_repl_zero, z_repl_succ, z_cons_app, z_nil_app, Nat.reduceAdd, Nat.reduceSub]
    simp only [e0, e2, e3, Z0, P5, P2, part_bm, List.length_map, memAll, vAll, reduceCtorEq, Nat.reduceEqDiff, Nat.reduceAdd, Nat.reduceLT, Nat.reduceLeDiff, Nat.beq]
    rw [rng_idx (env := env) (fun j => [⟨false, [.pv (.int .i64 i.size), .pv (.int .i64 i.gran), .pv (.list 1 (i.act.map eI)), .pv (.int .i64 i.bm.size), .pv (.list 1 (i.bm.ws.map eW))]⟩, ⟨false, [.pv (.int .i64 e.start), .pv (.int .i64 e.count)]⟩, ⟨false, [.pv (.int .i64 0), .pv (.int .i64 0), .row 1 [], .pv (.int .i64 0), .row 1 []]⟩, ⟨false, [.pv (.int .i64 o.size), .pv (.int .i64 o.gran), .pv (.list 1 (o.act.map eI)), .pv (.int .i64 o.bm.size), .pv (.list 1 (o.bm.ws.map eW))]⟩, ⟨false, [.pv (.int .i64 (s : Int)), .pv (.int .i64 (c : Int))]⟩, ⟨false, [.pv (.bool (newG i.bm s j))]⟩]) (xs := yR s c) rfl hit rfl ?_]
    · simp only [yR_len, e3, P5, P2, part_bm, vRng, memAll, vAll, reduceCtorEq, Nat.reduceEqDiff, Nat.reduceAdd, Nat.reduceLT, Nat.reduceLeDiff, Nat.beq]
    · intro j x hj sl0
      obtain ⟨hjc, rfl⟩ := yR_at hj
      have g1 := cal25 (b := i.bm) (s := (s : Int) + (j : Int))
      rw [eA] at g1
      simp only [newG_succ]
      cases hb : newG i.bm s j with
      | true =>
        refine ⟨?_, ?_⟩
        rotate_left
        · simp only [fn7_b0, fn7_b1, g1, part_bm, Bool.true_or, vRng, memAll, vAll, reduceCtorEq, Nat.reduceEqDiff, Nat.reduceAdd, Nat.reduceLT, Nat.reduceLeDiff, Nat.beq]
          rfl
      | false =>
        refine ⟨?_, ?_⟩
        rotate_left
        · simp only [fn7_b0, fn7_b1, g1, part_bm, Bool.false_or, vRng, memAll, vAll, reduceCtorEq, Nat.reduceEqDiff, Nat.reduceAdd, Nat.reduceLT, Nat.reduceLeDiff, Nat.beq]
          rfl
  · have hI : cgI begV begE i e = zItn := by unfold cgI; rw [if_neg c0]
    have hX : cgX begE i e = ⟨0, 0⟩ := by unfold cgX; rw [if_neg c0]
    have Zc : (cgE begE i e != 0) = true := by simpa using c0
    rw [hI, hX] at e0
    rw [if_neg c0, decide_eq_false c0, Bool.false_and]
    simp only [eX, eItn_zero] at e0 ⊢
    rw [eI5] at e0 ⊢
    rw [cal_code env7 rfl]; simp only [fn7]; simp only [start, z_map_cons, z_map_nil, z_len_cons, z_len_nil, z_repl_zero, z_repl_succ, z_cons_app, z_nil_app, Nat.reduceAdd, Nat.reduceSub]
    simp only [e0, Zc, P5, P2, memAll, vAll, reduceCtorEq, Nat.reduceEqDiff, Nat.reduceAdd, Nat.reduceLT, Nat.reduceLeDiff, Nat.beq]
theorem cal12 {i : Itn} {e : Exn} (hl : i.act.length ≤ lim) :
    cal env 12 [eItn i, eExt e] = some [(eItn (cgI endV endE i e), false), (.int .i64 (cgE endE i e), false)] := by
  have e0 := cal22 (v := endV) (er := endE) (fun n hn => cal37 hn) (i := i) (e := e) hl
  have eI5 : ∀ i : Itn, eItn i = .agg [.int .i64 i.size, .int .i64 i.gran, .list 1 (i.act.map eI), .int .i64 i.bm.size, .list 1 (i.bm.ws.map eW)] := fun _ => rfl
  have eX : ∀ e : Exn, eExt e = .agg [.int .i64 e.start, .int .i64 e.count] := fun _ => rfl
  have P5 : ∀ a b c d e : PV, part [a, b, c, d, e] 0 (some 5) = some (.agg [a, b, c, d, e]) := fun _ _ _ _ _ => rfl
  have P2 : ∀ a b : PV, part [a, b] 0 (some 2) = some (.agg [a, b]) := fun _ _ => rfl
  generalize cgI endV endE i e = o at *
  generalize cgE endE i e = q at *
  generalize cgX endE i e = t at *
  simp only [eI5, eX] at e0 ⊢
  rw [cal_code env12 rfl]; simp only [fn12]; simp only [start, z_map_cons, z_map_nil, z_len_cons, z_len_nil, z_repl_zero, z_repl_succ, z_cons_app, z_nil_app, Nat.reduceAdd, Nat.reduceSub]
  simp only [e0, P5, P2, memAll, vAll, reduceCtorEq, Nat.reduceEqDiff, Nat.reduceAdd, Nat.reduceLT, Nat.reduceLeDiff, Nat.beq]
end Go.Proofs.YtdahanchdjadiaaGreatDoor.V

namespace Go.Proofs.YtdahanchdjadiaaGreatDoor.V
def clnAt (i : Itn) : Nat → Bm × Bool
  | 0 => (i.bm, false)
  | k + 1 => if i.act.getD k 0 = 0 ∧ getX i.bm k = true then (chO clW (clnAt i k).1 ⟨k, 1⟩, true) else clnAt i k
theorem cln_yes {i : Itn} {k : Nat} (h : k < i.act.length) (h0 : i.act[k] = 0) (h1 : getX i.bm k = true) : clnAt i (k + 1) = (chO clW (clnAt i k).1 ⟨k, 1⟩, true) := by
  rw [clnAt, if_pos]
  rw [List.getD_eq_getElem?_getD, List.getElem?_eq_getElem h]
  exact ⟨h0, h1⟩
theorem cln_no {i : Itn} {k : Nat} (h : k < i.act.length) (h1 : ¬ (i.act[k] = 0 ∧ getX i.bm k = true)) : clnAt i (k + 1) = clnAt i k := by
  rw [clnAt, if_neg]
  rw [List.getD_eq_getElem?_getD, List.getElem?_eq_getElem h]
  exact h1
def boxC (i : Itn) (p : Bm × Bool) : List BV := [.pv (.int .i64 i.size), .pv (.int .i64 i.gran), if p.2 then .pv (.list 1 (i.act.map eI)) else .row 1 (i.act.map eI), .pv (.int .i64 p.1.size), .pv (.list 1 (p.1.ws.map eW))]
theorem boxC_t (i : Itn) (b : Bm) : boxC i (b, true) = [.pv (.int .i64 i.size), .pv (.int .i64 i.gran), .pv (.list 1 (i.act.map eI)), .pv (.int .i64 b.size), .pv (.list 1 (b.ws.map eW))] := rfl
theorem boxC_f (i : Itn) (b : Bm) : boxC i (b, false) = [.pv (.int .i64 i.size), .pv (.int .i64 i.gran), .row 1 (i.act.map eI), .pv (.int .i64 b.size), .pv (.list 1 (b.ws.map eW))] := rfl
def resCl (i : Itn) : Option (Ex × St) := some (.normal, ⟨sl 45 [(2, .pbox 1 0), (3, .any), (4, .pbox 2 0), (5, .pv (.bool (clnAt i i.act.length).2))], [⟨false, cellsI i⟩, ⟨false, [.pv (.int .i64 0), .pv (.int .i64 0), .row 1 [], .pv (.int .i64 0), .row 1 []]⟩, ⟨false, boxC i (clnAt i i.act.length)⟩], [], none⟩)
set_option maxRecDepth 20000 in
theorem loop14 {i0 : Itn} (hl : i0.act.length ≤ lim) {st : St} (h : st.head [1, 2, 4, 5, 18, 19, 20] st.boxes.length = some ⟨sl 45 [(1, .pbox 0 0), (2, .pbox 1 0), (4, .pbox 2 0), (5, .pv (.bool (clnAt i0 ((0 : Nat))).2)), (18, .pv (.list 1 (i0.act.map eI))), (19, .pv (.int .i64 i0.act.length)), (20, .pv (.int .i64 (0 : Nat)))], [⟨false, cellsI i0⟩, ⟨false, [.pv (.int .i64 0), .pv (.int .i64 0), .row 1 [], .pv (.int .i64 0), .row 1 []]⟩, ⟨false, boxC i0 (clnAt i0 ((0 : Nat)))⟩], [], none⟩) :
   den env fn14_l1 st = resCl i0 := by
  unfold fn14_l1
  refine clean_up (env := env) (nb := 3) (i0.act.length) (fun i => ⟨sl 45 [(1, .pbox 0 0), (2, .pbox 1 0), (4, .pbox 2 0), (5, .pv (.bool (clnAt i0 (i)).2)), (18, .pv (.list 1 (i0.act.map eI))), (19, .pv (.int .i64 i0.act.length)), (20, .pv (.int .i64 i))], [⟨false, cellsI i0⟩, ⟨false, [.pv (.int .i64 0), .pv (.int .i64 0), .row 1 [], .pv (.int .i64 0), .row 1 []]⟩, ⟨false, boxC i0 (clnAt i0 (i))⟩], [], none⟩) (fun i => resCl i0) h (fun _ => rfl) (fun _ => by simp only [slAll, slsAll, Nat.reduceMul, Nat.reduceBEq, Nat.reduceLT, Nat.reduceLeDiff, Nat.reduceAdd, decide_true, Bool.and_self, Bool.true_and]) ?_ ?_
  · intro i rb hi ih

    have hi1 := i64_next hi hl
    have F1 : ((i : Int) < (i0.act.length : Int)) = True := eq_true (by omega)
    have e1 := cal25 (b := i0.bm) (s := (i : Int))
    have eA : ∀ b : Bm, eBm b = .agg [.int .i64 b.size, .list 1 (b.ws.map eW)] := fun _ => rfl
    have eX : ∀ e : Exn, eExt e = .agg [.int .i64 e.start, .int .i64 e.count] := fun _ => rfl
    have e2 := cal39 (b := (clnAt i0 i).1) (e := ⟨(i : Int), 1⟩)
    rw [eA] at e1
    have hx : (i0.act.map eI)[i]? = some (.int .i64 i0.act[i]) := by rw [List.getElem?_map, List.getElem?_eq_getElem hi]; rfl
    by_cases c0 : i0.act[i] = 0
    · have F2 : (i0.act[i] == 0) = true := by simpa using c0
      cases c1 : getX i0.bm (i : Int) with
      | true =>
        rw [c1] at e1
        have hn := cln_yes hi c0 c1
        generalize clnAt i0 i = p at *
        rw [hn] at ih
        generalize chO clW p.1 ⟨(i : Int), 1⟩ = b2 at *
        rw [eA, eX, eA] at e2
        obtain ⟨pb, pf⟩ := p
        cases pf with
        | true =>
          simp only [fn14_b0, F1, F2, hx, e1, e2, part_bm, index_nat hi, List.length_map, cellsI_eq, boxC_t, slAll, slsAll, Nat.reduceMul, Nat.reduceBEq, Nat.reduceLT, Nat.reduceLeDiff, memAll, vAll, reduceCtorEq, Nat.reduceEqDiff, Nat.reduceAdd, Nat.reduceLT, Nat.reduceLeDiff, Nat.beq]
          rw [ih _ (by simp only [hi1, cellsI_eq, boxC_t, slAll, slsAll, Nat.reduceMul, Nat.reduceBEq, Nat.reduceLT, Nat.reduceLeDiff, memAll, vAll, reduceCtorEq, Nat.reduceEqDiff, Nat.reduceAdd, Nat.reduceLT, Nat.reduceLeDiff, Nat.beq] <;> rfl)]
        | false =>
          simp only [fn14_b0, F1, F2, hx, e1, e2, part_bm, index_nat hi, List.length_map, cellsI_eq, boxC_f, slAll, slsAll, Nat.reduceMul, Nat.reduceBEq, Nat.reduceLT, Nat.reduceLeDiff, memAll, vAll, reduceCtorEq, Nat.reduceEqDiff, Nat.reduceAdd, Nat.reduceLT, Nat.reduceLeDiff, Nat.beq]
          rw [ih _ (by simp only [hi1, cellsI_eq, boxC_t, slAll, slsAll, Nat.reduceMul, Nat.reduceBEq, Nat.reduceLT, Nat.reduceLeDiff, memAll, vAll, reduceCtorEq, Nat.reduceEqDiff, Nat.reduceAdd, Nat.reduceLT, Nat.reduceLeDiff, Nat.beq] <;> rfl)]
      | false =>
        rw [c1] at e1
        have hn := cln_no hi (by rw [c1]; simp)
        generalize clnAt i0 i = p at *
        rw [hn] at ih
        obtain ⟨pb, pf⟩ := p
        cases pf with
        | true =>
          simp only [fn14_b0, F1, F2, hx, e1, part_bm, index_nat hi, List.length_map, cellsI_eq, boxC_t, slAll, slsAll, Nat.reduceMul, Nat.reduceBEq, Nat.reduceLT, Nat.reduceLeDiff, memAll, vAll, reduceCtorEq, Nat.reduceEqDiff, Nat.reduceAdd, Nat.reduceLT, Nat.reduceLeDiff, Nat.beq]
          rw [ih _ (by simp only [hi1, cellsI_eq, boxC_t, slAll, slsAll, Nat.reduceMul, Nat.reduceBEq, Nat.reduceLT, Nat.reduceLeDiff, memAll, vAll, reduceCtorEq, Nat.reduceEqDiff, Nat.reduceAdd, Nat.reduceLT, Nat.reduceLeDiff, Nat.beq] <;> rfl)]
        | false =>
          simp only [fn14_b0, F1, F2, hx, e1, part_bm, index_nat hi, List.length_map, cellsI_eq, boxC_f, slAll, slsAll, Nat.reduceMul, Nat.reduceBEq, Nat.reduceLT, Nat.reduceLeDiff, memAll, vAll, reduceCtorEq, Nat.reduceEqDiff, Nat.reduceAdd, Nat.reduceLT, Nat.reduceLeDiff, Nat.beq]
          rw [ih _ (by simp only [hi1, cellsI_eq, boxC_f, slAll, slsAll, Nat.reduceMul, Nat.reduceBEq, Nat.reduceLT, Nat.reduceLeDiff, memAll, vAll, reduceCtorEq, Nat.reduceEqDiff, Nat.reduceAdd, Nat.reduceLT, Nat.reduceLeDiff, Nat.beq] <;> rfl)]
    · have F2 : (i0.act[i] == 0) = false := by simpa using c0
      have hn := cln_no hi (fun h => c0 h.1)
      generalize clnAt i0 i = p at *
      rw [hn] at ih
      obtain ⟨pb, pf⟩ := p
      cases pf with
      | true =>
        simp only [fn14_b0, F1, F2, hx, part_bm, index_nat hi, List.length_map, cellsI_eq, boxC_t, slAll, slsAll, Nat.reduceMul, Nat.reduceBEq, Nat.reduceLT, Nat.reduceLeDiff, memAll, vAll, reduceCtorEq, Nat.reduceEqDiff, Nat.reduceAdd, Nat.reduceLT, Nat.reduceLeDiff, Nat.beq]
        rw [ih _ (by simp only [hi1, cellsI_eq, boxC_t, slAll, slsAll, Nat.reduceMul, Nat.reduceBEq, Nat.reduceLT, Nat.reduceLeDiff, memAll, vAll, reduceCtorEq, Nat.reduceEqDiff, Nat.reduceAdd, Nat.reduceLT, Nat.reduceLeDiff, Nat.beq] <;> rfl)]
      | false =>
        simp only [fn14_b0, F1, F2, hx, part_bm, index_nat hi, List.length_map, cellsI_eq, boxC_f, slAll, slsAll, Nat.reduceMul, Nat.reduceBEq, Nat.reduceLT, Nat.reduceLeDiff, memAll, vAll, reduceCtorEq, Nat.reduceEqDiff, Nat.reduceAdd, Nat.reduceLT, Nat.reduceLeDiff, Nat.beq]
        rw [ih _ (by simp only [hi1, cellsI_eq, boxC_f, slAll, slsAll, Nat.reduceMul, Nat.reduceBEq, Nat.reduceLT, Nat.reduceLeDiff, memAll, vAll, reduceCtorEq, Nat.reduceEqDiff, Nat.reduceAdd, Nat.reduceLT, Nat.reduceLeDiff, Nat.beq] <;> rfl)]
  · intro rb

    unfold resCl
    generalize clnAt i0 i0.act.length = p at *
    obtain ⟨pb, pf⟩ := p
    cases pf with
    | true => simp only [fn14_b0, Int.lt_irrefl, cellsI_eq, boxC_t, slAll, slsAll, Nat.reduceMul, Nat.reduceBEq, Nat.reduceLT, Nat.reduceLeDiff, memAll, vAll, reduceCtorEq, Nat.reduceEqDiff, Nat.reduceAdd, Nat.reduceLT, Nat.reduceLeDiff, Nat.beq]
    | false => simp only [fn14_b0, Int.lt_irrefl, cellsI_eq, boxC_f, slAll, slsAll, Nat.reduceMul, Nat.reduceBEq, Nat.reduceLT, Nat.reduceLeDiff, memAll, vAll, reduceCtorEq, Nat.reduceEqDiff, Nat.reduceAdd, Nat.reduceLT, Nat.reduceLeDiff, Nat.beq]

def clnI (i : Itn) : Itn := if okItn i then { i with bm := (clnAt i i.act.length).1 } else i
def clnF (i : Itn) : Bool := okItn i && (clnAt i i.act.length).2
theorem cal14 {i : Itn} (hl : i.act.length ≤ lim) : cal env 14 [eItn i] = some [(eItn (clnI i), false), (.bool (clnF i), false)] := by
  have e0 := cal10 (i := i) hl
  have eI5 : ∀ i : Itn, eItn i = .agg [.int .i64 i.size, .int .i64 i.gran, .list 1 (i.act.map eI), .int .i64 i.bm.size, .list 1 (i.bm.ws.map eW)] := fun _ => rfl
  have P5 : ∀ a b c d e : PV, part [a, b, c, d, e] 0 (some 5) = some (.agg [a, b, c, d, e]) := fun _ _ _ _ _ => rfl
  have Z0 : ((0 : Int) != 0) = false := rfl
  have Z3 : ((3 : Int) != 0) = true := rfl
  have e4 := cloneI (es := i.act.map eI) (by simpa using hl)
  unfold chkI at e0
  unfold clnI clnF
  cases c0 : okItn i with
  | false =>
    rw [c0, if_neg (by decide)] at e0
    rw [if_neg (by decide)]
    rw [eI5] at e0 ⊢
    rw [cal_code env14 rfl]; simp only [fn14, slAll, Nat.reduceBEq, Nat.reduceLeDiff, Nat.reduceAdd, List.length_cons, List.length_nil]
    simp only [e0, Z3, P5, slAll, slsAll, Nat.reduceMul, Nat.reduceBEq, Nat.reduceLT, Nat.reduceLeDiff, memAll, vAll, reduceCtorEq, Nat.reduceEqDiff, Nat.reduceAdd, Nat.reduceLT, Nat.reduceLeDiff, Nat.beq]
  | true =>
    rw [c0, if_pos rfl] at e0
    rw [if_pos rfl, Bool.true_and]
    simp only [eI5] at e0 ⊢
    rw [cal_code env14 rfl]; simp only [fn14, slAll, Nat.reduceBEq, Nat.reduceLeDiff, Nat.reduceAdd, List.length_cons, List.length_nil]
    simp only [e0, e4, Z0, P5, List.length_map, slAll, slsAll, Nat.reduceMul, Nat.reduceBEq, Nat.reduceLT, Nat.reduceLeDiff, memAll, vAll, reduceCtorEq, Nat.reduceEqDiff, Nat.reduceAdd, Nat.reduceLT, Nat.reduceLeDiff, Nat.beq]
    rw [loop14 (i0 := i) hl]
    rotate_left
    · rw [cellsI_eq, clnAt, boxC_f]
      simp only [slAll, slsAll, Nat.reduceMul, Nat.reduceBEq, Nat.reduceLT, Nat.reduceLeDiff, Nat.reduceAdd, decide_true, Bool.and_self, Bool.true_and] <;> rfl
    · unfold resCl
      rw [cellsI_eq]
      generalize clnAt i i.act.length = p at *
      obtain ⟨pb, pf⟩ := p
      cases pf with
      | true =>
        rw [boxC_t]
        simp only [e0, e4, Z0, P5, List.length_map, slAll, slsAll, Nat.reduceMul, Nat.reduceBEq, Nat.reduceLT, Nat.reduceLeDiff, memAll, vAll, reduceCtorEq, Nat.reduceEqDiff, Nat.reduceAdd, Nat.reduceLT, Nat.reduceLeDiff, Nat.beq]
      | false =>
        rw [boxC_f]
        simp only [e0, e4, Z0, P5, List.length_map, slAll, slsAll, Nat.reduceMul, Nat.reduceBEq, Nat.reduceLT, Nat.reduceLeDiff, memAll, vAll, reduceCtorEq, Nat.reduceEqDiff, Nat.reduceAdd, Nat.reduceLT, Nat.reduceLeDiff, Nat.beq]
end Go.Proofs.YtdahanchdjadiaaGreatDoor.V

namespace Go.Proofs.YtdahanchdjadiaaGreatDoor.V
def eY (c : Nat) : PV := .int .u8 (c : Int)
def most : Nat := 9007199254740991
def clipN (n : Int) : Nat := if n < 0 ∨ n > 9007199254740991 then 0 else n.toNat
theorem clip_le (n : Int) : clipN n ≤ most := by unfold clipN most; split <;> omega
def encF : Nat → Nat → List Nat
  | 0, n => [n % 256]
  | f + 1, n => if n < 128 then [n] else (n % 128 + 128) :: encF f (n / 128)
def encN (n : Nat) : List Nat := encF 8 n
def encI (n : Int) : List Nat := encN (clipN n)
def encT (n : Nat) : Nat := (encN n).length - 1
theorem encF_len : ∀ f n, 1 ≤ (encF f n).length ∧ (encF f n).length ≤ f + 1
  | 0, n => by simp [encF]
  | f + 1, n => by
    unfold encF
    split
    · simp
    · have := encF_len f (n / 128)
      simp only [List.length_cons]; omega
theorem encN_len (n : Nat) : 1 ≤ (encN n).length ∧ (encN n).length ≤ 9 := encF_len 8 n
theorem encI_len (n : Int) : 1 ≤ (encI n).length ∧ (encI n).length ≤ 9 := encN_len _
theorem encF_at : ∀ (f n i : Nat), n < 128 ^ (f + 1) → i + 1 < (encF f n).length → 128 ≤ n / 128 ^ i ∧ (encF f n)[i]? = some (n / 128 ^ i % 128 + 128)
  | 0, n, i, hn, hi => by simp [encF] at hi
  | f + 1, n, i, hn, hi => by
    unfold encF at hi ⊢
    by_cases c : n < 128
    · rw [if_pos c] at hi; simp at hi
    · rw [if_neg c] at hi ⊢
      cases i with
      | zero => simp; omega
      | succ i =>
        have h2 : n / 128 < 128 ^ (f + 1) := Nat.div_lt_of_lt_mul (by rw [← Nat.pow_succ']; exact hn)
        have := encF_at f (n / 128) i h2 (by simp only [List.length_cons] at hi; omega)
        rw [Nat.div_div_eq_div_mul, ← Nat.pow_succ'] at this
        exact ⟨this.1, by rw [List.getElem?_cons_succ]; exact this.2⟩
theorem encF_last : ∀ (f n : Nat), n < 128 ^ (f + 1) → n / 128 ^ ((encF f n).length - 1) < 128 ∧ encF f n = (encF f n).take ((encF f n).length - 1) ++ [n / 128 ^ ((encF f n).length - 1)]
  | 0, n, hn => by
    have : n < 128 := by simpa using hn
    simp [encF]; omega
  | f + 1, n, hn => by
    unfold encF
    by_cases c : n < 128
    · rw [if_pos c]; simp; exact c
    · rw [if_neg c]
      have h2 : n / 128 < 128 ^ (f + 1) := Nat.div_lt_of_lt_mul (by rw [← Nat.pow_succ']; exact hn)
      obtain ⟨h3, h4⟩ := encF_last f (n / 128) h2
      have h5 := (encF_len f (n / 128)).1
      rw [Nat.div_div_eq_div_mul, ← Nat.pow_succ'] at h3 h4
      have e : ((n % 128 + 128) :: encF f (n / 128)).length - 1 = (encF f (n / 128)).length - 1 + 1 := by simp only [List.length_cons]; omega
      rw [e]
      refine ⟨h3, ?_⟩
      rw [List.take_succ_cons, List.cons_append, ← h4]
theorem most_pow {n : Nat} (h : n ≤ most) : n < 128 ^ (8 + 1) := by unfold most at h; omega
theorem encN_at {n i : Nat} (h : n ≤ most) (hi : i < encT n) : 128 ≤ n / 128 ^ i ∧ (encN n)[i]? = some (n / 128 ^ i % 128 + 128) := encF_at 8 n i (most_pow h) (by unfold encT encN at hi; omega)
theorem encN_last {n : Nat} (h : n ≤ most) : n / 128 ^ encT n < 128 ∧ encN n = (encN n).take (encT n) ++ [n / 128 ^ encT n] := encF_last 8 n (most_pow h)
theorem encN_take {n i : Nat} (h : n ≤ most) (hi : i < encT n) : (encN n).take (i + 1) = (encN n).take i ++ [n / 128 ^ i % 128 + 128] := by
  have e := (encN_at h hi).2
  obtain ⟨h1, h2⟩ := List.getElem?_eq_some_iff.1 e
  rw [List.take_succ_eq_append_getElem h1, h2]
def decG : Nat → Nat → Nat → List Nat → Nat × Nat × Nat
  | 0, _, _, _ => (3, 0, 0)
  | _ + 1, _, _, [] => (10, 0, 0)
  | k + 1, i, n, b :: l => if b < 128 then (if (b = 0 ∧ 0 < i) ∨ most < n + b * 128 ^ i then (3, 0, 0) else (0, n + b * 128 ^ i, i + 1)) else decG k (i + 1) (n + b % 128 * 128 ^ i) l
def decN (l : List Nat) : Nat × Nat × Nat := decG 8 0 0 l
theorem decG_used : ∀ (k i n : Nat) (l : List Nat), (decG k i n l).1 = 0 → i < (decG k i n l).2.2 ∧ (decG k i n l).2.2 ≤ i + l.length ∧ (decG k i n l).2.1 ≤ most
  | 0, _, _, _, h => by simp [decG] at h
  | k + 1, _, _, [], h => by simp [decG] at h
  | k + 1, i, n, b :: l, h => by
    unfold decG at h ⊢
    by_cases c : b < 128
    · rw [if_pos c] at h ⊢
      by_cases c2 : (b = 0 ∧ 0 < i) ∨ most < n + b * 128 ^ i
      · rw [if_pos c2] at h; simp at h
      · rw [if_neg c2]
        simp only [List.length_cons]
        omega
    · rw [if_neg c] at h ⊢
      have := decG_used k (i + 1) _ l h
      simp only [List.length_cons]
      omega
theorem decN_used {l : List Nat} (h : (decN l).1 = 0) : 0 < (decN l).2.2 ∧ (decN l).2.2 ≤ l.length ∧ (decN l).2.1 ≤ most := by
  unfold decN at h ⊢
  obtain ⟨h1, h2, h3⟩ := decG_used 8 0 0 l h
  exact ⟨h1, by omega, h3⟩
end Go.Proofs.YtdahanchdjadiaaGreatDoor.V

namespace Go.Proofs.YtdahanchdjadiaaGreatDoor.V
def preN (l : List Nat) (m i : Nat) : List Nat := l ++ (encN m).take i
theorem preN_zero (l : List Nat) (m : Nat) : preN l m 0 = l := by simp [preN]
theorem preN_succ {m i : Nat} (l : List Nat) (h : m ≤ most) (hi : i < encT m) : preN l m (i + 1) = preN l m i ++ [m / 128 ^ i % 128 + 128] := by
  unfold preN; rw [encN_take h hi, List.append_assoc]
theorem preN_len (l : List Nat) (m i : Nat) : (preN l m i).length ≤ l.length + 9 := by
  have := encN_len m
  unfold preN; rw [List.length_append, List.length_take]; omega
theorem preN_last {m : Nat} (l : List Nat) (h : m ≤ most) : preN l m (encT m) ++ [m / 128 ^ encT m] = l ++ encN m := by
  unfold preN
  rw [List.append_assoc, ← (encN_last h).2]
theorem or128 {x : Nat} (h : x < 128) : IntKind.u8.wrap ((BitVec.ofInt IntKind.u8.bits (x : Int) ||| BitVec.ofInt IntKind.u8.bits 128).toNat : Int) = ((x + 128 : Nat) : Int) := by
  have key : ∀ x : Fin 128, IntKind.u8.wrap ((BitVec.ofInt IntKind.u8.bits ((x.val : Nat) : Int) ||| BitVec.ofInt IntKind.u8.bits 128).toNat : Int) = ((x.val + 128 : Nat) : Int) := by decide +kernel
  exact key ⟨x, h⟩
theorem u8_nat {x : Nat} (h : x < 256) : IntKind.u8.wrap (x : Int) = (x : Int) := by
  simp only [IntKind.wrap, IntKind.bits, IntKind.signed, Bool.false_and, Bool.false_eq_true, if_false]
  omega
theorem nat_tmod (x : Nat) : ((x : Nat) : Int).tmod 128 = ((x % 128 : Nat) : Int) := by rw [Int.tmod_eq_emod_of_nonneg (by omega)]; omega
theorem nat_tdiv (m i : Nat) : ((m / 128 ^ i : Nat) : Int).tdiv 128 = ((m / 128 ^ (i + 1) : Nat) : Int) := by
  rw [Nat.pow_succ, ← Nat.div_div_eq_div_mul]
  generalize m / 128 ^ i = q
  rw [Int.tdiv_eq_ediv_of_nonneg (by omega)]; omega
theorem nat_i64 {q : Nat} (h : q ≤ most) : IntKind.i64.wrap (q : Int) = (q : Int) := i64_fits (by unfold most at h; omega)
theorem nz128 : ((128 : Int) = 0) = False := eq_false (by decide)
theorem div_le (m i : Nat) : m / 128 ^ i ≤ m := Nat.div_le_self _ _
theorem loop75 {l : List Nat} {m : Nat} (hm : m ≤ most) (hl : l.length ≤ 1000000) {st : St} (h : st.head [0, 1, 21] st.boxes.length = some ⟨sl 27 [(0, .row 1 ((preN l m ((0 : Nat))).map eY)), (1, .pv (.int .i64 ((m / 128 ^ ((0 : Nat)) : Nat) : Int))), (21, .any)], [], [], none⟩) :
   den env fn75_l1 st = some (.normal, ⟨sl 27 [(0, .row 1 ((preN l m (encT m)).map eY)), (1, .pv (.int .i64 ((m / 128 ^ encT m : Nat) : Int))), (4, .any)], [], [], none⟩) := by
  unfold fn75_l1
  refine clean_up (env := env) (encT m) (fun i => ⟨sl 27 [(0, .row 1 ((preN l m (i)).map eY)), (1, .pv (.int .i64 ((m / 128 ^ (i) : Nat) : Int))), (21, .any)], [], [], none⟩) (fun i => some (.normal, ⟨sl 27 [(0, .row 1 ((preN l m (encT m)).map eY)), (1, .pv (.int .i64 ((m / 128 ^ encT m : Nat) : Int))), (4, .any)], [], [], none⟩)) h (fun _ => rfl) (fun _ => by simp only [slAll, slsAll, Nat.reduceMul, Nat.reduceBEq, Nat.reduceLT, Nat.reduceLeDiff, Nat.reduceAdd, decide_true, Bool.and_self, Bool.true_and]) ?_ ?_
  · intro i rb hi ih

    obtain ⟨q1, _⟩ := encN_at hm hi
    have F1 : (((m / 128 ^ i : Nat) : Int) ≥ 128) = True := eq_true (by omega)
    have F2 := nat_tmod (m / 128 ^ i)
    have hx : m / 128 ^ i % 128 < 128 := Nat.mod_lt _ (by decide)
    have F3 := u8_nat (x := m / 128 ^ i % 128) (by omega)
    have F4 := or128 hx
    have F5 := nat_tdiv m i
    have hd := div_le m (i + 1)
    have F6 := nat_i64 (Nat.le_trans hd hm)
    have F7 : ((preN l m i).length + 1 ≤ lim) = True := eq_true (by have := preN_len l m i; unfold lim; omega)
    have hs : (preN l m (i + 1)).map eY = (preN l m i).map eY ++ [.int .u8 ((m / 128 ^ i % 128 + 128 : Nat) : Int)] := by rw [preN_succ l hm hi, List.map_append]; rfl
    simp only [fn75_b0, F1, F2, F3, F4, F5, F6, F7, nz128, List.length_map, slAll, slsAll, Nat.reduceMul, Nat.reduceBEq, Nat.reduceLT, Nat.reduceLeDiff, memAll, vAll, reduceCtorEq, Nat.reduceEqDiff, Nat.reduceAdd, Nat.reduceLT, Nat.reduceLeDiff, Nat.beq]
    rw [ih _ (by rw [hs]; simp only [slAll, slsAll, Nat.reduceMul, Nat.reduceBEq, Nat.reduceLT, Nat.reduceLeDiff, memAll, vAll, reduceCtorEq, Nat.reduceEqDiff, Nat.reduceAdd, Nat.reduceLT, Nat.reduceLeDiff, Nat.beq] <;> rfl)]
  · intro rb

    have F1 : (((m / 128 ^ encT m : Nat) : Int) ≥ 128) = False := eq_false (by have := (encN_last hm).1; omega)
    simp only [fn75_b0, F1, slAll, slsAll, Nat.reduceMul, Nat.reduceBEq, Nat.reduceLT, Nat.reduceLeDiff, memAll, vAll, reduceCtorEq, Nat.reduceEqDiff, Nat.reduceAdd, Nat.reduceLT, Nat.reduceLeDiff, Nat.beq]

theorem cal75 {l : List Nat} {n : Int} (hl : l.length ≤ 1000000) : calL env 75 (.row 1 (l.map eY)) [.int .i64 n] = some ([(.list 1 ((l ++ encI n).map eY), true)], none) := by
  have hc := clip_le n
  have key : ∀ {st : St}, st.head [0, 1, 21] st.boxes.length = some ⟨sl 27 [(0, .row 1 (l.map eY)), (1, .pv (.int .i64 ((clipN n : Nat) : Int))), (21, .any)], [], [], none⟩ → _ := fun {st} h => loop75 (l := l) (m := clipN n) hc hl (st := st) (by rw [preN_zero]; simpa using h)
  have F8 := u8_nat (x := clipN n / 128 ^ encT (clipN n)) (by have := (encN_last hc).1; omega)
  have F9 : ((preN l (clipN n) (encT (clipN n))).length + 1 ≤ lim) = True := eq_true (by have := preN_len l (clipN n) (encT (clipN n)); unfold lim; omega)
  have hr : (l ++ encI n).map eY = (preN l (clipN n) (encT (clipN n))).map eY ++ [.int .u8 ((clipN n / 128 ^ encT (clipN n) : Nat) : Int)] := by
    show (l ++ encN (clipN n)).map eY = _
    rw [← preN_last l hc, List.map_append]; rfl
  rw [hr]
  rw [calL_code env75 rfl]
  by_cases c0 : n < 0
  · have F0 : (n < 0) = True := eq_true c0
    have e0 : clipN n = 0 := by unfold clipN; rw [if_pos (.inl c0)]
    simp only [fn75, slAll, Nat.reduceBEq, Nat.reduceLeDiff, Nat.reduceAdd, List.length_cons, List.length_nil]
    simp only [F0, slAll, slsAll, Nat.reduceMul, Nat.reduceBEq, Nat.reduceLT, Nat.reduceLeDiff, memAll, vAll, reduceCtorEq, Nat.reduceEqDiff, Nat.reduceAdd, Nat.reduceLT, Nat.reduceLeDiff, Nat.beq]
    rw [key (by rw [e0]; simp only [slAll, slsAll, Nat.reduceMul, Nat.reduceBEq, Nat.reduceLT, Nat.reduceLeDiff, Nat.reduceAdd, decide_true, Bool.and_self, Bool.true_and] <;> rfl)]
    simp only [F8, F9, List.length_map, slAll, slsAll, Nat.reduceMul, Nat.reduceBEq, Nat.reduceLT, Nat.reduceLeDiff, memAll, vAll, reduceCtorEq, Nat.reduceEqDiff, Nat.reduceAdd, Nat.reduceLT, Nat.reduceLeDiff, Nat.beq]
  · have F0 : (n < 0) = False := eq_false c0
    by_cases c1 : n > 9007199254740991
    · have F1 : (n > 9007199254740991) = True := eq_true c1
      have e0 : clipN n = 0 := by unfold clipN; rw [if_pos (.inr c1)]
      simp only [fn75, slAll, Nat.reduceBEq, Nat.reduceLeDiff, Nat.reduceAdd, List.length_cons, List.length_nil]
      simp only [F0, F1, slAll, slsAll, Nat.reduceMul, Nat.reduceBEq, Nat.reduceLT, Nat.reduceLeDiff, memAll, vAll, reduceCtorEq, Nat.reduceEqDiff, Nat.reduceAdd, Nat.reduceLT, Nat.reduceLeDiff, Nat.beq]
      rw [key (by rw [e0]; simp only [slAll, slsAll, Nat.reduceMul, Nat.reduceBEq, Nat.reduceLT, Nat.reduceLeDiff, Nat.reduceAdd, decide_true, Bool.and_self, Bool.true_and] <;> rfl)]
      simp only [F8, F9, List.length_map, slAll, slsAll, Nat.reduceMul, Nat.reduceBEq, Nat.reduceLT, Nat.reduceLeDiff, memAll, vAll, reduceCtorEq, Nat.reduceEqDiff, Nat.reduceAdd, Nat.reduceLT, Nat.reduceLeDiff, Nat.beq]
    · have F1 : (n > 9007199254740991) = False := eq_false c1
      have e0 : ((clipN n : Nat) : Int) = n := by unfold clipN; rw [if_neg (by omega)]; omega
      simp only [fn75, slAll, Nat.reduceBEq, Nat.reduceLeDiff, Nat.reduceAdd, List.length_cons, List.length_nil]
      simp only [F0, F1, slAll, slsAll, Nat.reduceMul, Nat.reduceBEq, Nat.reduceLT, Nat.reduceLeDiff, memAll, vAll, reduceCtorEq, Nat.reduceEqDiff, Nat.reduceAdd, Nat.reduceLT, Nat.reduceLeDiff, Nat.beq]
      rw [key (by rw [e0]; simp only [slAll, slsAll, Nat.reduceMul, Nat.reduceBEq, Nat.reduceLT, Nat.reduceLeDiff, Nat.reduceAdd, decide_true, Bool.and_self, Bool.true_and] <;> rfl)]
      simp only [F8, F9, List.length_map, slAll, slsAll, Nat.reduceMul, Nat.reduceBEq, Nat.reduceLT, Nat.reduceLeDiff, memAll, vAll, reduceCtorEq, Nat.reduceEqDiff, Nat.reduceAdd, Nat.reduceLT, Nat.reduceLeDiff, Nat.beq]
end Go.Proofs.YtdahanchdjadiaaGreatDoor.V

namespace Go.Proofs.YtdahanchdjadiaaGreatDoor.V
def decH : Nat → Nat → Nat → List Nat → Option (Nat × Nat × Nat)
  | 0, _, _, _ => none
  | _ + 1, _, _, [] => some (10, 0, 0)
  | k + 1, i, n, b :: l => if b < 128 then some (if (b = 0 ∧ 0 < i) ∨ most < n + b * 128 ^ i then (3, 0, 0) else (0, n + b * 128 ^ i, i + 1)) else decH k (i + 1) (n + b % 128 * 128 ^ i) l
theorem decG_H : ∀ (k i n : Nat) (l : List Nat), decG k i n l = (decH k i n l).getD (3, 0, 0)
  | 0, _, _, _ => rfl
  | _ + 1, _, _, [] => rfl
  | k + 1, i, n, b :: l => by
    unfold decG decH
    by_cases c : b < 128
    · rw [if_pos c, if_pos c]; rfl
    · rw [if_neg c, if_neg c]; exact decG_H k (i + 1) _ l
def accN (l : List Nat) : Nat → Nat
  | 0 => 0
  | i + 1 => accN l i + l.getD i 0 % 128 * 128 ^ i
theorem accN_lt (l : List Nat) : ∀ i, accN l i < 128 ^ i
  | 0 => by simp [accN]
  | i + 1 => by
    have h := accN_lt l i
    have h2 : l.getD i 0 % 128 < 128 := Nat.mod_lt _ (by decide)
    have h3 : l.getD i 0 % 128 * 128 ^ i ≤ 127 * 128 ^ i := Nat.mul_le_mul_right _ (by omega)
    unfold accN
    rw [Nat.pow_succ]
    omega
theorem pow8 {i : Nat} (h : i < 8) : 128 ^ (i + 1) ≤ 72057594037927936 := by
  have : 128 ^ (i + 1) ≤ 128 ^ 8 := Nat.pow_le_pow_right (by decide) (by omega)
  exact Nat.le_trans this (by decide)
theorem pow_128 (i : Nat) : 128 ^ i = 2 ^ (7 * i) := by rw [Nat.pow_mul]
theorem byte_and (f : Nat) {b : Nat} (h : b < 256) : IntKind.u8.wrap ((BitVec.ofInt IntKind.u8.bits (b : Int) &&& BitVec.ofInt IntKind.u8.bits 127).toNat : Int) = ((b % 128 : Nat) : Int) := by
  have key : ∀ x : Fin 256, IntKind.u8.wrap ((BitVec.ofInt IntKind.u8.bits ((x.val : Nat) : Int) &&& BitVec.ofInt IntKind.u8.bits 127).toNat : Int) = ((x.val % 128 : Nat) : Int) := by decide +kernel
  exact key ⟨b, h⟩
theorem byte_top {b : Nat} (h : b < 256) : (IntKind.u8.wrap ((BitVec.ofInt IntKind.u8.bits (b : Int) &&& BitVec.ofInt IntKind.u8.bits 128).toNat : Int) != 0) = decide (128 ≤ b) := by
  have key : ∀ x : Fin 256, (IntKind.u8.wrap ((BitVec.ofInt IntKind.u8.bits ((x.val : Nat) : Int) &&& BitVec.ofInt IntKind.u8.bits 128).toNat : Int) != 0) = decide (128 ≤ x.val) := by decide +kernel
  exact key ⟨b, h⟩
theorem shl_i64 {x i : Nat} (hx : x < 128) (hi : i < 8) : IntKind.i64.wrap ((x : Int) * 2 ^ (min (7 * (i : Int)).toNat IntKind.i64.bits)) = ((x * 128 ^ i : Nat) : Int) := by
  have h1 : (7 * (i : Int)).toNat = 7 * i := by omega
  have h2 : min (7 * i) IntKind.i64.bits = 7 * i := Nat.min_eq_left (by show 7 * i ≤ 64; omega)
  have h3 := pow8 hi
  have h4 : x * 128 ^ i ≤ 127 * 128 ^ i := Nat.mul_le_mul_right _ (by omega)
  rw [Nat.pow_succ] at h3
  rw [h1, h2]
  have h5 : (x : Int) * 2 ^ (7 * i) = ((x * 128 ^ i : Nat) : Int) := by rw [pow_128]; push_cast; rfl
  rw [h5]
  exact i64_fits (by omega)
theorem or_i64 {a x i : Nat} (ha : a < 128 ^ i) (hx : x < 128) (hi : i < 8) : IntKind.i64.wrap ((BitVec.ofInt IntKind.i64.bits (a : Int) ||| BitVec.ofInt IntKind.i64.bits ((x * 128 ^ i : Nat) : Int)).toNat : Int) = ((a + x * 128 ^ i : Nat) : Int) := by
  have h3 := pow8 hi
  have h4 : x * 128 ^ i ≤ 127 * 128 ^ i := Nat.mul_le_mul_right _ (by omega)
  rw [Nat.pow_succ] at h3
  have e1 : (BitVec.ofInt IntKind.i64.bits (a : Int)) = BitVec.ofNat 64 a := BitVec.ofInt_natCast 64 a
  have e2 : (BitVec.ofInt IntKind.i64.bits ((x * 128 ^ i : Nat) : Int)) = BitVec.ofNat 64 (x * 128 ^ i) := BitVec.ofInt_natCast 64 _
  have e3 : (BitVec.ofNat 64 a ||| BitVec.ofNat 64 (x * 128 ^ i)).toNat = a + x * 128 ^ i := by
    rw [BitVec.toNat_or, BitVec.toNat_ofNat, BitVec.toNat_ofNat, Nat.mod_eq_of_lt (by omega), Nat.mod_eq_of_lt (by omega), Nat.or_comm, Nat.mul_comm x, pow_128, ← Nat.two_pow_add_eq_or_of_lt (by rw [← pow_128]; exact ha), Nat.add_comm]
  rw [e1, e2]
  show IntKind.i64.wrap (((BitVec.ofNat 64 a ||| BitVec.ofNat 64 (x * 128 ^ i)).toNat : Nat) : Int) = _
  rw [e3]
  exact i64_fits (by omega)
def resH (l : List Nat) : Option (Nat × Nat × Nat) → Option (Ex × St)
  | none => some (.normal, ⟨sl 57 [(2, .any), (3, .any)], [⟨false, [.pv (.list 1 (l.map eY))]⟩], [], none⟩)
  | some (e, n, u) => some (.ret, ⟨sl 57 [(2, .pv (.int .i64 (n : Int))), (3, .pv (.int .i64 (e : Int)))], [⟨false, [.pv (.list 1 ((l.drop u).map eY))]⟩], [], none⟩)
theorem resH_none (l : List Nat) : resH l none = some (.normal, ⟨sl 57 [(2, .any), (3, .any)], [⟨false, [.pv (.list 1 (l.map eY))]⟩], [], none⟩) := rfl
theorem resH_some (l : List Nat) (e n u : Nat) : resH l (some (e, n, u)) = some (.ret, ⟨sl 57 [(2, .pv (.int .i64 (n : Int))), (3, .pv (.int .i64 (e : Int)))], [⟨false, [.pv (.list 1 ((l.drop u).map eY))]⟩], [], none⟩) := rfl
theorem loop64 {l : List Nat} (hb : ∀ c ∈ l, c < 256) (hl : l.length ≤ 1000000) {st : St} (h : st.head [0, 4, 7] st.boxes.length = some ⟨sl 57 [(0, .pbox 0 0), (4, .pv (.int .i64 (accN l ((0 : Nat)) : Int))), (7, .pv (.int .i64 (0 : Nat)))], [⟨false, [.pv (.list 1 (l.map eY))]⟩], [], none⟩) :
   den env fn64_l1 st = resH l (decH (8 - ((0 : Nat))) ((0 : Nat)) (accN l ((0 : Nat))) (l.drop ((0 : Nat)))) := by
  unfold fn64_l1
  refine clean_up (env := env) (nb := 1) (8) (fun i => ⟨sl 57 [(0, .pbox 0 0), (4, .pv (.int .i64 (accN l (i) : Int))), (7, .pv (.int .i64 i))], [⟨false, [.pv (.list 1 (l.map eY))]⟩], [], none⟩) (fun i => resH l (decH (8 - (i)) (i) (accN l (i)) (l.drop (i)))) h (fun _ => rfl) (fun _ => by simp only [slAll, slsAll, Nat.reduceMul, Nat.reduceBEq, Nat.reduceLT, Nat.reduceLeDiff, Nat.reduceAdd, decide_true, Bool.and_self, Bool.true_and]) ?_ ?_
  · intro i rb hi ih

    have hi1 := i64_next hi (by unfold lim; omega)
    have F1 : ((i : Int) < 8) = True := eq_true (by omega)
    rw [show 8 - i = (7 - i) + 1 by omega]
    by_cases c : i < l.length
    · have F2 : ((i : Int) ≥ (l.length : Int)) = False := eq_false (by omega)
      have hbi := hb _ (List.getElem_mem c)
      have e0 : l.drop i = l[i] :: l.drop (i + 1) := List.drop_eq_getElem_cons c
      have eg : l.getD i 0 = l[i] := by rw [List.getD_eq_getElem?_getD, List.getElem?_eq_getElem c]; rfl
      have ha := accN_lt l i
      have hx : l[i] % 128 < 128 := Nat.mod_lt _ (by decide)
      have F3 := byte_and i hbi
      have F4 : IntKind.i64.wrap ((l[i] % 128 : Nat) : Int) = ((l[i] % 128 : Nat) : Int) := i64_fits (by omega)
      have F5 : IntKind.i64.wrap (7 * (i : Int)) = 7 * (i : Int) := i64_fits (by omega)
      have F6 : (7 * (i : Int) < 0) = False := eq_false (by omega)
      have F7 := shl_i64 hx hi
      have F8 := or_i64 ha hx hi
      have F9 := byte_top hbi
      have hs : accN l (i + 1) = accN l i + l[i] % 128 * 128 ^ i := by show accN l i + l.getD i 0 % 128 * 128 ^ i = _; rw [eg]
      rw [← hs] at F8
      rw [e0]
      unfold decH
      by_cases c2 : l[i] < 128
      · rw [if_pos c2]
        rw [decide_eq_false (show ¬ 128 ≤ l[i] by omega)] at F9
        have e5 : accN l i + l[i] * 128 ^ i = accN l (i + 1) := by rw [hs, Nat.mod_eq_of_lt c2]
        rw [e5]
        by_cases c3 : l[i] = 0 ∧ 0 < i
        · rw [if_pos (.inl c3)]
          have G1 : ((l[i] : Int) == 0) = true := by simp [c3.1]
          have G2 : ((i : Int) > 0) = True := eq_true (by omega)
          simp only [fn64_b0, F1, F2, F3, F4, F5, F6, F7, F8, F9, G1, G2, eY, index_nat c, List.getElem?_map, List.getElem?_eq_getElem c, Option.map_some, List.length_map, resH_some, List.drop_zero, slAll, slsAll, Nat.reduceMul, Nat.reduceBEq, Nat.reduceLT, Nat.reduceLeDiff, memAll, vAll, reduceCtorEq, Nat.reduceEqDiff, Nat.reduceAdd, Nat.reduceLT, Nat.reduceLeDiff, Nat.beq]
          rfl
        · by_cases c4 : most < accN l (i + 1)
          · rw [if_pos (.inr c4)]
            have G3 : ((accN l (i + 1) : Int) > 9007199254740991) = True := eq_true (by unfold most at c4; omega)
            by_cases c5 : l[i] = 0
            · have G1 : ((l[i] : Int) == 0) = true := by simp [c5]
              have G2 : ((i : Int) > 0) = False := eq_false (by omega)
              simp only [fn64_b0, F1, F2, F3, F4, F5, F6, F7, F8, F9, G1, G2, G3, eY, index_nat c, List.getElem?_map, List.getElem?_eq_getElem c, Option.map_some, List.length_map, resH_some, List.drop_zero, slAll, slsAll, Nat.reduceMul, Nat.reduceBEq, Nat.reduceLT, Nat.reduceLeDiff, memAll, vAll, reduceCtorEq, Nat.reduceEqDiff, Nat.reduceAdd, Nat.reduceLT, Nat.reduceLeDiff, Nat.beq]
              rfl
            · have G1 : ((l[i] : Int) == 0) = false := by simp [c5]
              simp only [fn64_b0, F1, F2, F3, F4, F5, F6, F7, F8, F9, G1, G3, eY, index_nat c, List.getElem?_map, List.getElem?_eq_getElem c, Option.map_some, List.length_map, resH_some, List.drop_zero, slAll, slsAll, Nat.reduceMul, Nat.reduceBEq, Nat.reduceLT, Nat.reduceLeDiff, memAll, vAll, reduceCtorEq, Nat.reduceEqDiff, Nat.reduceAdd, Nat.reduceLT, Nat.reduceLeDiff, Nat.beq]
              rfl
          · rw [if_neg (by omega)]
            have G3 : ((accN l (i + 1) : Int) > 9007199254740991) = False := eq_false (by unfold most at c4; omega)
            have hj : IntKind.i64.wrap ((i : Int) + 1) = ((i + 1 : Nat) : Int) := by rw [i64_fits (by omega)]; omega
            have B1 : (0 ≤ ((i + 1 : Nat) : Int) ∧ ((i + 1 : Nat) : Int) ≤ (l.length : Int)) = True := eq_true (by omega)
            have B2 : ((i + 1 : Nat) : Int).toNat = i + 1 := by omega
            have B3 : (0 ≤ (l.length : Int) ∧ (l.length : Int) ≤ (l.length : Int)) = True := eq_true (by omega)
            have hdr : ((l.map eY).drop (i + 1)).take (l.length - (i + 1)) = (l.drop (i + 1)).map eY := by
              rw [← List.map_drop, ← List.map_take, List.take_of_length_le (by rw [List.length_drop]; exact Nat.le_refl _)]
            by_cases c5 : l[i] = 0
            · have G1 : ((l[i] : Int) == 0) = true := by simp [c5]
              have G2 : ((i : Int) > 0) = False := eq_false (by omega)
              simp only [fn64_b0, F1, F2, F3, F4, F5, F6, F7, F8, F9, G1, G2, G3, hj, B1, B2, B3, hdr, bound, eY, index_nat c, List.getElem?_map, List.getElem?_eq_getElem c, Option.map_some, List.length_map, resH_some, slAll, slsAll, Nat.reduceMul, Nat.reduceBEq, Nat.reduceLT, Nat.reduceLeDiff, memAll, vAll, reduceCtorEq, Nat.reduceEqDiff, Nat.reduceAdd, Nat.reduceLT, Nat.reduceLeDiff, Nat.beq]
              rfl
            · have G1 : ((l[i] : Int) == 0) = false := by simp [c5]
              simp only [fn64_b0, F1, F2, F3, F4, F5, F6, F7, F8, F9, G1, G3, hj, B1, B2, B3, hdr, bound, eY, index_nat c, List.getElem?_map, List.getElem?_eq_getElem c, Option.map_some, List.length_map, resH_some, slAll, slsAll, Nat.reduceMul, Nat.reduceBEq, Nat.reduceLT, Nat.reduceLeDiff, memAll, vAll, reduceCtorEq, Nat.reduceEqDiff, Nat.reduceAdd, Nat.reduceLT, Nat.reduceLeDiff, Nat.beq]
              rfl
      · rw [if_neg c2]
        rw [decide_eq_true (show 128 ≤ l[i] by omega)] at F9
        rw [← hs, show 7 - i = 8 - (i + 1) by omega]
        simp only [fn64_b0, F1, F2, F3, F4, F5, F6, F7, F8, F9, eY, index_nat c, List.getElem?_map, List.getElem?_eq_getElem c, Option.map_some, List.length_map, slAll, slsAll, Nat.reduceMul, Nat.reduceBEq, Nat.reduceLT, Nat.reduceLeDiff, memAll, vAll, reduceCtorEq, Nat.reduceEqDiff, Nat.reduceAdd, Nat.reduceLT, Nat.reduceLeDiff, Nat.beq]
        rw [ih _ (by simp only [hi1, slAll, slsAll, Nat.reduceMul, Nat.reduceBEq, Nat.reduceLT, Nat.reduceLeDiff, memAll, vAll, reduceCtorEq, Nat.reduceEqDiff, Nat.reduceAdd, Nat.reduceLT, Nat.reduceLeDiff, Nat.beq] <;> rfl)]
    · have F2 : ((i : Int) ≥ (l.length : Int)) = True := eq_true (by omega)
      have e0 : l.drop i = [] := List.drop_of_length_le (by omega)
      rw [e0]
      unfold decH
      simp only [fn64_b0, F1, F2, List.length_map, resH_some, List.drop_zero, slAll, slsAll, Nat.reduceMul, Nat.reduceBEq, Nat.reduceLT, Nat.reduceLeDiff, memAll, vAll, reduceCtorEq, Nat.reduceEqDiff, Nat.reduceAdd, Nat.reduceLT, Nat.reduceLeDiff, Nat.beq]
      rfl
  · intro rb

    rw [Nat.sub_self]
    unfold decH
    have F1 : (((8 : Nat) : Int) < 8) = False := eq_false (by omega)
    simp only [fn64_b0, F1, resH_none, slAll, slsAll, Nat.reduceMul, Nat.reduceBEq, Nat.reduceLT, Nat.reduceLeDiff, memAll, vAll, reduceCtorEq, Nat.reduceEqDiff, Nat.reduceAdd, Nat.reduceLT, Nat.reduceLeDiff, Nat.beq]

def decR (l : List Nat) : List Nat := l.drop (decN l).2.2
theorem decH_none {k i n : Nat} {l : List Nat} (h : decH k i n l = none) : decG k i n l = (3, 0, 0) := by rw [decG_H, h]; rfl
theorem cal64 {l : List Nat} (hb : ∀ c ∈ l, c < 256) (hl : l.length ≤ 1000000) : calL env 64 (.box [.list 1 (l.map eY)]) [] = some ([(.int .i64 ((decN l).2.1 : Int), false), (.int .i64 ((decN l).1 : Int), false)], some [.list 1 ((decR l).map eY)]) := by
  rw [calL_code env64 rfl]
  simp only [fn64, slAll, Nat.reduceBEq, Nat.reduceLeDiff, Nat.reduceAdd, List.length_cons, List.length_nil]
  simp only [slAll, slsAll, Nat.reduceMul, Nat.reduceBEq, Nat.reduceLT, Nat.reduceLeDiff, memAll, vAll, reduceCtorEq, Nat.reduceEqDiff, Nat.reduceAdd, Nat.reduceLT, Nat.reduceLeDiff, Nat.beq]
  have key : ∀ {st : St}, st.head [0, 4, 7] st.boxes.length = some ⟨sl 57 [(0, .pbox 0 0), (4, .pv (.int .i64 ((accN l 0 : Nat) : Int))), (7, .pv (.int .i64 (0 : Nat)))], [⟨false, [.pv (.list 1 (l.map eY))]⟩], [], none⟩ → _ := fun {st} h => loop64 (l := l) hb hl (st := st) h
  rw [key (by simp only [slAll, slsAll, Nat.reduceMul, Nat.reduceBEq, Nat.reduceLT, Nat.reduceLeDiff, Nat.reduceAdd, decide_true, Bool.and_self, Bool.true_and] <;> rfl)]
  unfold decR decN
  cases e : decH 8 0 0 l with
  | none =>
    rw [decH_none e, show 8 - 0 = 8 from rfl, show accN l 0 = 0 from rfl, List.drop_zero, e, resH_none]
    simp only [slAll, slsAll, Nat.reduceMul, Nat.reduceBEq, Nat.reduceLT, Nat.reduceLeDiff, memAll, vAll, reduceCtorEq, Nat.reduceEqDiff, Nat.reduceAdd, Nat.reduceLT, Nat.reduceLeDiff, Nat.beq]
    rfl
  | some q =>
    obtain ⟨x, n, u⟩ := q
    have : decG 8 0 0 l = (x, n, u) := by rw [decG_H, e]; rfl
    rw [this, show 8 - 0 = 8 from rfl, show accN l 0 = 0 from rfl, List.drop_zero, e, resH_some]
    simp only [slAll, slsAll, Nat.reduceMul, Nat.reduceBEq, Nat.reduceLT, Nat.reduceLeDiff, memAll, vAll, reduceCtorEq, Nat.reduceEqDiff, Nat.reduceAdd, Nat.reduceLT, Nat.reduceLeDiff, Nat.beq]
end Go.Proofs.YtdahanchdjadiaaGreatDoor.V

namespace Go.Proofs.YtdahanchdjadiaaGreatDoor.V
def encE (e : Exn) : List Nat := encI e.start ++ encI e.count
theorem encE_len (e : Exn) : (encE e).length ≤ 18 := by
  have h1 := encI_len e.start
  have h2 := encI_len e.count
  unfold encE; rw [List.length_append]; omega
def encX (es : List Exn) : List Nat := encI es.length ++ es.flatMap encE
def preE (l : List Nat) (es : List Exn) (i : Nat) : List Nat := l ++ encI es.length ++ (es.take i).flatMap encE
theorem flat_len (es : List Exn) : (es.flatMap encE).length ≤ 18 * es.length := by
  induction es with
  | nil => simp
  | cons e es ih => have := encE_len e; simp only [List.flatMap_cons, List.length_append, List.length_cons]; omega
theorem preE_len (l : List Nat) (es : List Exn) (i : Nat) : (preE l es i).length ≤ l.length + 9 + 18 * es.length := by
  have h1 := encI_len es.length
  have h2 := flat_len (es.take i)
  have h3 : (es.take i).length ≤ es.length := List.length_take_le' _ _
  unfold preE; rw [List.length_append, List.length_append]; omega
theorem preE_zero (l : List Nat) (es : List Exn) : preE l es 0 = l ++ encI es.length := by simp [preE]
theorem preE_succ (l : List Nat) {es : List Exn} {i : Nat} (h : i < es.length) : preE l es (i + 1) = preE l es i ++ encE es[i] := by
  unfold preE
  rw [List.take_succ_eq_append_getElem h, List.flatMap_append]
  simp [List.append_assoc]
theorem preE_all (l : List Nat) (es : List Exn) : preE l es es.length = l ++ encX es := by
  unfold preE encX; rw [List.take_length, List.append_assoc]
theorem cal78 {l : List Nat} {e : Exn} (hl : l.length ≤ 900000) : calL env 78 (.row 1 (l.map eY)) [eExt e] = some ([(.list 1 ((l ++ encE e).map eY), true)], none) := by
  have h1 := encI_len e.start
  have e1 := cal75 (l := l) (n := e.start) (by omega)
  have e2 := cal75 (l := l ++ encI e.start) (n := e.count) (by rw [List.length_append]; omega)
  have eX : eExt e = .agg [.int .i64 e.start, .int .i64 e.count] := rfl
  unfold encE
  rw [eX, ← List.append_assoc]
  rw [calL_code env78 rfl]
  simp only [fn78, slAll, Nat.reduceBEq, Nat.reduceLeDiff, Nat.reduceAdd, List.length_cons, List.length_nil]
  simp only [e1, e2, slAll, slsAll, Nat.reduceMul, Nat.reduceBEq, Nat.reduceLT, Nat.reduceLeDiff, memAll, vAll, reduceCtorEq, Nat.reduceEqDiff, Nat.reduceAdd, Nat.reduceLT, Nat.reduceLeDiff, Nat.beq]
theorem loop77 {l : List Nat} {es : List Exn} {gf : Nat} (hf : ∀ {l : List Nat} {e : Exn}, l.length ≤ 900000 → calL env gf (.row 1 (l.map eY)) [eExt e] = some ([(.list 1 ((l ++ encE e).map eY), true)], none)) (hl : l.length ≤ 400000) (hes : es.length ≤ 10000) {st : St} (h : st.head [0, 1, 2, 12, 13, 14, 15, 22] st.boxes.length = some ⟨sl 25 [(0, .row 1 ((preE l es ((0 : Nat))).map eY)), (1, .pv (.list 2 (es.map eExt))), (2, .pv (.func gf [])), (12, .any), (13, .pv (.list 2 (es.map eExt))), (14, .pv (.int .i64 es.length)), (15, .pv (.int .i64 (0 : Nat))), (22, .any)], [], [], none⟩) :
   den env fn77_l1 st = some (.normal, ⟨sl 25 [(0, .row 1 ((l ++ encX es).map eY)), (6, .any)], [], [], none⟩) := by
  unfold fn77_l1
  refine clean_up (env := env) (es.length) (fun i => ⟨sl 25 [(0, .row 1 ((preE l es (i)).map eY)), (1, .pv (.list 2 (es.map eExt))), (2, .pv (.func gf [])), (12, .any), (13, .pv (.list 2 (es.map eExt))), (14, .pv (.int .i64 es.length)), (15, .pv (.int .i64 i)), (22, .any)], [], [], none⟩) (fun i => some (.normal, ⟨sl 25 [(0, .row 1 ((l ++ encX es).map eY)), (6, .any)], [], [], none⟩)) h (fun _ => rfl) (fun _ => by simp only [slAll, slsAll, Nat.reduceMul, Nat.reduceBEq, Nat.reduceLT, Nat.reduceLeDiff, Nat.reduceAdd, decide_true, Bool.and_self, Bool.true_and]) ?_ ?_
  · intro i rb hi ih

    have hi1 := i64_next hi (by unfold lim; omega)
    have F1 : ((i : Int) < (es.length : Int)) = True := eq_true (by omega)
    have e1 := hf (l := preE l es i) (e := es[i]) (by have := preE_len l es i; omega)
    rw [← preE_succ l hi] at e1
    have eX : eExt es[i] = .agg [.int .i64 es[i].start, .int .i64 es[i].count] := rfl
    rw [eX] at e1
    simp only [fn77_b0, F1, e1, eExt, index_nat hi, List.getElem?_map, List.getElem?_eq_getElem hi, Option.map_some, List.length_map, slAll, slsAll, Nat.reduceMul, Nat.reduceBEq, Nat.reduceLT, Nat.reduceLeDiff, memAll, vAll, reduceCtorEq, Nat.reduceEqDiff, Nat.reduceAdd, Nat.reduceLT, Nat.reduceLeDiff, Nat.beq]
    rw [ih _ (by simp only [hi1, slAll, slsAll, Nat.reduceMul, Nat.reduceBEq, Nat.reduceLT, Nat.reduceLeDiff, memAll, vAll, reduceCtorEq, Nat.reduceEqDiff, Nat.reduceAdd, Nat.reduceLT, Nat.reduceLeDiff, Nat.beq] <;> rfl)]
  · intro rb

    rw [preE_all]
    simp only [fn77_b0, Int.lt_irrefl, slAll, slsAll, Nat.reduceMul, Nat.reduceBEq, Nat.reduceLT, Nat.reduceLeDiff, memAll, vAll, reduceCtorEq, Nat.reduceEqDiff, Nat.reduceAdd, Nat.reduceLT, Nat.reduceLeDiff, Nat.beq]

theorem cal77 {l : List Nat} {es : List Exn} {gf : Nat} (hf : ∀ {l : List Nat} {e : Exn}, l.length ≤ 900000 → calL env gf (.row 1 (l.map eY)) [eExt e] = some ([(.list 1 ((l ++ encE e).map eY), true)], none)) (hl : l.length ≤ 400000) (hes : es.length ≤ 10000) :
    calL env 77 (.row 1 (l.map eY)) [.list 2 (es.map eExt), .func gf []] = some ([(.list 1 ((l ++ encX es).map eY), true)], none) := by
  have e1 := cal75 (l := l) (n := es.length) (by omega)
  rw [calL_code env77 rfl]
  simp only [fn77, slAll, Nat.reduceBEq, Nat.reduceLeDiff, Nat.reduceAdd, List.length_cons, List.length_nil]
  simp only [e1, List.length_map, slAll, slsAll, Nat.reduceMul, Nat.reduceBEq, Nat.reduceLT, Nat.reduceLeDiff, memAll, vAll, reduceCtorEq, Nat.reduceEqDiff, Nat.reduceAdd, Nat.reduceLT, Nat.reduceLeDiff, Nat.beq]
  rw [loop77 (l := l) (es := es) (gf := gf) hf hl hes]
  rotate_left
  · rw [preE_zero]
    simp only [slAll, slsAll, Nat.reduceMul, Nat.reduceBEq, Nat.reduceLT, Nat.reduceLeDiff, Nat.reduceAdd, decide_true, Bool.and_self, Bool.true_and] <;> rfl
  · simp only [slAll, slsAll, Nat.reduceMul, Nat.reduceBEq, Nat.reduceLT, Nat.reduceLeDiff, memAll, vAll, reduceCtorEq, Nat.reduceEqDiff, Nat.reduceAdd, Nat.reduceLT, Nat.reduceLeDiff, Nat.beq]
theorem cal76 {es : List PV} (hl : es.length ≤ lim) : cal env 76 [.list 1 es] = some [(.list 1 es, true)] := (cal_ext env76).trans (if_pos ⟨rfl, hl⟩)
theorem cal52 {l : List Nat} {n : Int} (hl : l.length ≤ 1000000) : cal env 52 [.list 1 (l.map eY), .int .i64 n] = some [(.list 1 ((l ++ encI n).map eY), true)] := by
  have e0 := cal76 (es := l.map eY) (by rw [List.length_map]; unfold lim; omega)
  have e1 := cal75 (l := l) (n := n) hl
  rw [cal_code env52 rfl]; simp only [fn52, slAll, Nat.reduceBEq, Nat.reduceLeDiff, Nat.reduceAdd, List.length_cons, List.length_nil]
  simp only [e0, e1, slAll, slsAll, Nat.reduceMul, Nat.reduceBEq, Nat.reduceLT, Nat.reduceLeDiff, memAll, vAll, reduceCtorEq, Nat.reduceEqDiff, Nat.reduceAdd, Nat.reduceLT, Nat.reduceLeDiff, Nat.beq]
theorem cal53 {l : List Nat} {es : List Exn} (hl : l.length ≤ 400000) (hes : es.length ≤ 10000) : cal env 53 [.list 1 (l.map eY), .list 2 (es.map eExt)] = some [(.list 1 ((l ++ encX es).map eY), true)] := by
  have e0 := cal76 (es := l.map eY) (by rw [List.length_map]; unfold lim; omega)
  have e1 := cal77 (l := l) (es := es) (gf := 78) (fun {l e} h => cal78 h) hl hes
  rw [cal_code env53 rfl]; simp only [fn53, slAll, Nat.reduceBEq, Nat.reduceLeDiff, Nat.reduceAdd, List.length_cons, List.length_nil]
  simp only [e0, e1, slAll, slsAll, Nat.reduceMul, Nat.reduceBEq, Nat.reduceLT, Nat.reduceLeDiff, memAll, vAll, reduceCtorEq, Nat.reduceEqDiff, Nat.reduceAdd, Nat.reduceLT, Nat.reduceLeDiff, Nat.beq]
end Go.Proofs.YtdahanchdjadiaaGreatDoor.V

namespace Go.Proofs.YtdahanchdjadiaaGreatDoor.V
theorem decR_mem {l : List Nat} {c : Nat} (h : c ∈ decR l) : c ∈ l := List.mem_of_mem_drop h
theorem decR_len (l : List Nat) : (decR l).length ≤ l.length := by unfold decR; rw [List.length_drop]; omega
theorem decG_zero : ∀ (k i n : Nat) (l : List Nat), (decG k i n l).1 ≠ 0 → (decG k i n l).2.1 = 0
  | 0, _, _, _, _ => rfl
  | _ + 1, _, _, [], _ => rfl
  | k + 1, i, n, b :: l, hne => by
    unfold decG at hne ⊢
    by_cases c : b < 128
    · rw [if_pos c] at hne ⊢
      by_cases c2 : (b = 0 ∧ 0 < i) ∨ most < n + b * 128 ^ i
      · rw [if_pos c2]
      · rw [if_neg c2] at hne; exact absurd rfl hne
    · rw [if_neg c] at hne ⊢; exact decG_zero k _ _ _ hne
theorem decN_zero {l : List Nat} (h : (decN l).1 ≠ 0) : (decN l).2.1 = 0 := decG_zero 8 0 0 l h
theorem decN_most (l : List Nat) : (decN l).2.1 ≤ most := by
  by_cases h : (decN l).1 = 0
  · exact (decN_used h).2.2
  · rw [decN_zero h]; exact Nat.zero_le _
def lenE (l : List Nat) : Nat := if (decN l).1 = 0 ∧ 65536 < (decN l).2.1 then 5 else (decN l).1
theorem cal85 {l : List Nat} (hb : ∀ c ∈ l, c < 256) (hl : l.length ≤ 1000000) : calL env 85 (.box [.list 1 (l.map eY)]) [] = some ([(.int .i64 ((decN l).2.1 : Int), false), (.int .i64 (lenE l : Int), false)], some [.list 1 ((decR l).map eY)]) := by
  have e1 := cal64 hb hl
  unfold lenE
  rw [calL_code env85 rfl]
  simp only [fn85, slAll, Nat.reduceBEq, Nat.reduceLeDiff, Nat.reduceAdd, List.length_cons, List.length_nil]
  by_cases c : (decN l).1 = 0
  · rw [c] at e1
    have G1 : (((0 : Nat) : Int) == 0) = true := rfl
    by_cases c2 : 65536 < (decN l).2.1
    · have F1 : (((decN l).2.1 : Int) > 65536) = True := eq_true (by omega)
      rw [if_pos ⟨c, c2⟩]
      simp only [e1, G1, F1, slAll, slsAll, Nat.reduceMul, Nat.reduceBEq, Nat.reduceLT, Nat.reduceLeDiff, memAll, vAll, reduceCtorEq, Nat.reduceEqDiff, Nat.reduceAdd, Nat.reduceLT, Nat.reduceLeDiff, Nat.beq]
      rfl
    · have F1 : (((decN l).2.1 : Int) > 65536) = False := eq_false (by omega)
      rw [if_neg (by omega), c]
      simp only [e1, G1, F1, slAll, slsAll, Nat.reduceMul, Nat.reduceBEq, Nat.reduceLT, Nat.reduceLeDiff, memAll, vAll, reduceCtorEq, Nat.reduceEqDiff, Nat.reduceAdd, Nat.reduceLT, Nat.reduceLeDiff, Nat.beq]
  · have G1 : (((decN l).1 : Int) == 0) = false := by simp [c]
    rw [if_neg (by omega)]
    simp only [e1, G1, slAll, slsAll, Nat.reduceMul, Nat.reduceBEq, Nat.reduceLT, Nat.reduceLeDiff, memAll, vAll, reduceCtorEq, Nat.reduceEqDiff, Nat.reduceAdd, Nat.reduceLT, Nat.reduceLeDiff, Nat.beq]
def pairD (l : List Nat) : Nat × Exn × List Nat := if (decN l).1 = 0 then ((decN (decR l)).1, ⟨((decN l).2.1 : Int), ((decN (decR l)).2.1 : Int)⟩, decR (decR l)) else ((decN l).1, ⟨0, 0⟩, decR l)
theorem pairD_mem {l : List Nat} {c : Nat} (h : c ∈ (pairD l).2.2) : c ∈ l := by
  unfold pairD at h
  split at h
  · exact decR_mem (decR_mem h)
  · exact decR_mem h
theorem pairD_len (l : List Nat) : (pairD l).2.2.length ≤ l.length := by
  have h1 := decR_len l
  have h2 := decR_len (decR l)
  unfold pairD
  split <;> simp only <;> omega
theorem cal86 {l : List Nat} (hb : ∀ c ∈ l, c < 256) (hl : l.length ≤ 1000000) : calL env 86 (.box [.list 1 (l.map eY)]) [] = some ([(.int .i64 (pairD l).2.1.start, false), (.int .i64 (pairD l).2.1.count, false), (.int .i64 ((pairD l).1 : Int), false)], some [.list 1 ((pairD l).2.2.map eY)]) := by
  have e1 := cal64 hb hl
  have e2 := cal64 (l := decR l) (fun c h => hb c (decR_mem h)) (Nat.le_trans (decR_len l) hl)
  unfold pairD
  rw [calL_code env86 rfl]
  simp only [fn86, slAll, Nat.reduceBEq, Nat.reduceLeDiff, Nat.reduceAdd, List.length_cons, List.length_nil]
  by_cases c : (decN l).1 = 0
  · rw [c] at e1
    have G1 : (((0 : Nat) : Int) != 0) = false := rfl
    rw [if_pos c]
    simp only [e1, e2, G1, slAll, slsAll, Nat.reduceMul, Nat.reduceBEq, Nat.reduceLT, Nat.reduceLeDiff, memAll, vAll, reduceCtorEq, Nat.reduceEqDiff, Nat.reduceAdd, Nat.reduceLT, Nat.reduceLeDiff, Nat.beq]
  · have G1 : (((decN l).1 : Int) != 0) = true := by simp [c]
    rw [if_neg c]
    simp only [e1, G1, slAll, slsAll, Nat.reduceMul, Nat.reduceBEq, Nat.reduceLT, Nat.reduceLeDiff, memAll, vAll, reduceCtorEq, Nat.reduceEqDiff, Nat.reduceAdd, Nat.reduceLT, Nat.reduceLeDiff, Nat.beq]
theorem cal68 {l : List Nat} (hb : ∀ c ∈ l, c < 256) (hl : l.length ≤ 1000000) : calL env 68 (.box [.list 1 (l.map eY)]) [] = some ([(eExt (pairD l).2.1, false), (.int .i64 ((pairD l).1 : Int), false)], some [.list 1 ((pairD l).2.2.map eY)]) := by
  have e1 := cal86 hb hl
  unfold eExt
  rw [calL_code env68 rfl]
  simp only [fn68, slAll, Nat.reduceBEq, Nat.reduceLeDiff, Nat.reduceAdd, List.length_cons, List.length_nil]
  simp only [e1, slAll, slsAll, Nat.reduceMul, Nat.reduceBEq, Nat.reduceLT, Nat.reduceLeDiff, memAll, vAll, reduceCtorEq, Nat.reduceEqDiff, Nat.reduceAdd, Nat.reduceLT, Nat.reduceLeDiff, Nat.beq]
def lstD : Nat → List Nat → List Exn → Nat × List Exn × List Nat
  | 0, l, acc => (0, acc, l)
  | k + 1, l, acc => if (pairD l).1 = 0 then lstD k (pairD l).2.2 (acc ++ [(pairD l).2.1]) else ((pairD l).1, acc, (pairD l).2.2)
def rstN (l : List Nat) : Nat → List Nat
  | 0 => l
  | i + 1 => (pairD (rstN l i)).2.2
def accL (l : List Nat) (i : Nat) : List Exn := (List.range i).map fun j => (pairD (rstN l j)).2.1
theorem accL_succ (l : List Nat) (i : Nat) : accL l (i + 1) = accL l i ++ [(pairD (rstN l i)).2.1] := by simp [accL, List.range_succ]
theorem accL_len (l : List Nat) (i : Nat) : (accL l i).length = i := by simp [accL]
theorem rstN_mem {l : List Nat} {c : Nat} : ∀ {i : Nat}, c ∈ rstN l i → c ∈ l
  | 0, h => h
  | i + 1, h => rstN_mem (i := i) (pairD_mem h)
theorem rstN_len (l : List Nat) : ∀ i, (rstN l i).length ≤ l.length
  | 0 => Nat.le_refl _
  | i + 1 => Nat.le_trans (pairD_len _) (rstN_len l i)
def resL (n : Nat) (q : Nat × List Exn × List Nat) : Option (Ex × St) :=
  if q.1 = 0 then some (.normal, ⟨sl n [(4, .any), (5, .any), (8, .row 2 (q.2.1.map eExt))], [⟨false, [.pv (.list 1 (q.2.2.map eY))]⟩], [], none⟩)
  else some (.ret, ⟨sl n [(4, .row 2 []), (5, .pv (.int .i64 (q.1 : Int))), (8, .row 2 (q.2.1.map eExt))], [⟨false, [.pv (.list 1 (q.2.2.map eY))]⟩], [], none⟩)
theorem loop67 {l : List Nat} {n gf : Nat} (hf : ∀ {l : List Nat}, (∀ c ∈ l, c < 256) → l.length ≤ 1000000 → calL env gf (.box [.list 1 (l.map eY)]) [] = some ([(eExt (pairD l).2.1, false), (.int .i64 ((pairD l).1 : Int), false)], some [.list 1 ((pairD l).2.2.map eY)])) (hb : ∀ c ∈ l, c < 256) (hl : l.length ≤ 1000000) (hn : n ≤ 65536) {st : St} (h : st.head [0, 1, 8, 19, 20, 34] st.boxes.length = some ⟨sl 37 [(0, .pbox 0 0), (1, .pv (.func gf [])), (8, .row 2 ((accL l ((0 : Nat))).map eExt)), (19, .pv (.int .i64 n)), (20, .pv (.int .i64 (0 : Nat))), (34, .any)], [⟨false, [.pv (.list 1 ((rstN l ((0 : Nat))).map eY))]⟩], [], none⟩) :
   den env fn67_l1 st = resL 37 (lstD (n - ((0 : Nat))) (rstN l ((0 : Nat))) (accL l ((0 : Nat)))) := by
  unfold fn67_l1
  refine clean_up (env := env) (nb := 1) (n) (fun i => ⟨sl 37 [(0, .pbox 0 0), (1, .pv (.func gf [])), (8, .row 2 ((accL l (i)).map eExt)), (19, .pv (.int .i64 n)), (20, .pv (.int .i64 i)), (34, .any)], [⟨false, [.pv (.list 1 ((rstN l (i)).map eY))]⟩], [], none⟩) (fun i => resL 37 (lstD (n - (i)) (rstN l (i)) (accL l (i)))) h (fun _ => rfl) (fun _ => by simp only [slAll, slsAll, Nat.reduceMul, Nat.reduceBEq, Nat.reduceLT, Nat.reduceLeDiff, Nat.reduceAdd, decide_true, Bool.and_self, Bool.true_and]) ?_ ?_
  · intro i rb hi ih

    have hi1 := i64_next hi (by unfold lim; omega)
    have F1 : ((i : Int) < (n : Int)) = True := eq_true (by omega)
    have e1 := hf (l := rstN l i) (fun c h => hb c (rstN_mem h)) (Nat.le_trans (rstN_len l i) hl)
    have hr : rstN l (i + 1) = (pairD (rstN l i)).2.2 := rfl
    have hacc := accL_succ l i
    have F3 : ((accL l i).length + 1 ≤ lim) = True := eq_true (by rw [accL_len]; unfold lim; omega)
    rw [show n - i = (n - (i + 1)) + 1 by omega]
    unfold lstD
    by_cases c : (pairD (rstN l i)).1 = 0
    · rw [if_pos c, ← hr, ← hacc]
      rw [c, ← hr] at e1
      have G1 : (((0 : Nat) : Int) != 0) = false := rfl
      have hs : (accL l (i + 1)).map eExt = (accL l i).map eExt ++ [.agg [.int .i64 (pairD (rstN l i)).2.1.start, .int .i64 (pairD (rstN l i)).2.1.count]] := by rw [hacc, List.map_append]; rfl
      unfold eExt at e1
      simp only [fn67_b0, F1, F3, e1, G1, List.length_map, part_more, slAll, slsAll, Nat.reduceMul, Nat.reduceBEq, Nat.reduceLT, Nat.reduceLeDiff, memAll, vAll, reduceCtorEq, Nat.reduceEqDiff, Nat.reduceAdd, Nat.reduceLT, Nat.reduceLeDiff, Nat.beq]
      rw [ih _ (by rw [hs]; simp only [hi1, slAll, slsAll, Nat.reduceMul, Nat.reduceBEq, Nat.reduceLT, Nat.reduceLeDiff, memAll, vAll, reduceCtorEq, Nat.reduceEqDiff, Nat.reduceAdd, Nat.reduceLT, Nat.reduceLeDiff, Nat.beq] <;> rfl)]
    · rw [if_neg c]
      unfold resL
      rw [if_neg c]
      have G1 : (((pairD (rstN l i)).1 : Int) != 0) = true := by simp [c]
      unfold eExt at e1
      simp only [fn67_b0, F1, F3, e1, G1, List.length_map, part_more, slAll, slsAll, Nat.reduceMul, Nat.reduceBEq, Nat.reduceLT, Nat.reduceLeDiff, memAll, vAll, reduceCtorEq, Nat.reduceEqDiff, Nat.reduceAdd, Nat.reduceLT, Nat.reduceLeDiff, Nat.beq]
  · intro rb

    rw [Nat.sub_self]
    unfold lstD resL
    rw [if_pos rfl]
    simp only [fn67_b0, Int.lt_irrefl, slAll, slsAll, Nat.reduceMul, Nat.reduceBEq, Nat.reduceLT, Nat.reduceLeDiff, memAll, vAll, reduceCtorEq, Nat.reduceEqDiff, Nat.reduceAdd, Nat.reduceLT, Nat.reduceLeDiff, Nat.beq]

def offE (q : Nat × List Exn × List Nat) : Nat × List Exn × List Nat := (q.1, if q.1 = 0 then q.2.1 else [], q.2.2)
def lisD (l : List Nat) : Nat × List Exn × List Nat := if lenE l = 0 then offE (lstD (decN l).2.1 (decR l) []) else (lenE l, [], decR l)
theorem lenE_zero {l : List Nat} (h : lenE l = 0) : (decN l).1 = 0 ∧ (decN l).2.1 ≤ 65536 := by
  unfold lenE at h
  split at h
  · cases h
  · omega
theorem cal67 {l : List Nat} {gf : Nat} (hf : ∀ {l : List Nat}, (∀ c ∈ l, c < 256) → l.length ≤ 1000000 → calL env gf (.box [.list 1 (l.map eY)]) [] = some ([(eExt (pairD l).2.1, false), (.int .i64 ((pairD l).1 : Int), false)], some [.list 1 ((pairD l).2.2.map eY)])) (hb : ∀ c ∈ l, c < 256) (hl : l.length ≤ 1000000) :
    calL env 67 (.box [.list 1 (l.map eY)]) [.func gf []] = some ([(.list 2 ((lisD l).2.1.map eExt), true), (.int .i64 ((lisD l).1 : Int), false)], some [.list 1 ((lisD l).2.2.map eY)]) := by
  have e1 := cal85 hb hl
  unfold lisD
  rw [calL_code env67 rfl]
  simp only [fn67, slAll, Nat.reduceBEq, Nat.reduceLeDiff, Nat.reduceAdd, List.length_cons, List.length_nil]
  by_cases c : lenE l = 0
  · rw [if_pos c]
    rw [c] at e1
    have G1 : (((0 : Nat) : Int) != 0) = false := rfl
    simp only [e1, G1, slAll, slsAll, Nat.reduceMul, Nat.reduceBEq, Nat.reduceLT, Nat.reduceLeDiff, memAll, vAll, reduceCtorEq, Nat.reduceEqDiff, Nat.reduceAdd, Nat.reduceLT, Nat.reduceLeDiff, Nat.beq]
    rw [loop67 (l := decR l) (n := (decN l).2.1) (gf := gf) hf (fun c h => hb c (decR_mem h)) (Nat.le_trans (decR_len l) hl) (lenE_zero c).2]
    rotate_left
    · simp only [slAll, slsAll, Nat.reduceMul, Nat.reduceBEq, Nat.reduceLT, Nat.reduceLeDiff, Nat.reduceAdd, decide_true, Bool.and_self, Bool.true_and] <;> rfl
    · rw [Nat.sub_zero, show rstN (decR l) 0 = decR l from rfl, show accL (decR l) 0 = [] from rfl]
      unfold resL offE
      by_cases c2 : (lstD (decN l).2.1 (decR l) []).1 = 0
      · rw [if_pos c2, if_pos c2, c2]
        simp only [List.length_map, slAll, slsAll, Nat.reduceMul, Nat.reduceBEq, Nat.reduceLT, Nat.reduceLeDiff, memAll, vAll, reduceCtorEq, Nat.reduceEqDiff, Nat.reduceAdd, Nat.reduceLT, Nat.reduceLeDiff, Nat.beq]
        rfl
      · rw [if_neg c2, if_neg c2, List.map_nil]
        simp only [slAll, slsAll, Nat.reduceMul, Nat.reduceBEq, Nat.reduceLT, Nat.reduceLeDiff, memAll, vAll, reduceCtorEq, Nat.reduceEqDiff, Nat.reduceAdd, Nat.reduceLT, Nat.reduceLeDiff, Nat.beq]
  · rw [if_neg c]
    have G1 : ((lenE l : Int) != 0) = true := by simp [c]
    simp only [e1, G1, slAll, slsAll, Nat.reduceMul, Nat.reduceBEq, Nat.reduceLT, Nat.reduceLeDiff, memAll, vAll, reduceCtorEq, Nat.reduceEqDiff, Nat.reduceAdd, Nat.reduceLT, Nat.reduceLeDiff, Nat.beq]
end Go.Proofs.YtdahanchdjadiaaGreatDoor.V

namespace Go.Proofs.YtdahanchdjadiaaGreatDoor.V
theorem cal63 {l : List Nat} (hb : ∀ c ∈ l, c < 256) (hl : l.length ≤ 1000000) : cal env 63 [.list 1 (l.map eY), .func 64 []] = some [(.int .i64 ((decN l).2.1 : Int), false), (.list 1 ((if (decN l).1 = 0 then decR l else []).map eY), true), (.int .i64 ((decN l).1 : Int), false)] := by
  have e1 := cal64 hb hl
  have e2 := cal76 (es := (decR l).map eY) (by have := decR_len l; rw [List.length_map]; unfold lim; omega)
  by_cases c : (decN l).1 = 0
  · rw [if_pos c]
    rw [c] at e1 ⊢
    have G1 : (((0 : Nat) : Int) != 0) = false := rfl
    rw [cal_code env63 rfl]; simp only [fn63, slAll, Nat.reduceBEq, Nat.reduceLeDiff, Nat.reduceAdd, List.length_cons, List.length_nil]
    simp only [e1, e2, G1, slAll, slsAll, Nat.reduceMul, Nat.reduceBEq, Nat.reduceLT, Nat.reduceLeDiff, memAll, vAll, reduceCtorEq, Nat.reduceEqDiff, Nat.reduceAdd, Nat.reduceLT, Nat.reduceLeDiff, Nat.beq]
    rfl
  · have G1 : (((decN l).1 : Int) != 0) = true := by simp [c]
    have hz : (decN l).2.1 = 0 := by
      have := decN_zero c
      exact this
    rw [if_neg c, List.map_nil]
    rw [hz] at e1 ⊢
    rw [cal_code env63 rfl]; simp only [fn63, slAll, Nat.reduceBEq, Nat.reduceLeDiff, Nat.reduceAdd, List.length_cons, List.length_nil]
    simp only [e1, G1, slAll, slsAll, Nat.reduceMul, Nat.reduceBEq, Nat.reduceLT, Nat.reduceLeDiff, memAll, vAll, reduceCtorEq, Nat.reduceEqDiff, Nat.reduceAdd, Nat.reduceLT, Nat.reduceLeDiff, Nat.beq]
    rfl
theorem cal41 {l : List Nat} (hb : ∀ c ∈ l, c < 256) (hl : l.length ≤ 1000000) : cal env 41 [.list 1 (l.map eY)] = some [(.int .i64 ((decN l).2.1 : Int), false), (.list 1 ((if (decN l).1 = 0 then decR l else []).map eY), true), (.int .i64 ((decN l).1 : Int), false)] := by
  have e1 := cal63 hb hl
  rw [cal_code env41 rfl]; simp only [fn41, slAll, Nat.reduceBEq, Nat.reduceLeDiff, Nat.reduceAdd, List.length_cons, List.length_nil]
  simp only [e1, slAll, slsAll, Nat.reduceMul, Nat.reduceBEq, Nat.reduceLT, Nat.reduceLeDiff, memAll, vAll, reduceCtorEq, Nat.reduceEqDiff, Nat.reduceAdd, Nat.reduceLT, Nat.reduceLeDiff, Nat.beq]
theorem cal66 {l : List Nat} (hb : ∀ c ∈ l, c < 256) (hl : l.length ≤ 1000000) : calL env 66 (.box [.list 1 (l.map eY)]) [] = some ([(.list 2 ((lisD l).2.1.map eExt), true), (.int .i64 ((lisD l).1 : Int), false)], some [.list 1 ((lisD l).2.2.map eY)]) := by
  have e1 := cal67 (gf := 68) (fun {l} h1 h2 => cal68 h1 h2) hb hl
  rw [calL_code env66 rfl]
  simp only [fn66, slAll, Nat.reduceBEq, Nat.reduceLeDiff, Nat.reduceAdd, List.length_cons, List.length_nil]
  simp only [e1, slAll, slsAll, Nat.reduceMul, Nat.reduceBEq, Nat.reduceLT, Nat.reduceLeDiff, memAll, vAll, reduceCtorEq, Nat.reduceEqDiff, Nat.reduceAdd, Nat.reduceLT, Nat.reduceLeDiff, Nat.beq]
theorem lstD_len : ∀ (k : Nat) (l : List Nat) (acc : List Exn), (lstD k l acc).2.2.length ≤ l.length ∧ (lstD k l acc).2.1.length ≤ acc.length + k
  | 0, l, acc => ⟨Nat.le_refl _, Nat.le_refl _⟩
  | k + 1, l, acc => by
    have h1 := pairD_len l
    unfold lstD
    split
    · have := lstD_len k (pairD l).2.2 (acc ++ [(pairD l).2.1])
      rw [List.length_append] at this
      simp only [List.length_cons, List.length_nil] at this
      omega
    · simp only; omega
theorem lisD_len (l : List Nat) : (lisD l).2.2.length ≤ l.length ∧ (lisD l).2.1.length ≤ 65536 := by
  unfold lisD offE
  have h2 := decR_len l
  split
  · rename_i h
    have h1 := lstD_len (decN l).2.1 (decR l) []
    have h3 := (lenE_zero h).2
    simp only [List.length_nil] at h1
    refine ⟨by simp only; omega, ?_⟩
    simp only
    split
    · omega
    · simp
  · exact ⟨h2, by simp⟩
theorem cal65 {l : List Nat} (hb : ∀ c ∈ l, c < 256) (hl : l.length ≤ 1000000) : cal env 65 [.list 1 (l.map eY), .func 66 []] = some [(.list 2 ((if (lisD l).1 = 0 then (lisD l).2.1 else []).map eExt), true), (.list 1 ((if (lisD l).1 = 0 then (lisD l).2.2 else []).map eY), true), (.int .i64 ((lisD l).1 : Int), false)] := by
  have e1 := cal66 hb hl
  have e2 := cal76 (es := (lisD l).2.2.map eY) (by have := (lisD_len l).1; rw [List.length_map]; unfold lim; omega)
  by_cases c : (lisD l).1 = 0
  · rw [if_pos c, if_pos c]
    rw [c] at e1 ⊢
    have G1 : (((0 : Nat) : Int) != 0) = false := rfl
    rw [cal_code env65 rfl]; simp only [fn65, slAll, Nat.reduceBEq, Nat.reduceLeDiff, Nat.reduceAdd, List.length_cons, List.length_nil]
    simp only [e1, e2, G1, List.length_map, slAll, slsAll, Nat.reduceMul, Nat.reduceBEq, Nat.reduceLT, Nat.reduceLeDiff, memAll, vAll, reduceCtorEq, Nat.reduceEqDiff, Nat.reduceAdd, Nat.reduceLT, Nat.reduceLeDiff, Nat.beq]
    rfl
  · have G1 : (((lisD l).1 : Int) != 0) = true := by simp [c]
    rw [if_neg c, if_neg c, List.map_nil, List.map_nil]
    rw [cal_code env65 rfl]; simp only [fn65, slAll, Nat.reduceBEq, Nat.reduceLeDiff, Nat.reduceAdd, List.length_cons, List.length_nil]
    simp only [e1, G1, List.length_map, slAll, slsAll, Nat.reduceMul, Nat.reduceBEq, Nat.reduceLT, Nat.reduceLeDiff, memAll, vAll, reduceCtorEq, Nat.reduceEqDiff, Nat.reduceAdd, Nat.reduceLT, Nat.reduceLeDiff, Nat.beq]
theorem cal42 {l : List Nat} (hb : ∀ c ∈ l, c < 256) (hl : l.length ≤ 1000000) : cal env 42 [.list 1 (l.map eY)] = some [(.list 2 ((if (lisD l).1 = 0 then (lisD l).2.1 else []).map eExt), true), (.list 1 ((if (lisD l).1 = 0 then (lisD l).2.2 else []).map eY), true), (.int .i64 ((lisD l).1 : Int), false)] := by
  have e1 := cal65 hb hl
  rw [cal_code env42 rfl]; simp only [fn42, slAll, Nat.reduceBEq, Nat.reduceLeDiff, Nat.reduceAdd, List.length_cons, List.length_nil]
  simp only [e1, slAll, slsAll, Nat.reduceMul, Nat.reduceBEq, Nat.reduceLT, Nat.reduceLeDiff, memAll, vAll, reduceCtorEq, Nat.reduceEqDiff, Nat.reduceAdd, Nat.reduceLT, Nat.reduceLeDiff, Nat.beq]
end Go.Proofs.YtdahanchdjadiaaGreatDoor.V

namespace Go.Proofs.YtdahanchdjadiaaGreatDoor.V
theorem take_snoc1 {α : Type} {l : List α} {i : Nat} (h : i < l.length) : l.take (i + 1) = l.take i ++ [l[i]] := by rw [List.take_succ_eq_append_getElem h]
def okE (x : Exn) : Prop := (-9223372036854775808 ≤ x.start ∧ x.start ≤ 9223372036854775807) ∧ (-9223372036854775808 ≤ x.count ∧ x.count ≤ 9223372036854775807)
def okEs (l : List Exn) : Prop := ∀ x ∈ l, okE x
def wFrom (e : Exn) : Int := max e.start 0
def wTo (e : Exn) : Int := if e.start < 0 ∨ e.count < 4096 - e.start then min (e.start + e.count) 4096 else 4096
def wX (e : Exn) : Int × Int × Bool := if e.count ≤ 0 then (0, 0, false) else (wFrom e, wTo e, decide (wFrom e < wTo e))
def inE (e : Exn) (s : Nat) : Bool := decide (0 < e.count) && (decide (e.start ≤ (s : Int)) && decide ((s : Int) < e.start + e.count))
theorem wX_true {e : Exn} (h : (wX e).2.2 = true) : ∃ n m : Nat, wX e = ((n : Int), (m : Int), true) ∧ n < m ∧ m ≤ 4096 ∧ ∀ s : Nat, s < 4096 → (inE e s = true ↔ n ≤ s ∧ s < m) := by
  unfold wX at h ⊢
  by_cases c : e.count ≤ 0
  · rw [if_pos c] at h; cases h
  · rw [if_neg c] at h ⊢
    have h2 : wFrom e < wTo e := by simpa using h
    have h3 : 0 ≤ wFrom e := by unfold wFrom; omega
    have h4 : wTo e ≤ 4096 := by unfold wTo; split <;> omega
    refine ⟨(wFrom e).toNat, (wTo e).toNat, ?_, by omega, by omega, fun s hs => ?_⟩
    · rw [Int.toNat_of_nonneg h3, Int.toNat_of_nonneg (by omega), decide_eq_true h2]
    · unfold inE
      simp only [Bool.and_eq_true, decide_eq_true_eq]
      have e1 : (wFrom e).toNat ≤ s ↔ wFrom e ≤ (s : Int) := by omega
      have e2 : s < (wTo e).toNat ↔ (s : Int) < wTo e := by omega
      rw [e1, e2]
      unfold wFrom wTo
      split <;> omega
theorem wX_false {e : Exn} (h : (wX e).2.2 = false) {s : Nat} (hs : s < 4096) : inE e s = false := by
  unfold wX at h
  by_cases c : e.count ≤ 0
  · unfold inE
    rw [decide_eq_false (by omega), Bool.false_and]
  · rw [if_neg c] at h
    have h2 : ¬ wFrom e < wTo e := by simpa using h
    unfold inE
    cases hq : (decide (0 < e.count) && (decide (e.start ≤ (s : Int)) && decide ((s : Int) < e.start + e.count))) with
    | false => rfl
    | true =>
      exfalso
      simp only [Bool.and_eq_true, decide_eq_true_eq] at hq
      apply h2
      unfold wFrom wTo
      split <;> omega
theorem cal95 {e : Exn} (ho : okE e) : cal env 95 [eExt e] = some [(.int .i64 (wX e).1, false), (.int .i64 (wX e).2.1, false), (.bool (wX e).2.2, false)] := by
  obtain ⟨⟨o1, o2⟩, o3, o4⟩ := ho
  unfold wX
  simp only [eExt]
  by_cases c : e.count ≤ 0
  · rw [if_pos c]
    rw [cal_code env95 rfl]; simp only [fn95, slAll, Nat.reduceBEq, Nat.reduceLeDiff, Nat.reduceAdd, List.length_cons, List.length_nil]
    simp only [c, slAll, slsAll, Nat.reduceMul, Nat.reduceBEq, Nat.reduceLT, Nat.reduceLeDiff, memAll, vAll, reduceCtorEq, Nat.reduceEqDiff, Nat.reduceAdd, Nat.reduceLT, Nat.reduceLeDiff, Nat.beq]
  · rw [if_neg c]
    unfold wFrom wTo
    have hmin : min (e.start + e.count) 4096 = if 4096 < e.start + e.count then 4096 else e.start + e.count := by split <;> omega
    by_cases c1 : e.start < 0
    · have hmax : max e.start 0 = 0 := by omega
      rw [hmin, hmax]
      have W1 : IntKind.i64.wrap (e.start + e.count) = e.start + e.count := i64_fits (by omega)
      rw [if_pos (.inl c1)]
      rw [cal_code env95 rfl]; simp only [fn95, slAll, Nat.reduceBEq, Nat.reduceLeDiff, Nat.reduceAdd, List.length_cons, List.length_nil]
      simp only [c, c1, W1, slAll, slsAll, Nat.reduceMul, Nat.reduceBEq, Nat.reduceLT, Nat.reduceLeDiff, memAll, vAll, reduceCtorEq, Nat.reduceEqDiff, Nat.reduceAdd, Nat.reduceLT, Nat.reduceLeDiff, Nat.beq]
    · have hmax : max e.start 0 = e.start := by omega
      rw [hmin, hmax]
      have W2 : IntKind.i64.wrap (4096 - e.start) = 4096 - e.start := i64_fits (by omega)
      by_cases c2 : e.count < 4096 - e.start
      · have W1 : IntKind.i64.wrap (e.start + e.count) = e.start + e.count := i64_fits (by omega)
        rw [if_pos (.inr c2)]
        rw [cal_code env95 rfl]; simp only [fn95, slAll, Nat.reduceBEq, Nat.reduceLeDiff, Nat.reduceAdd, List.length_cons, List.length_nil]
        simp only [c, c1, c2, W1, W2, slAll, slsAll, Nat.reduceMul, Nat.reduceBEq, Nat.reduceLT, Nat.reduceLeDiff, memAll, vAll, reduceCtorEq, Nat.reduceEqDiff, Nat.reduceAdd, Nat.reduceLT, Nat.reduceLeDiff, Nat.beq]
      · rw [if_neg (by omega)]
        rw [cal_code env95 rfl]; simp only [fn95, slAll, Nat.reduceBEq, Nat.reduceLeDiff, Nat.reduceAdd, List.length_cons, List.length_nil]
        simp only [c, c1, c2, W2, slAll, slsAll, Nat.reduceMul, Nat.reduceBEq, Nat.reduceLT, Nat.reduceLeDiff, memAll, vAll, reduceCtorEq, Nat.reduceEqDiff, Nat.reduceAdd, Nat.reduceLT, Nat.reduceLeDiff, Nat.beq]

def rawOf (i : Nat) (l : List Exn) : List End := l.flatMap fun e => if (wX e).2.2 then [⟨(wX e).1.toNat, i, 1⟩, ⟨(wX e).2.1.toNat, i, -1⟩] else []
theorem rawOf_snoc (i : Nat) (l : List Exn) (e : Exn) : rawOf i (l ++ [e]) = rawOf i l ++ (if (wX e).2.2 then [⟨(wX e).1.toNat, i, 1⟩, ⟨(wX e).2.1.toNat, i, -1⟩] else []) := by simp [rawOf]
theorem rawOf_len (i : Nat) : ∀ l : List Exn, (rawOf i l).length ≤ 2 * l.length
  | [] => Nat.le_refl _
  | e :: l => by
    have := rawOf_len i l
    have h : rawOf i (e :: l) = (if (wX e).2.2 then [⟨(wX e).1.toNat, i, 1⟩, ⟨(wX e).2.1.toNat, i, -1⟩] else []) ++ rawOf i l := by simp [rawOf]
    rw [h, List.length_append, List.length_cons]
    split <;> simp <;> omega
def rawFrom : Nat → List (List Exn) → List End
  | _, [] => []
  | i, l :: ls => rawOf i l ++ rawFrom (i + 1) ls
theorem rawFrom_snoc : ∀ (ls : List (List Exn)) (i : Nat) (l : List Exn), rawFrom i (ls ++ [l]) = rawFrom i ls ++ rawOf (i + ls.length) l
  | [], i, l => by simp [rawFrom]
  | m :: ls, i, l => by
    simp only [List.cons_append, rawFrom, rawFrom_snoc ls (i + 1) l, List.length_cons, List.append_assoc]
    rw [show i + 1 + ls.length = i + (ls.length + 1) by omega]
theorem rawFrom_len {n : Nat} : ∀ (ls : List (List Exn)) (i : Nat), (∀ l ∈ ls, l.length ≤ n) → (rawFrom i ls).length ≤ 2 * n * ls.length
  | [], i, _ => Nat.zero_le _
  | l :: ls, i, h => by
    have h1 := rawFrom_len ls (i + 1) fun x hx => h x (by simp [hx])
    have h2 := rawOf_len i l
    have h3 := h l (by simp)
    simp only [rawFrom, List.length_append, List.length_cons]
    rw [Nat.mul_add]
    omega
set_option maxRecDepth 20000 in
theorem loop89 {D : PV} {l : List Exn} {pre : List End} {v n : Nat} {q17 : AV} (hq : q17 = .pv (.list 2 (l.map eExt))) (ho : okEs l) (hl : l.length ≤ 100000) (hpre : pre.length ≤ 10000000) {st : St} (h : st.head [0, 3, 4, 5, 11, 12, 13, 17, 18, 19, 20, 39] st.boxes.length = some ⟨sl 45 [(0, .pv D), (3, .row 3 ((pre ++ rawOf v (l.take ((0 : Nat)))).map eEnd)), (4, .pv (.int .i64 v)), (5, .pv (.list 2 (l.map eExt))), (11, .pv D), (12, .pv (.int .i64 n)), (13, .pv (.int .i64 v)), (17, .pv (.list 2 (l.map eExt))), (18, .pv (.list 2 (l.map eExt))), (19, .pv (.int .i64 l.length)), (20, .pv (.int .i64 (0 : Nat))), (39, .any)], [], [], none⟩) :
   den env fn89_l1 st = some (.normal, ⟨sl 45 [(0, .pv D), (2, .any), (3, .row 3 ((pre ++ rawOf v l).map eEnd)), (11, .pv D), (12, .pv (.int .i64 n)), (13, .pv (.int .i64 v)), (39, .any)], [], [], none⟩) := by
  unfold fn89_l1
  refine clean_up (env := env) (l.length) (fun i => ⟨sl 45 [(0, .pv D), (3, .row 3 ((pre ++ rawOf v (l.take (i))).map eEnd)), (4, .pv (.int .i64 v)), (5, .pv (.list 2 (l.map eExt))), (11, .pv D), (12, .pv (.int .i64 n)), (13, .pv (.int .i64 v)), (17, .pv (.list 2 (l.map eExt))), (18, .pv (.list 2 (l.map eExt))), (19, .pv (.int .i64 l.length)), (20, .pv (.int .i64 i)), (39, .any)], [], [], none⟩) (fun i => some (.normal, ⟨sl 45 [(0, .pv D), (2, .any), (3, .row 3 ((pre ++ rawOf v l).map eEnd)), (11, .pv D), (12, .pv (.int .i64 n)), (13, .pv (.int .i64 v)), (39, .any)], [], [], none⟩)) h (fun _ => rfl) (fun _ => by simp only [slAll, slsAll, Nat.reduceMul, Nat.reduceBEq, Nat.reduceLT, Nat.reduceLeDiff, Nat.reduceAdd, decide_true, Bool.and_self, Bool.true_and]) ?_ ?_
  · intro i rb hi ih

    have hlim : lim = 1073741824 := rfl
    have hi1 := i64_next hi (by omega)
    have F1 : ((i : Int) < (l.length : Int)) = True := eq_true (by omega)
    have hx : l[i]? = some l[i] := List.getElem?_eq_getElem hi
    have ht := take_snoc1 hi
    have hox := ho _ (List.getElem_mem hi)
    generalize l[i] = x at *
    have e1 := cal95 hox
    have hrl := rawOf_len v (l.take i)
    rw [List.length_take] at hrl
    have P2 : part [PV.int .i64 x.start, .int .i64 x.count] 0 (some 2) = some (.agg [.int .i64 x.start, .int .i64 x.count]) := rfl
    simp only [eExt] at e1
    cases hw : (wX x).2.2 with
    | false =>
      rw [hw] at e1
      have hs : rawOf v (l.take (i + 1)) = rawOf v (l.take i) := by rw [ht, rawOf_snoc, hw]; simp
      simp only [fn89_b0, F1, hx, e1, eExt, P2, index_nat hi, List.getElem?_map, Option.map_some, List.length_map, List.length_cons, List.length_nil, slAll, slsAll, Nat.reduceMul, Nat.reduceBEq, Nat.reduceLT, Nat.reduceLeDiff, memAll, vAll, reduceCtorEq, Nat.reduceEqDiff, Nat.reduceAdd, Nat.reduceLT, Nat.reduceLeDiff, Nat.beq]
      rw [ih _ (by simp only [hi1, hs, slAll, slsAll, Nat.reduceMul, Nat.reduceBEq, Nat.reduceLT, Nat.reduceLeDiff, memAll, vAll, reduceCtorEq, Nat.reduceEqDiff, Nat.reduceAdd, Nat.reduceLT, Nat.reduceLeDiff, Nat.beq] <;> rfl)]
    | true =>
      obtain ⟨a, b, hab, -, -, -⟩ := wX_true hw
      have hs : rawOf v (l.take (i + 1)) = rawOf v (l.take i) ++ [⟨a, v, 1⟩, ⟨b, v, -1⟩] := by rw [ht, rawOf_snoc, hab]; simp
      rw [hab] at e1
      have F2 : ((pre ++ rawOf v (l.take i)).length + 1 + 1 ≤ lim) = True := eq_true (by rw [List.length_append]; omega)
      have F3 : ((pre ++ rawOf v (l.take i)).length + 2 ≤ lim) = True := eq_true (by rw [List.length_append]; omega)
      simp only [fn89_b0, F1, F2, F3, hx, e1, eExt, P2, index_nat hi, List.getElem?_map, Option.map_some, List.length_map, List.length_cons, List.length_nil, slAll, slsAll, Nat.reduceMul, Nat.reduceBEq, Nat.reduceLT, Nat.reduceLeDiff, memAll, vAll, reduceCtorEq, Nat.reduceEqDiff, Nat.reduceAdd, Nat.reduceLT, Nat.reduceLeDiff, Nat.beq]
      rw [ih _ (by simp only [hi1, hs, ← List.append_assoc, List.map_append, List.map_cons, List.map_nil, eEnd, slAll, slsAll, Nat.reduceMul, Nat.reduceBEq, Nat.reduceLT, Nat.reduceLeDiff, memAll, vAll, reduceCtorEq, Nat.reduceEqDiff, Nat.reduceAdd, Nat.reduceLT, Nat.reduceLeDiff, Nat.beq] <;> rfl)]
  · intro rb

    simp only [fn89_b0, Int.lt_irrefl, List.length_map, List.take_length, slAll, slsAll, Nat.reduceMul, Nat.reduceBEq, Nat.reduceLT, Nat.reduceLeDiff, memAll, vAll, reduceCtorEq, Nat.reduceEqDiff, Nat.reduceAdd, Nat.reduceLT, Nat.reduceLeDiff, Nat.beq]

set_option maxRecDepth 20000 in
theorem loop89l3 {ls : List (List Exn)} (ho : ∀ l ∈ ls, okEs l) (hr : ∀ l ∈ ls, l.length ≤ 100000) (hl : ls.length ≤ 10) {st : St} (h : st.head [0, 3, 11, 12, 13, 39] st.boxes.length = some ⟨sl 45 [(0, .pv (.list 1 (ls.map eExts))), (3, .row 3 ((rawFrom 0 (ls.take ((0 : Nat)))).map eEnd)), (11, .pv (.list 1 (ls.map eExts))), (12, .pv (.int .i64 ls.length)), (13, .pv (.int .i64 (0 : Nat))), (39, .any)], [], [], none⟩) :
   den env fn89_l3 st = some (.normal, ⟨sl 45 [(2, .any), (3, .row 3 ((rawFrom 0 ls).map eEnd))], [], [], none⟩) := by
  unfold fn89_l3
  refine clean_up (env := env) (ls.length) (fun i => ⟨sl 45 [(0, .pv (.list 1 (ls.map eExts))), (3, .row 3 ((rawFrom 0 (ls.take (i))).map eEnd)), (11, .pv (.list 1 (ls.map eExts))), (12, .pv (.int .i64 ls.length)), (13, .pv (.int .i64 i)), (39, .any)], [], [], none⟩) (fun i => some (.normal, ⟨sl 45 [(2, .any), (3, .row 3 ((rawFrom 0 ls).map eEnd))], [], [], none⟩)) h (fun _ => rfl) (fun _ => by simp only [slAll, slsAll, Nat.reduceMul, Nat.reduceBEq, Nat.reduceLT, Nat.reduceLeDiff, Nat.reduceAdd, decide_true, Bool.and_self, Bool.true_and]) ?_ ?_
  · intro i rb hi ih

    have hlim : lim = 1073741824 := rfl
    have hi1 := i64_next hi (by omega)
    have F1 : ((i : Int) < (ls.length : Int)) = True := eq_true (by omega)
    have hx : ls[i]? = some ls[i] := List.getElem?_eq_getElem hi
    have ht := take_snoc1 hi
    have hox := ho _ (List.getElem_mem hi)
    have hrx := hr _ (List.getElem_mem hi)
    have hli : (ls.take i).length = i := by rw [List.length_take]; omega
    have hp := rawFrom_len (n := 100000) (ls.take i) 0 fun l hl => hr l (List.mem_of_mem_take hl)
    rw [hli] at hp
    generalize ls[i] = l at *
    have hs : rawFrom 0 (ls.take (i + 1)) = rawFrom 0 (ls.take i) ++ rawOf i l := by rw [ht, rawFrom_snoc, hli, Nat.zero_add]
    have hr0 : rawOf i ([] : List Exn) = [] := rfl
    simp only [fn89_b2, F1, hx, eExts, index_nat hi, List.getElem?_map, Option.map_some, List.length_map, slAll, slsAll, Nat.reduceMul, Nat.reduceBEq, Nat.reduceLT, Nat.reduceLeDiff, memAll, vAll, reduceCtorEq, Nat.reduceEqDiff, Nat.reduceAdd, Nat.reduceLT, Nat.reduceLeDiff, Nat.beq]
    rw [loop89 (l := l) (pre := rawFrom 0 (ls.take i)) (v := i) (q17 := .pv (.list 2 (l.map eExt))) rfl hox hrx (by omega)]
    rotate_left
    · simp only [z_take_zero, hr0, List.append_nil, eExts, slAll, slsAll, Nat.reduceMul, Nat.reduceBEq, Nat.reduceLT, Nat.reduceLeDiff, memAll, vAll, reduceCtorEq, Nat.reduceEqDiff, Nat.reduceAdd, Nat.reduceLT, Nat.reduceLeDiff, Nat.beq] <;> rfl
    simp only [slAll, slsAll, Nat.reduceMul, Nat.reduceBEq, Nat.reduceLT, Nat.reduceLeDiff, memAll, vAll, reduceCtorEq, Nat.reduceEqDiff, Nat.reduceAdd, Nat.reduceLT, Nat.reduceLeDiff, Nat.beq]
    rw [ih _ (by simp only [hi1, hs, eExts, slAll, slsAll, Nat.reduceMul, Nat.reduceBEq, Nat.reduceLT, Nat.reduceLeDiff, memAll, vAll, reduceCtorEq, Nat.reduceEqDiff, Nat.reduceAdd, Nat.reduceLT, Nat.reduceLeDiff, Nat.beq] <;> rfl)]
  · intro rb

    simp only [fn89_b2, Int.lt_irrefl, List.length_map, List.take_length, slAll, slsAll, Nat.reduceMul, Nat.reduceBEq, Nat.reduceLT, Nat.reduceLeDiff, memAll, vAll, reduceCtorEq, Nat.reduceEqDiff, Nat.reduceAdd, Nat.reduceLT, Nat.reduceLeDiff, Nat.beq]

def endsOf (ls : List (List Exn)) : List End := sortE (rawFrom 0 ls)
theorem cal89 {ls : List (List Exn)} (ho : ∀ l ∈ ls, okEs l) (hr : ∀ l ∈ ls, l.length ≤ 10000) (hl : ls.length ≤ 2) (hsl : (endsOf ls).length = (rawFrom 0 ls).length) : cal env 89 [.list 1 (ls.map eExts)] = some [(.list 3 ((endsOf ls).map eEnd), true)] := by
  have hp := rawFrom_len (n := 10000) ls 0 hr
  have hp2 : (rawFrom 0 ls).length ≤ 1000000 := by
    have : 2 * 10000 * ls.length ≤ 2 * 10000 * 2 := Nat.mul_le_mul_left _ hl
    omega
  have h1 := sortEndsX_enc (g := 97) (l := rawFrom 0 ls) hp2
  have h2 : ((sortE (rawFrom 0 ls)).map eEnd).length = ((rawFrom 0 ls).map eEnd).length := by
    rw [List.length_map, List.length_map]; exact hsl
  unfold endsOf
  have hcond : (0 = 0 ∧ (rawFrom 0 ls).length = ((rawFrom 0 ls).map eEnd).length ∧ ((sortE (rawFrom 0 ls)).map eEnd).length = ((rawFrom 0 ls).map eEnd).length) = True := eq_true ⟨rfl, by simp, h2⟩
  rw [cal_code env89 rfl]; simp only [fn89, slAll, Nat.reduceBEq, Nat.reduceLeDiff, Nat.reduceAdd, List.length_cons, List.length_nil]
  simp only [List.length_map, env96, h1, hsl, slAll, slsAll, Nat.reduceMul, Nat.reduceBEq, Nat.reduceLT, Nat.reduceLeDiff, memAll, vAll, reduceCtorEq, Nat.reduceEqDiff, Nat.reduceAdd, Nat.reduceLT, Nat.reduceLeDiff, Nat.beq]
  rw [loop89l3 ho (fun l h => by have := hr l h; omega) (by omega) (by simp only [z_take_zero, rawFrom, List.map_nil, slAll, slsAll, Nat.reduceMul, Nat.reduceBEq, Nat.reduceLT, Nat.reduceLeDiff, memAll, vAll, reduceCtorEq, Nat.reduceEqDiff, Nat.reduceAdd, Nat.reduceLT, Nat.reduceLeDiff, Nat.beq] <;> rfl)]
  simp only [h2, List.length_map, env96, h1, hsl, slAll, slsAll, Nat.reduceMul, Nat.reduceBEq, Nat.reduceLT, Nat.reduceLeDiff, memAll, vAll, reduceCtorEq, Nat.reduceEqDiff, Nat.reduceAdd, Nat.reduceLT, Nat.reduceLeDiff, Nat.beq]
  rw [← hsl]
  unfold endsOf
  rw [take_map_all]
end Go.Proofs.YtdahanchdjadiaaGreatDoor.V

namespace Go.Proofs
open Go.Shelf
def Tryz.sortEnd_ren : Go.Shelf.Ren := ⟨fun | 6 => 96 | 15 => 100 | 14 => 99 | 28 => 110 | 29 => 111 | 20 => 102 | 21 => 103 | 22 => 104 | 23 => 105 | 24 => 106 | 25 => 107 | 26 => 108 | 27 => 109 | 46 => 112 | 47 => 113 | 48 => 114 | 49 => 115 | 50 => 116 | 57 => 117 | n => n, fun | 22 => 136 | 24 => 140 | 25 => 148 | 3 => 3 | 39 => 126 | 0 => 0 | 53 => 161 | 55 => 96 | 4 => 4 | 46 => 154 | 45 => 153 | 50 => 158 | 5 => 5 | 9 => 9 | 66 => 162 | 70 => 166 | 76 => 168 | 77 => 169 | n => n, fun | n => n⟩
theorem Tryz.sortEnd : Go.Proofs.SlLaysF0.n6 Tryz.prog Tryz.sortEnd_ren := {
  mixed := by kernel_rfl
  f6 := ⟨Tryz.f96.name, by decide, Tryz.func96.trans (congrArg some (by kernel_rfl))⟩
  f14 := ⟨Tryz.f99.name, by decide, Tryz.func99.trans (congrArg some (by kernel_rfl))⟩
  f15 := Tryz.func100.trans (congrArg some (by kernel_rfl))
  f20 := ⟨Tryz.f102.name, by decide, Tryz.func102.trans (congrArg some (by kernel_rfl))⟩
  f21 := ⟨Tryz.f103.name, by decide, Tryz.func103.trans (congrArg some (by kernel_rfl))⟩
  f22 := ⟨Tryz.f104.name, by decide, Tryz.func104.trans (congrArg some (by kernel_rfl))⟩
  f23 := ⟨Tryz.f105.name, by decide, Tryz.func105.trans (congrArg some (by kernel_rfl))⟩
  f24 := ⟨Tryz.f106.name, by decide, Tryz.func106.trans (congrArg some (by kernel_rfl))⟩
  f25 := ⟨Tryz.f107.name, by decide, Tryz.func107.trans (congrArg some (by kernel_rfl))⟩
  f26 := ⟨Tryz.f108.name, by decide, Tryz.func108.trans (congrArg some (by kernel_rfl))⟩
  f27 := ⟨Tryz.f109.name, by decide, Tryz.func109.trans (congrArg some (by kernel_rfl))⟩
  f28 := Tryz.func110.trans (congrArg some (by kernel_rfl))
  f29 := Tryz.func111.trans (congrArg some (by kernel_rfl))
  f46 := ⟨Tryz.f112.name, by decide, Tryz.func112.trans (congrArg some (by kernel_rfl))⟩
  f47 := Tryz.func113.trans (congrArg some (by kernel_rfl))
  f48 := Tryz.func114.trans (congrArg some (by kernel_rfl))
  f49 := ⟨Tryz.f115.name, by decide, Tryz.func115.trans (congrArg some (by kernel_rfl))⟩
  f50 := ⟨Tryz.f116.name, by decide, Tryz.func116.trans (congrArg some (by kernel_rfl))⟩
  f57 := ⟨Tryz.f117.name, by decide, Tryz.func117.trans (congrArg some (by kernel_rfl))⟩
  t0 := Tryz.underlying0
  a0 := Tryz.isAgg0
  z0 := Tryz.sizeOf0
  v0 := Tryz.zeroValue0
  t3 := Tryz.underlying3
  a3 := Tryz.isAgg3
  z3 := Tryz.sizeOf3
  v3 := Tryz.zeroValue3
  t4 := Tryz.underlying4
  a4 := Tryz.isAgg4
  z4 := Tryz.sizeOf4
  v4 := Tryz.zeroValue4
  t5 := Tryz.underlying5
  a5 := Tryz.isAgg5
  z5 := Tryz.sizeOf5
  v5 := Tryz.zeroValue5
  t9 := Tryz.underlying9
  a9 := Tryz.isAgg9
  z9 := Tryz.sizeOf9
  v9 := Tryz.zeroValue9
  t22 := Tryz.underlying136
  a22 := Tryz.isAgg136
  z22 := Tryz.sizeOf136
  v22 := Tryz.zeroValue136
  t25 := Tryz.underlying148
  a25 := Tryz.isAgg148
  z25 := Tryz.sizeOf148
  v25 := Tryz.zeroValue148
  t39 := Tryz.underlying126
  a39 := Tryz.isAgg126
  z39 := Tryz.sizeOf126
  v39 := Tryz.zeroValue126
  t45 := Tryz.underlying153
  a45 := Tryz.isAgg153
  z45 := Tryz.sizeOf153
  v45 := Tryz.zeroValue153
  t46 := Tryz.underlying154
  a46 := Tryz.isAgg154
  z46 := Tryz.sizeOf154
  v46 := Tryz.zeroValue154
  t50 := Tryz.underlying158
  a50 := Tryz.isAgg158
  z50 := Tryz.sizeOf158
  v50 := Tryz.zeroValue158
  t53 := Tryz.underlying161
  a53 := Tryz.isAgg161
  z53 := Tryz.sizeOf161
  v53 := Tryz.zeroValue161
  t55 := Tryz.underlying96
  a55 := Tryz.isAgg96
  z55 := Tryz.sizeOf96
  v55 := Tryz.zeroValue96
  t66 := Tryz.underlying162
  a66 := Tryz.isAgg162
  z66 := Tryz.sizeOf162
  v66 := Tryz.zeroValue162
  t70 := Tryz.underlying166
  a70 := Tryz.isAgg166
  z70 := Tryz.sizeOf166
  v70 := Tryz.zeroValue166
  t76 := Tryz.underlying168
  a76 := Tryz.isAgg168
  z76 := Tryz.sizeOf168
  v76 := Tryz.zeroValue168
  t77 := Tryz.underlying169
  a77 := Tryz.isAgg169
  z77 := Tryz.sizeOf169
  v77 := Tryz.zeroValue169 }
def Tryz.cmpInt_ren : Go.Shelf.Ren := ⟨fun | 5 => 98 | 7 => 101 | n => n, fun | 22 => 3 | 3 => 3 | 4 => 4 | n => n, fun | n => n⟩
theorem Tryz.cmpInt : Go.Proofs.SlLaysC2.n5 Tryz.prog Tryz.cmpInt_ren := {
  mixed := by kernel_rfl
  f5 := ⟨Tryz.f98.name, by decide, Tryz.func98.trans (congrArg some (by kernel_rfl))⟩
  f7 := ⟨Tryz.f101.name, by decide, Tryz.func101.trans (congrArg some (by kernel_rfl))⟩
  t3 := Tryz.underlying3
  a3 := Tryz.isAgg3
  z3 := Tryz.sizeOf3
  v3 := Tryz.zeroValue3
  t4 := Tryz.underlying4
  a4 := Tryz.isAgg4
  z4 := Tryz.sizeOf4
  v4 := Tryz.zeroValue4
  t22 := Tryz.underlying3
  a22 := Tryz.isAgg3
  z22 := Tryz.sizeOf3
  v22 := Tryz.zeroValue3 }
end Go.Proofs
