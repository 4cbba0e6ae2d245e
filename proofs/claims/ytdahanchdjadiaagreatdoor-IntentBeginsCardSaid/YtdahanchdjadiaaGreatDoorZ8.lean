/-
  Part 8 of the texts that the statement stands on.
-/
import Derived.Test.YtdahanchdjadiaaGreatDoorZ7
set_option linter.all false
namespace Go.Proofs.YtdahanchdjadiaaGreatDoor.V
def aw0 : Itn := ⟨20, 8, [0, 0, 0], ⟨3, [0]⟩⟩
def aw1 : Itn := ⟨20, 8, [1, 1, 0], ⟨3, [3]⟩⟩
def aw2 : Itn := ⟨20, 8, [1, 2, 0], ⟨3, [3]⟩⟩
def aw3 : Itn := ⟨20, 8, [0, 1, 0], ⟨3, [3]⟩⟩
def aw4 : Itn := ⟨20, 8, [0, 1, 0], ⟨3, [2]⟩⟩
def awR : Itn := ⟨20, 8, [0, 0, 0], ⟨3, [3]⟩⟩
def awB : List Nat := [20, 8, 1, 0, 2]
theorem xNew : newI 20 8 = aw0 := by kernel_rfl
theorem xNewE : newIE 20 8 = 0 := by kernel_rfl
theorem xB1 : bgI aw0 ⟨6, 4⟩ = aw1 := by kernel_rfl
theorem xB1s : bgS aw0 ⟨6, 4⟩ = true := by kernel_rfl
theorem xB1e : bgE aw0 ⟨6, 4⟩ = 0 := by kernel_rfl
theorem xB2 : bgI aw1 ⟨9, 1⟩ = aw2 := by kernel_rfl
theorem xB2s : bgS aw1 ⟨9, 1⟩ = false := by kernel_rfl
theorem xB2e : bgE aw1 ⟨9, 1⟩ = 0 := by kernel_rfl
theorem xEnc : encO aw2 = awB := by kernel_rfl
theorem xRc : rcI 20 8 awB = awR := by kernel_rfl
theorem xRl : rcL 20 8 awB = [⟨0, 16⟩] := by kernel_rfl
theorem xRe : rcE 20 8 awB = 0 := by kernel_rfl
theorem xEn : cgI endV endE aw2 ⟨6, 4⟩ = aw3 := by kernel_rfl
theorem xEnE : cgE endE aw2 ⟨6, 4⟩ = 0 := by kernel_rfl
theorem xCl : clnI aw3 = aw4 := by kernel_rfl
theorem xClF : clnF aw3 = true := by kernel_rfl
theorem xX4 : bmX aw4.bm = [⟨1, 1⟩] := by kernel_rfl
set_option maxRecDepth 20000 in
theorem calAwake : cal env 6 [] = some [(.bool true, false)] := by
  have n1 := cal19 (s := 20) (g := 8)
  rw [xNew, xNewE] at n1
  have b1 := cal7 (i := aw0) (e := ⟨6, 4⟩) (by decide)
  rw [xB1, xB1s, xB1e] at b1
  have b2 := cal7 (i := aw1) (e := ⟨9, 1⟩) (by decide)
  rw [xB2, xB2s, xB2e] at b2
  have c1 := cal20 (i := aw2) (by decide)
  rw [xEnc] at c1
  have r1 := cal16 (s := 20) (g := 8) (b := awB) (by decide) (by decide)
  rw [xRc, xRl, xRe] at r1
  have s1 := cal18 (a := [⟨0, 16⟩]) (b := [⟨0, 16⟩]) (by decide)
  rw [decide_eq_true rfl] at s1
  have d1 := cal12 (i := aw2) (e := ⟨6, 4⟩) (by decide)
  rw [xEn, xEnE] at d1
  have k1 := cal14 (i := aw3) (by decide)
  rw [xCl, xClF] at k1
  have x1 := cal21 (b := aw4.bm)
  rw [xX4] at x1
  have s2 := cal18 (a := [⟨1, 1⟩]) (b := [⟨1, 1⟩]) (by decide)
  rw [decide_eq_true rfl] at s2
  have w0 : ((0 : Wd).toNat : Int) = 0 := rfl
  have w2 : ((2 : Wd).toNat : Int) = 2 := rfl
  have w3 : ((3 : Wd).toNat : Int) = 3 := rfl
  simp only [aw0, aw1, aw2, aw3, aw4, awR, awB, eItn, eBm, eExt, eI, eW, eY, w0, w2, w3, List.map_cons, List.map_nil, Int.natCast_zero] at n1 b1 b2 c1 r1 s1 d1 k1 x1 s2
  have P5 : ∀ a b c d e : PV, part [a, b, c, d, e] 0 (some 5) = some (.agg [a, b, c, d, e]) := fun _ _ _ _ _ => rfl
  have L1 : (1 ≤ lim) = True := eq_true (by decide)
  have Z0 : ((0 : Int) != 0) = false := rfl
  have Q0 : ((0 : Int) == 0) = true := rfl
  have Q1 : ((1 : Int) == 1) = true := rfl
  have Q3 : (((3 : Nat) : Int) == 3) = true := rfl
  have I0 : index (.int .i64 0) 3 = some 0 := by kernel_rfl
  have I1 : index (.int .i64 1) 3 = some 1 := by kernel_rfl
  rw [cal_code env6 rfl]; simp only [fn6, slAll, Nat.reduceBEq, Nat.reduceLeDiff, Nat.reduceAdd, List.length_cons, List.length_nil]
  simp only [Z0, Q0, Q1, Q3, I0, I1, n1, b1, b2, c1, r1, s1, d1, k1, x1, s2, P5, L1, part_bm, List.length_cons, List.length_nil, slAll, slsAll, Nat.reduceMul, Nat.reduceBEq, Nat.reduceLT, Nat.reduceLeDiff, memAll, vAll, reduceCtorEq, Nat.reduceEqDiff, Nat.reduceAdd, Nat.reduceLT, Nat.reduceLeDiff, Nat.beq]
end Go.Proofs.YtdahanchdjadiaaGreatDoor.V

namespace Go.Proofs.YtdahanchdjadiaaGreatDoor.V
theorem getX_nat {b : Bm} (h : okB b = true) (g : Nat) : getX b (g : Int) = bit b.ws g := by
  unfold getX
  rw [h, Bool.true_and, decide_eq_true (by omega), Bool.true_and, Int.toNat_natCast]
  cases hb : bit b.ws g with
  | false => rw [Bool.and_false]
  | true => rw [decide_eq_true (bit_size h hb)]; rfl
theorem set_bit {b : Bm} {e : Exn} (h : okB b = true) (hf : bmFit b.size e = true) (s : Nat) : bit (chO orW b e).ws s = (bit b.ws s || decide (e.start ≤ (s : Int) ∧ (s : Int) < e.start + e.count)) := by
  obtain ⟨_, h2, h3, h4⟩ := set_ok h hf
  by_cases c : (s : Int) < b.size
  · exact h4 s c
  · have := bmFit_iff.1 hf
    rw [(okB_iff.1 h2).2 s (by rw [h3]; omega), (okB_iff.1 h).2 s (by omega), decide_eq_false (by omega)]
    rfl
theorem begV_in {n : Int} (h : 0 ≤ n ∧ n ≤ 4096) (he : begE n = 0) : 0 < begV n ∧ begV n ≤ 4096 := by
  unfold begE at he
  unfold begV
  split at he
  · cases he
  · rename_i c
    rw [if_neg c]; omega
theorem endV_in {n : Int} (h : 0 ≤ n ∧ n ≤ 4096) (he : endE n = 0) : (0 ≤ endV n ∧ endV n ≤ 4096) ∧ 0 < n := by
  unfold endE at he
  unfold endV
  split at he
  · cases he
  · rename_i c
    rw [if_neg c]; omega
theorem tch_nat {i : Itn} {e : Exn} (h : okItn i = true) (hb : tchB i.size e = true) : ∃ s c : Nat, tchX i.size i.gran e = ⟨(s : Int), (c : Int)⟩ ∧ 1 ≤ c ∧ s + c ≤ i.act.length ∧ bmFit i.bm.size ⟨(s : Int), (c : Int)⟩ = true := by
  obtain ⟨h1, h2, h3, h4, h5⟩ := okItn_iff.1 h
  obtain ⟨t1, t2, t3⟩ := tch_in h1 hb
  refine ⟨(tchX i.size i.gran e).start.toNat, (tchX i.size i.gran e).count.toNat, ?_, by omega, by omega, bmFit_iff.2 (by simp only; omega)⟩
  generalize tchX i.size i.gran e = t at *
  obtain ⟨a, b⟩ := t
  simp only at *
  simp only [Exn.mk.injEq]
  omega
theorem cg_parts {v er : Int → Int} {i : Itn} {e : Exn} {s c : Nat} (h : okItn i = true) (hb : tchB i.size e = true) (ht : tchX i.size i.gran e = ⟨(s : Int), (c : Int)⟩) : cgE er i e = badA er i.act s c ∧ (badA er i.act s c = 0 → cgI v er i e = { i with act := actTo v i.act s c }) := by
  have hE : cgE er i e = badA er i.act s c := by
    unfold cgE
    rw [if_neg (by rw [h]; decide), if_neg (by rw [hb]; decide), ht]
    rfl
  refine ⟨hE, fun h0 => ?_⟩
  unfold cgI
  rw [if_pos (by rw [hE]; exact h0), ht]
  rfl
theorem bg_ok {i : Itn} {e : Exn} {s c : Nat} (h : okItn i = true) (hb : tchB i.size e = true) (ht : tchX i.size i.gran e = ⟨(s : Int), (c : Int)⟩) (h0 : bgE i e = 0) :
    bgI i e = ⟨i.size, i.gran, actTo begV i.act s c, chO orW i.bm ⟨(s : Int), (c : Int)⟩⟩ ∧ okItn (bgI i e) = true := by
  obtain ⟨h1, h2, h3, h4, h5⟩ := okItn_iff.1 h
  obtain ⟨hE, hI⟩ := cg_parts (v := begV) (er := begE) h hb ht
  have h0' : badA begE i.act s c = 0 := by rw [← hE]; exact h0
  obtain ⟨s', c', ht', k1, k2, k3⟩ := tch_nat h hb
  obtain ⟨rfl, rfl⟩ : s' = s ∧ c' = c := by rw [ht] at ht'; simp only [Exn.mk.injEq] at ht'; omega
  have e1 : bgI i e = ⟨i.size, i.gran, actTo begV i.act s' c', chO orW i.bm ⟨(s' : Int), (c' : Int)⟩⟩ := by
    unfold bgI
    rw [if_pos h0, hI h0', ht]
  refine ⟨e1, ?_⟩
  obtain ⟨g1, g2, g3, -⟩ := set_ok h3 k3
  have g4 := set_bit h3 k3
  have hbad := (badA_cases begE k2).resolve_right (fun ⟨m, hm, _, q2, q3⟩ => q2 (by rw [← q3]; exact h0'))
  rw [e1]
  refine okItn_iff.2 ⟨h1, by rw [actTo_len]; exact h2, g2, by rw [actTo_len, g3]; exact h4, fun g hg => ?_⟩
  rw [actTo_len] at hg
  rw [actTo_at]
  have q := h5 g hg
  obtain ⟨q1, q2⟩ := badG_in q
  have hx : getX (chO orW i.bm ⟨(s' : Int), (c' : Int)⟩) (g : Int) = (bit i.bm.ws g || decide ((s' : Int) ≤ (g : Int) ∧ (g : Int) < (s' : Int) + (c' : Int))) := by rw [getX_nat g2, g4]
  unfold badG
  split
  · rename_i cc
    have hz := hbad.2 (g - s') (by omega)
    simp only [show s' + (g - s') = g by omega] at hz
    have := begV_in q1 hz
    rw [hx, decide_eq_false (by omega), decide_eq_false (by omega), decide_eq_true (show (s' : Int) ≤ (g : Int) ∧ (g : Int) < (s' : Int) + (c' : Int) by omega)]
    simp
  · rw [hx, decide_eq_false (by omega), decide_eq_false (by omega)]
    by_cases c0 : 0 < i.act[g]
    · have := q2 c0
      rw [getX_nat h3] at this
      rw [this]
      simp
    · rw [decide_eq_false (by omega)]
      simp
end Go.Proofs.YtdahanchdjadiaaGreatDoor.V

namespace Go.Proofs.YtdahanchdjadiaaGreatDoor.V
theorem cal83 {size : Int} {e : Exn} (hs : 0 ≤ size ∧ size ≤ 4096) : cal env 83 [eExt e, .int .i64 size] = some [(.bool (bmFit size e), false)] := by
  unfold bmFit eExt
  by_cases c0 : 0 ≤ e.start
  · have F0 : (e.start ≥ 0) = True := eq_true c0
    rw [decide_eq_true c0]
    by_cases c1 : 0 ≤ e.count
    · have F1 : (e.count ≥ 0) = True := eq_true c1
      rw [decide_eq_true c1]
      by_cases c2 : e.start ≤ size
      · have F2 : (e.start ≤ size) = True := eq_true c2
        have W : IntKind.i64.wrap (size - e.start) = size - e.start := i64_fits (by omega)
        rw [decide_eq_true c2]
        rw [cal_code env83 rfl]; simp only [fn83, slAll, Nat.reduceBEq, Nat.reduceLeDiff, Nat.reduceAdd, List.length_cons, List.length_nil]
        simp only [F0, F1, F2, W, slAll, slsAll, Nat.reduceMul, Nat.reduceBEq, Nat.reduceLT, Nat.reduceLeDiff, memAll, vAll, reduceCtorEq, Nat.reduceEqDiff, Nat.reduceAdd, Nat.reduceLT, Nat.reduceLeDiff, Nat.beq]
      · have F2 : (e.start ≤ size) = False := eq_false c2
        rw [decide_eq_false c2]
        rw [cal_code env83 rfl]; simp only [fn83, slAll, Nat.reduceBEq, Nat.reduceLeDiff, Nat.reduceAdd, List.length_cons, List.length_nil]
        simp only [F0, F1, F2, slAll, slsAll, Nat.reduceMul, Nat.reduceBEq, Nat.reduceLT, Nat.reduceLeDiff, memAll, vAll, reduceCtorEq, Nat.reduceEqDiff, Nat.reduceAdd, Nat.reduceLT, Nat.reduceLeDiff, Nat.beq]
    · have F1 : (e.count ≥ 0) = False := eq_false c1
      rw [decide_eq_false c1]
      rw [cal_code env83 rfl]; simp only [fn83, slAll, Nat.reduceBEq, Nat.reduceLeDiff, Nat.reduceAdd, List.length_cons, List.length_nil]
      simp only [F0, F1, slAll, slsAll, Nat.reduceMul, Nat.reduceBEq, Nat.reduceLT, Nat.reduceLeDiff, memAll, vAll, reduceCtorEq, Nat.reduceEqDiff, Nat.reduceAdd, Nat.reduceLT, Nat.reduceLeDiff, Nat.beq]
  · have F0 : (e.start ≥ 0) = False := eq_false c0
    rw [decide_eq_false c0]
    rw [cal_code env83 rfl]; simp only [fn83, slAll, Nat.reduceBEq, Nat.reduceLeDiff, Nat.reduceAdd, List.length_cons, List.length_nil]
    simp only [F0, slAll, slsAll, Nat.reduceMul, Nat.reduceBEq, Nat.reduceLT, Nat.reduceLeDiff, memAll, vAll, reduceCtorEq, Nat.reduceEqDiff, Nat.reduceAdd, Nat.reduceLT, Nat.reduceLeDiff, Nat.beq]
theorem bit_put {ws : List Wd} {q : Nat} {x : Wd} (i : Nat) (hq : q < ws.length) : bit (ws.set q x) i = if i / 64 = q then x.getLsbD (i % 64) else bit ws i := by
  unfold bit
  rw [List.getD_eq_getElem?_getD, List.getD_eq_getElem?_getD, List.getElem?_set]
  by_cases c : q = i / 64
  · rw [if_pos c, if_pos c.symm, if_pos hq]
    rfl
  · rw [if_neg c, if_neg (fun h => c h.symm)]
theorem one_shl {r k : Nat} (hk : k < 64) : ((1 : Wd) <<< r).getLsbD k = decide (k = r) := by
  rw [BitVec.getLsbD_shiftLeft, show (1 : Wd) = 1#64 from rfl, BitVec.getLsbD_one]
  by_cases c : k = r
  · subst c; simp [hk]
  · rw [decide_eq_false c]
    by_cases c2 : k < r
    · simp [c2]
    · have : ¬ (k - r = 0) := by omega
      simp [c2, this]
theorem orW_bit (x y : Wd) (k : Nat) : (orW x y).getLsbD k = (x.getLsbD k || y.getLsbD k) := BitVec.getLsbD_or
theorem clW_bit (x y : Wd) {k : Nat} (h : k < 64) : (clW x y).getLsbD k = (x.getLsbD k && !y.getLsbD k) := by
  unfold clW
  rw [BitVec.getLsbD_and, BitVec.getLsbD_not, decide_eq_true h, Bool.true_and]
theorem ch_step {F : Wd → Wd → Wd} (hF : F = orW ∨ F = clW) {ws : List Wd} {s j : Nat} (hq : (s + j) / 64 < ws.length) :
    (chW F ws ⟨(s : Int), (j : Int)⟩).set ((s + j) / 64) (F ((chW F ws ⟨(s : Int), (j : Int)⟩)[(s + j) / 64]'(by rw [chW_len]; exact hq)) ((1 : Wd) <<< ((s + j) % 64))) = chW F ws ⟨(s : Int), ((j + 1 : Nat) : Int)⟩ := by
  have hq2 : (s + j) / 64 < (chW F ws ⟨(s : Int), (j : Int)⟩).length := by rw [chW_len]; exact hq
  apply ws_ext
  · rw [List.length_set, chW_len, chW_len]
  intro i hi
  rw [List.length_set, chW_len] at hi
  rw [bit_put i hq2]
  rcases hF with rfl | rfl
  · have e1 : ∀ j : Nat, chW orW ws ⟨(s : Int), (j : Int)⟩ = setW ws s (s + j) := fun _ => rfl
    have e2 : bit (chW orW ws ⟨(s : Int), ((j + 1 : Nat) : Int)⟩) i = (bit ws i || decide ((s : Int) ≤ (i : Int) ∧ (i : Int) < (s : Int) + ((j + 1 : Nat) : Int))) := bit_set hi
    have e3 : bit (chW orW ws ⟨(s : Int), (j : Int)⟩) i = (bit ws i || decide ((s : Int) ≤ (i : Int) ∧ (i : Int) < (s : Int) + (j : Int))) := bit_set hi
    rw [e2]
    by_cases c : i / 64 = (s + j) / 64
    · rw [if_pos c]
      rw [orW_bit, one_shl (Nat.mod_lt _ (by decide))]
      have e4 := bit_of (ws := chW orW ws ⟨(s : Int), (j : Int)⟩) (i := i) (by rw [c]; exact hq2)
      rw [e3] at e4
      have e5 : (chW orW ws ⟨(s : Int), (j : Int)⟩)[i / 64]'(by rw [c]; exact hq2) = (chW orW ws ⟨(s : Int), (j : Int)⟩)[(s + j) / 64] := by simp only [c]
      rw [e5] at e4
      rw [← e4, Bool.or_assoc]
      congr 1
      rw [Bool.eq_iff_iff, Bool.or_eq_true, decide_eq_true_eq, decide_eq_true_eq, decide_eq_true_eq]
      omega
    · rw [if_neg c, e3]
      congr 1
      rw [Bool.eq_iff_iff, decide_eq_true_eq, decide_eq_true_eq]
      have : i ≠ s + j := fun h => c (by rw [h])
      omega
  · have e2 : bit (chW clW ws ⟨(s : Int), ((j + 1 : Nat) : Int)⟩) i = (bit ws i && !decide ((s : Int) ≤ (i : Int) ∧ (i : Int) < (s : Int) + ((j + 1 : Nat) : Int))) := bit_clr hi
    have e3 : bit (chW clW ws ⟨(s : Int), (j : Int)⟩) i = (bit ws i && !decide ((s : Int) ≤ (i : Int) ∧ (i : Int) < (s : Int) + (j : Int))) := bit_clr hi
    rw [e2]
    by_cases c : i / 64 = (s + j) / 64
    · rw [if_pos c]
      rw [clW_bit _ _ (Nat.mod_lt _ (by decide)), one_shl (Nat.mod_lt _ (by decide))]
      have e4 := bit_of (ws := chW clW ws ⟨(s : Int), (j : Int)⟩) (i := i) (by rw [c]; exact hq2)
      rw [e3] at e4
      have e5 : (chW clW ws ⟨(s : Int), (j : Int)⟩)[i / 64]'(by rw [c]; exact hq2) = (chW clW ws ⟨(s : Int), (j : Int)⟩)[(s + j) / 64] := by simp only [c]
      rw [e5] at e4
      rw [← e4, Bool.and_assoc]
      congr 1
      rw [Bool.eq_iff_iff, Bool.and_eq_true, Bool.not_eq_true', Bool.not_eq_true', Bool.not_eq_true', decide_eq_false_iff_not, decide_eq_false_iff_not, decide_eq_false_iff_not]
      omega
    · rw [if_neg c, e3]
      congr 2
      rw [Bool.eq_iff_iff, decide_eq_true_eq, decide_eq_true_eq]
      have : i ≠ s + j := fun h => c (by rw [h])
      omega
theorem ch_none {F : Wd → Wd → Wd} (hF : F = orW ∨ F = clW) (ws : List Wd) (s : Nat) : chW F ws ⟨(s : Int), ((0 : Nat) : Int)⟩ = ws := by
  apply ws_ext
  · rw [chW_len]
  intro i hi
  rw [chW_len] at hi
  rcases hF with rfl | rfl
  · have e : bit (chW orW ws ⟨(s : Int), ((0 : Nat) : Int)⟩) i = (bit ws i || decide ((s : Int) ≤ (i : Int) ∧ (i : Int) < (s : Int) + ((0 : Nat) : Int))) := bit_set hi
    rw [e, decide_eq_false (by omega), Bool.or_false]
  · have e : bit (chW clW ws ⟨(s : Int), ((0 : Nat) : Int)⟩) i = (bit ws i && !decide ((s : Int) ≤ (i : Int) ∧ (i : Int) < (s : Int) + ((0 : Nat) : Int))) := bit_clr hi
    rw [e, decide_eq_false (by omega)]
    simp
set_option maxRecDepth 20000 in
theorem loop60 {b : Bm} {s c : Nat} {t : Bool} {F : Wd → Wd → Wd} (hF : (t = true ∧ F = orW) ∨ (t = false ∧ F = clW)) (hw : b.ws.length ≤ 64) (hsc : s + c ≤ 64 * b.ws.length) {st : St} (h : st.head [2, 4, 6, 8, 9] st.boxes.length = some ⟨sl 67 [(2, .pv (.bool t)), (4, .pbox 1 0), (6, .pbox 2 0), (8, .pbox 3 0), (9, .pv (.int .i64 ((s + (0 : Nat) : Nat) : Int)))], [⟨false, [.pv (.int .i64 b.size), .pv (.list 1 (b.ws.map eW))]⟩, ⟨false, [.pv (.int .i64 (s : Int)), .pv (.int .i64 (c : Int))]⟩, ⟨false, [.pv (.int .i64 0), .row 1 []]⟩, ⟨false, [.pv (.int .i64 b.size), .row 1 ((chW F b.ws ⟨(s : Int), (((0 : Nat) : Nat) : Int)⟩).map eW)]⟩], [], none⟩) :
   den env fn60_l1 st = some (.normal, ⟨sl 67 [(6, .pbox 2 0), (7, .any), (8, .pbox 3 0)], [⟨false, [.pv (.int .i64 b.size), .pv (.list 1 (b.ws.map eW))]⟩, ⟨false, [.pv (.int .i64 (s : Int)), .pv (.int .i64 (c : Int))]⟩, ⟨false, [.pv (.int .i64 0), .row 1 []]⟩, ⟨false, [.pv (.int .i64 b.size), .row 1 ((chW F b.ws ⟨(s : Int), (c : Int)⟩).map eW)]⟩], [], none⟩) := by
  unfold fn60_l1
  refine clean_up (env := env) (nb := 4) (c) (fun i => ⟨sl 67 [(2, .pv (.bool t)), (4, .pbox 1 0), (6, .pbox 2 0), (8, .pbox 3 0), (9, .pv (.int .i64 ((s + i : Nat) : Int)))], [⟨false, [.pv (.int .i64 b.size), .pv (.list 1 (b.ws.map eW))]⟩, ⟨false, [.pv (.int .i64 (s : Int)), .pv (.int .i64 (c : Int))]⟩, ⟨false, [.pv (.int .i64 0), .row 1 []]⟩, ⟨false, [.pv (.int .i64 b.size), .row 1 ((chW F b.ws ⟨(s : Int), ((i : Nat) : Int)⟩).map eW)]⟩], [], none⟩) (fun i => some (.normal, ⟨sl 67 [(6, .pbox 2 0), (7, .any), (8, .pbox 3 0)], [⟨false, [.pv (.int .i64 b.size), .pv (.list 1 (b.ws.map eW))]⟩, ⟨false, [.pv (.int .i64 (s : Int)), .pv (.int .i64 (c : Int))]⟩, ⟨false, [.pv (.int .i64 0), .row 1 []]⟩, ⟨false, [.pv (.int .i64 b.size), .row 1 ((chW F b.ws ⟨(s : Int), (c : Int)⟩).map eW)]⟩], [], none⟩)) h (fun _ => rfl) (fun _ => by simp only [slAll, slsAll, Nat.reduceMul, Nat.reduceBEq, Nat.reduceLT, Nat.reduceLeDiff, Nat.reduceAdd, decide_true, Bool.and_self, Bool.true_and]) ?_ ?_
  · intro i rb hi ih

    have hi1 : IntKind.i64.wrap (((s + i : Nat) : Int) + 1) = ((s + (i + 1) : Nat) : Int) := by rw [i64_fits (by omega)]; omega
    have W0 : IntKind.i64.wrap ((s : Int) + (c : Int)) = (s : Int) + (c : Int) := i64_fits (by omega)
    have F1 : (((s + i : Nat) : Int) < (s : Int) + (c : Int)) = True := eq_true (by omega)
    have hq : (s + i) / 64 < b.ws.length := by omega
    have hF' : F = orW ∨ F = clW := hF.elim (fun h => .inl h.2) (fun h => .inr h.2)
    have T1 : ((s + i : Nat) : Int).tdiv 64 = (((s + i) / 64 : Nat) : Int) := by rw [Int.tdiv_eq_ediv_of_nonneg (by omega)]; omega
    have T2 : ((s + i : Nat) : Int).tmod 64 = (((s + i) % 64 : Nat) : Int) := by rw [Int.tmod_eq_emod_of_nonneg (by omega)]; omega
    have W1 : IntKind.i64.wrap (((s + i) / 64 : Nat) : Int) = (((s + i) / 64 : Nat) : Int) := i64_fits (by omega)
    have W3 : IntKind.i64.wrap (((s + i) % 64 : Nat) : Int) = (((s + i) % 64 : Nat) : Int) := i64_fits (by omega)
    have W2 : IntKind.u64.wrap (((s + i) % 64 : Nat) : Int) = (((s + i) % 64 : Nat) : Int) := by rw [u64_wrap]; omega
    have S0 : ((((s + i) % 64 : Nat) : Int) < 0) = False := eq_false (by omega)
    have S1 := w_shl 1 (s := (((s + i) % 64 : Nat) : Int)) (n := (s + i) % 64) rfl
    have B1 : ((1 : Wd).toNat : Int) = 1 := rfl
    rw [B1] at S1
    have hI : index (.int .i64 (((s + i) / 64 : Nat) : Int)) b.ws.length = some ((s + i) / 64) := index_nat hq
    obtain ⟨cw, hcw⟩ : ∃ cw, cw = chW F b.ws ⟨(s : Int), (i : Int)⟩ := ⟨_, rfl⟩
    have hlen : cw.length = b.ws.length := by rw [hcw]; exact chW_len ..
    have hqc : (s + i) / 64 < cw.length := by omega
    have hst : cw.set ((s + i) / 64) (F cw[(s + i) / 64] ((1 : Wd) <<< ((s + i) % 64))) = chW F b.ws ⟨(s : Int), ((i + 1 : Nat) : Int)⟩ := by
      subst hcw
      exact ch_step hF' hq
    have hg : (cw.map eW)[(s + i) / 64]? = some (.int .u64 (cw[(s + i) / 64].toNat : Int)) := by rw [List.getElem?_map, List.getElem?_eq_getElem hqc]; rfl
    have hset : (cw.map eW).set ((s + i) / 64) (.int .u64 ((F cw[(s + i) / 64] ((1 : Wd) <<< ((s + i) % 64))).toNat : Int)) = (chW F b.ws ⟨(s : Int), ((i + 1 : Nat) : Int)⟩).map eW := by
      rw [← hst, List.map_set]; rfl
    rw [← hcw]
    clear hcw hst
    rcases hF with ⟨rfl, rfl⟩ | ⟨rfl, rfl⟩
    · have S2 := w_or cw[(s + i) / 64] ((1 : Wd) <<< ((s + i) % 64))
      unfold orW at hset
      simp only [fn60_b0, F1, W0, W1, W2, W3, T1, T2, S0, S1, S2, z64, hI, hg, hset, hlen, List.length_map, slAll, slsAll, Nat.reduceMul, Nat.reduceBEq, Nat.reduceLT, Nat.reduceLeDiff, memAll, vAll, reduceCtorEq, Nat.reduceEqDiff, Nat.reduceAdd, Nat.reduceLT, Nat.reduceLeDiff, Nat.beq]
      rw [ih _ (by simp only [hi1, slAll, slsAll, Nat.reduceMul, Nat.reduceBEq, Nat.reduceLT, Nat.reduceLeDiff, memAll, vAll, reduceCtorEq, Nat.reduceEqDiff, Nat.reduceAdd, Nat.reduceLT, Nat.reduceLeDiff, Nat.beq] <;> rfl)]
    · have S2 := w_andNot cw[(s + i) / 64] ((1 : Wd) <<< ((s + i) % 64))
      unfold clW at hset
      simp only [fn60_b0, F1, W0, W1, W2, W3, T1, T2, S0, S1, S2, z64, hI, hg, hset, hlen, List.length_map, slAll, slsAll, Nat.reduceMul, Nat.reduceBEq, Nat.reduceLT, Nat.reduceLeDiff, memAll, vAll, reduceCtorEq, Nat.reduceEqDiff, Nat.reduceAdd, Nat.reduceLT, Nat.reduceLeDiff, Nat.beq]
      rw [ih _ (by simp only [hi1, slAll, slsAll, Nat.reduceMul, Nat.reduceBEq, Nat.reduceLT, Nat.reduceLeDiff, memAll, vAll, reduceCtorEq, Nat.reduceEqDiff, Nat.reduceAdd, Nat.reduceLT, Nat.reduceLeDiff, Nat.beq] <;> rfl)]
  · intro rb

    have W0 : IntKind.i64.wrap ((s : Int) + (c : Int)) = (s : Int) + (c : Int) := i64_fits (by omega)
    have F1 : (((s + c : Nat) : Int) < (s : Int) + (c : Int)) = False := eq_false (by omega)
    simp only [fn60_b0, F1, W0, slAll, slsAll, Nat.reduceMul, Nat.reduceBEq, Nat.reduceLT, Nat.reduceLeDiff, memAll, vAll, reduceCtorEq, Nat.reduceEqDiff, Nat.reduceAdd, Nat.reduceLT, Nat.reduceLeDiff, Nat.beq]

theorem cal60 {b : Bm} {e : Exn} {t : Bool} {F : Wd → Wd → Wd} (hF : (t = true ∧ F = orW) ∨ (t = false ∧ F = clW)) :
    cal env 60 [eBm b, eExt e, .bool t] = some [(eBm (chO F b e), false), (.int .i64 (chE b e), false)] := by
  have e1 := cal36 (b := b)
  have Z0 : ((0 : Int) != 0) = false := rfl
  have Z3 : ((3 : Int) != 0) = true := rfl
  have hz := eBm_zero
  have eA : ∀ b : Bm, eBm b = .agg [.int .i64 b.size, .list 1 (b.ws.map eW)] := fun _ => rfl
  have eX : ∀ e : Exn, eExt e = .agg [.int .i64 e.start, .int .i64 e.count] := fun _ => rfl
  have P2 : ∀ a b : PV, part [a, b] 0 (some 2) = some (.agg [a, b]) := fun _ _ => rfl
  unfold chO
  cases c1 : okB b with
  | false =>
    have hE : chE b e = 3 := by unfold chE; rw [if_pos c1]
    rw [hE, if_neg (by decide), hz]
    rw [bmE_no c1] at e1
    rw [eA] at e1 ⊢; rw [eX]
    rw [cal_code env60 rfl]; simp only [fn60, slAll, Nat.reduceBEq, Nat.reduceLeDiff, Nat.reduceAdd, List.length_cons, List.length_nil]
    simp only [e1, Z3, P2, slAll, slsAll, Nat.reduceMul, Nat.reduceBEq, Nat.reduceLT, Nat.reduceLeDiff, memAll, vAll, reduceCtorEq, Nat.reduceEqDiff, Nat.reduceAdd, Nat.reduceLT, Nat.reduceLeDiff, Nat.beq]
  | true =>
    rw [bmE_ok c1] at e1
    have hsz := okB_size c1
    have e2 := cal83 (size := b.size) (e := e) ⟨hsz.1, hsz.2.1⟩
    cases c2 : bmFit b.size e with
    | false =>
      have hE : chE b e = 2 := by unfold chE; rw [if_neg (by rw [c1]; decide), if_pos c2]
      rw [hE, if_neg (by decide), hz]
      rw [c2] at e2
      rw [eA] at e1 ⊢; rw [eX] at e2 ⊢
      rw [cal_code env60 rfl]; simp only [fn60, slAll, Nat.reduceBEq, Nat.reduceLeDiff, Nat.reduceAdd, List.length_cons, List.length_nil]
      simp only [e1, e2, Z0, P2, slAll, slsAll, Nat.reduceMul, Nat.reduceBEq, Nat.reduceLT, Nat.reduceLeDiff, memAll, vAll, reduceCtorEq, Nat.reduceEqDiff, Nat.reduceAdd, Nat.reduceLT, Nat.reduceLeDiff, Nat.beq]
    | true =>
      have hE : chE b e = 0 := by unfold chE; rw [if_neg (by rw [c1]; decide), if_neg (by rw [c2]; decide)]
      rw [hE, if_pos rfl]
      rw [c2] at e2
      have hfi := bmFit_iff.1 c2
      have k1 := cal84 (b := b) (by unfold lim; omega)
      obtain ⟨s, c⟩ := e
      simp only at hfi
      obtain ⟨s, rfl⟩ : ∃ m : Nat, s = (m : Int) := ⟨s.toNat, by omega⟩
      obtain ⟨c, rfl⟩ : ∃ m : Nat, c = (m : Int) := ⟨c.toNat, by omega⟩
      have hF' : F = orW ∨ F = clW := hF.elim (fun h => .inl h.2) (fun h => .inr h.2)
      rw [eA] at e1 k1; rw [eX] at e2; rw [eA, eX, eA]
      rw [cal_code env60 rfl]; simp only [fn60, slAll, Nat.reduceBEq, Nat.reduceLeDiff, Nat.reduceAdd, List.length_cons, List.length_nil]
      simp only [e1, e2, k1, Z0, P2, List.length_map, slAll, slsAll, Nat.reduceMul, Nat.reduceBEq, Nat.reduceLT, Nat.reduceLeDiff, memAll, vAll, reduceCtorEq, Nat.reduceEqDiff, Nat.reduceAdd, Nat.reduceLT, Nat.reduceLeDiff, Nat.beq]
      rw [loop60 (b := b) (s := s) (c := c) (t := t) (F := F) hF (by omega) (by omega)]
      rotate_left
      · rw [ch_none hF']
        simp only [slAll, slsAll, Nat.reduceMul, Nat.reduceBEq, Nat.reduceLT, Nat.reduceLeDiff, Nat.reduceAdd, decide_true, Bool.and_self, Bool.true_and] <;> rfl
      · simp only [e1, e2, k1, Z0, P2, List.length_map, slAll, slsAll, Nat.reduceMul, Nat.reduceBEq, Nat.reduceLT, Nat.reduceLeDiff, memAll, vAll, reduceCtorEq, Nat.reduceEqDiff, Nat.reduceAdd, Nat.reduceLT, Nat.reduceLeDiff, Nat.beq]
--+
theorem cal29 {b : Bm} {e : Exn} : cal env 29 [eBm b, eExt e] = some [(eBm (chO orW b e), false), (.int .i64 (chE b e), false)] := by
  have e1 := cal60 (b := b) (e := e) (t := true) (F := orW) (.inl ⟨rfl, rfl⟩)
  have eA : ∀ a : Bm, eBm a = .agg [.int .i64 a.size, .list 1 (a.ws.map eW)] := fun _ => rfl
  have eX : eExt e = .agg [.int .i64 e.start, .int .i64 e.count] := rfl
  have P2 : ∀ a b : PV, part [a, b] 0 (some 2) = some (.agg [a, b]) := fun _ _ => rfl
  rw [eA, eA, eX] at e1 ⊢
  rw [cal_code env29 rfl]; simp only [fn29, slAll, Nat.reduceBEq, Nat.reduceLeDiff, Nat.reduceAdd, List.length_cons, List.length_nil]
  simp only [e1, P2, slAll, slsAll, Nat.reduceMul, Nat.reduceBEq, Nat.reduceLT, Nat.reduceLeDiff, memAll, vAll, reduceCtorEq, Nat.reduceEqDiff, Nat.reduceAdd, Nat.reduceLT, Nat.reduceLeDiff, Nat.beq]
--+
theorem cal40 {b : Bm} {e : Exn} : cal env 40 [eBm b, eExt e] = some [(eBm (chO clW b e), false), (.int .i64 (chE b e), false)] := by
  have e1 := cal60 (b := b) (e := e) (t := false) (F := clW) (.inr ⟨rfl, rfl⟩)
  have eA : ∀ a : Bm, eBm a = .agg [.int .i64 a.size, .list 1 (a.ws.map eW)] := fun _ => rfl
  have eX : eExt e = .agg [.int .i64 e.start, .int .i64 e.count] := rfl
  have P2 : ∀ a b : PV, part [a, b] 0 (some 2) = some (.agg [a, b]) := fun _ _ => rfl
  rw [eA, eA, eX] at e1 ⊢
  rw [cal_code env40 rfl]; simp only [fn40, slAll, Nat.reduceBEq, Nat.reduceLeDiff, Nat.reduceAdd, List.length_cons, List.length_nil]
  simp only [e1, P2, slAll, slsAll, Nat.reduceMul, Nat.reduceBEq, Nat.reduceLT, Nat.reduceLeDiff, memAll, vAll, reduceCtorEq, Nat.reduceEqDiff, Nat.reduceAdd, Nat.reduceLT, Nat.reduceLeDiff, Nat.beq]
end Go.Proofs.YtdahanchdjadiaaGreatDoor.V

namespace Go.Proofs.YtdahanchdjadiaaGreatDoor.V
theorem cal27 {n g : Int} {e : Exn} (h : szOkI n g = true) : cal env 27 [.int .i64 n, .int .i64 g, eExt e] = some [(eExt (tchX n g e), false), (.bool (tchB n e), false)] := by
  obtain ⟨h1, h2, h3, h4⟩ := szOkI_iff.1 h
  have eX : eExt e = .agg [.int .i64 e.start, .int .i64 e.count] := rfl
  have hz : eExt ⟨0, 0⟩ = .agg [.int .i64 0, .int .i64 0] := rfl
  rw [eX]
  unfold tchX
  by_cases c0 : e.start < 0
  · have F0 : (e.start < 0) = True := eq_true c0
    have hb : tchB n e = false := by rw [Bool.eq_false_iff]; intro hh; have := tchB_iff.1 hh; omega
    rw [hb, if_neg (by decide), hz]
    rw [cal_code env27 rfl]; simp only [fn27, slAll, Nat.reduceBEq, Nat.reduceLeDiff, Nat.reduceAdd, List.length_cons, List.length_nil]
    simp only [F0, slAll, slsAll, Nat.reduceMul, Nat.reduceBEq, Nat.reduceLT, Nat.reduceLeDiff, memAll, vAll, reduceCtorEq, Nat.reduceEqDiff, Nat.reduceAdd, Nat.reduceLT, Nat.reduceLeDiff, Nat.beq]
  · have F0 : (e.start < 0) = False := eq_false c0
    by_cases c1 : e.count < 1
    · have F1 : (e.count < 1) = True := eq_true c1
      have hb : tchB n e = false := by rw [Bool.eq_false_iff]; intro hh; have := tchB_iff.1 hh; omega
      rw [hb, if_neg (by decide), hz]
      rw [cal_code env27 rfl]; simp only [fn27, slAll, Nat.reduceBEq, Nat.reduceLeDiff, Nat.reduceAdd, List.length_cons, List.length_nil]
      simp only [F0, F1, slAll, slsAll, Nat.reduceMul, Nat.reduceBEq, Nat.reduceLT, Nat.reduceLeDiff, memAll, vAll, reduceCtorEq, Nat.reduceEqDiff, Nat.reduceAdd, Nat.reduceLT, Nat.reduceLeDiff, Nat.beq]
    · have F1 : (e.count < 1) = False := eq_false c1
      by_cases c2 : e.start ≥ n
      · have F2 : (e.start ≥ n) = True := eq_true c2
        have hb : tchB n e = false := by rw [Bool.eq_false_iff]; intro hh; have := tchB_iff.1 hh; omega
        rw [hb, if_neg (by decide), hz]
        rw [cal_code env27 rfl]; simp only [fn27, slAll, Nat.reduceBEq, Nat.reduceLeDiff, Nat.reduceAdd, List.length_cons, List.length_nil]
        simp only [F0, F1, F2, slAll, slsAll, Nat.reduceMul, Nat.reduceBEq, Nat.reduceLT, Nat.reduceLeDiff, memAll, vAll, reduceCtorEq, Nat.reduceEqDiff, Nat.reduceAdd, Nat.reduceLT, Nat.reduceLeDiff, Nat.beq]
      · have F2 : (e.start ≥ n) = False := eq_false c2
        have W1 : IntKind.i64.wrap (n - e.start) = n - e.start := i64_fits (by omega)
        by_cases c3 : e.count > n - e.start
        · have F3 : (e.count > n - e.start) = True := eq_true c3
          have hb : tchB n e = false := by rw [Bool.eq_false_iff]; intro hh; have := tchB_iff.1 hh; omega
          rw [hb, if_neg (by decide), hz]
          rw [cal_code env27 rfl]; simp only [fn27, slAll, Nat.reduceBEq, Nat.reduceLeDiff, Nat.reduceAdd, List.length_cons, List.length_nil]
          simp only [F0, F1, F2, F3, W1, slAll, slsAll, Nat.reduceMul, Nat.reduceBEq, Nat.reduceLT, Nat.reduceLeDiff, memAll, vAll, reduceCtorEq, Nat.reduceEqDiff, Nat.reduceAdd, Nat.reduceLT, Nat.reduceLeDiff, Nat.beq]
        · have F3 : (e.count > n - e.start) = False := eq_false c3
          have hb : tchB n e = true := tchB_iff.2 (by omega)
          have hin := tch_in h hb
          have hgl := grN_le h
          rw [hb, if_pos rfl]
          have Zg : (g = 0) = False := eq_false (by omega)
          have Q1 : e.start.tdiv g = e.start / g := Int.tdiv_eq_ediv_of_nonneg (by omega)
          have Q2 : (e.start + e.count - 1).tdiv g = (e.start + e.count - 1) / g := Int.tdiv_eq_ediv_of_nonneg (by omega)
          have d1 : 0 ≤ e.start / g ∧ e.start / g ≤ 4096 := by
            refine ⟨Int.ediv_nonneg (by omega) (by omega), ?_⟩
            have := Int.ediv_le_self g (show 0 ≤ e.start by omega); omega
          have d2 : 0 ≤ (e.start + e.count - 1) / g ∧ (e.start + e.count - 1) / g ≤ 4096 := by
            refine ⟨Int.ediv_nonneg (by omega) (by omega), ?_⟩
            have := Int.ediv_le_self g (show 0 ≤ e.start + e.count - 1 by omega); omega
          have W2 : IntKind.i64.wrap (e.start / g) = e.start / g := i64_fits (by omega)
          have W3 : IntKind.i64.wrap (e.start + e.count) = e.start + e.count := i64_fits (by omega)
          have W4 : IntKind.i64.wrap (e.start + e.count - 1) = e.start + e.count - 1 := i64_fits (by omega)
          have W5 : IntKind.i64.wrap ((e.start + e.count - 1) / g) = (e.start + e.count - 1) / g := i64_fits (by omega)
          have W6 : IntKind.i64.wrap ((e.start + e.count - 1) / g - e.start / g) = (e.start + e.count - 1) / g - e.start / g := i64_fits (by omega)
          have W7 : IntKind.i64.wrap ((e.start + e.count - 1) / g - e.start / g + 1) = (e.start + e.count - 1) / g - e.start / g + 1 := i64_fits (by omega)
          unfold eExt
          rw [cal_code env27 rfl]; simp only [fn27, slAll, Nat.reduceBEq, Nat.reduceLeDiff, Nat.reduceAdd, List.length_cons, List.length_nil]
          simp only [F0, F1, F2, F3, W1, W2, W3, W4, W5, W6, W7, Q1, Q2, Zg, slAll, slsAll, Nat.reduceMul, Nat.reduceBEq, Nat.reduceLT, Nat.reduceLeDiff, memAll, vAll, reduceCtorEq, Nat.reduceEqDiff, Nat.reduceAdd, Nat.reduceLT, Nat.reduceLeDiff, Nat.beq]
def boxA (i : Itn) (l : List Int) : List BV := [.pv (.int .i64 i.size), .pv (.int .i64 i.gran), .row 1 (l.map eI), .pv (.int .i64 i.bm.size), .pv (.list 1 (i.bm.ws.map eW))]
theorem boxA_eq (i : Itn) (l : List Int) : boxA i l = [.pv (.int .i64 i.size), .pv (.int .i64 i.gran), .row 1 (l.map eI), .pv (.int .i64 i.bm.size), .pv (.list 1 (i.bm.ws.map eW))] := rfl
def resEd (i : Itn) (e : Exn) (s c : Nat) (l : List Int) (bd : Bool) : Option (Ex × St) :=
  if bd then some (.ret, ⟨sl 58 [(4, .pbox 2 0), (5, .pv (.int .i64 12)), (8, .pbox 4 0)], [⟨false, cellsI i⟩, ⟨false, [.pv (.int .i64 e.start), .pv (.int .i64 e.count)]⟩, ⟨false, [.pv (.int .i64 0), .pv (.int .i64 0), .pv (.list 1 []), .pv (.int .i64 0), .pv (.list 1 [])]⟩, ⟨false, [.pv (.int .i64 (s : Int)), .pv (.int .i64 (c : Int))]⟩, ⟨false, boxA i l⟩], [], none⟩)
  else some (.normal, ⟨sl 58 [(4, .pbox 2 0), (5, .any), (8, .pbox 4 0)], [⟨false, cellsI i⟩, ⟨false, [.pv (.int .i64 e.start), .pv (.int .i64 e.count)]⟩, ⟨false, [.pv (.int .i64 0), .pv (.int .i64 0), .row 1 [], .pv (.int .i64 0), .row 1 []]⟩, ⟨false, [.pv (.int .i64 (s : Int)), .pv (.int .i64 (c : Int))]⟩, ⟨false, boxA i l⟩], [], none⟩)
set_option maxRecDepth 20000 in
theorem loop13 {i0 : Itn} {e : Exn} {s c m : Nat} {bd : Bool} (hlen : i0.act.length ≤ 4096) (hsc : s + c ≤ i0.act.length) (hin : ∀ k (h : k < i0.act.length), 0 ≤ i0.act[k] ∧ i0.act[k] ≤ 4096) (hno : ∀ j (h : j < m) (h2 : s + j < i0.act.length), endE i0.act[s + j] = 0) (hbd : (bd = false ∧ m = c) ∨ (bd = true ∧ m < c ∧ ∀ h2 : s + m < i0.act.length, i0.act[s + m] = 0)) {st : St} (h : st.head [2, 4, 6, 8, 9] st.boxes.length = some ⟨sl 58 [(2, .pbox 0 0), (4, .pbox 2 0), (6, .pbox 3 0), (8, .pbox 4 0), (9, .pv (.int .i64 ((s + (0 : Nat) : Nat) : Int)))], [⟨false, cellsI i0⟩, ⟨false, [.pv (.int .i64 e.start), .pv (.int .i64 e.count)]⟩, ⟨false, [.pv (.int .i64 0), .pv (.int .i64 0), .row 1 [], .pv (.int .i64 0), .row 1 []]⟩, ⟨false, [.pv (.int .i64 (s : Int)), .pv (.int .i64 (c : Int))]⟩, ⟨false, boxA i0 (actTo endV i0.act s ((0 : Nat)))⟩], [], none⟩) :
   den env fn13_l1 st = resEd i0 e s c (actTo endV i0.act s m) bd := by
  unfold fn13_l1
  refine clean_up (env := env) (nb := 5) (m) (fun i => ⟨sl 58 [(2, .pbox 0 0), (4, .pbox 2 0), (6, .pbox 3 0), (8, .pbox 4 0), (9, .pv (.int .i64 ((s + i : Nat) : Int)))], [⟨false, cellsI i0⟩, ⟨false, [.pv (.int .i64 e.start), .pv (.int .i64 e.count)]⟩, ⟨false, [.pv (.int .i64 0), .pv (.int .i64 0), .row 1 [], .pv (.int .i64 0), .row 1 []]⟩, ⟨false, [.pv (.int .i64 (s : Int)), .pv (.int .i64 (c : Int))]⟩, ⟨false, boxA i0 (actTo endV i0.act s (i))⟩], [], none⟩) (fun i => resEd i0 e s c (actTo endV i0.act s m) bd) h (fun _ => rfl) (fun _ => by simp only [slAll, slsAll, Nat.reduceMul, Nat.reduceBEq, Nat.reduceLT, Nat.reduceLeDiff, Nat.reduceAdd, decide_true, Bool.and_self, Bool.true_and]) ?_ ?_
  · intro i rb hi ih

    have hmc : m ≤ c := by rcases hbd with ⟨_, h⟩ | ⟨_, h, _⟩ <;> omega
    have hk : s + i < i0.act.length := by omega
    have hi1 : IntKind.i64.wrap (((s + i : Nat) : Int) + 1) = ((s + (i + 1) : Nat) : Int) := by rw [i64_fits (by omega)]; omega
    have W0 : IntKind.i64.wrap ((s : Int) + (c : Int)) = (s : Int) + (c : Int) := i64_fits (by omega)
    have F1 : (((s + i : Nat) : Int) < (s : Int) + (c : Int)) = True := eq_true (by omega)
    have q := hin _ hk
    have h0 := hno i hi hk
    obtain ⟨q1, q2⟩ := endV_in q h0
    have hv : endV i0.act[s + i] = i0.act[s + i] - 1 := by unfold endV; rw [if_neg (by omega)]
    have F2 : (i0.act[s + i] == 0) = false := by simp; omega
    have W1 : IntKind.i64.wrap (i0.act[s + i] - 1) = i0.act[s + i] - 1 := i64_fits (by omega)
    have hx : (i0.act.map eI)[s + i]? = some (.int .i64 i0.act[s + i]) := by rw [List.getElem?_map, List.getElem?_eq_getElem hk]; rfl
    have hy : ((actTo endV i0.act s i).map eI)[s + i]? = some (.int .i64 i0.act[s + i]) := by rw [List.getElem?_map, actTo_get endV hk]; rfl
    have hset : ((actTo endV i0.act s i).map eI).set (s + i) (.int .i64 (i0.act[s + i] - 1)) = (actTo endV i0.act s (i + 1)).map eI := by
      rw [← actTo_set endV hk, List.map_set, hv]; rfl
    have hl := actTo_len endV i0.act s i
    simp only [fn13_b0, F1, F2, W0, W1, hx, hy, hset, hl, index_nat hk, List.length_map, cellsI_eq, boxA_eq, slAll, slsAll, Nat.reduceMul, Nat.reduceBEq, Nat.reduceLT, Nat.reduceLeDiff, memAll, vAll, reduceCtorEq, Nat.reduceEqDiff, Nat.reduceAdd, Nat.reduceLT, Nat.reduceLeDiff, Nat.beq]
    rw [ih _ (by simp only [hi1, cellsI_eq, boxA_eq, slAll, slsAll, Nat.reduceMul, Nat.reduceBEq, Nat.reduceLT, Nat.reduceLeDiff, memAll, vAll, reduceCtorEq, Nat.reduceEqDiff, Nat.reduceAdd, Nat.reduceLT, Nat.reduceLeDiff, Nat.beq] <;> rfl)]
  · intro rb

    have W0 : IntKind.i64.wrap ((s : Int) + (c : Int)) = (s : Int) + (c : Int) := i64_fits (by omega)
    unfold resEd
    rcases hbd with ⟨rfl, rfl⟩ | ⟨rfl, h1, h2⟩
    · have F1 : (((s + m : Nat) : Int) < (s : Int) + (m : Int)) = False := eq_false (by omega)
      rw [if_neg (by decide)]
      simp only [fn13_b0, F1, W0, cellsI_eq, slAll, slsAll, Nat.reduceMul, Nat.reduceBEq, Nat.reduceLT, Nat.reduceLeDiff, memAll, vAll, reduceCtorEq, Nat.reduceEqDiff, Nat.reduceAdd, Nat.reduceLT, Nat.reduceLeDiff, Nat.beq]
    · have hk : s + m < i0.act.length := by omega
      have F1 : (((s + m : Nat) : Int) < (s : Int) + (c : Int)) = True := eq_true (by omega)
      have F2 : (i0.act[s + m] == 0) = true := by simp [h2 hk]
      have hx : (i0.act.map eI)[s + m]? = some (.int .i64 i0.act[s + m]) := by rw [List.getElem?_map, List.getElem?_eq_getElem hk]; rfl
      rw [if_pos rfl]
      simp only [fn13_b0, F1, F2, W0, hx, index_nat hk, List.length_map, cellsI_eq, slAll, slsAll, Nat.reduceMul, Nat.reduceBEq, Nat.reduceLT, Nat.reduceLeDiff, memAll, vAll, reduceCtorEq, Nat.reduceEqDiff, Nat.reduceAdd, Nat.reduceLT, Nat.reduceLeDiff, Nat.beq]

set_option maxRecDepth 20000 in
theorem cal13 {i : Itn} {e : Exn} (hl : i.act.length ≤ lim) : cal env 13 [eItn i, eExt e] = some [(eItn (cgI endV endE i e), false), (.int .i64 (cgE endE i e), false)] := by
  have e0 := cal11 (i := i) hl
  have eI5 : eItn i = .agg [.int .i64 i.size, .int .i64 i.gran, .list 1 (i.act.map eI), .int .i64 i.bm.size, .list 1 (i.bm.ws.map eW)] := rfl
  have eX : ∀ e : Exn, eExt e = .agg [.int .i64 e.start, .int .i64 e.count] := fun _ => rfl
  have Z0 : ((0 : Int) != 0) = false := rfl
  have Z3 : ((3 : Int) != 0) = true := rfl
  have N3 : ¬ ((3 : Int) = 0) := by decide
  have N2 : ¬ ((2 : Int) = 0) := by decide
  have N12 : ¬ ((12 : Int) = 0) := by decide
  have P5 : ∀ a b c d e : PV, part [a, b, c, d, e] 0 (some 5) = some (.agg [a, b, c, d, e]) := fun _ _ _ _ _ => rfl
  have P2 : ∀ a b : PV, part [a, b] 0 (some 2) = some (.agg [a, b]) := fun _ _ => rfl
  unfold chkI at e0
  cases c0 : okItn i with
  | false =>
    have hE : cgE endE i e = 3 := by unfold cgE; rw [c0]; rfl
    unfold cgI
    rw [hE, if_neg N3, eItn_zero]
    rw [c0] at e0
    rw [eI5] at e0 ⊢
    rw [eX]
    rw [cal_code env13 rfl]; simp only [fn13, slAll, Nat.reduceBEq, Nat.reduceLeDiff, Nat.reduceAdd, List.length_cons, List.length_nil]
    simp only [e0, Z3, P5, P2, slAll, slsAll, Nat.reduceMul, Nat.reduceBEq, Nat.reduceLT, Nat.reduceLeDiff, memAll, vAll, reduceCtorEq, Nat.reduceEqDiff, Nat.reduceAdd, Nat.reduceLT, Nat.reduceLeDiff, Nat.beq]
  | true =>
    obtain ⟨h1, h2, h3, h4, h5⟩ := okItn_iff.1 c0
    rw [c0, if_pos rfl] at e0
    have e1 := cal27 (e := e) h1
    cases c1 : tchB i.size e with
    | false =>
      have hE : cgE endE i e = 2 := by unfold cgE; rw [c0, c1]; rfl
      unfold cgI
      rw [hE, if_neg N2, eItn_zero]
      rw [c1] at e1
      generalize tchX i.size i.gran e = t at *
      rw [eX, eX] at e1
      rw [eI5] at e0 ⊢
      rw [eX]
      rw [cal_code env13 rfl]; simp only [fn13, slAll, Nat.reduceBEq, Nat.reduceLeDiff, Nat.reduceAdd, List.length_cons, List.length_nil]
      simp only [e0, e1, Z0, P5, P2, slAll, slsAll, Nat.reduceMul, Nat.reduceBEq, Nat.reduceLT, Nat.reduceLeDiff, memAll, vAll, reduceCtorEq, Nat.reduceEqDiff, Nat.reduceAdd, Nat.reduceLT, Nat.reduceLeDiff, Nat.beq]
    | true =>
      obtain ⟨s, c, ht, k1, k2, k3⟩ := tch_nat c0 c1
      obtain ⟨hE, hI⟩ := cg_parts (v := endV) (er := endE) c0 c1 ht
      have hlen : i.act.length ≤ 4096 := by have := (szOkI_iff.1 h1).2.1; have := grN_le h1; omega
      have hlim : lim = 1073741824 := rfl
      have F3 : (0 + i.act.length ≤ lim) = True := eq_true (by omega)
      have F4 : (i.act.length ≤ lim) = True := eq_true hl
      have hin : ∀ k (h : k < i.act.length), 0 ≤ i.act[k] ∧ i.act[k] ≤ 4096 := fun k h => act_in c0 h
      rw [c1, ht, eX, eX] at e1
      simp only at e1
      rw [hE]
      have hc : ∃ m bd, (∀ j (h : j < m) (h2 : s + j < i.act.length), endE i.act[s + j] = 0) ∧ ((bd = false ∧ m = c) ∨ (bd = true ∧ m < c ∧ ∀ h2 : s + m < i.act.length, i.act[s + m] = 0)) ∧ badA endE i.act s c = if bd then 12 else 0 := by
        rcases badA_cases endE k2 with ⟨b1, b2⟩ | ⟨m, hm, b1, b2, b3⟩
        · exact ⟨c, false, fun j h _ => b2 j h, .inl ⟨rfl, rfl⟩, b1⟩
        · have hz : i.act[s + m]'(by omega) = 0 := by
            unfold endE at b2
            split at b2
            · assumption
            · exact absurd rfl b2
          refine ⟨m, true, fun j h _ => b1 j h, .inr ⟨rfl, hm, fun _ => hz⟩, ?_⟩
          rw [b3, hz]
          rfl
      obtain ⟨m, bd, d1, d2, d3⟩ := hc
      rw [eI5] at e0
      cases bd with
      | false =>
        have d3' : badA endE i.act s c = 0 := d3
        have hmc : m = c := by
          rcases d2 with ⟨_, h⟩ | ⟨h, _⟩
          · exact h
          · cases h
        subst hmc
        rw [hI d3', d3', eI5, eX]
        unfold eItn
        rw [cal_code env13 rfl]; simp only [fn13, slAll, Nat.reduceBEq, Nat.reduceLeDiff, Nat.reduceAdd, List.length_cons, List.length_nil]
        simp only [e0, e1, Z0, P5, P2, F3, F4, List.length_map, List.nil_append, slAll, slsAll, Nat.reduceMul, Nat.reduceBEq, Nat.reduceLT, Nat.reduceLeDiff, memAll, vAll, reduceCtorEq, Nat.reduceEqDiff, Nat.reduceAdd, Nat.reduceLT, Nat.reduceLeDiff, Nat.beq]
        rw [loop13 (i0 := i) (e := e) (s := s) (c := m) (m := m) (bd := false) hlen k2 hin d1 (.inl ⟨rfl, rfl⟩)]
        rotate_left
        · rw [actTo_zero, cellsI_eq, boxA_eq]
          simp only [slAll, slsAll, Nat.reduceMul, Nat.reduceBEq, Nat.reduceLT, Nat.reduceLeDiff, Nat.reduceAdd, decide_true, Bool.and_self, Bool.true_and] <;> rfl
        · unfold resEd
          rw [if_neg (by decide), cellsI_eq, boxA_eq]
          simp only [P5, slAll, slsAll, Nat.reduceMul, Nat.reduceBEq, Nat.reduceLT, Nat.reduceLeDiff, memAll, vAll, reduceCtorEq, Nat.reduceEqDiff, Nat.reduceAdd, Nat.reduceLT, Nat.reduceLeDiff, Nat.beq]
      | true =>
        have d3' : badA endE i.act s c = 12 := d3
        have hz : cgI endV endE i e = zItn := by unfold cgI; rw [if_neg (by rw [hE, d3']; decide)]
        rw [hz, d3', eItn_zero, eI5, eX]
        rw [cal_code env13 rfl]; simp only [fn13, slAll, Nat.reduceBEq, Nat.reduceLeDiff, Nat.reduceAdd, List.length_cons, List.length_nil]
        simp only [e0, e1, Z0, P5, P2, F3, F4, List.length_map, List.nil_append, slAll, slsAll, Nat.reduceMul, Nat.reduceBEq, Nat.reduceLT, Nat.reduceLeDiff, memAll, vAll, reduceCtorEq, Nat.reduceEqDiff, Nat.reduceAdd, Nat.reduceLT, Nat.reduceLeDiff, Nat.beq]
        rw [loop13 (i0 := i) (e := e) (s := s) (c := c) (m := m) (bd := true) hlen k2 hin d1 d2]
        rotate_left
        · rw [actTo_zero, cellsI_eq, boxA_eq]
          simp only [slAll, slsAll, Nat.reduceMul, Nat.reduceBEq, Nat.reduceLT, Nat.reduceLeDiff, Nat.reduceAdd, decide_true, Bool.and_self, Bool.true_and] <;> rfl
        · unfold resEd
          rw [if_pos rfl, cellsI_eq, boxA_eq]
          simp only [slAll, slsAll, Nat.reduceMul, Nat.reduceBEq, Nat.reduceLT, Nat.reduceLeDiff, memAll, vAll, reduceCtorEq, Nat.reduceEqDiff, Nat.reduceAdd, Nat.reduceLT, Nat.reduceLeDiff, Nat.beq]
end Go.Proofs.YtdahanchdjadiaaGreatDoor.V

namespace Go.Proofs.YtdahanchdjadiaaGreatDoor.V
def resBg (i : Itn) (e : Exn) (s c : Nat) (l : List Int) (fl bd : Bool) : Option (Ex × St) :=
  if bd then some (.ret, ⟨sl 77 [(2, .pbox 0 0), (4, .pbox 2 0), (5, .pv (.bool false)), (6, .pv (.int .i64 6)), (7, .pbox 3 0), (9, .pbox 4 0), (10, .pv (.bool fl))], [⟨false, cellsI i⟩, ⟨false, [.pv (.int .i64 e.start), .pv (.int .i64 e.count)]⟩, ⟨false, [.pv (.int .i64 0), .pv (.int .i64 0), .pv (.list 1 []), .pv (.int .i64 0), .pv (.list 1 [])]⟩, ⟨false, [.pv (.int .i64 (s : Int)), .pv (.int .i64 (c : Int))]⟩, ⟨false, boxA i l⟩], [], none⟩)
  else some (.normal, ⟨sl 77 [(2, .pbox 0 0), (4, .pbox 2 0), (5, .any), (6, .any), (7, .pbox 3 0), (9, .pbox 4 0), (10, .pv (.bool fl))], [⟨false, cellsI i⟩, ⟨false, [.pv (.int .i64 e.start), .pv (.int .i64 e.count)]⟩, ⟨false, [.pv (.int .i64 0), .pv (.int .i64 0), .row 1 [], .pv (.int .i64 0), .row 1 []]⟩, ⟨false, [.pv (.int .i64 (s : Int)), .pv (.int .i64 (c : Int))]⟩, ⟨false, boxA i l⟩], [], none⟩)
set_option maxRecDepth 20000 in
theorem loop8 {i0 : Itn} {e : Exn} {s c m : Nat} {bd : Bool} (hlen : i0.act.length ≤ 4096) (hsc : s + c ≤ i0.act.length) (hin : ∀ k (h : k < i0.act.length), 0 ≤ i0.act[k] ∧ i0.act[k] ≤ 4096) (hno : ∀ j (h : j < m) (h2 : s + j < i0.act.length), begE i0.act[s + j] = 0) (hbd : (bd = false ∧ m = c) ∨ (bd = true ∧ m < c ∧ ∀ h2 : s + m < i0.act.length, i0.act[s + m] = 4096)) {st : St} (h : st.head [2, 4, 7, 9, 10, 11] st.boxes.length = some ⟨sl 77 [(2, .pbox 0 0), (4, .pbox 2 0), (7, .pbox 3 0), (9, .pbox 4 0), (10, .pv (.bool (newG i0.bm (s : Int) ((0 : Nat))))), (11, .pv (.int .i64 ((s + (0 : Nat) : Nat) : Int)))], [⟨false, cellsI i0⟩, ⟨false, [.pv (.int .i64 e.start), .pv (.int .i64 e.count)]⟩, ⟨false, [.pv (.int .i64 0), .pv (.int .i64 0), .row 1 [], .pv (.int .i64 0), .row 1 []]⟩, ⟨false, [.pv (.int .i64 (s : Int)), .pv (.int .i64 (c : Int))]⟩, ⟨false, boxA i0 (actTo begV i0.act s ((0 : Nat)))⟩], [], none⟩) :
   den env fn8_l1 st = resBg i0 e s c (actTo begV i0.act s m) (newG i0.bm (s : Int) m) bd := by
  unfold fn8_l1
  refine clean_up (env := env) (nb := 5) (m) (fun i => ⟨sl 77 [(2, .pbox 0 0), (4, .pbox 2 0), (7, .pbox 3 0), (9, .pbox 4 0), (10, .pv (.bool (newG i0.bm (s : Int) (i)))), (11, .pv (.int .i64 ((s + i : Nat) : Int)))], [⟨false, cellsI i0⟩, ⟨false, [.pv (.int .i64 e.start), .pv (.int .i64 e.count)]⟩, ⟨false, [.pv (.int .i64 0), .pv (.int .i64 0), .row 1 [], .pv (.int .i64 0), .row 1 []]⟩, ⟨false, [.pv (.int .i64 (s : Int)), .pv (.int .i64 (c : Int))]⟩, ⟨false, boxA i0 (actTo begV i0.act s (i))⟩], [], none⟩) (fun i => resBg i0 e s c (actTo begV i0.act s m) (newG i0.bm (s : Int) m) bd) h (fun _ => rfl) (fun _ => by simp only [slAll, slsAll, Nat.reduceMul, Nat.reduceBEq, Nat.reduceLT, Nat.reduceLeDiff, Nat.reduceAdd, decide_true, Bool.and_self, Bool.true_and]) ?_ ?_
  · intro i rb hi ih

    have hmc : m ≤ c := by rcases hbd with ⟨_, h⟩ | ⟨_, h, _⟩ <;> omega
    have hk : s + i < i0.act.length := by omega
    have hi1 : IntKind.i64.wrap (((s + i : Nat) : Int) + 1) = ((s + (i + 1) : Nat) : Int) := by rw [i64_fits (by omega)]; omega
    have W0 : IntKind.i64.wrap ((s : Int) + (c : Int)) = (s : Int) + (c : Int) := i64_fits (by omega)
    have F1 : (((s + i : Nat) : Int) < (s : Int) + (c : Int)) = True := eq_true (by omega)
    have q := hin _ hk
    have h0 := hno i hi hk
    have hne : i0.act[s + i] ≠ 4096 := fun h => by rw [h] at h0; cases h0
    have hv : begV i0.act[s + i] = i0.act[s + i] + 1 := by unfold begV; rw [if_neg hne]
    have F2 : (i0.act[s + i] == 4096) = false := by simpa using hne
    have W1 : IntKind.i64.wrap (i0.act[s + i] + 1) = i0.act[s + i] + 1 := i64_fits (by omega)
    have g1 := cal28 (b := i0.bm) (s := ((s + i : Nat) : Int))
    have eA : ∀ b : Bm, eBm b = .agg [.int .i64 b.size, .list 1 (b.ws.map eW)] := fun _ => rfl
    rw [eA] at g1
    have hng := newG_succ i0.bm (s : Int) i
    rw [show ((s : Int) + (i : Int)) = ((s + i : Nat) : Int) by omega] at hng
    rw [hng] at ih
    have hx : (i0.act.map eI)[s + i]? = some (.int .i64 i0.act[s + i]) := by rw [List.getElem?_map, List.getElem?_eq_getElem hk]; rfl
    have hy : ((actTo begV i0.act s i).map eI)[s + i]? = some (.int .i64 i0.act[s + i]) := by rw [List.getElem?_map, actTo_get begV hk]; rfl
    have hset : ((actTo begV i0.act s i).map eI).set (s + i) (.int .i64 (i0.act[s + i] + 1)) = (actTo begV i0.act s (i + 1)).map eI := by
      rw [← actTo_set begV hk, List.map_set, hv]; rfl
    have hl := actTo_len begV i0.act s i
    cases hb : newG i0.bm (s : Int) i with
    | true =>
      rw [hb, Bool.true_or] at ih
      simp only [fn8_b0, F1, F2, W0, W1, hx, hy, hset, hl, index_nat hk, List.length_map, part_bm, cellsI_eq, boxA_eq, slAll, slsAll, Nat.reduceMul, Nat.reduceBEq, Nat.reduceLT, Nat.reduceLeDiff, memAll, vAll, reduceCtorEq, Nat.reduceEqDiff, Nat.reduceAdd, Nat.reduceLT, Nat.reduceLeDiff, Nat.beq]
      rw [ih _ (by simp only [hi1, cellsI_eq, boxA_eq, slAll, slsAll, Nat.reduceMul, Nat.reduceBEq, Nat.reduceLT, Nat.reduceLeDiff, memAll, vAll, reduceCtorEq, Nat.reduceEqDiff, Nat.reduceAdd, Nat.reduceLT, Nat.reduceLeDiff, Nat.beq] <;> rfl)]
    | false =>
      rw [hb, Bool.false_or] at ih
      simp only [fn8_b0, F1, F2, W0, W1, g1, hx, hy, hset, hl, index_nat hk, List.length_map, part_bm, cellsI_eq, boxA_eq, slAll, slsAll, Nat.reduceMul, Nat.reduceBEq, Nat.reduceLT, Nat.reduceLeDiff, memAll, vAll, reduceCtorEq, Nat.reduceEqDiff, Nat.reduceAdd, Nat.reduceLT, Nat.reduceLeDiff, Nat.beq]
      rw [ih _ (by simp only [hi1, cellsI_eq, boxA_eq, slAll, slsAll, Nat.reduceMul, Nat.reduceBEq, Nat.reduceLT, Nat.reduceLeDiff, memAll, vAll, reduceCtorEq, Nat.reduceEqDiff, Nat.reduceAdd, Nat.reduceLT, Nat.reduceLeDiff, Nat.beq] <;> rfl)]
  · intro rb

    have W0 : IntKind.i64.wrap ((s : Int) + (c : Int)) = (s : Int) + (c : Int) := i64_fits (by omega)
    unfold resBg
    rcases hbd with ⟨rfl, rfl⟩ | ⟨rfl, h1, h2⟩
    · have F1 : (((s + m : Nat) : Int) < (s : Int) + (m : Int)) = False := eq_false (by omega)
      rw [if_neg (by decide)]
      simp only [fn8_b0, F1, W0, cellsI_eq, slAll, slsAll, Nat.reduceMul, Nat.reduceBEq, Nat.reduceLT, Nat.reduceLeDiff, memAll, vAll, reduceCtorEq, Nat.reduceEqDiff, Nat.reduceAdd, Nat.reduceLT, Nat.reduceLeDiff, Nat.beq]
    · have hk : s + m < i0.act.length := by omega
      have F1 : (((s + m : Nat) : Int) < (s : Int) + (c : Int)) = True := eq_true (by omega)
      have F2 : (i0.act[s + m] == 4096) = true := by simp [h2 hk]
      have hx : (i0.act.map eI)[s + m]? = some (.int .i64 i0.act[s + m]) := by rw [List.getElem?_map, List.getElem?_eq_getElem hk]; rfl
      rw [if_pos rfl]
      simp only [fn8_b0, F1, F2, W0, hx, index_nat hk, List.length_map, cellsI_eq, slAll, slsAll, Nat.reduceMul, Nat.reduceBEq, Nat.reduceLT, Nat.reduceLeDiff, memAll, vAll, reduceCtorEq, Nat.reduceEqDiff, Nat.reduceAdd, Nat.reduceLT, Nat.reduceLeDiff, Nat.beq]

set_option maxRecDepth 20000 in
theorem cal8 {i : Itn} {e : Exn} (hl : i.act.length ≤ lim) : cal env 8 [eItn i, eExt e] = some [(eItn (bgI i e), false), (.bool (bgS i e), false), (.int .i64 (bgE i e), false)] := by
  have e0 := cal11 (i := i) hl
  have eI5 : eItn i = .agg [.int .i64 i.size, .int .i64 i.gran, .list 1 (i.act.map eI), .int .i64 i.bm.size, .list 1 (i.bm.ws.map eW)] := rfl
  have eX : ∀ e : Exn, eExt e = .agg [.int .i64 e.start, .int .i64 e.count] := fun _ => rfl
  have Z0 : ((0 : Int) != 0) = false := rfl
  have Z3 : ((3 : Int) != 0) = true := rfl
  have N3 : ¬ ((3 : Int) = 0) := by decide
  have N2 : ¬ ((2 : Int) = 0) := by decide
  have N12 : ¬ ((12 : Int) = 0) := by decide
  have P5 : ∀ a b c d e : PV, part [a, b, c, d, e] 0 (some 5) = some (.agg [a, b, c, d, e]) := fun _ _ _ _ _ => rfl
  have P2 : ∀ a b : PV, part [a, b] 0 (some 2) = some (.agg [a, b]) := fun _ _ => rfl
  unfold chkI at e0
  cases c0 : okItn i with
  | false =>
    have hE : bgE i e = 3 := by unfold bgE cgE; rw [c0]; rfl
    unfold bgI bgS
    rw [hE, if_neg N3, decide_eq_false N3, Bool.false_and, eItn_zero]
    rw [c0] at e0
    rw [eI5] at e0 ⊢
    rw [eX]
    rw [cal_code env8 rfl]; simp only [fn8, slAll, Nat.reduceBEq, Nat.reduceLeDiff, Nat.reduceAdd, List.length_cons, List.length_nil]
    simp only [e0, Z3, P5, P2, slAll, slsAll, Nat.reduceMul, Nat.reduceBEq, Nat.reduceLT, Nat.reduceLeDiff, memAll, vAll, reduceCtorEq, Nat.reduceEqDiff, Nat.reduceAdd, Nat.reduceLT, Nat.reduceLeDiff, Nat.beq]
  | true =>
    obtain ⟨h1, h2, h3, h4, h5⟩ := okItn_iff.1 c0
    rw [c0, if_pos rfl] at e0
    have e1 := cal27 (e := e) h1
    cases c1 : tchB i.size e with
    | false =>
      have hE : bgE i e = 2 := by unfold bgE cgE; rw [c0, c1]; rfl
      unfold bgI bgS
      rw [hE, if_neg N2, decide_eq_false N2, Bool.false_and, eItn_zero]
      rw [c1] at e1
      generalize tchX i.size i.gran e = t at *
      rw [eX, eX] at e1
      rw [eI5] at e0 ⊢
      rw [eX]
      rw [cal_code env8 rfl]; simp only [fn8, slAll, Nat.reduceBEq, Nat.reduceLeDiff, Nat.reduceAdd, List.length_cons, List.length_nil]
      simp only [e0, e1, Z0, P5, P2, slAll, slsAll, Nat.reduceMul, Nat.reduceBEq, Nat.reduceLT, Nat.reduceLeDiff, memAll, vAll, reduceCtorEq, Nat.reduceEqDiff, Nat.reduceAdd, Nat.reduceLT, Nat.reduceLeDiff, Nat.beq]
    | true =>
      obtain ⟨s, c, ht, k1, k2, k3⟩ := tch_nat c0 c1
      obtain ⟨hE, hI⟩ := cg_parts (v := begV) (er := begE) c0 c1 ht
      have hE : bgE i e = badA begE i.act s c := hE
      have hlen : i.act.length ≤ 4096 := by have := (szOkI_iff.1 h1).2.1; have := grN_le h1; omega
      have hlim : lim = 1073741824 := rfl
      have F3 : (0 + i.act.length ≤ lim) = True := eq_true (by omega)
      have F4 : (i.act.length ≤ lim) = True := eq_true hl
      have hin : ∀ k (h : k < i.act.length), 0 ≤ i.act[k] ∧ i.act[k] ≤ 4096 := fun k h => act_in c0 h
      rw [c1, ht, eX, eX] at e1
      simp only at e1
      rw [hE]
      have hc : ∃ m bd, (∀ j (h : j < m) (h2 : s + j < i.act.length), begE i.act[s + j] = 0) ∧ ((bd = false ∧ m = c) ∨ (bd = true ∧ m < c ∧ ∀ h2 : s + m < i.act.length, i.act[s + m] = 4096)) ∧ badA begE i.act s c = if bd then 6 else 0 := by
        rcases badA_cases begE k2 with ⟨b1, b2⟩ | ⟨m, hm, b1, b2, b3⟩
        · exact ⟨c, false, fun j h _ => b2 j h, .inl ⟨rfl, rfl⟩, b1⟩
        · have hz : i.act[s + m]'(by omega) = 4096 := by
            unfold begE at b2
            split at b2
            · assumption
            · exact absurd rfl b2
          refine ⟨m, true, fun j h _ => b1 j h, .inr ⟨rfl, hm, fun _ => hz⟩, ?_⟩
          rw [b3, hz]
          rfl
      obtain ⟨m, bd, d1, d2, d3⟩ := hc
      rw [eI5] at e0
      cases bd with
      | false =>
        have d3' : badA begE i.act s c = 0 := d3
        have hmc : m = c := by
          rcases d2 with ⟨_, h⟩ | ⟨h, _⟩
          · exact h
          · cases h
        subst hmc
        have hbg := (bg_ok c0 c1 ht (by rw [hE]; exact d3')).1
        have hbs : bgS i e = newG i.bm (s : Int) m := by
          unfold bgS
          rw [decide_eq_true (by rw [hE]; exact d3'), ht, Bool.true_and]
          rfl
        have e5 := cal29 (b := i.bm) (e := ⟨(s : Int), (m : Int)⟩)
        generalize chO orW i.bm ⟨(s : Int), (m : Int)⟩ = b2 at *
        have eA : ∀ b : Bm, eBm b = .agg [.int .i64 b.size, .list 1 (b.ws.map eW)] := fun _ => rfl
        rw [eA, eX, eA] at e5
        rw [hbg, hbs, d3', eI5, eX]
        unfold eItn
        rw [cal_code env8 rfl]; simp only [fn8, slAll, Nat.reduceBEq, Nat.reduceLeDiff, Nat.reduceAdd, List.length_cons, List.length_nil]
        simp only [e0, e1, Z0, P5, P2, F3, F4, List.length_map, List.nil_append, slAll, slsAll, Nat.reduceMul, Nat.reduceBEq, Nat.reduceLT, Nat.reduceLeDiff, memAll, vAll, reduceCtorEq, Nat.reduceEqDiff, Nat.reduceAdd, Nat.reduceLT, Nat.reduceLeDiff, Nat.beq]
        rw [loop8 (i0 := i) (e := e) (s := s) (c := m) (m := m) (bd := false) hlen k2 hin d1 (.inl ⟨rfl, rfl⟩)]
        rotate_left
        · rw [actTo_zero, cellsI_eq, boxA_eq]
          simp only [slAll, slsAll, Nat.reduceMul, Nat.reduceBEq, Nat.reduceLT, Nat.reduceLeDiff, Nat.reduceAdd, decide_true, Bool.and_self, Bool.true_and] <;> rfl
        · unfold resBg
          rw [if_neg (by decide), cellsI_eq, boxA_eq]
          simp only [e5, P5, P2, part_bm, slAll, slsAll, Nat.reduceMul, Nat.reduceBEq, Nat.reduceLT, Nat.reduceLeDiff, memAll, vAll, reduceCtorEq, Nat.reduceEqDiff, Nat.reduceAdd, Nat.reduceLT, Nat.reduceLeDiff, Nat.beq]
      | true =>
        have d3' : badA begE i.act s c = 6 := d3
        have hz : bgI i e = zItn := by unfold bgI; rw [if_neg (by rw [hE, d3']; decide)]
        have hbs : bgS i e = false := by unfold bgS; rw [decide_eq_false (by rw [hE, d3']; decide), Bool.false_and]
        rw [hz, hbs, d3', eItn_zero, eI5, eX]
        rw [cal_code env8 rfl]; simp only [fn8, slAll, Nat.reduceBEq, Nat.reduceLeDiff, Nat.reduceAdd, List.length_cons, List.length_nil]
        simp only [e0, e1, Z0, P5, P2, F3, F4, List.length_map, List.nil_append, slAll, slsAll, Nat.reduceMul, Nat.reduceBEq, Nat.reduceLT, Nat.reduceLeDiff, memAll, vAll, reduceCtorEq, Nat.reduceEqDiff, Nat.reduceAdd, Nat.reduceLT, Nat.reduceLeDiff, Nat.beq]
        rw [loop8 (i0 := i) (e := e) (s := s) (c := c) (m := m) (bd := true) hlen k2 hin d1 d2]
        rotate_left
        · rw [actTo_zero, cellsI_eq, boxA_eq]
          simp only [slAll, slsAll, Nat.reduceMul, Nat.reduceBEq, Nat.reduceLT, Nat.reduceLeDiff, Nat.reduceAdd, decide_true, Bool.and_self, Bool.true_and] <;> rfl
        · unfold resBg
          rw [if_pos rfl, cellsI_eq, boxA_eq]
          simp only [slAll, slsAll, Nat.reduceMul, Nat.reduceBEq, Nat.reduceLT, Nat.reduceLeDiff, memAll, vAll, reduceCtorEq, Nat.reduceEqDiff, Nat.reduceAdd, Nat.reduceLT, Nat.reduceLeDiff, Nat.beq]
end Go.Proofs.YtdahanchdjadiaaGreatDoor.V

namespace Go.Proofs.YtdahanchdjadiaaGreatDoor.V
def resCr (i : Itn) : Option (Ex × St) := some (.normal, ⟨sl 42 [(2, .pbox 1 0), (3, .any), (4, .pbox 2 0), (5, .pv (.bool (clnAt i i.act.length).2))], [⟨false, cellsI i⟩, ⟨false, [.pv (.int .i64 0), .pv (.int .i64 0), .row 1 [], .pv (.int .i64 0), .row 1 []]⟩, ⟨false, boxI i (clnAt i i.act.length).1⟩], [], none⟩)
set_option maxRecDepth 20000 in
theorem loop15 {i0 : Itn} (hl : i0.act.length ≤ lim) {st : St} (h : st.head [1, 2, 4, 5, 6] st.boxes.length = some ⟨sl 42 [(1, .pbox 0 0), (2, .pbox 1 0), (4, .pbox 2 0), (5, .pv (.bool (clnAt i0 ((0 : Nat))).2)), (6, .pv (.int .i64 (0 : Nat)))], [⟨false, cellsI i0⟩, ⟨false, [.pv (.int .i64 0), .pv (.int .i64 0), .row 1 [], .pv (.int .i64 0), .row 1 []]⟩, ⟨false, boxI i0 (clnAt i0 ((0 : Nat))).1⟩], [], none⟩) :
   den env fn15_l1 st = resCr i0 := by
  unfold fn15_l1
  refine clean_up (env := env) (nb := 3) (i0.act.length) (fun i => ⟨sl 42 [(1, .pbox 0 0), (2, .pbox 1 0), (4, .pbox 2 0), (5, .pv (.bool (clnAt i0 (i)).2)), (6, .pv (.int .i64 i))], [⟨false, cellsI i0⟩, ⟨false, [.pv (.int .i64 0), .pv (.int .i64 0), .row 1 [], .pv (.int .i64 0), .row 1 []]⟩, ⟨false, boxI i0 (clnAt i0 (i)).1⟩], [], none⟩) (fun i => resCr i0) h (fun _ => rfl) (fun _ => by simp only [slAll, slsAll, Nat.reduceMul, Nat.reduceBEq, Nat.reduceLT, Nat.reduceLeDiff, Nat.reduceAdd, decide_true, Bool.and_self, Bool.true_and]) ?_ ?_
  · intro i rb hi ih

    have hi1 := i64_next hi hl
    have F1 : ((i : Int) < (i0.act.length : Int)) = True := eq_true (by omega)
    have e1 := cal28 (b := i0.bm) (s := (i : Int))
    have eA : ∀ b : Bm, eBm b = .agg [.int .i64 b.size, .list 1 (b.ws.map eW)] := fun _ => rfl
    have eX : ∀ e : Exn, eExt e = .agg [.int .i64 e.start, .int .i64 e.count] := fun _ => rfl
    have e2 := cal40 (b := (clnAt i0 i).1) (e := ⟨(i : Int), 1⟩)
    rw [eA] at e1
    have hx : (i0.act.map eI)[i]? = some (.int .i64 i0.act[i]) := by rw [List.getElem?_map, List.getElem?_eq_getElem hi]; rfl
    by_cases c0 : i0.act[i] = 0
    · have F2 : (i0.act[i] == 0) = true := by simpa using c0
      cases c1 : getX i0.bm (i : Int) with
      | true =>
        rw [c1] at e1
        have hn := cln_yes hi c0 c1
        generalize clnAt i0 i = p at *
        rw [hn] at ih
        generalize chO clW p.1 ⟨(i : Int), 1⟩ = b2 at *
        rw [eA, eX, eA] at e2
        obtain ⟨pb, pf⟩ := p
        cases pf with
        | true =>
          simp only [fn15_b0, F1, F2, hx, e1, e2, part_bm, index_nat hi, List.length_map, cellsI_eq, boxI_eq, slAll, slsAll, Nat.reduceMul, Nat.reduceBEq, Nat.reduceLT, Nat.reduceLeDiff, memAll, vAll, reduceCtorEq, Nat.reduceEqDiff, Nat.reduceAdd, Nat.reduceLT, Nat.reduceLeDiff, Nat.beq]
          rw [ih _ (by simp only [hi1, cellsI_eq, boxI_eq, slAll, slsAll, Nat.reduceMul, Nat.reduceBEq, Nat.reduceLT, Nat.reduceLeDiff, memAll, vAll, reduceCtorEq, Nat.reduceEqDiff, Nat.reduceAdd, Nat.reduceLT, Nat.reduceLeDiff, Nat.beq] <;> rfl)]
        | false =>
          simp only [fn15_b0, F1, F2, hx, e1, e2, part_bm, index_nat hi, List.length_map, cellsI_eq, boxI_eq, slAll, slsAll, Nat.reduceMul, Nat.reduceBEq, Nat.reduceLT, Nat.reduceLeDiff, memAll, vAll, reduceCtorEq, Nat.reduceEqDiff, Nat.reduceAdd, Nat.reduceLT, Nat.reduceLeDiff, Nat.beq]
          rw [ih _ (by simp only [hi1, cellsI_eq, boxI_eq, slAll, slsAll, Nat.reduceMul, Nat.reduceBEq, Nat.reduceLT, Nat.reduceLeDiff, memAll, vAll, reduceCtorEq, Nat.reduceEqDiff, Nat.reduceAdd, Nat.reduceLT, Nat.reduceLeDiff, Nat.beq] <;> rfl)]
      | false =>
        rw [c1] at e1
        have hn := cln_no hi (by rw [c1]; simp)
        generalize clnAt i0 i = p at *
        rw [hn] at ih
        obtain ⟨pb, pf⟩ := p
        cases pf with
        | true =>
          simp only [fn15_b0, F1, F2, hx, e1, part_bm, index_nat hi, List.length_map, cellsI_eq, boxI_eq, slAll, slsAll, Nat.reduceMul, Nat.reduceBEq, Nat.reduceLT, Nat.reduceLeDiff, memAll, vAll, reduceCtorEq, Nat.reduceEqDiff, Nat.reduceAdd, Nat.reduceLT, Nat.reduceLeDiff, Nat.beq]
          rw [ih _ (by simp only [hi1, cellsI_eq, boxI_eq, slAll, slsAll, Nat.reduceMul, Nat.reduceBEq, Nat.reduceLT, Nat.reduceLeDiff, memAll, vAll, reduceCtorEq, Nat.reduceEqDiff, Nat.reduceAdd, Nat.reduceLT, Nat.reduceLeDiff, Nat.beq] <;> rfl)]
        | false =>
          simp only [fn15_b0, F1, F2, hx, e1, part_bm, index_nat hi, List.length_map, cellsI_eq, boxI_eq, slAll, slsAll, Nat.reduceMul, Nat.reduceBEq, Nat.reduceLT, Nat.reduceLeDiff, memAll, vAll, reduceCtorEq, Nat.reduceEqDiff, Nat.reduceAdd, Nat.reduceLT, Nat.reduceLeDiff, Nat.beq]
          rw [ih _ (by simp only [hi1, cellsI_eq, boxI_eq, slAll, slsAll, Nat.reduceMul, Nat.reduceBEq, Nat.reduceLT, Nat.reduceLeDiff, memAll, vAll, reduceCtorEq, Nat.reduceEqDiff, Nat.reduceAdd, Nat.reduceLT, Nat.reduceLeDiff, Nat.beq] <;> rfl)]
    · have F2 : (i0.act[i] == 0) = false := by simpa using c0
      have hn := cln_no hi (fun h => c0 h.1)
      generalize clnAt i0 i = p at *
      rw [hn] at ih
      obtain ⟨pb, pf⟩ := p
      cases pf with
      | true =>
        simp only [fn15_b0, F1, F2, hx, part_bm, index_nat hi, List.length_map, cellsI_eq, boxI_eq, slAll, slsAll, Nat.reduceMul, Nat.reduceBEq, Nat.reduceLT, Nat.reduceLeDiff, memAll, vAll, reduceCtorEq, Nat.reduceEqDiff, Nat.reduceAdd, Nat.reduceLT, Nat.reduceLeDiff, Nat.beq]
        rw [ih _ (by simp only [hi1, cellsI_eq, boxI_eq, slAll, slsAll, Nat.reduceMul, Nat.reduceBEq, Nat.reduceLT, Nat.reduceLeDiff, memAll, vAll, reduceCtorEq, Nat.reduceEqDiff, Nat.reduceAdd, Nat.reduceLT, Nat.reduceLeDiff, Nat.beq] <;> rfl)]
      | false =>
        simp only [fn15_b0, F1, F2, hx, part_bm, index_nat hi, List.length_map, cellsI_eq, boxI_eq, slAll, slsAll, Nat.reduceMul, Nat.reduceBEq, Nat.reduceLT, Nat.reduceLeDiff, memAll, vAll, reduceCtorEq, Nat.reduceEqDiff, Nat.reduceAdd, Nat.reduceLT, Nat.reduceLeDiff, Nat.beq]
        rw [ih _ (by simp only [hi1, cellsI_eq, boxI_eq, slAll, slsAll, Nat.reduceMul, Nat.reduceBEq, Nat.reduceLT, Nat.reduceLeDiff, memAll, vAll, reduceCtorEq, Nat.reduceEqDiff, Nat.reduceAdd, Nat.reduceLT, Nat.reduceLeDiff, Nat.beq] <;> rfl)]
  · intro rb

    unfold resCr
    generalize clnAt i0 i0.act.length = p at *
    obtain ⟨pb, pf⟩ := p
    cases pf with
    | true => simp only [fn15_b0, Int.lt_irrefl, cellsI_eq, boxI_eq, slAll, slsAll, Nat.reduceMul, Nat.reduceBEq, Nat.reduceLT, Nat.reduceLeDiff, memAll, vAll, reduceCtorEq, Nat.reduceEqDiff, Nat.reduceAdd, Nat.reduceLT, Nat.reduceLeDiff, Nat.beq]
    | false => simp only [fn15_b0, Int.lt_irrefl, cellsI_eq, boxI_eq, slAll, slsAll, Nat.reduceMul, Nat.reduceBEq, Nat.reduceLT, Nat.reduceLeDiff, memAll, vAll, reduceCtorEq, Nat.reduceEqDiff, Nat.reduceAdd, Nat.reduceLT, Nat.reduceLeDiff, Nat.beq]

theorem cal15 {i : Itn} (hl : i.act.length ≤ lim) : cal env 15 [eItn i] = some [(eItn (clnI i), false), (.bool (clnF i), false)] := by
  have e0 := cal11 (i := i) hl
  have eI5 : ∀ i : Itn, eItn i = .agg [.int .i64 i.size, .int .i64 i.gran, .list 1 (i.act.map eI), .int .i64 i.bm.size, .list 1 (i.bm.ws.map eW)] := fun _ => rfl
  have P5 : ∀ a b c d e : PV, part [a, b, c, d, e] 0 (some 5) = some (.agg [a, b, c, d, e]) := fun _ _ _ _ _ => rfl
  have Z0 : ((0 : Int) != 0) = false := rfl
  have Z3 : ((3 : Int) != 0) = true := rfl
  unfold chkI at e0
  unfold clnI clnF
  cases c0 : okItn i with
  | false =>
    rw [c0, if_neg (by decide)] at e0
    rw [if_neg (by decide)]
    rw [eI5] at e0 ⊢
    rw [cal_code env15 rfl]; simp only [fn15, slAll, Nat.reduceBEq, Nat.reduceLeDiff, Nat.reduceAdd, List.length_cons, List.length_nil]
    simp only [e0, Z3, P5, slAll, slsAll, Nat.reduceMul, Nat.reduceBEq, Nat.reduceLT, Nat.reduceLeDiff, memAll, vAll, reduceCtorEq, Nat.reduceEqDiff, Nat.reduceAdd, Nat.reduceLT, Nat.reduceLeDiff, Nat.beq]
  | true =>
    rw [c0, if_pos rfl] at e0
    rw [if_pos rfl, Bool.true_and]
    simp only [eI5] at e0 ⊢
    rw [cal_code env15 rfl]; simp only [fn15, slAll, Nat.reduceBEq, Nat.reduceLeDiff, Nat.reduceAdd, List.length_cons, List.length_nil]
    simp only [e0, Z0, P5, List.length_map, slAll, slsAll, Nat.reduceMul, Nat.reduceBEq, Nat.reduceLT, Nat.reduceLeDiff, memAll, vAll, reduceCtorEq, Nat.reduceEqDiff, Nat.reduceAdd, Nat.reduceLT, Nat.reduceLeDiff, Nat.beq]
    rw [loop15 (i0 := i) hl]
    rotate_left
    · rw [cellsI_eq, clnAt, boxI_eq]
      simp only [slAll, slsAll, Nat.reduceMul, Nat.reduceBEq, Nat.reduceLT, Nat.reduceLeDiff, Nat.reduceAdd, decide_true, Bool.and_self, Bool.true_and] <;> rfl
    · unfold resCr
      rw [cellsI_eq]
      generalize clnAt i i.act.length = p at *
      obtain ⟨pb, pf⟩ := p
      cases pf with
      | true =>
        rw [boxI_eq]
        simp only [e0, Z0, P5, List.length_map, slAll, slsAll, Nat.reduceMul, Nat.reduceBEq, Nat.reduceLT, Nat.reduceLeDiff, memAll, vAll, reduceCtorEq, Nat.reduceEqDiff, Nat.reduceAdd, Nat.reduceLT, Nat.reduceLeDiff, Nat.beq]
      | false =>
        rw [boxI_eq]
        simp only [e0, Z0, P5, List.length_map, slAll, slsAll, Nat.reduceMul, Nat.reduceBEq, Nat.reduceLT, Nat.reduceLeDiff, memAll, vAll, reduceCtorEq, Nat.reduceEqDiff, Nat.reduceAdd, Nat.reduceLT, Nat.reduceLeDiff, Nat.beq]
end Go.Proofs.YtdahanchdjadiaaGreatDoor.V
