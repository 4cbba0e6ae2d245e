/-
  Part 8 of the texts that the statement stands on.
-/
import Derived.Test.YtdahanchdjadiaaGreatDoorZ7
set_option linter.all false
namespace Go.Proofs.YtdahanchdjadiaaGreatDoor.V
def aw0 : Itn := ⟨20, 8, [0, 0, 0], ⟨3, [0]⟩⟩
def aw1 : Itn := ⟨20, 8, [1, 1, 0], ⟨3, [3]⟩⟩
def aw2 : Itn := ⟨20, 8, [1, 2, 0], ⟨3, [3]⟩⟩
def aw3 : Itn := ⟨20, 8, [0, 1, 0], ⟨3, [3]⟩⟩
def aw4 : Itn := ⟨20, 8, [0, 1, 0], ⟨3, [2]⟩⟩
def awR : Itn := ⟨20, 8, [0, 0, 0], ⟨3, [3]⟩⟩
def awB : List Nat := [20, 8, 1, 0, 2]
theorem xNew : newI 20 8 = aw0 := by kernel_rfl
theorem xNewE : newIE 20 8 = 0 := by kernel_rfl
theorem xB1 : bgI aw0 ⟨6, 4⟩ = aw1 := by kernel_rfl
theorem xB1s : bgS aw0 ⟨6, 4⟩ = true := by kernel_rfl
theorem xB1e : bgE aw0 ⟨6, 4⟩ = 0 := by kernel_rfl
theorem xB2 : bgI aw1 ⟨9, 1⟩ = aw2 := by kernel_rfl
theorem xB2s : bgS aw1 ⟨9, 1⟩ = false := by kernel_rfl
theorem xB2e : bgE aw1 ⟨9, 1⟩ = 0 := by kernel_rfl
theorem xEnc : encO aw2 = awB := by kernel_rfl
theorem xRc : rcI 20 8 awB = awR := by kernel_rfl
theorem xRl : rcL 20 8 awB = [⟨0, 16⟩] := by kernel_rfl
theorem xRe : rcE 20 8 awB = 0 := by kernel_rfl
theorem xEn : cgI endV endE aw2 ⟨6, 4⟩ = aw3 := by kernel_rfl
theorem xEnE : cgE endE aw2 ⟨6, 4⟩ = 0 := by kernel_rfl
theorem xCl : clnI aw3 = aw4 := by kernel_rfl
theorem xClF : clnF aw3 = true := by kernel_rfl
theorem xX4 : bmX aw4.bm = [⟨1, 1⟩] := by kernel_rfl
set_option maxRecDepth 20000 in
theorem calAwake : cal env 6 [] = some [(.bool true, false)] := by
  have n1 := cal19 (s := 20) (g := 8)
  rw [xNew, xNewE] at n1
  have b1 := cal7 (i := aw0) (e := ⟨6, 4⟩) (by decide)
  rw [xB1, xB1s, xB1e] at b1
  have b2 := cal7 (i := aw1) (e := ⟨9, 1⟩) (by decide)
  rw [xB2, xB2s, xB2e] at b2
  have c1 := cal20 (i := aw2) (by decide)
  rw [xEnc] at c1
  have r1 := cal16 (s := 20) (g := 8) (b := awB) (by decide) (by decide)
  rw [xRc, xRl, xRe] at r1
  have s1 := cal18 (a := [⟨0, 16⟩]) (b := [⟨0, 16⟩]) (by decide)
  rw [decide_eq_true rfl] at s1
  have d1 := cal12 (i := aw2) (e := ⟨6, 4⟩) (by decide)
  rw [xEn, xEnE] at d1
  have k1 := cal14 (i := aw3) (by decide)
  rw [xCl, xClF] at k1
  have x1 := cal21 (b := aw4.bm)
  rw [xX4] at x1
  have s2 := cal18 (a := [⟨1, 1⟩]) (b := [⟨1, 1⟩]) (by decide)
  rw [decide_eq_true rfl] at s2
  have w0 : ((0 : Wd).toNat : Int) = 0 := rfl
  have w2 : ((2 : Wd).toNat : Int) = 2 := rfl
  have w3 : ((3 : Wd).toNat : Int) = 3 := rfl
  simp only [aw0, aw1, aw2, aw3, aw4, awR, awB, eItn, eBm, eExt, eI, eW, eY, w0, w2, w3, List.map_cons, List.map_nil, Int.natCast_zero] at n1 b1 b2 c1 r1 s1 d1 k1 x1 s2
  have P5 : ∀ a b c d e : PV, part [a, b, c, d, e] 0 (some 5) = some (.agg [a, b, c, d, e]) := fun _ _ _ _ _ => rfl
  have L1 : (1 ≤ lim) = True := eq_true (by decide)
  have Z0 : ((0 : Int) != 0) = false := rfl
  have Q0 : ((0 : Int) == 0) = true := rfl
  have Q1 : ((1 : Int) == 1) = true := rfl
  have Q3 : (((3 : Nat) : Int) == 3) = true := rfl
  have I0 : index (.int .i64 0) 3 = some 0 := by kernel_rfl
  have I1 : index (.int .i64 1) 3 = some 1 := by kernel_rfl
  rw [cal_code env6 rfl]; simp only [fn6, slAll, Nat.reduceBEq, Nat.reduceLeDiff, Nat.reduceAdd, List.length_cons, List.length_nil]
  simp only [Z0, Q0, Q1, Q3, I0, I1, n1, b1, b2, c1, r1, s1, d1, k1, x1, s2, P5, L1, part_bm, List.length_cons, List.length_nil, slAll, slsAll, Nat.reduceMul, Nat.reduceBEq, Nat.reduceLT, Nat.reduceLeDiff, memAll, vAll, reduceCtorEq, Nat.reduceEqDiff, Nat.reduceAdd, Nat.reduceLT, Nat.reduceLeDiff, Nat.beq]
end Go.Proofs.YtdahanchdjadiaaGreatDoor.V

namespace Go.Proofs.YtdahanchdjadiaaGreatDoor.V
def resNr (o : Option (Nat × Nat × Nat)) : Option (Ex × St) := match o with
  | none => some (.normal, ⟨sl 45 [(2, .any), (3, .any), (4, .any)], [], [], none⟩)
  | some (e, n, u) => some (.ret, ⟨sl 45 [(2, .pv (.int .i64 (n : Int))), (3, .pv (.int .i64 (u : Int))), (4, .pv (.int .i64 (e : Int)))], [], [], none⟩)
theorem resNr_none : resNr none = some (.normal, ⟨sl 45 [(2, .any), (3, .any), (4, .any)], [], [], none⟩) := rfl
theorem resNr_some (e n u : Nat) : resNr (some (e, n, u)) = some (.ret, ⟨sl 45 [(2, .pv (.int .i64 (n : Int))), (3, .pv (.int .i64 (u : Int))), (4, .pv (.int .i64 (e : Int)))], [], [], none⟩) := rfl
theorem loop90 {l : List Nat} (hb : ∀ c ∈ l, c < 256) (hl : l.length ≤ 1000000) {st : St} (h : st.head [0, 5, 6, 7] st.boxes.length = some ⟨sl 45 [(0, .pv (.list 1 (l.map eY))), (5, .pv (.int .i64 (accN l ((0 : Nat)) : Int))), (6, .pv (.int .i64 ((128 ^ ((0 : Nat)) : Nat) : Int))), (7, .pv (.int .i64 (0 : Nat)))], [], [], none⟩) :
   den env fn90_l1 st = resNr (decH (8 - ((0 : Nat))) ((0 : Nat)) (accN l ((0 : Nat))) (l.drop ((0 : Nat)))) := by
  unfold fn90_l1
  refine clean_up (env := env) (nb := 0) (8) (fun i => ⟨sl 45 [(0, .pv (.list 1 (l.map eY))), (5, .pv (.int .i64 (accN l (i) : Int))), (6, .pv (.int .i64 ((128 ^ (i) : Nat) : Int))), (7, .pv (.int .i64 i))], [], [], none⟩) (fun i => resNr (decH (8 - (i)) (i) (accN l (i)) (l.drop (i)))) h (fun _ => rfl) (fun _ => by simp only [slAll, slsAll, Nat.reduceMul, Nat.reduceBEq, Nat.reduceLT, Nat.reduceLeDiff, Nat.reduceAdd, decide_true, Bool.and_self, Bool.true_and]) ?_ ?_
  · intro i rb hi ih

    have hi1 := i64_next hi (by unfold lim; omega)
    have F1 : ((i : Int) < 8) = True := eq_true (by omega)
    rw [show 8 - i = (7 - i) + 1 by omega]
    by_cases c : i < l.length
    · have F2 : ((i : Int) ≥ (l.length : Int)) = False := eq_false (by omega)
      have hbi := hb _ (List.getElem_mem c)
      have e0 : l.drop i = l[i] :: l.drop (i + 1) := List.drop_eq_getElem_cons c
      have eg : l.getD i 0 = l[i] := by rw [List.getD_eq_getElem?_getD, List.getElem?_eq_getElem c]; rfl
      have ha := accN_lt l i
      have hx : l[i] % 128 < 128 := Nat.mod_lt _ (by decide)
      have h3 := pow8 hi
      have h3' := h3
      rw [Nat.pow_succ] at h3'
      have h4 : l[i] % 128 * 128 ^ i ≤ 127 * 128 ^ i := Nat.mul_le_mul_right _ (by omega)
      have F3 : IntKind.i64.wrap (l[i] : Int) = (l[i] : Int) := i64_fits (by omega)
      have F4 : (l[i] : Int).tmod 128 = ((l[i] % 128 : Nat) : Int) := by rw [Int.tmod_eq_emod_of_nonneg (by omega)]; omega
      have F5 : IntKind.i64.wrap ((l[i] % 128 : Nat) : Int) = ((l[i] % 128 : Nat) : Int) := i64_fits (by omega)
      have z128 : ((128 : Int) = 0) = False := eq_false (by omega)
      have F6 : IntKind.i64.wrap (((l[i] % 128 : Nat) : Int) * ((128 ^ i : Nat) : Int)) = ((l[i] % 128 * 128 ^ i : Nat) : Int) := by
        rw [← Int.natCast_mul]
        exact i64_fits (by omega)
      have hs : accN l (i + 1) = accN l i + l[i] % 128 * 128 ^ i := by show accN l i + l.getD i 0 % 128 * 128 ^ i = _; rw [eg]
      have F7 : IntKind.i64.wrap ((accN l i : Int) + ((l[i] % 128 * 128 ^ i : Nat) : Int)) = (accN l (i + 1) : Int) := by
        rw [hs, i64_fits (by omega)]
        omega
      have F8 : IntKind.i64.wrap (((128 ^ i : Nat) : Int) * 128) = ((128 ^ (i + 1) : Nat) : Int) := by
        have : ((128 ^ i : Nat) : Int) * 128 = ((128 ^ (i + 1) : Nat) : Int) := by rw [Nat.pow_succ]; omega
        rw [this]
        exact i64_fits (by omega)
      have hg : (l.map eY)[i]? = some (.int .u8 (l[i] : Int)) := by rw [List.getElem?_map, List.getElem?_eq_getElem c]; rfl
      rw [e0]
      unfold decH
      by_cases c2 : l[i] < 128
      · rw [if_pos c2]
        have F9 : ((l[i] : Int) < 128) = True := eq_true (by omega)
        have e5 : accN l i + l[i] * 128 ^ i = accN l (i + 1) := by rw [hs, Nat.mod_eq_of_lt c2]
        rw [e5]
        have hj : IntKind.i64.wrap ((i : Int) + 1) = ((i + 1 : Nat) : Int) := by rw [i64_fits (by omega)]; omega
        by_cases c3 : l[i] = 0 ∧ 0 < i
        · rw [if_pos (.inl c3)]
          have G1 : ((l[i] : Int) == 0) = true := by simp [c3.1]
          have G2 : ((i : Int) > 0) = True := eq_true (by omega)
          simp only [fn90_b0, F1, F2, F3, F4, F5, F6, F7, F8, F9, z128, G1, G2, hg, index_nat c, List.length_map, resNr_some, slAll, slsAll, Nat.reduceMul, Nat.reduceBEq, Nat.reduceLT, Nat.reduceLeDiff, memAll, vAll, reduceCtorEq, Nat.reduceEqDiff, Nat.reduceAdd, Nat.reduceLT, Nat.reduceLeDiff, Nat.beq]
          rfl
        · by_cases c4 : most < accN l (i + 1)
          · rw [if_pos (.inr c4)]
            have G3 : ((accN l (i + 1) : Int) > 9007199254740991) = True := eq_true (by unfold most at c4; omega)
            by_cases c5 : l[i] = 0
            · have G1 : ((l[i] : Int) == 0) = true := by simp [c5]
              have G2 : ((i : Int) > 0) = False := eq_false (by omega)
              simp only [fn90_b0, F1, F2, F3, F4, F5, F6, F7, F8, F9, z128, G1, G2, G3, hg, index_nat c, List.length_map, resNr_some, slAll, slsAll, Nat.reduceMul, Nat.reduceBEq, Nat.reduceLT, Nat.reduceLeDiff, memAll, vAll, reduceCtorEq, Nat.reduceEqDiff, Nat.reduceAdd, Nat.reduceLT, Nat.reduceLeDiff, Nat.beq]
              rfl
            · have G1 : ((l[i] : Int) == 0) = false := by simp [c5]
              simp only [fn90_b0, F1, F2, F3, F4, F5, F6, F7, F8, F9, z128, G1, G3, hg, index_nat c, List.length_map, resNr_some, slAll, slsAll, Nat.reduceMul, Nat.reduceBEq, Nat.reduceLT, Nat.reduceLeDiff, memAll, vAll, reduceCtorEq, Nat.reduceEqDiff, Nat.reduceAdd, Nat.reduceLT, Nat.reduceLeDiff, Nat.beq]
              rfl
          · rw [if_neg (by omega)]
            have G3 : ((accN l (i + 1) : Int) > 9007199254740991) = False := eq_false (by unfold most at c4; omega)
            by_cases c5 : l[i] = 0
            · have G1 : ((l[i] : Int) == 0) = true := by simp [c5]
              have G2 : ((i : Int) > 0) = False := eq_false (by omega)
              simp only [fn90_b0, F1, F2, F3, F4, F5, F6, F7, F8, F9, z128, G1, G2, G3, hj, hg, index_nat c, List.length_map, resNr_some, slAll, slsAll, Nat.reduceMul, Nat.reduceBEq, Nat.reduceLT, Nat.reduceLeDiff, memAll, vAll, reduceCtorEq, Nat.reduceEqDiff, Nat.reduceAdd, Nat.reduceLT, Nat.reduceLeDiff, Nat.beq]
              rfl
            · have G1 : ((l[i] : Int) == 0) = false := by simp [c5]
              simp only [fn90_b0, F1, F2, F3, F4, F5, F6, F7, F8, F9, z128, G1, G3, hj, hg, index_nat c, List.length_map, resNr_some, slAll, slsAll, Nat.reduceMul, Nat.reduceBEq, Nat.reduceLT, Nat.reduceLeDiff, memAll, vAll, reduceCtorEq, Nat.reduceEqDiff, Nat.reduceAdd, Nat.reduceLT, Nat.reduceLeDiff, Nat.beq]
              rfl
      · rw [if_neg c2]
        have F9 : ((l[i] : Int) < 128) = False := eq_false (by omega)
        rw [← hs, show 7 - i = 8 - (i + 1) by omega]
        simp only [fn90_b0, F1, F2, F3, F4, F5, F6, F7, F8, F9, z128, hg, index_nat c, List.length_map, slAll, slsAll, Nat.reduceMul, Nat.reduceBEq, Nat.reduceLT, Nat.reduceLeDiff, memAll, vAll, reduceCtorEq, Nat.reduceEqDiff, Nat.reduceAdd, Nat.reduceLT, Nat.reduceLeDiff, Nat.beq]
        rw [ih _ (by simp only [hi1, slAll, slsAll, Nat.reduceMul, Nat.reduceBEq, Nat.reduceLT, Nat.reduceLeDiff, memAll, vAll, reduceCtorEq, Nat.reduceEqDiff, Nat.reduceAdd, Nat.reduceLT, Nat.reduceLeDiff, Nat.beq] <;> rfl)]
    · have F2 : ((i : Int) ≥ (l.length : Int)) = True := eq_true (by omega)
      have e0 : l.drop i = [] := List.drop_of_length_le (by omega)
      rw [e0]
      unfold decH
      simp only [fn90_b0, F1, F2, List.length_map, resNr_some, slAll, slsAll, Nat.reduceMul, Nat.reduceBEq, Nat.reduceLT, Nat.reduceLeDiff, memAll, vAll, reduceCtorEq, Nat.reduceEqDiff, Nat.reduceAdd, Nat.reduceLT, Nat.reduceLeDiff, Nat.beq]
      rfl
  · intro rb

    rw [Nat.sub_self]
    unfold decH
    have F1 : (((8 : Nat) : Int) < 8) = False := eq_false (by omega)
    simp only [fn90_b0, F1, resNr_none, slAll, slsAll, Nat.reduceMul, Nat.reduceBEq, Nat.reduceLT, Nat.reduceLeDiff, memAll, vAll, reduceCtorEq, Nat.reduceEqDiff, Nat.reduceAdd, Nat.reduceLT, Nat.reduceLeDiff, Nat.beq]

theorem cal90 {l : List Nat} (hb : ∀ c ∈ l, c < 256) (hl : l.length ≤ 1000000) : cal env 90 [.list 1 (l.map eY)] = some [(.int .i64 ((decN l).2.1 : Int), false), (.int .i64 ((decN l).2.2 : Int), false), (.int .i64 ((decN l).1 : Int), false)] := by
  rw [cal_code env90 rfl]; simp only [fn90, slAll, Nat.reduceBEq, Nat.reduceLeDiff, Nat.reduceAdd, List.length_cons, List.length_nil]
  simp only [List.length_map, slAll, slsAll, Nat.reduceMul, Nat.reduceBEq, Nat.reduceLT, Nat.reduceLeDiff, memAll, vAll, reduceCtorEq, Nat.reduceEqDiff, Nat.reduceAdd, Nat.reduceLT, Nat.reduceLeDiff, Nat.beq]
  rw [loop90 hb hl]
  rotate_left
  · simp only [slAll, slsAll, Nat.reduceMul, Nat.reduceBEq, Nat.reduceLT, Nat.reduceLeDiff, Nat.reduceAdd, decide_true, Bool.and_self, Bool.true_and] <;> rfl
  · rw [Nat.sub_zero, List.drop_zero, show accN l 0 = 0 from rfl]
    have h := decG_H 8 0 0 l
    unfold decN
    cases hd : decH 8 0 0 l with
    | none =>
      rw [hd] at h
      rw [h, resNr_none]
      simp only [List.length_map, slAll, slsAll, Nat.reduceMul, Nat.reduceBEq, Nat.reduceLT, Nat.reduceLeDiff, memAll, vAll, reduceCtorEq, Nat.reduceEqDiff, Nat.reduceAdd, Nat.reduceLT, Nat.reduceLeDiff, Nat.beq]
      rfl
    | some q =>
      obtain ⟨e, n, u⟩ := q
      rw [hd] at h
      rw [h, resNr_some]
      simp only [List.length_map, slAll, slsAll, Nat.reduceMul, Nat.reduceBEq, Nat.reduceLT, Nat.reduceLeDiff, memAll, vAll, reduceCtorEq, Nat.reduceEqDiff, Nat.reduceAdd, Nat.reduceLT, Nat.reduceLeDiff, Nat.beq]
      rfl
end Go.Proofs.YtdahanchdjadiaaGreatDoor.V

namespace Go.Proofs.YtdahanchdjadiaaGreatDoor.V
theorem cal91 {l : List Nat} {n : Nat} (hn : n ≤ l.length) (hl : l.length ≤ 1000000) : cal env 91 [.list 1 (l.map eY), .int .i64 (n : Int)] = some [(.list 1 ((l.drop n).map eY), true)] := by
  have B1 : (0 ≤ (n : Int) ∧ (n : Int) ≤ (l.length : Int)) = True := eq_true (by omega)
  have B2 : (n : Int).toNat = n := by omega
  have B3 : (0 ≤ (l.length : Int) ∧ (l.length : Int) ≤ (l.length : Int)) = True := eq_true (by omega)
  have hdr : ((l.map eY).drop n).take (l.length - n) = (l.drop n).map eY := by
    rw [← List.map_drop, ← List.map_take, List.take_of_length_le (by rw [List.length_drop]; exact Nat.le_refl _)]
  have F1 : (0 + (l.length - n) ≤ lim) = True := eq_true (by unfold lim; omega)
  have F2 : (l.length - n ≤ lim) = True := eq_true (by unfold lim; omega)
  rw [cal_code env91 rfl]; simp only [fn91, slAll, Nat.reduceBEq, Nat.reduceLeDiff, Nat.reduceAdd, List.length_cons, List.length_nil]
  simp only [B1, B2, B3, hdr, F1, F2, bound, List.length_map, List.length_drop, List.nil_append, slAll, slsAll, Nat.reduceMul, Nat.reduceBEq, Nat.reduceLT, Nat.reduceLeDiff, memAll, vAll, reduceCtorEq, Nat.reduceEqDiff, Nat.reduceAdd, Nat.reduceLT, Nat.reduceLeDiff, Nat.beq]
theorem cal72 {l : List Nat} (hb : ∀ c ∈ l, c < 256) (hl : l.length ≤ 1000000) : cal env 72 [.list 1 (l.map eY)] = some [(.int .i64 ((decN l).2.1 : Int), false), (.list 1 ((if (decN l).1 = 0 then decR l else []).map eY), true), (.int .i64 ((decN l).1 : Int), false)] := by
  have e1 := cal90 hb hl
  by_cases c : (decN l).1 = 0
  · have Z : (((0 : Nat) : Int) != 0) = false := rfl
    obtain ⟨h1, h2, -⟩ := decN_used c
    have e2 := cal91 (l := l) (n := (decN l).2.2) h2 hl
    rw [c] at e1
    rw [if_pos c, c]
    unfold decR
    rw [cal_code env72 rfl]; simp only [fn72, slAll, Nat.reduceBEq, Nat.reduceLeDiff, Nat.reduceAdd, List.length_cons, List.length_nil]
    simp only [e1, e2, Z, slAll, slsAll, Nat.reduceMul, Nat.reduceBEq, Nat.reduceLT, Nat.reduceLeDiff, memAll, vAll, reduceCtorEq, Nat.reduceEqDiff, Nat.reduceAdd, Nat.reduceLT, Nat.reduceLeDiff, Nat.beq]
    rfl
  · have Z : (((decN l).1 : Int) != 0) = true := by simpa using c
    have hz := decN_zero c
    rw [if_neg c, hz]
    rw [hz] at e1
    rw [cal_code env72 rfl]; simp only [fn72, slAll, Nat.reduceBEq, Nat.reduceLeDiff, Nat.reduceAdd, List.length_cons, List.length_nil]
    simp only [e1, Z, List.map_nil, slAll, slsAll, Nat.reduceMul, Nat.reduceBEq, Nat.reduceLT, Nat.reduceLeDiff, memAll, vAll, reduceCtorEq, Nat.reduceEqDiff, Nat.reduceAdd, Nat.reduceLT, Nat.reduceLeDiff, Nat.beq]
    rfl
end Go.Proofs.YtdahanchdjadiaaGreatDoor.V

namespace Go.Proofs.YtdahanchdjadiaaGreatDoor.V
theorem cal92 {l : List Nat} (hb : ∀ c ∈ l, c < 256) (hl : l.length ≤ 1000000) : cal env 92 [.list 1 (l.map eY)] = some [(.int .i64 ((if lenE l = 0 then (decN l).2.1 else 0 : Nat) : Int), false), (.list 1 ((if lenE l = 0 then decR l else []).map eY), true), (.int .i64 (lenE l : Int), false)] := by
  have e1 := cal72 hb hl
  by_cases c : (decN l).1 = 0
  · rw [c, if_pos rfl] at e1
    have Q : (((0 : Nat) : Int) == 0) = true := rfl
    have Z : (((0 : Nat) : Int) != 0) = false := rfl
    by_cases c2 : 65536 < (decN l).2.1
    · have hE : lenE l = 5 := by unfold lenE; rw [if_pos ⟨c, c2⟩]
      rw [hE, if_neg (by decide), if_neg (by decide)]
      have G : (((decN l).2.1 : Int) > 65536) = True := eq_true (by omega)
      have Z5 : ((5 : Int) != 0) = true := rfl
      rw [cal_code env92 rfl]; simp only [fn92, slAll, Nat.reduceBEq, Nat.reduceLeDiff, Nat.reduceAdd, List.length_cons, List.length_nil]
      simp only [e1, Q, Z, Z5, G, List.map_nil, slAll, slsAll, Nat.reduceMul, Nat.reduceBEq, Nat.reduceLT, Nat.reduceLeDiff, memAll, vAll, reduceCtorEq, Nat.reduceEqDiff, Nat.reduceAdd, Nat.reduceLT, Nat.reduceLeDiff, Nat.beq]
      rfl
    · have hE : lenE l = 0 := by unfold lenE; rw [if_neg (fun h => c2 h.2), c]
      rw [hE, if_pos rfl, if_pos rfl]
      have G : (((decN l).2.1 : Int) > 65536) = False := eq_false (by omega)
      rw [cal_code env92 rfl]; simp only [fn92, slAll, Nat.reduceBEq, Nat.reduceLeDiff, Nat.reduceAdd, List.length_cons, List.length_nil]
      simp only [e1, Q, Z, G, slAll, slsAll, Nat.reduceMul, Nat.reduceBEq, Nat.reduceLT, Nat.reduceLeDiff, memAll, vAll, reduceCtorEq, Nat.reduceEqDiff, Nat.reduceAdd, Nat.reduceLT, Nat.reduceLeDiff, Nat.beq]
      rfl
  · have Q : (((decN l).1 : Int) == 0) = false := by simpa using c
    have Z : (((decN l).1 : Int) != 0) = true := by simpa using c
    rw [if_neg c] at e1
    have hE : lenE l = (decN l).1 := by unfold lenE; rw [if_neg (fun h => c h.1)]
    rw [hE, if_neg c, if_neg c]
    rw [cal_code env92 rfl]; simp only [fn92, slAll, Nat.reduceBEq, Nat.reduceLeDiff, Nat.reduceAdd, List.length_cons, List.length_nil]
    simp only [e1, Q, Z, List.map_nil, slAll, slsAll, Nat.reduceMul, Nat.reduceBEq, Nat.reduceLT, Nat.reduceLeDiff, memAll, vAll, reduceCtorEq, Nat.reduceEqDiff, Nat.reduceAdd, Nat.reduceLT, Nat.reduceLeDiff, Nat.beq]
    rfl
end Go.Proofs.YtdahanchdjadiaaGreatDoor.V

namespace Go.Proofs.YtdahanchdjadiaaGreatDoor.V
def zb : Nat → List Nat → AV
  | 0, r => .row 1 (r.map eY)
  | _ + 1, r => .pv (.list 1 (r.map eY))
theorem zb_or (i : Nat) (r : List Nat) : zb i r = .row 1 (r.map eY) ∨ zb i r = .pv (.list 1 (r.map eY)) := by
  cases i
  · exact .inl rfl
  · exact .inr rfl
def zLast : Nat → Nat → List Nat → AV
  | 0, i, r => zb i r
  | k + 1, i, r => if (pairD r).1 = 0 then zLast k (i + 1) (pairD r).2.2 else .pv (.list 1 (r.map eY))
theorem zLast_good : ∀ (k i : Nat) (r : List Nat) (acc : List Exn), (lstD k r acc).1 = 0 → zLast k i r = zb (i + k) (lstD k r acc).2.2
  | 0, i, r, acc, _ => rfl
  | k + 1, i, r, acc, h => by
    unfold lstD at h ⊢
    unfold zLast
    by_cases c : (pairD r).1 = 0
    · rw [if_pos c] at h
      rw [if_pos c, if_pos c, zLast_good k (i + 1) _ _ h, show i + 1 + k = i + (k + 1) by omega]
    · rw [if_neg c] at h
      exact absurd h c
def resX (q : Nat × List Exn × List Nat) (z : AV) : Option (Ex × St) :=
  if q.1 = 0 then some (.normal, ⟨sl 54 [(0, z), (2, .any), (3, .any), (4, .any), (7, .row 2 (q.2.1.map eExt))], [], [], none⟩)
  else some (.ret, ⟨sl 54 [(0, z), (2, .row 2 []), (3, .row 1 []), (4, .pv (.int .i64 (q.1 : Int))), (7, .row 2 (q.2.1.map eExt))], [], [], none⟩)
theorem loop73 {l : List Nat} {n : Nat} (hb : ∀ c ∈ l, c < 256) (hl : l.length ≤ 1000000) (hn : n ≤ 65536) {st : St} (h : st.head [0, 5, 7, 8] st.boxes.length = some ⟨sl 54 [(0, zb ((0 : Nat)) (rstN l ((0 : Nat)))), (5, .pv (.int .i64 n)), (7, .row 2 ((accL l ((0 : Nat))).map eExt)), (8, .pv (.int .i64 (0 : Nat)))], [], [], none⟩) :
   den env fn73_l1 st = resX (lstD (n - (0 : Nat)) (rstN l (0 : Nat)) (accL l (0 : Nat))) (zLast (n - (0 : Nat)) (0 : Nat) (rstN l (0 : Nat))) := by
  unfold fn73_l1
  refine clean_up (env := env) (nb := 0) (n) (fun i => ⟨sl 54 [(0, zb (i) (rstN l (i))), (5, .pv (.int .i64 n)), (7, .row 2 ((accL l (i)).map eExt)), (8, .pv (.int .i64 i))], [], [], none⟩) (fun i => resX (lstD (n - i) (rstN l i) (accL l i)) (zLast (n - i) i (rstN l i))) h (fun _ => rfl) (fun i => by cases i <;> (unfold zb; simp only [slAll, slsAll, Nat.reduceMul, Nat.reduceBEq, Nat.reduceLT, Nat.reduceLeDiff, Nat.reduceAdd, decide_true, Bool.and_self, Bool.true_and])) ?_ ?_
  · intro i rb hi ih
    have hi1 := i64_next hi (by unfold lim; omega)
    have F1 : ((i : Int) < (n : Int)) = True := eq_true (by omega)
    have hr : rstN l (i + 1) = (pairD (rstN l i)).2.2 := rfl
    have hacc := accL_succ l i
    have hbr : ∀ c ∈ rstN l i, c < 256 := fun c h => hb c (rstN_mem h)
    have hlr := Nat.le_trans (rstN_len l i) hl
    have e1 := cal72 hbr hlr
    have e2 := cal72 (l := decR (rstN l i)) (fun c h => hbr c (decR_mem h)) (Nat.le_trans (decR_len _) hlr)
    have Z : (((0 : Nat) : Int) != 0) = false := rfl
    have F4 : (((accL l i).map eExt).length + 1 ≤ lim) = True := eq_true (by rw [List.length_map, accL_len]; unfold lim; omega)
    rw [show n - i = (n - (i + 1)) + 1 by omega]
    unfold lstD zLast
    have hz := zb_or i (rstN l i)
    by_cases c1 : (decN (rstN l i)).1 = 0
    · rw [c1, if_pos rfl] at e1
      by_cases c2 : (decN (decR (rstN l i))).1 = 0
      · have hp : pairD (rstN l i) = (0, ⟨((decN (rstN l i)).2.1 : Int), ((decN (decR (rstN l i))).2.1 : Int)⟩, decR (decR (rstN l i))) := by unfold pairD; rw [if_pos c1, c2]
        rw [c2, if_pos rfl] at e2
        have hs : (accL l (i + 1)).map eExt = (accL l i).map eExt ++ [.agg [.int .i64 ((decN (rstN l i)).2.1 : Int), .int .i64 ((decN (decR (rstN l i))).2.1 : Int)]] := by rw [hacc, List.map_append, hp]; rfl
        have hs2 : accL l (i + 1) = accL l i ++ [⟨((decN (rstN l i)).2.1 : Int), ((decN (decR (rstN l i))).2.1 : Int)⟩] := by rw [hacc, hp]
        have hz1 : zb (i + 1) (rstN l (i + 1)) = .pv (.list 1 ((decR (decR (rstN l i))).map eY)) := by rw [hr, hp]; rfl
        rw [hp]
        simp only
        rw [if_pos trivial, if_pos trivial, ← hs2]
        rw [hz1, hs, hr, hp] at ih
        simp only at ih
        generalize (accL l i).map eExt = acc at *
        rcases hz with hz | hz
        · rw [hz]
          generalize (rstN l i).map eY = r0 at *
          generalize (decR (rstN l i)).map eY = r1 at *
          simp only [fn73_b0, F1, F4, e1, e2, Z, List.take_length, slAll, slsAll, Nat.reduceMul, Nat.reduceBEq, Nat.reduceLT, Nat.reduceLeDiff, memAll, vAll, reduceCtorEq, Nat.reduceEqDiff, Nat.reduceAdd, Nat.reduceLT, Nat.reduceLeDiff, Nat.beq]
          rw [ih _ (by simp only [hi1, slAll, slsAll, Nat.reduceMul, Nat.reduceBEq, Nat.reduceLT, Nat.reduceLeDiff, memAll, vAll, reduceCtorEq, Nat.reduceEqDiff, Nat.reduceAdd, Nat.reduceLT, Nat.reduceLeDiff, Nat.beq] <;> rfl)]
        · rw [hz]
          generalize (rstN l i).map eY = r0 at *
          generalize (decR (rstN l i)).map eY = r1 at *
          simp only [fn73_b0, F1, F4, e1, e2, Z, List.take_length, slAll, slsAll, Nat.reduceMul, Nat.reduceBEq, Nat.reduceLT, Nat.reduceLeDiff, memAll, vAll, reduceCtorEq, Nat.reduceEqDiff, Nat.reduceAdd, Nat.reduceLT, Nat.reduceLeDiff, Nat.beq]
          rw [ih _ (by simp only [hi1, slAll, slsAll, Nat.reduceMul, Nat.reduceBEq, Nat.reduceLT, Nat.reduceLeDiff, memAll, vAll, reduceCtorEq, Nat.reduceEqDiff, Nat.reduceAdd, Nat.reduceLT, Nat.reduceLeDiff, Nat.beq] <;> rfl)]
      · have hp : pairD (rstN l i) = ((decN (decR (rstN l i))).1, ⟨((decN (rstN l i)).2.1 : Int), ((decN (decR (rstN l i))).2.1 : Int)⟩, decR (decR (rstN l i))) := by unfold pairD; rw [if_pos c1]
        rw [hp]
        simp only
        rw [if_neg c2, if_neg c2]
        rw [if_neg c2] at e2
        unfold resX
        simp only
        rw [if_neg c2]
        have G1 : (((decN (decR (rstN l i))).1 : Int) != 0) = true := by simpa using c2
        rcases hz with hz | hz
        · rw [hz]
          generalize (rstN l i).map eY = r0 at *
          generalize (decR (rstN l i)).map eY = r1 at *
          simp only [fn73_b0, F1, F4, e1, e2, Z, G1, List.take_length, slAll, slsAll, Nat.reduceMul, Nat.reduceBEq, Nat.reduceLT, Nat.reduceLeDiff, memAll, vAll, reduceCtorEq, Nat.reduceEqDiff, Nat.reduceAdd, Nat.reduceLT, Nat.reduceLeDiff, Nat.beq]
        · rw [hz]
          generalize (rstN l i).map eY = r0 at *
          generalize (decR (rstN l i)).map eY = r1 at *
          simp only [fn73_b0, F1, F4, e1, e2, Z, G1, List.take_length, slAll, slsAll, Nat.reduceMul, Nat.reduceBEq, Nat.reduceLT, Nat.reduceLeDiff, memAll, vAll, reduceCtorEq, Nat.reduceEqDiff, Nat.reduceAdd, Nat.reduceLT, Nat.reduceLeDiff, Nat.beq]
    · have hp : pairD (rstN l i) = ((decN (rstN l i)).1, ⟨0, 0⟩, decR (rstN l i)) := by unfold pairD; rw [if_neg c1]
      rw [hp]
      simp only
      rw [if_neg c1, if_neg c1]
      rw [if_neg c1] at e1
      unfold resX
      simp only
      rw [if_neg c1]
      have G1 : (((decN (rstN l i)).1 : Int) != 0) = true := by simpa using c1
      rcases hz with hz | hz
      · rw [hz]
        generalize (rstN l i).map eY = r0 at *
        simp only [fn73_b0, F1, F4, e1, Z, G1, List.take_length, slAll, slsAll, Nat.reduceMul, Nat.reduceBEq, Nat.reduceLT, Nat.reduceLeDiff, memAll, vAll, reduceCtorEq, Nat.reduceEqDiff, Nat.reduceAdd, Nat.reduceLT, Nat.reduceLeDiff, Nat.beq]
      · rw [hz]
        generalize (rstN l i).map eY = r0 at *
        simp only [fn73_b0, F1, F4, e1, Z, G1, List.take_length, slAll, slsAll, Nat.reduceMul, Nat.reduceBEq, Nat.reduceLT, Nat.reduceLeDiff, memAll, vAll, reduceCtorEq, Nat.reduceEqDiff, Nat.reduceAdd, Nat.reduceLT, Nat.reduceLeDiff, Nat.beq]
  · intro rb
    rw [Nat.sub_self]
    unfold lstD zLast resX
    rw [if_pos rfl]
    have hz := zb_or n (rstN l n)
    rcases hz with hz | hz
    · rw [hz]
      simp only [fn73_b0, Int.lt_irrefl, slAll, slsAll, Nat.reduceMul, Nat.reduceBEq, Nat.reduceLT, Nat.reduceLeDiff, memAll, vAll, reduceCtorEq, Nat.reduceEqDiff, Nat.reduceAdd, Nat.reduceLT, Nat.reduceLeDiff, Nat.beq]
    · rw [hz]
      simp only [fn73_b0, Int.lt_irrefl, slAll, slsAll, Nat.reduceMul, Nat.reduceBEq, Nat.reduceLT, Nat.reduceLeDiff, memAll, vAll, reduceCtorEq, Nat.reduceEqDiff, Nat.reduceAdd, Nat.reduceLT, Nat.reduceLeDiff, Nat.beq]
def lisF (l : List Nat) : Bool := !(decide ((lisD l).1 = 0) && decide ((decN l).2.1 ≠ 0))
theorem cal73 {l : List Nat} (hb : ∀ c ∈ l, c < 256) (hl : l.length ≤ 1000000) : cal env 73 [.list 1 (l.map eY)] = some [(.list 2 ((if (lisD l).1 = 0 then (lisD l).2.1 else []).map eExt), true), (.list 1 ((if (lisD l).1 = 0 then (lisD l).2.2 else []).map eY), lisF l), (.int .i64 ((lisD l).1 : Int), false)] := by
  have e1 := cal92 hb hl
  by_cases c : lenE l = 0
  · rw [c, if_pos rfl, if_pos rfl] at e1
    have Z : (((0 : Nat) : Int) != 0) = false := rfl
    have hD : lisD l = offE (lstD (decN l).2.1 (decR l) []) := by unfold lisD; rw [if_pos c]
    have hn := (lenE_zero c).2
    have hbr : ∀ c ∈ decR l, c < 256 := fun c h => hb c (decR_mem h)
    have hlr := Nat.le_trans (decR_len l) hl
    by_cases c2 : (lstD (decN l).2.1 (decR l) []).1 = 0
    · have h1 : (lisD l).1 = 0 := by rw [hD]; exact c2
      have h2 : (lisD l).2.1 = (lstD (decN l).2.1 (decR l) []).2.1 := by rw [hD]; unfold offE; rw [if_pos c2]
      have h3 : (lisD l).2.2 = (lstD (decN l).2.1 (decR l) []).2.2 := by rw [hD]; rfl
      have hF : lisF l = decide ((decN l).2.1 = 0) := by
        unfold lisF; rw [decide_eq_true h1, Bool.true_and]; simp
      have hz := zLast_good (decN l).2.1 0 (decR l) [] c2
      rw [Nat.zero_add] at hz
      rw [hF, if_pos h1, if_pos h1, h1, h2, h3]
      rw [cal_code env73 rfl]; simp only [fn73, slAll, Nat.reduceBEq, Nat.reduceLeDiff, Nat.reduceAdd, List.length_cons, List.length_nil]
      simp only [e1, Z, slAll, slsAll, Nat.reduceMul, Nat.reduceBEq, Nat.reduceLT, Nat.reduceLeDiff, memAll, vAll, reduceCtorEq, Nat.reduceEqDiff, Nat.reduceAdd, Nat.reduceLT, Nat.reduceLeDiff, Nat.beq]
      rw [loop73 (l := decR l) (n := (decN l).2.1) hbr hlr hn]
      rotate_left
      · unfold zb accL
        rw [List.range_zero, List.map_nil, List.map_nil]
        simp only [slAll, slsAll, Nat.reduceMul, Nat.reduceBEq, Nat.reduceLT, Nat.reduceLeDiff, Nat.reduceAdd, decide_true, Bool.and_self, Bool.true_and] <;> rfl
      · rw [Nat.sub_zero, show accL (decR l) 0 = [] from rfl, show rstN (decR l) 0 = decR l from rfl]
        unfold resX
        rw [if_pos c2, hz]
        generalize lstD (decN l).2.1 (decR l) [] = q at *
        generalize (decN l).2.1 = n at *
        cases n with
        | zero =>
          unfold zb
          rw [decide_eq_true rfl]
          simp only [List.take_length, slAll, slsAll, Nat.reduceMul, Nat.reduceBEq, Nat.reduceLT, Nat.reduceLeDiff, memAll, vAll, reduceCtorEq, Nat.reduceEqDiff, Nat.reduceAdd, Nat.reduceLT, Nat.reduceLeDiff, Nat.beq]
          rfl
        | succ n =>
          unfold zb
          rw [decide_eq_false (by omega)]
          simp only [List.take_length, slAll, slsAll, Nat.reduceMul, Nat.reduceBEq, Nat.reduceLT, Nat.reduceLeDiff, memAll, vAll, reduceCtorEq, Nat.reduceEqDiff, Nat.reduceAdd, Nat.reduceLT, Nat.reduceLeDiff, Nat.beq]
          rfl
    · have h1 : (lisD l).1 = (lstD (decN l).2.1 (decR l) []).1 := by rw [hD]; rfl
      have h1' : (lisD l).1 ≠ 0 := by rw [h1]; exact c2
      have hF : lisF l = true := by
        unfold lisF; rw [decide_eq_false h1']; rfl
      rw [hF, if_neg h1', if_neg h1', h1]
      rw [cal_code env73 rfl]; simp only [fn73, slAll, Nat.reduceBEq, Nat.reduceLeDiff, Nat.reduceAdd, List.length_cons, List.length_nil]
      simp only [e1, Z, slAll, slsAll, Nat.reduceMul, Nat.reduceBEq, Nat.reduceLT, Nat.reduceLeDiff, memAll, vAll, reduceCtorEq, Nat.reduceEqDiff, Nat.reduceAdd, Nat.reduceLT, Nat.reduceLeDiff, Nat.beq]
      rw [loop73 (l := decR l) (n := (decN l).2.1) hbr hlr hn]
      rotate_left
      · unfold zb accL
        rw [List.range_zero, List.map_nil, List.map_nil]
        simp only [slAll, slsAll, Nat.reduceMul, Nat.reduceBEq, Nat.reduceLT, Nat.reduceLeDiff, Nat.reduceAdd, decide_true, Bool.and_self, Bool.true_and] <;> rfl
      · rw [Nat.sub_zero, show accL (decR l) 0 = [] from rfl, show rstN (decR l) 0 = decR l from rfl]
        unfold resX
        rw [if_neg c2]
        generalize lstD (decN l).2.1 (decR l) [] = q at *
        generalize zLast (decN l).2.1 0 (decR l) = z at *
        simp only [List.take_length, List.map_nil, slAll, slsAll, Nat.reduceMul, Nat.reduceBEq, Nat.reduceLT, Nat.reduceLeDiff, memAll, vAll, reduceCtorEq, Nat.reduceEqDiff, Nat.reduceAdd, Nat.reduceLT, Nat.reduceLeDiff, Nat.beq]
  · have Z : ((lenE l : Int) != 0) = true := by simpa using c
    rw [if_neg c, if_neg c] at e1
    have hD : lisD l = (lenE l, [], decR l) := by unfold lisD; rw [if_neg c]
    have h1 : (lisD l).1 = lenE l := by rw [hD]
    have h1' : (lisD l).1 ≠ 0 := by rw [h1]; exact c
    have hF : lisF l = true := by
      unfold lisF; rw [decide_eq_false h1']; rfl
    rw [hF, if_neg h1', if_neg h1', h1]
    rw [cal_code env73 rfl]; simp only [fn73, slAll, Nat.reduceBEq, Nat.reduceLeDiff, Nat.reduceAdd, List.length_cons, List.length_nil]
    simp only [e1, Z, List.map_nil, slAll, slsAll, Nat.reduceMul, Nat.reduceBEq, Nat.reduceLT, Nat.reduceLeDiff, memAll, vAll, reduceCtorEq, Nat.reduceEqDiff, Nat.reduceAdd, Nat.reduceLT, Nat.reduceLeDiff, Nat.beq]
end Go.Proofs.YtdahanchdjadiaaGreatDoor.V

namespace Go.Proofs.YtdahanchdjadiaaGreatDoor.V
theorem cal47 {b : List Nat} (hb : ∀ c ∈ b, c < 256) (hl : b.length ≤ 1000000) : cal env 47 [.list 1 (b.map eY)] = some [(.int .i64 (decT b).2.1, false), (.int .i64 (decT b).2.2.1, false), (.list 2 ((decT b).2.2.2.map eExt), true), (.int .i64 ((decT b).1 : Int), false)] := by
  have hb1 : ∀ c ∈ decR b, c < 256 := fun c h => hb c (decR_mem h)
  have hl1 := Nat.le_trans (decR_len b) hl
  have hb2 : ∀ c ∈ decR (decR b), c < 256 := fun c h => hb1 c (decR_mem h)
  have hl2 := Nat.le_trans (decR_len (decR b)) hl1
  have e1 := cal72 hb hl
  have e2 := cal72 hb1 hl1
  have e3 := cal73 hb2 hl2
  have Z : (((0 : Nat) : Int) != 0) = false := rfl
  have Q : (((0 : Nat) : Int) == 0) = true := rfl
  by_cases c1 : (decN b).1 = 0
  · rw [c1, if_pos rfl] at e1
    by_cases c2 : (decN (decR b)).1 = 0
    · rw [c2, if_pos rfl] at e2
      by_cases c3 : (lisD (decR (decR b))).1 = 0
      · rw [c3, if_pos rfl, if_pos rfl] at e3
        have hD : decT b = (if (lisD (decR (decR b))).2.2 = [] then 0 else 3, ((decN b).2.1 : Int), ((decN (decR b)).2.1 : Int), (lisD (decR (decR b))).2.1) := by
          unfold decT; rw [if_pos c1, if_pos c2, if_pos c3]
        rw [hD]
        simp only
        generalize ((decN b).2.1 : Int) = n at *
        generalize ((decN (decR b)).2.1 : Int) = g at *
        generalize (lisD (decR (decR b))).2.1 = es at *
        by_cases c4 : (lisD (decR (decR b))).2.2 = []
        · rw [if_pos c4]
          rw [c4, List.map_nil] at e3
          have G : ((((0 : Nat) : Int)) > 0) = False := eq_false (by omega)
          generalize (decR (decR b)).map eY = r2 at *
          generalize (decR b).map eY = r1 at *
          generalize es.map eExt = ee at *
          generalize b.map eY = r0 at *
          cases hF : lisF (decR (decR b)) with
          | true =>
            rw [hF] at e3
            rw [cal_code env47 rfl]; simp only [fn47, slAll, Nat.reduceBEq, Nat.reduceLeDiff, Nat.reduceAdd, List.length_cons, List.length_nil]
            simp only [e1, e2, e3, Z, Q, G, List.length_nil, slAll, slsAll, Nat.reduceMul, Nat.reduceBEq, Nat.reduceLT, Nat.reduceLeDiff, memAll, vAll, reduceCtorEq, Nat.reduceEqDiff, Nat.reduceAdd, Nat.reduceLT, Nat.reduceLeDiff, Nat.beq]
          | false =>
            rw [hF] at e3
            rw [cal_code env47 rfl]; simp only [fn47, slAll, Nat.reduceBEq, Nat.reduceLeDiff, Nat.reduceAdd, List.length_cons, List.length_nil]
            simp only [e1, e2, e3, Z, Q, G, List.length_nil, slAll, slsAll, Nat.reduceMul, Nat.reduceBEq, Nat.reduceLT, Nat.reduceLeDiff, memAll, vAll, reduceCtorEq, Nat.reduceEqDiff, Nat.reduceAdd, Nat.reduceLT, Nat.reduceLeDiff, Nat.beq]
        · rw [if_neg c4]
          have G : ((((lisD (decR (decR b))).2.2.length : Nat) : Int) > 0) = True := eq_true (by
            have : (lisD (decR (decR b))).2.2.length ≠ 0 := fun h => c4 (List.length_eq_zero_iff.1 h)
            omega)
          cases hF : lisF (decR (decR b)) with
          | true =>
            rw [hF] at e3
            rw [cal_code env47 rfl]; simp only [fn47, slAll, Nat.reduceBEq, Nat.reduceLeDiff, Nat.reduceAdd, List.length_cons, List.length_nil]
            simp only [e1, e2, e3, Z, Q, G, List.length_map, slAll, slsAll, Nat.reduceMul, Nat.reduceBEq, Nat.reduceLT, Nat.reduceLeDiff, memAll, vAll, reduceCtorEq, Nat.reduceEqDiff, Nat.reduceAdd, Nat.reduceLT, Nat.reduceLeDiff, Nat.beq]
            rfl
          | false =>
            rw [hF] at e3
            rw [cal_code env47 rfl]; simp only [fn47, slAll, Nat.reduceBEq, Nat.reduceLeDiff, Nat.reduceAdd, List.length_cons, List.length_nil]
            simp only [e1, e2, e3, Z, Q, G, List.length_map, slAll, slsAll, Nat.reduceMul, Nat.reduceBEq, Nat.reduceLT, Nat.reduceLeDiff, memAll, vAll, reduceCtorEq, Nat.reduceEqDiff, Nat.reduceAdd, Nat.reduceLT, Nat.reduceLeDiff, Nat.beq]
            rfl
      · have hD : decT b = ((lisD (decR (decR b))).1, ((decN b).2.1 : Int), ((decN (decR b)).2.1 : Int), []) := by
          unfold decT; rw [if_pos c1, if_pos c2, if_neg c3]
        have hF : lisF (decR (decR b)) = true := by
          unfold lisF; rw [decide_eq_false c3]; rfl
        rw [if_neg c3, if_neg c3, hF] at e3
        rw [hD]
        have Q3 : (((lisD (decR (decR b))).1 : Int) == 0) = false := by simpa using c3
        rw [cal_code env47 rfl]; simp only [fn47, slAll, Nat.reduceBEq, Nat.reduceLeDiff, Nat.reduceAdd, List.length_cons, List.length_nil]
        simp only [e1, e2, e3, Z, Q3, List.map_nil, List.length_nil, slAll, slsAll, Nat.reduceMul, Nat.reduceBEq, Nat.reduceLT, Nat.reduceLeDiff, memAll, vAll, reduceCtorEq, Nat.reduceEqDiff, Nat.reduceAdd, Nat.reduceLT, Nat.reduceLeDiff, Nat.beq]
    · have hD : decT b = ((decN (decR b)).1, 0, 0, []) := by
        unfold decT; rw [if_pos c1, if_neg c2]
      rw [if_neg c2] at e2
      rw [hD]
      have G : (((decN (decR b)).1 : Int) != 0) = true := by simpa using c2
      rw [cal_code env47 rfl]; simp only [fn47, slAll, Nat.reduceBEq, Nat.reduceLeDiff, Nat.reduceAdd, List.length_cons, List.length_nil]
      simp only [e1, e2, Z, G, List.map_nil, slAll, slsAll, Nat.reduceMul, Nat.reduceBEq, Nat.reduceLT, Nat.reduceLeDiff, memAll, vAll, reduceCtorEq, Nat.reduceEqDiff, Nat.reduceAdd, Nat.reduceLT, Nat.reduceLeDiff, Nat.beq]
  · have hD : decT b = ((decN b).1, 0, 0, []) := by
      unfold decT; rw [if_neg c1]
    rw [if_neg c1] at e1
    rw [hD]
    have G : (((decN b).1 : Int) != 0) = true := by simpa using c1
    rw [cal_code env47 rfl]; simp only [fn47, slAll, Nat.reduceBEq, Nat.reduceLeDiff, Nat.reduceAdd, List.length_cons, List.length_nil]
    simp only [e1, Z, G, List.map_nil, slAll, slsAll, Nat.reduceMul, Nat.reduceBEq, Nat.reduceLT, Nat.reduceLeDiff, memAll, vAll, reduceCtorEq, Nat.reduceEqDiff, Nat.reduceAdd, Nat.reduceLT, Nat.reduceLeDiff, Nat.beq]
end Go.Proofs.YtdahanchdjadiaaGreatDoor.V

namespace Go.Proofs.YtdahanchdjadiaaGreatDoor.V
theorem cal83 {size : Int} {e : Exn} (hs : 0 ≤ size ∧ size ≤ 4096) : cal env 83 [eExt e, .int .i64 size] = some [(.bool (bmFit size e), false)] := by
  unfold bmFit eExt
  by_cases c0 : 0 ≤ e.start
  · have F0 : (e.start ≥ 0) = True := eq_true c0
    rw [decide_eq_true c0]
    by_cases c1 : 0 ≤ e.count
    · have F1 : (e.count ≥ 0) = True := eq_true c1
      rw [decide_eq_true c1]
      by_cases c2 : e.start ≤ size
      · have F2 : (e.start ≤ size) = True := eq_true c2
        have W : IntKind.i64.wrap (size - e.start) = size - e.start := i64_fits (by omega)
        rw [decide_eq_true c2]
        rw [cal_code env83 rfl]; simp only [fn83, slAll, Nat.reduceBEq, Nat.reduceLeDiff, Nat.reduceAdd, List.length_cons, List.length_nil]
        simp only [F0, F1, F2, W, slAll, slsAll, Nat.reduceMul, Nat.reduceBEq, Nat.reduceLT, Nat.reduceLeDiff, memAll, vAll, reduceCtorEq, Nat.reduceEqDiff, Nat.reduceAdd, Nat.reduceLT, Nat.reduceLeDiff, Nat.beq]
      · have F2 : (e.start ≤ size) = False := eq_false c2
        rw [decide_eq_false c2]
        rw [cal_code env83 rfl]; simp only [fn83, slAll, Nat.reduceBEq, Nat.reduceLeDiff, Nat.reduceAdd, List.length_cons, List.length_nil]
        simp only [F0, F1, F2, slAll, slsAll, Nat.reduceMul, Nat.reduceBEq, Nat.reduceLT, Nat.reduceLeDiff, memAll, vAll, reduceCtorEq, Nat.reduceEqDiff, Nat.reduceAdd, Nat.reduceLT, Nat.reduceLeDiff, Nat.beq]
    · have F1 : (e.count ≥ 0) = False := eq_false c1
      rw [decide_eq_false c1]
      rw [cal_code env83 rfl]; simp only [fn83, slAll, Nat.reduceBEq, Nat.reduceLeDiff, Nat.reduceAdd, List.length_cons, List.length_nil]
      simp only [F0, F1, slAll, slsAll, Nat.reduceMul, Nat.reduceBEq, Nat.reduceLT, Nat.reduceLeDiff, memAll, vAll, reduceCtorEq, Nat.reduceEqDiff, Nat.reduceAdd, Nat.reduceLT, Nat.reduceLeDiff, Nat.beq]
  · have F0 : (e.start ≥ 0) = False := eq_false c0
    rw [decide_eq_false c0]
    rw [cal_code env83 rfl]; simp only [fn83, slAll, Nat.reduceBEq, Nat.reduceLeDiff, Nat.reduceAdd, List.length_cons, List.length_nil]
    simp only [F0, slAll, slsAll, Nat.reduceMul, Nat.reduceBEq, Nat.reduceLT, Nat.reduceLeDiff, memAll, vAll, reduceCtorEq, Nat.reduceEqDiff, Nat.reduceAdd, Nat.reduceLT, Nat.reduceLeDiff, Nat.beq]
theorem bit_put {ws : List Wd} {q : Nat} {x : Wd} (i : Nat) (hq : q < ws.length) : bit (ws.set q x) i = if i / 64 = q then x.getLsbD (i % 64) else bit ws i := by
  unfold bit
  rw [List.getD_eq_getElem?_getD, List.getD_eq_getElem?_getD, List.getElem?_set]
  by_cases c : q = i / 64
  · rw [if_pos c, if_pos c.symm, if_pos hq]
    rfl
  · rw [if_neg c, if_neg (fun h => c h.symm)]
theorem one_shl {r k : Nat} (hk : k < 64) : ((1 : Wd) <<< r).getLsbD k = decide (k = r) := by
  rw [BitVec.getLsbD_shiftLeft, show (1 : Wd) = 1#64 from rfl, BitVec.getLsbD_one]
  by_cases c : k = r
  · subst c; simp [hk]
  · rw [decide_eq_false c]
    by_cases c2 : k < r
    · simp [c2]
    · have : ¬ (k - r = 0) := by omega
      simp [c2, this]
theorem orW_bit (x y : Wd) (k : Nat) : (orW x y).getLsbD k = (x.getLsbD k || y.getLsbD k) := BitVec.getLsbD_or
theorem clW_bit (x y : Wd) {k : Nat} (h : k < 64) : (clW x y).getLsbD k = (x.getLsbD k && !y.getLsbD k) := by
  unfold clW
  rw [BitVec.getLsbD_and, BitVec.getLsbD_not, decide_eq_true h, Bool.true_and]
theorem ch_step {F : Wd → Wd → Wd} (hF : F = orW ∨ F = clW) {ws : List Wd} {s j : Nat} (hq : (s + j) / 64 < ws.length) :
    (chW F ws ⟨(s : Int), (j : Int)⟩).set ((s + j) / 64) (F ((chW F ws ⟨(s : Int), (j : Int)⟩)[(s + j) / 64]'(by rw [chW_len]; exact hq)) ((1 : Wd) <<< ((s + j) % 64))) = chW F ws ⟨(s : Int), ((j + 1 : Nat) : Int)⟩ := by
  have hq2 : (s + j) / 64 < (chW F ws ⟨(s : Int), (j : Int)⟩).length := by rw [chW_len]; exact hq
  apply ws_ext
  · rw [List.length_set, chW_len, chW_len]
  intro i hi
  rw [List.length_set, chW_len] at hi
  rw [bit_put i hq2]
  rcases hF with rfl | rfl
  · have e1 : ∀ j : Nat, chW orW ws ⟨(s : Int), (j : Int)⟩ = setW ws s (s + j) := fun _ => rfl
    have e2 : bit (chW orW ws ⟨(s : Int), ((j + 1 : Nat) : Int)⟩) i = (bit ws i || decide ((s : Int) ≤ (i : Int) ∧ (i : Int) < (s : Int) + ((j + 1 : Nat) : Int))) := bit_set hi
    have e3 : bit (chW orW ws ⟨(s : Int), (j : Int)⟩) i = (bit ws i || decide ((s : Int) ≤ (i : Int) ∧ (i : Int) < (s : Int) + (j : Int))) := bit_set hi
    rw [e2]
    by_cases c : i / 64 = (s + j) / 64
    · rw [if_pos c]
      rw [orW_bit, one_shl (Nat.mod_lt _ (by decide))]
      have e4 := bit_of (ws := chW orW ws ⟨(s : Int), (j : Int)⟩) (i := i) (by rw [c]; exact hq2)
      rw [e3] at e4
      have e5 : (chW orW ws ⟨(s : Int), (j : Int)⟩)[i / 64]'(by rw [c]; exact hq2) = (chW orW ws ⟨(s : Int), (j : Int)⟩)[(s + j) / 64] := by simp only [c]
      rw [e5] at e4
      rw [← e4, Bool.or_assoc]
      congr 1
      rw [Bool.eq_iff_iff, Bool.or_eq_true, decide_eq_true_eq, decide_eq_true_eq, decide_eq_true_eq]
      omega
    · rw [if_neg c, e3]
      congr 1
      rw [Bool.eq_iff_iff, decide_eq_true_eq, decide_eq_true_eq]
      have : i ≠ s + j := fun h => c (by rw [h])
      omega
  · have e2 : bit (chW clW ws ⟨(s : Int), ((j + 1 : Nat) : Int)⟩) i = (bit ws i && !decide ((s : Int) ≤ (i : Int) ∧ (i : Int) < (s : Int) + ((j + 1 : Nat) : Int))) := bit_clr hi
    have e3 : bit (chW clW ws ⟨(s : Int), (j : Int)⟩) i = (bit ws i && !decide ((s : Int) ≤ (i : Int) ∧ (i : Int) < (s : Int) + (j : Int))) := bit_clr hi
    rw [e2]
    by_cases c : i / 64 = (s + j) / 64
    · rw [if_pos c]
      rw [clW_bit _ _ (Nat.mod_lt _ (by decide)), one_shl (Nat.mod_lt _ (by decide))]
      have e4 := bit_of (ws := chW clW ws ⟨(s : Int), (j : Int)⟩) (i := i) (by rw [c]; exact hq2)
      rw [e3] at e4
      have e5 : (chW clW ws ⟨(s : Int), (j : Int)⟩)[i / 64]'(by rw [c]; exact hq2) = (chW clW ws ⟨(s : Int), (j : Int)⟩)[(s + j) / 64] := by simp only [c]
      rw [e5] at e4
      rw [← e4, Bool.and_assoc]
      congr 1
      rw [Bool.eq_iff_iff, Bool.and_eq_true, Bool.not_eq_true', Bool.not_eq_true', Bool.not_eq_true', decide_eq_false_iff_not, decide_eq_false_iff_not, decide_eq_false_iff_not]
      omega
    · rw [if_neg c, e3]
      congr 2
      rw [Bool.eq_iff_iff, decide_eq_true_eq, decide_eq_true_eq]
      have : i ≠ s + j := fun h => c (by rw [h])
      omega
theorem ch_none {F : Wd → Wd → Wd} (hF : F = orW ∨ F = clW) (ws : List Wd) (s : Nat) : chW F ws ⟨(s : Int), ((0 : Nat) : Int)⟩ = ws := by
  apply ws_ext
  · rw [chW_len]
  intro i hi
  rw [chW_len] at hi
  rcases hF with rfl | rfl
  · have e : bit (chW orW ws ⟨(s : Int), ((0 : Nat) : Int)⟩) i = (bit ws i || decide ((s : Int) ≤ (i : Int) ∧ (i : Int) < (s : Int) + ((0 : Nat) : Int))) := bit_set hi
    rw [e, decide_eq_false (by omega), Bool.or_false]
  · have e : bit (chW clW ws ⟨(s : Int), ((0 : Nat) : Int)⟩) i = (bit ws i && !decide ((s : Int) ≤ (i : Int) ∧ (i : Int) < (s : Int) + ((0 : Nat) : Int))) := bit_clr hi
    rw [e, decide_eq_false (by omega)]
    simp
set_option maxRecDepth 20000 in
theorem loop60 {b : Bm} {s c : Nat} {t : Bool} {F : Wd → Wd → Wd} (hF : (t = true ∧ F = orW) ∨ (t = false ∧ F = clW)) (hw : b.ws.length ≤ 64) (hsc : s + c ≤ 64 * b.ws.length) {st : St} (h : st.head [2, 4, 6, 8, 9] st.boxes.length = some ⟨sl 67 [(2, .pv (.bool t)), (4, .pbox 1 0), (6, .pbox 2 0), (8, .pbox 3 0), (9, .pv (.int .i64 ((s + (0 : Nat) : Nat) : Int)))], [⟨false, [.pv (.int .i64 b.size), .pv (.list 1 (b.ws.map eW))]⟩, ⟨false, [.pv (.int .i64 (s : Int)), .pv (.int .i64 (c : Int))]⟩, ⟨false, [.pv (.int .i64 0), .row 1 []]⟩, ⟨false, [.pv (.int .i64 b.size), .row 1 ((chW F b.ws ⟨(s : Int), (((0 : Nat) : Nat) : Int)⟩).map eW)]⟩], [], none⟩) :
   den env fn60_l1 st = some (.normal, ⟨sl 67 [(6, .pbox 2 0), (7, .any), (8, .pbox 3 0)], [⟨false, [.pv (.int .i64 b.size), .pv (.list 1 (b.ws.map eW))]⟩, ⟨false, [.pv (.int .i64 (s : Int)), .pv (.int .i64 (c : Int))]⟩, ⟨false, [.pv (.int .i64 0), .row 1 []]⟩, ⟨false, [.pv (.int .i64 b.size), .row 1 ((chW F b.ws ⟨(s : Int), (c : Int)⟩).map eW)]⟩], [], none⟩) := by
  unfold fn60_l1
  refine clean_up (env := env) (nb := 4) (c) (fun i => ⟨sl 67 [(2, .pv (.bool t)), (4, .pbox 1 0), (6, .pbox 2 0), (8, .pbox 3 0), (9, .pv (.int .i64 ((s + i : Nat) : Int)))], [⟨false, [.pv (.int .i64 b.size), .pv (.list 1 (b.ws.map eW))]⟩, ⟨false, [.pv (.int .i64 (s : Int)), .pv (.int .i64 (c : Int))]⟩, ⟨false, [.pv (.int .i64 0), .row 1 []]⟩, ⟨false, [.pv (.int .i64 b.size), .row 1 ((chW F b.ws ⟨(s : Int), ((i : Nat) : Int)⟩).map eW)]⟩], [], none⟩) (fun i => some (.normal, ⟨sl 67 [(6, .pbox 2 0), (7, .any), (8, .pbox 3 0)], [⟨false, [.pv (.int .i64 b.size), .pv (.list 1 (b.ws.map eW))]⟩, ⟨false, [.pv (.int .i64 (s : Int)), .pv (.int .i64 (c : Int))]⟩, ⟨false, [.pv (.int .i64 0), .row 1 []]⟩, ⟨false, [.pv (.int .i64 b.size), .row 1 ((chW F b.ws ⟨(s : Int), (c : Int)⟩).map eW)]⟩], [], none⟩)) h (fun _ => rfl) (fun _ => by simp only [slAll, slsAll, Nat.reduceMul, Nat.reduceBEq, Nat.reduceLT, Nat.reduceLeDiff, Nat.reduceAdd, decide_true, Bool.and_self, Bool.true_and]) ?_ ?_
  · intro i rb hi ih

    have hi1 : IntKind.i64.wrap (((s + i : Nat) : Int) + 1) = ((s + (i + 1) : Nat) : Int) := by rw [i64_fits (by omega)]; omega
    have W0 : IntKind.i64.wrap ((s : Int) + (c : Int)) = (s : Int) + (c : Int) := i64_fits (by omega)
    have F1 : (((s + i : Nat) : Int) < (s : Int) + (c : Int)) = True := eq_true (by omega)
    have hq : (s + i) / 64 < b.ws.length := by omega
    have hF' : F = orW ∨ F = clW := hF.elim (fun h => .inl h.2) (fun h => .inr h.2)
    have T1 : ((s + i : Nat) : Int).tdiv 64 = (((s + i) / 64 : Nat) : Int) := by rw [Int.tdiv_eq_ediv_of_nonneg (by omega)]; omega
    have T2 : ((s + i : Nat) : Int).tmod 64 = (((s + i) % 64 : Nat) : Int) := by rw [Int.tmod_eq_emod_of_nonneg (by omega)]; omega
    have W1 : IntKind.i64.wrap (((s + i) / 64 : Nat) : Int) = (((s + i) / 64 : Nat) : Int) := i64_fits (by omega)
    have W3 : IntKind.i64.wrap (((s + i) % 64 : Nat) : Int) = (((s + i) % 64 : Nat) : Int) := i64_fits (by omega)
    have W2 : IntKind.u64.wrap (((s + i) % 64 : Nat) : Int) = (((s + i) % 64 : Nat) : Int) := by rw [u64_wrap]; omega
    have S0 : ((((s + i) % 64 : Nat) : Int) < 0) = False := eq_false (by omega)
    have S1 := w_shl 1 (s := (((s + i) % 64 : Nat) : Int)) (n := (s + i) % 64) rfl
    have B1 : ((1 : Wd).toNat : Int) = 1 := rfl
    rw [B1] at S1
    have hI : index (.int .i64 (((s + i) / 64 : Nat) : Int)) b.ws.length = some ((s + i) / 64) := index_nat hq
    obtain ⟨cw, hcw⟩ : ∃ cw, cw = chW F b.ws ⟨(s : Int), (i : Int)⟩ := ⟨_, rfl⟩
    have hlen : cw.length = b.ws.length := by rw [hcw]; exact chW_len ..
    have hqc : (s + i) / 64 < cw.length := by omega
    have hst : cw.set ((s + i) / 64) (F cw[(s + i) / 64] ((1 : Wd) <<< ((s + i) % 64))) = chW F b.ws ⟨(s : Int), ((i + 1 : Nat) : Int)⟩ := by
      subst hcw
      exact ch_step hF' hq
    have hg : (cw.map eW)[(s + i) / 64]? = some (.int .u64 (cw[(s + i) / 64].toNat : Int)) := by rw [List.getElem?_map, List.getElem?_eq_getElem hqc]; rfl
    have hset : (cw.map eW).set ((s + i) / 64) (.int .u64 ((F cw[(s + i) / 64] ((1 : Wd) <<< ((s + i) % 64))).toNat : Int)) = (chW F b.ws ⟨(s : Int), ((i + 1 : Nat) : Int)⟩).map eW := by
      rw [← hst, List.map_set]; rfl
    rw [← hcw]
    clear hcw hst
    rcases hF with ⟨rfl, rfl⟩ | ⟨rfl, rfl⟩
    · have S2 := w_or cw[(s + i) / 64] ((1 : Wd) <<< ((s + i) % 64))
      unfold orW at hset
      simp only [fn60_b0, F1, W0, W1, W2, W3, T1, T2, S0, S1, S2, z64, hI, hg, hset, hlen, List.length_map, slAll, slsAll, Nat.reduceMul, Nat.reduceBEq, Nat.reduceLT, Nat.reduceLeDiff, memAll, vAll, reduceCtorEq, Nat.reduceEqDiff, Nat.reduceAdd, Nat.reduceLT, Nat.reduceLeDiff, Nat.beq]
      rw [ih _ (by simp only [hi1, slAll, slsAll, Nat.reduceMul, Nat.reduceBEq, Nat.reduceLT, Nat.reduceLeDiff, memAll, vAll, reduceCtorEq, Nat.reduceEqDiff, Nat.reduceAdd, Nat.reduceLT, Nat.reduceLeDiff, Nat.beq] <;> rfl)]
    · have S2 := w_andNot cw[(s + i) / 64] ((1 : Wd) <<< ((s + i) % 64))
      unfold clW at hset
      simp only [fn60_b0, F1, W0, W1, W2, W3, T1, T2, S0, S1, S2, z64, hI, hg, hset, hlen, List.length_map, slAll, slsAll, Nat.reduceMul, Nat.reduceBEq, Nat.reduceLT, Nat.reduceLeDiff, memAll, vAll, reduceCtorEq, Nat.reduceEqDiff, Nat.reduceAdd, Nat.reduceLT, Nat.reduceLeDiff, Nat.beq]
      rw [ih _ (by simp only [hi1, slAll, slsAll, Nat.reduceMul, Nat.reduceBEq, Nat.reduceLT, Nat.reduceLeDiff, memAll, vAll, reduceCtorEq, Nat.reduceEqDiff, Nat.reduceAdd, Nat.reduceLT, Nat.reduceLeDiff, Nat.beq] <;> rfl)]
  · intro rb

    have W0 : IntKind.i64.wrap ((s : Int) + (c : Int)) = (s : Int) + (c : Int) := i64_fits (by omega)
    have F1 : (((s + c : Nat) : Int) < (s : Int) + (c : Int)) = False := eq_false (by omega)
    simp only [fn60_b0, F1, W0, slAll, slsAll, Nat.reduceMul, Nat.reduceBEq, Nat.reduceLT, Nat.reduceLeDiff, memAll, vAll, reduceCtorEq, Nat.reduceEqDiff, Nat.reduceAdd, Nat.reduceLT, Nat.reduceLeDiff, Nat.beq]

theorem cal60 {b : Bm} {e : Exn} {t : Bool} {F : Wd → Wd → Wd} (hF : (t = true ∧ F = orW) ∨ (t = false ∧ F = clW)) :
    cal env 60 [eBm b, eExt e, .bool t] = some [(eBm (chO F b e), false), (.int .i64 (chE b e), false)] := by
  have e1 := cal36 (b := b)
  have Z0 : ((0 : Int) != 0) = false := rfl
  have Z3 : ((3 : Int) != 0) = true := rfl
  have hz := eBm_zero
  have eA : ∀ b : Bm, eBm b = .agg [.int .i64 b.size, .list 1 (b.ws.map eW)] := fun _ => rfl
  have eX : ∀ e : Exn, eExt e = .agg [.int .i64 e.start, .int .i64 e.count] := fun _ => rfl
  have P2 : ∀ a b : PV, part [a, b] 0 (some 2) = some (.agg [a, b]) := fun _ _ => rfl
  unfold chO
  cases c1 : okB b with
  | false =>
    have hE : chE b e = 3 := by unfold chE; rw [if_pos c1]
    rw [hE, if_neg (by decide), hz]
    rw [bmE_no c1] at e1
    rw [eA] at e1 ⊢; rw [eX]
    rw [cal_code env60 rfl]; simp only [fn60, slAll, Nat.reduceBEq, Nat.reduceLeDiff, Nat.reduceAdd, List.length_cons, List.length_nil]
    simp only [e1, Z3, P2, slAll, slsAll, Nat.reduceMul, Nat.reduceBEq, Nat.reduceLT, Nat.reduceLeDiff, memAll, vAll, reduceCtorEq, Nat.reduceEqDiff, Nat.reduceAdd, Nat.reduceLT, Nat.reduceLeDiff, Nat.beq]
  | true =>
    rw [bmE_ok c1] at e1
    have hsz := okB_size c1
    have e2 := cal83 (size := b.size) (e := e) ⟨hsz.1, hsz.2.1⟩
    cases c2 : bmFit b.size e with
    | false =>
      have hE : chE b e = 2 := by unfold chE; rw [if_neg (by rw [c1]; decide), if_pos c2]
      rw [hE, if_neg (by decide), hz]
      rw [c2] at e2
      rw [eA] at e1 ⊢; rw [eX] at e2 ⊢
      rw [cal_code env60 rfl]; simp only [fn60, slAll, Nat.reduceBEq, Nat.reduceLeDiff, Nat.reduceAdd, List.length_cons, List.length_nil]
      simp only [e1, e2, Z0, P2, slAll, slsAll, Nat.reduceMul, Nat.reduceBEq, Nat.reduceLT, Nat.reduceLeDiff, memAll, vAll, reduceCtorEq, Nat.reduceEqDiff, Nat.reduceAdd, Nat.reduceLT, Nat.reduceLeDiff, Nat.beq]
    | true =>
      have hE : chE b e = 0 := by unfold chE; rw [if_neg (by rw [c1]; decide), if_neg (by rw [c2]; decide)]
      rw [hE, if_pos rfl]
      rw [c2] at e2
      have hfi := bmFit_iff.1 c2
      have k1 := cal84 (b := b) (by unfold lim; omega)
      obtain ⟨s, c⟩ := e
      simp only at hfi
      obtain ⟨s, rfl⟩ : ∃ m : Nat, s = (m : Int) := ⟨s.toNat, by omega⟩
      obtain ⟨c, rfl⟩ : ∃ m : Nat, c = (m : Int) := ⟨c.toNat, by omega⟩
      have hF' : F = orW ∨ F = clW := hF.elim (fun h => .inl h.2) (fun h => .inr h.2)
      rw [eA] at e1 k1; rw [eX] at e2; rw [eA, eX, eA]
      rw [cal_code env60 rfl]; simp only [fn60, slAll, Nat.reduceBEq, Nat.reduceLeDiff, Nat.reduceAdd, List.length_cons, List.length_nil]
      simp only [e1, e2, k1, Z0, P2, List.length_map, slAll, slsAll, Nat.reduceMul, Nat.reduceBEq, Nat.reduceLT, Nat.reduceLeDiff, memAll, vAll, reduceCtorEq, Nat.reduceEqDiff, Nat.reduceAdd, Nat.reduceLT, Nat.reduceLeDiff, Nat.beq]
      rw [loop60 (b := b) (s := s) (c := c) (t := t) (F := F) hF (by omega) (by omega)]
      rotate_left
      · rw [ch_none hF']
        simp only [slAll, slsAll, Nat.reduceMul, Nat.reduceBEq, Nat.reduceLT, Nat.reduceLeDiff, Nat.reduceAdd, decide_true, Bool.and_self, Bool.true_and] <;> rfl
      · simp only [e1, e2, k1, Z0, P2, List.length_map, slAll, slsAll, Nat.reduceMul, Nat.reduceBEq, Nat.reduceLT, Nat.reduceLeDiff, memAll, vAll, reduceCtorEq, Nat.reduceEqDiff, Nat.reduceAdd, Nat.reduceLT, Nat.reduceLeDiff, Nat.beq]
--+
theorem cal29 {b : Bm} {e : Exn} : cal env 29 [eBm b, eExt e] = some [(eBm (chO orW b e), false), (.int .i64 (chE b e), false)] := by
  have e1 := cal60 (b := b) (e := e) (t := true) (F := orW) (.inl ⟨rfl, rfl⟩)
  have eA : ∀ a : Bm, eBm a = .agg [.int .i64 a.size, .list 1 (a.ws.map eW)] := fun _ => rfl
  have eX : eExt e = .agg [.int .i64 e.start, .int .i64 e.count] := rfl
  have P2 : ∀ a b : PV, part [a, b] 0 (some 2) = some (.agg [a, b]) := fun _ _ => rfl
  rw [eA, eA, eX] at e1 ⊢
  rw [cal_code env29 rfl]; simp only [fn29, slAll, Nat.reduceBEq, Nat.reduceLeDiff, Nat.reduceAdd, List.length_cons, List.length_nil]
  simp only [e1, P2, slAll, slsAll, Nat.reduceMul, Nat.reduceBEq, Nat.reduceLT, Nat.reduceLeDiff, memAll, vAll, reduceCtorEq, Nat.reduceEqDiff, Nat.reduceAdd, Nat.reduceLT, Nat.reduceLeDiff, Nat.beq]
--+
end Go.Proofs.YtdahanchdjadiaaGreatDoor.V

namespace Go.Proofs.YtdahanchdjadiaaGreatDoor.V
theorem clean_from {α β : Type} {keep post : List Nat} {id nb : Nat} {b : VCode} {l : List α} (i0 : Nat) (S : Nat → β → St) (R : Nat → List α → β → Option (Ex × St)) (P : Nat → β → Prop) (b0 : β) {st : St} (h : st.head keep st.boxes.length = some (S i0 b0)) (hl : l.length ≤ lim) (hi0 : i0 ≤ l.length) (hP : P i0 b0)
    (hS : ∀ i c, (S i c).boxes.length = nb) (hh : ∀ i c, (S i c).head keep nb = some (S i c))
    (step : ∀ i x r c rb, i < l.length → l[i]? = some x → l.drop (i + 1) = r → ((i : Int) < (l.length : Int)) = True → IntKind.i64.wrap ((i : Int) + 1) = ((i + 1 : Nat) : Int) → P i c →
      (∀ c' s, P (i + 1) c' → s.head keep nb = some (S (i + 1) c') → tailOf env id post nb (den env rb s) = R (i + 1) r c') → tailOf env id post nb ((den env b (S i c)).bind (next env rb)) = R i (x :: r) c)
    (last : ∀ c rb, P l.length c → tailOf env id post nb ((den env b (S l.length c)).bind (next env rb)) = R l.length [] c) :
    den env (.clean keep post (.block id (.loop keep b))) st = R i0 (l.drop i0) b0 := by
  refine clean_rec (fun p : Nat × β => S p.1 p.2) (fun p => R p.1 (l.drop p.1) p.2) (fun p => p.1 ≤ l.length ∧ P p.1 p.2) (fun p => l.length - p.1) (i0, b0) h ⟨hi0, hP⟩ (fun p => hS p.1 p.2) (fun p => hh p.1 p.2) ?_
  rintro ⟨i, c⟩ rb ⟨hi, hp⟩ ih
  by_cases hn : i = l.length
  · subst hn
    simp only [List.drop_length]
    exact last c rb hp
  · have hlt : i < l.length := by simp only at hi; omega
    simp only
    rw [List.drop_eq_getElem_cons hlt]
    refine step i _ _ c rb hlt (List.getElem?_eq_getElem hlt) rfl (eq_true (by omega)) (i64_next hlt hl) hp fun c' s hp' hs => ?_
    exact ih (i + 1, c') (by simp only; omega) ⟨by simp only; omega, hp'⟩ s hs
theorem clean_list {α β : Type} {keep post : List Nat} {id nb : Nat} {b : VCode} {l : List α} (S : Nat → β → St) (R : Nat → List α → β → Option (Ex × St)) (P : Nat → β → Prop) (b0 : β) {st : St} (h : st.head keep st.boxes.length = some (S 0 b0)) (hl : l.length ≤ lim) (hP : P 0 b0)
    (hS : ∀ i c, (S i c).boxes.length = nb) (hh : ∀ i c, (S i c).head keep nb = some (S i c))
    (step : ∀ i x r c rb, i < l.length → l[i]? = some x → l.drop (i + 1) = r → ((i : Int) < (l.length : Int)) = True → IntKind.i64.wrap ((i : Int) + 1) = ((i + 1 : Nat) : Int) → P i c →
      (∀ c' s, P (i + 1) c' → s.head keep nb = some (S (i + 1) c') → tailOf env id post nb (den env rb s) = R (i + 1) r c') → tailOf env id post nb ((den env b (S i c)).bind (next env rb)) = R i (x :: r) c)
    (last : ∀ c rb, P l.length c → tailOf env id post nb ((den env b (S l.length c)).bind (next env rb)) = R l.length [] c) :
    den env (.clean keep post (.block id (.loop keep b))) st = R 0 l b0 := by
  have := clean_from (l := l) 0 S R P b0 h hl (Nat.zero_le _) hP hS hh step last
  rwa [List.drop_zero] at this
end Go.Proofs.YtdahanchdjadiaaGreatDoor.V

namespace Go.Proofs.YtdahanchdjadiaaGreatDoor.V
def frP : Bm × Int → List Exn → Bm × Int
  | p, [] => p
  | p, e :: l => if p.2 = 0 then frP (chO orW p.1 e, chE p.1 e) l else p
theorem frP_bad {p : Bm × Int} (h : p.2 ≠ 0) (l : List Exn) : frP p l = p := by
  cases l with
  | nil => rfl
  | cons e l => unfold frP; rw [if_neg h]
theorem frP_fr : ∀ (l : List Exn) (b : Bm), frP (b, 0) l = if frE b l = 0 then (frB b l, 0) else (⟨0, []⟩, frE b l)
  | [], b => by unfold frP frE; rfl
  | e :: l, b => by
    unfold frP frE
    rw [if_pos rfl]
    simp only
    by_cases c : chE b e = 0
    · rw [if_pos c, c, frP_fr l]
      rfl
    · rw [if_neg c, frP_bad (by exact c), if_neg c]
      unfold chO
      rw [if_neg c]
theorem frP_fx (n : Int) (l : List Exn) : frP (newO n, newE n) l = (fxO n l, fxE n l) := by
  by_cases c : newE n = 0
  · have hE : fxE n l = frE (newO n) l := by unfold fxE; rw [if_pos c]
    rw [c, frP_fr]
    unfold fxO
    rw [hE]
    by_cases c2 : frE (newO n) l = 0
    · rw [if_pos c2, if_pos c2, c2]
    · rw [if_neg c2, if_neg c2]
  · have hE : fxE n l = newE n := by unfold fxE; rw [if_neg c]
    rw [frP_bad (by exact c)]
    unfold fxO
    rw [hE, if_neg c]
    unfold newE at c
    split at c
    · rename_i h
      unfold newO
      rw [if_pos h]
    · exact absurd rfl c
def boxB (b : Bm) : List BV := [.pv (.int .i64 b.size), .pv (.list 1 (b.ws.map eW))]
theorem boxB_eq (b : Bm) : boxB b = [.pv (.int .i64 b.size), .pv (.list 1 (b.ws.map eW))] := rfl
theorem loop49 {l : List Exn} {p : Bm × Int} (hl : l.length ≤ lim) {st : St} (h : st.head [1, 4, 6, 7, 8] st.boxes.length = some ⟨sl 35 [(1, .pv (.list 2 (l.map eExt))), (4, .pbox 0 0), (6, .pbox 1 0), (7, .pv (.int .i64 p.2)), (8, .pv (.int .i64 (0 : Nat)))], [⟨false, [.pv (.int .i64 0), .row 1 []]⟩, ⟨false, boxB p.1⟩], [], none⟩) :
    den env fn49_l1 st = some (.normal, ⟨sl 35 [(4, .pbox 0 0), (5, .any), (6, .pbox 1 0), (7, .pv (.int .i64 (frP p l).2))], [⟨false, [.pv (.int .i64 0), .row 1 []]⟩, ⟨false, boxB (frP p l).1⟩], [], none⟩) := by
  unfold fn49_l1
  refine clean_list (l := l) (nb := 2) (fun i (p : Bm × Int) => ⟨sl 35 [(1, .pv (.list 2 (l.map eExt))), (4, .pbox 0 0), (6, .pbox 1 0), (7, .pv (.int .i64 p.2)), (8, .pv (.int .i64 i))], [⟨false, [.pv (.int .i64 0), .row 1 []]⟩, ⟨false, boxB p.1⟩], [], none⟩)
    (fun _ r p => some (.normal, ⟨sl 35 [(4, .pbox 0 0), (5, .any), (6, .pbox 1 0), (7, .pv (.int .i64 (frP p r).2))], [⟨false, [.pv (.int .i64 0), .row 1 []]⟩, ⟨false, boxB (frP p r).1⟩], [], none⟩)) (fun _ _ => True) p h hl trivial (fun _ _ => rfl) (fun _ _ => by simp only [slAll, slsAll, Nat.reduceMul, Nat.reduceBEq, Nat.reduceLT, Nat.reduceLeDiff, Nat.reduceAdd, decide_true, Bool.and_self, Bool.true_and]) ?_ ?_
  · rintro i x r ⟨b, q⟩ rb hi hx hr F1 hi1 - ih
    have eA : ∀ b : Bm, eBm b = .agg [.int .i64 b.size, .list 1 (b.ws.map eW)] := fun _ => rfl
    have eX : ∀ e : Exn, eExt e = .agg [.int .i64 e.start, .int .i64 e.count] := fun _ => rfl
    have P2 : ∀ a b : PV, part [a, b] 0 (some 2) = some (.agg [a, b]) := fun _ _ => rfl
    have hg : (l.map eExt)[i]? = some (eExt x) := by rw [List.getElem?_map, hx]; rfl
    rw [eX] at hg
    by_cases c : q = 0
    · subst c
      have Z : ((0 : Int) == 0) = true := rfl
      have e1 := cal29 (b := b) (e := x)
      have hP : frP (b, 0) (x :: r) = frP (chO orW b x, chE b x) r := by
        conv => lhs; unfold frP
        rw [if_pos rfl]
      rw [hP]
      have ih' := fun s => ih (chO orW b x, chE b x) s trivial
      simp only at ih'
      generalize chO orW b x = b2 at *
      generalize chE b x = q2 at *
      rw [eA, eA, eX] at e1
      simp only [fn49_b0, F1, Z, hg, e1, P2, index_nat hi, List.length_map, boxB_eq, slAll, slsAll, Nat.reduceMul, Nat.reduceBEq, Nat.reduceLT, Nat.reduceLeDiff, memAll, vAll, reduceCtorEq, Nat.reduceEqDiff, Nat.reduceAdd, Nat.reduceLT, Nat.reduceLeDiff, Nat.beq]
      rw [ih' _ (by simp only [hi1, boxB_eq, slAll, slsAll, Nat.reduceMul, Nat.reduceBEq, Nat.reduceLT, Nat.reduceLeDiff, memAll, vAll, reduceCtorEq, Nat.reduceEqDiff, Nat.reduceAdd, Nat.reduceLT, Nat.reduceLeDiff, Nat.beq] <;> rfl)]
      rfl
    · have Z : (q == 0) = false := by simpa using c
      rw [frP_bad (by exact c)]
      simp only [fn49_b0, F1, Z, List.length_map, boxB_eq, slAll, slsAll, Nat.reduceMul, Nat.reduceBEq, Nat.reduceLT, Nat.reduceLeDiff, memAll, vAll, reduceCtorEq, Nat.reduceEqDiff, Nat.reduceAdd, Nat.reduceLT, Nat.reduceLeDiff, Nat.beq]
  · rintro ⟨b, q⟩ rb -
    unfold frP
    simp only [fn49_b0, Int.lt_irrefl, List.length_map, boxB_eq, slAll, slsAll, Nat.reduceMul, Nat.reduceBEq, Nat.reduceLT, Nat.reduceLeDiff, memAll, vAll, reduceCtorEq, Nat.reduceEqDiff, Nat.reduceAdd, Nat.reduceLT, Nat.reduceLeDiff, Nat.beq]
theorem cal49 {l : List Exn} {n : Int} (hl : l.length ≤ lim) : cal env 49 [.int .i64 n, .list 2 (l.map eExt)] = some [(eBm (fxO n l), false), (.int .i64 (fxE n l), false)] := by
  have e0 := cal50 (n := n)
  have eA : ∀ b : Bm, eBm b = .agg [.int .i64 b.size, .list 1 (b.ws.map eW)] := fun _ => rfl
  have P2 : ∀ a b : PV, part [a, b] 0 (some 2) = some (.agg [a, b]) := fun _ _ => rfl
  have hP := frP_fx n l
  have h1 : (frP (newO n, newE n) l).1 = fxO n l := by rw [hP]
  have h2 : (frP (newO n, newE n) l).2 = fxE n l := by rw [hP]
  rw [← h1, ← h2]
  generalize newO n = b0 at *
  generalize newE n = q0 at *
  simp only [eA] at e0 ⊢
  rw [cal_code env49 rfl]; simp only [fn49, slAll, Nat.reduceBEq, Nat.reduceLeDiff, Nat.reduceAdd, List.length_cons, List.length_nil]
  simp only [e0, P2, List.length_map, slAll, slsAll, Nat.reduceMul, Nat.reduceBEq, Nat.reduceLT, Nat.reduceLeDiff, memAll, vAll, reduceCtorEq, Nat.reduceEqDiff, Nat.reduceAdd, Nat.reduceLT, Nat.reduceLeDiff, Nat.beq]
  rw [loop49 (l := l) (p := (b0, q0)) hl]
  rotate_left
  · rw [boxB_eq]
    simp only [slAll, slsAll, Nat.reduceMul, Nat.reduceBEq, Nat.reduceLT, Nat.reduceLeDiff, Nat.reduceAdd, decide_true, Bool.and_self, Bool.true_and] <;> rfl
  · rw [boxB_eq]
    simp only [P2, slAll, slsAll, Nat.reduceMul, Nat.reduceBEq, Nat.reduceLT, Nat.reduceLeDiff, memAll, vAll, reduceCtorEq, Nat.reduceEqDiff, Nat.reduceAdd, Nat.reduceLT, Nat.reduceLeDiff, Nat.beq]
end Go.Proofs.YtdahanchdjadiaaGreatDoor.V

namespace Go.Proofs.YtdahanchdjadiaaGreatDoor.V
theorem orS_eq (l : List Exn) : orS l = ext (inS l) 4096 := by
  unfold orS setOf
  exact ext_congr fun s _ => by simp [orB, inS]
end Go.Proofs.YtdahanchdjadiaaGreatDoor.V

namespace Go.Proofs.YtdahanchdjadiaaGreatDoor.V
end Go.Proofs.YtdahanchdjadiaaGreatDoor.V

namespace Go.Proofs.YtdahanchdjadiaaGreatDoor.V
end Go.Proofs.YtdahanchdjadiaaGreatDoor.V

namespace Go.Proofs.YtdahanchdjadiaaGreatDoor.V
theorem frB_snoc (b : Bm) (l : List Exn) (e : Exn) : frB b (l ++ [e]) = chO orW (frB b l) e := by
  unfold frB
  rw [List.foldl_append]
  rfl
theorem ext_more (p : Nat → Bool) {m : Nat} : ∀ k, (∀ t, m ≤ t → p t = false) → ext p (m + k) = ext p m
  | 0, _ => rfl
  | k + 1, h => by
    have := ext_more p k h
    unfold ext at this ⊢
    rw [← Nat.add_assoc, List.range_succ, List.filter_append]
    have e : [m + k].filter p = [] := by simp [h (m + k) (by omega)]
    rw [e, List.append_nil, this]
theorem ext_same {p q : Nat → Bool} {m : Nat} (h : ∀ t, t < m → p t = q t) : ext p m = ext q m := by
  unfold ext
  congr 1
  apply List.filter_congr
  intro t ht
  exact h t (List.mem_range.1 ht)
theorem sec_or {s : Int} {m : List Exn} (hs : 1 ≤ s ∧ s ≤ 4096) (h : ∀ e ∈ m, 0 ≤ e.start ∧ 1 ≤ e.count ∧ e.start + e.count ≤ s) : bmX (frB (newO s) m) = orS m := by
  obtain ⟨k, rfl⟩ : ∃ k : Nat, s = (k : Int) := ⟨s.toNat, by omega⟩
  obtain ⟨h1, h2, h3, h4⟩ := new_ok (n := k) (by omega)
  obtain ⟨g1, g2, g3, g4⟩ := fr_ok m h2 (fun e he => by
    obtain ⟨q1, q2, q3⟩ := h e he
    rw [h3]
    exact bmFit_iff.2 (by omega))
  have e1 : bmX (frB (newO k) m) = ext (bit (frB (newO k) m).ws) k := by
    unfold bmX bmExts
    rw [if_pos g2, g3, h3, Int.toNat_natCast]
  have hz : ∀ t, k ≤ t → inS m t = false := by
    intro t ht
    unfold inS
    rw [List.any_eq_false]
    intro e he hh
    obtain ⟨q1, q2, q3⟩ := h e he
    unfold inE at hh
    simp only [Bool.and_eq_true, decide_eq_true_eq] at hh
    omega
  rw [e1, orS_eq, show 4096 = k + (4096 - k) by omega, ext_more _ _ hz]
  apply ext_same
  intro t ht
  rw [g4 t (by rw [h3]; omega), h4 t, Bool.false_or]
set_option maxRecDepth 20000 in
theorem loop17 {n k : Int} {l : List Exn} {o : Itn} {b : Bm} (hn : 1 ≤ n ∧ n ≤ 4096) (hk : 1 ≤ k ∧ k ≤ 4096) (hx : ∀ x ∈ l, 0 ≤ x.start ∧ 1 ≤ x.count ∧ x.start + x.count ≤ grN n k) (hl : l.length ≤ lim) {st : St} (h : st.head [0, 1, 6, 9, 13, 14, 16, 34] st.boxes.length = some ⟨sl 111 [(0, .pv (.int .i64 n)), (1, .pv (.int .i64 k)), (6, .pbox 0 0), (9, .pbox 1 0), (13, .pv (.list 2 (l.map eExt))), (14, .pbox 2 0), (16, .pv (.int .i64 (0 : Nat))), (34, .any)], [⟨false, [.pv (.int .i64 0), .pv (.int .i64 0), .row 1 [], .pv (.int .i64 0), .row 1 []]⟩, ⟨false, boxI o b⟩, ⟨false, boxB (frB (newO n) ((l.take ((0 : Nat))).map (secX n k)))⟩], [], none⟩) :
   den env fn17_l1 st = some (.normal, ⟨sl 111 [(6, .pbox 0 0), (7, .any), (8, .any), (9, .pbox 1 0), (14, .pbox 2 0)], [⟨false, [.pv (.int .i64 0), .pv (.int .i64 0), .row 1 [], .pv (.int .i64 0), .row 1 []]⟩, ⟨false, boxI o b⟩, ⟨false, boxB (frB (newO n) (l.map (secX n k)))⟩], [], none⟩) := by
  unfold fn17_l1
  refine clean_up (env := env) (nb := 3) (l.length) (fun i => ⟨sl 111 [(0, .pv (.int .i64 n)), (1, .pv (.int .i64 k)), (6, .pbox 0 0), (9, .pbox 1 0), (13, .pv (.list 2 (l.map eExt))), (14, .pbox 2 0), (16, .pv (.int .i64 i)), (34, .any)], [⟨false, [.pv (.int .i64 0), .pv (.int .i64 0), .row 1 [], .pv (.int .i64 0), .row 1 []]⟩, ⟨false, boxI o b⟩, ⟨false, boxB (frB (newO n) ((l.take (i)).map (secX n k)))⟩], [], none⟩) (fun i => some (.normal, ⟨sl 111 [(6, .pbox 0 0), (7, .any), (8, .any), (9, .pbox 1 0), (14, .pbox 2 0)], [⟨false, [.pv (.int .i64 0), .pv (.int .i64 0), .row 1 [], .pv (.int .i64 0), .row 1 []]⟩, ⟨false, boxI o b⟩, ⟨false, boxB (frB (newO n) (l.map (secX n k)))⟩], [], none⟩)) h (fun _ => rfl) (fun _ => by simp only [slAll, slsAll, Nat.reduceMul, Nat.reduceBEq, Nat.reduceLT, Nat.reduceLeDiff, Nat.reduceAdd, decide_true, Bool.and_self, Bool.true_and]) ?_ ?_
  · intro i rb hi ih

    have hi1 := i64_next hi hl
    have F1 : ((i : Int) < (l.length : Int)) = True := eq_true (by omega)
    have eX : ∀ e : Exn, eExt e = .agg [.int .i64 e.start, .int .i64 e.count] := fun _ => rfl
    have eA : ∀ b : Bm, eBm b = .agg [.int .i64 b.size, .list 1 (b.ws.map eW)] := fun _ => rfl
    have P2 : ∀ a b : PV, part [a, b] 0 (some 2) = some (.agg [a, b]) := fun _ _ => rfl
    have hg : (l.map eExt)[i]? = some (eExt l[i]) := by rw [List.getElem?_map, List.getElem?_eq_getElem hi]; rfl
    obtain ⟨a1, a2, a3, a4⟩ := sec_arith hn hk (hx _ (List.getElem_mem hi))
    have q := hx _ (List.getElem_mem hi)
    have hgl := (grN_le (szOkI_iff.2 ⟨hn.1, hn.2, hk.1, hk.2⟩)).2
    have W1 : IntKind.i64.wrap (l[i].start * k) = l[i].start * k := i64_fits (by omega)
    have W2 : IntKind.i64.wrap (l[i].start + l[i].count) = l[i].start + l[i].count := i64_fits (by omega)
    have W3 : IntKind.i64.wrap ((l[i].start + l[i].count) * k) = (l[i].start + l[i].count) * k := i64_fits (by omega)
    have W4 : IntKind.i64.wrap ((if n < (l[i].start + l[i].count) * k then n else (l[i].start + l[i].count) * k) - l[i].start * k) = (if n < (l[i].start + l[i].count) * k then n else (l[i].start + l[i].count) * k) - l[i].start * k := i64_fits (by split <;> omega)
    have hs : frB (newO n) ((l.take (i + 1)).map (secX n k)) = chO orW (frB (newO n) ((l.take i).map (secX n k))) (secX n k l[i]) := by
      rw [List.take_succ_eq_append_getElem hi, List.map_append, List.map_singleton, frB_snoc]
    have e1 := cal29 (b := frB (newO n) ((l.take i).map (secX n k))) (e := secX n k l[i])
    have hse : eExt (secX n k l[i]) = .agg [.int .i64 (l[i].start * k), .int .i64 ((if n < (l[i].start + l[i].count) * k then n else (l[i].start + l[i].count) * k) - l[i].start * k)] := rfl
    rw [eX] at hg
    rw [hs] at ih
    rw [hse, eA, eA] at e1
    generalize frB (newO n) ((l.take i).map (secX n k)) = m at *
    generalize chO orW m (secX n k l[i]) = m2 at *
    simp only [fn17_b0, F1, hg, W1, W2, W3, W4, P2, e1, boxI_eq, boxB_eq, index_nat hi, List.length_map, List.take_length, slAll, slsAll, Nat.reduceMul, Nat.reduceBEq, Nat.reduceLT, Nat.reduceLeDiff, memAll, vAll, reduceCtorEq, Nat.reduceEqDiff, Nat.reduceAdd, Nat.reduceLT, Nat.reduceLeDiff, Nat.beq]
    rw [ih _ (by simp only [hi1, boxI_eq, boxB_eq, slAll, slsAll, Nat.reduceMul, Nat.reduceBEq, Nat.reduceLT, Nat.reduceLeDiff, memAll, vAll, reduceCtorEq, Nat.reduceEqDiff, Nat.reduceAdd, Nat.reduceLT, Nat.reduceLeDiff, Nat.beq] <;> rfl)]
    rfl
  · intro rb

    rw [List.take_length]
    simp only [fn17_b0, Int.lt_irrefl, List.length_map, boxI_eq, boxB_eq, slAll, slsAll, Nat.reduceMul, Nat.reduceBEq, Nat.reduceLT, Nat.reduceLeDiff, memAll, vAll, reduceCtorEq, Nat.reduceEqDiff, Nat.reduceAdd, Nat.reduceLT, Nat.reduceLeDiff, Nat.beq]

set_option maxRecDepth 20000 in
theorem cal17 {s g : Int} {b : List Nat} (hb : ∀ c ∈ b, c < 256) (hl : b.length ≤ 10000) : cal env 17 [.int .i64 s, .int .i64 g, .list 1 (b.map eY)] = some [(eItn (rcI s g b), false), (.list 2 ((rcL s g b).map eExt), true), (.int .i64 (rcE s g b), false)] := by
  have e0 := cal46 (s := s) (g := g)
  have e1 := cal47 hb (show b.length ≤ 1000000 by omega)
  have eI5 : ∀ i : Itn, eItn i = .agg [.int .i64 i.size, .int .i64 i.gran, .list 1 (i.act.map eI), .int .i64 i.bm.size, .list 1 (i.bm.ws.map eW)] := fun _ => rfl
  have eA : ∀ b : Bm, eBm b = .agg [.int .i64 b.size, .list 1 (b.ws.map eW)] := fun _ => rfl
  have P5 : ∀ a b c d e : PV, part [a, b, c, d, e] 0 (some 5) = some (.agg [a, b, c, d, e]) := fun _ _ _ _ _ => rfl
  have P2 : ∀ a b : PV, part [a, b] 0 (some 2) = some (.agg [a, b]) := fun _ _ => rfl
  have Z0 : ((0 : Int) != 0) = false := rfl
  have Zn : (((0 : Nat) : Int) != 0) = false := rfl
  have Z3 : ((3 : Int) != 0) = true := rfl
  obtain ⟨k1, k2⟩ := decT_ok b
  unfold rcI rcL
  by_cases c0 : newIE s g = 0
  · have h0 : szOkI s g = true := by
      unfold newIE at c0
      split at c0
      · assumption
      · cases c0
    have hgl := grN_le h0
    obtain ⟨z1, z2, z3, z4⟩ := szOkI_iff.1 h0
    rw [c0, eI5] at e0
    by_cases c1 : (decT b).1 = 0
    · have hR : rcE s g b = if (decT b).2.1 = s ∧ (decT b).2.2.1 = g then if chkX (decT b).2.2.2 (grN s g) = 0 then 0 else 3 else 22 := by
        unfold rcE; rw [if_pos c0, if_pos c1]
      rw [c1] at e1
      generalize rcE s g b = E at *
      generalize (decT b).2.1 = n at *
      generalize (decT b).2.2.1 = k at *
      generalize (decT b).2.2.2 = l at *
      by_cases c5 : n = s ∧ k = g
      · rw [if_pos c5] at hR
        obtain ⟨rfl, rfl⟩ := c5
        have B1 : (n != n) = false := by simp
        have B2 : (k != k) = false := by simp
        have e2 := cal35 h0
        have e4 := cal48 (l := l) (size := grN n k) (fun x hx => inM_ok (k1 x hx)) (by omega)
        by_cases c6 : chkX l (grN n k) = 0
        · rw [if_pos c6] at hR
          rw [c6] at e4
          subst hR
          rw [if_pos rfl, if_pos rfl]
          have e5 := cal49 (l := l) (n := grN n k) (by unfold lim; omega)
          have hin := chkX_in c6
          have e6 := cal50 (n := n)
          have e7 := cal21 (b := frB (newO n) (l.map (secX n k)))
          rw [sec_or ⟨z1, z2⟩ (fun e he => by
            obtain ⟨y, hy, rfl⟩ := List.mem_map.1 he
            obtain ⟨a1, a2, a3, a4⟩ := sec_arith ⟨z1, z2⟩ ⟨z3, z4⟩ (hin y hy)
            unfold secX
            simp only
            split <;> omega)] at e7
          rw [eA] at e5 e6 e7
          generalize newI n k = o at *
          generalize fxO (grN n k) l = b2 at *
          have hsc : (PV.agg [.int .i64 b2.size, .list 1 (b2.ws.map eW)]).scalar = false := rfl
          have hsc2 : (PV.agg [.int .i64 (newO n).size, .list 1 ((newO n).ws.map eW)]).scalar = false := rfl
          simp only [eI5]
          rw [cal_code env17 rfl]; simp only [fn17, slAll, Nat.reduceBEq, Nat.reduceLeDiff, Nat.reduceAdd, List.length_cons, List.length_nil]
          simp only [e0, e1, e2, e4, e5, e6, hsc, hsc2, Z0, Zn, Z3, B1, B2, P5, P2, part_bm, List.length_map, List.length_nil, slAll, slsAll, Nat.reduceMul, Nat.reduceBEq, Nat.reduceLT, Nat.reduceLeDiff, memAll, vAll, reduceCtorEq, Nat.reduceEqDiff, Nat.reduceAdd, Nat.reduceLT, Nat.reduceLeDiff, Nat.beq]
          rw [loop17 (n := n) (k := k) (l := l) (o := o) (b := b2) ⟨z1, z2⟩ ⟨z3, z4⟩ hin (by unfold lim; omega)]
          rotate_left
          · rw [List.take_zero, List.map_nil, boxI_eq, boxB_eq]
            simp only [slAll, slsAll, Nat.reduceMul, Nat.reduceBEq, Nat.reduceLT, Nat.reduceLeDiff, Nat.reduceAdd, decide_true, Bool.and_self, Bool.true_and] <;> rfl
          · rw [boxI_eq, boxB_eq]
            generalize frB (newO n) (l.map (secX n k)) = m at *
            simp only [e7, P5, P2, List.take_length, slAll, slsAll, Nat.reduceMul, Nat.reduceBEq, Nat.reduceLT, Nat.reduceLeDiff, memAll, vAll, reduceCtorEq, Nat.reduceEqDiff, Nat.reduceAdd, Nat.reduceLT, Nat.reduceLeDiff, Nat.beq]
        · rw [if_neg c6] at hR
          have G : (chkX l (grN n k) != 0) = true := by simpa using c6
          rw [if_neg (by rw [hR]; decide), if_neg (by rw [hR]; decide), hR, eItn_zero]
          generalize newI n k = o at *
          rw [cal_code env17 rfl]; simp only [fn17, slAll, Nat.reduceBEq, Nat.reduceLeDiff, Nat.reduceAdd, List.length_cons, List.length_nil]
          simp only [e0, e1, e2, e4, Z0, Zn, Z3, B1, B2, G, P5, part_bm, List.length_map, List.length_nil, List.map_nil, slAll, slsAll, Nat.reduceMul, Nat.reduceBEq, Nat.reduceLT, Nat.reduceLeDiff, memAll, vAll, reduceCtorEq, Nat.reduceEqDiff, Nat.reduceAdd, Nat.reduceLT, Nat.reduceLeDiff, Nat.beq]
      · rw [if_neg c5] at hR
        rw [if_neg (by rw [hR]; decide), if_neg (by rw [hR]; decide), hR, eItn_zero]
        generalize newI s g = o at *
        by_cases c6 : n = s
        · have B1 : (n != s) = false := by simpa using c6
          have B2 : (k != g) = true := by
            have : k ≠ g := fun h => c5 ⟨c6, h⟩
            simpa using this
          rw [cal_code env17 rfl]; simp only [fn17, slAll, Nat.reduceBEq, Nat.reduceLeDiff, Nat.reduceAdd, List.length_cons, List.length_nil]
          simp only [e0, e1, Z0, Zn, Z3, B1, B2, P5, part_bm, List.length_map, List.length_nil, List.map_nil, slAll, slsAll, Nat.reduceMul, Nat.reduceBEq, Nat.reduceLT, Nat.reduceLeDiff, memAll, vAll, reduceCtorEq, Nat.reduceEqDiff, Nat.reduceAdd, Nat.reduceLT, Nat.reduceLeDiff, Nat.beq]
        · have B1 : (n != s) = true := by simpa using c6
          rw [cal_code env17 rfl]; simp only [fn17, slAll, Nat.reduceBEq, Nat.reduceLeDiff, Nat.reduceAdd, List.length_cons, List.length_nil]
          simp only [e0, e1, Z0, Zn, Z3, B1, P5, part_bm, List.length_map, List.length_nil, List.map_nil, slAll, slsAll, Nat.reduceMul, Nat.reduceBEq, Nat.reduceLT, Nat.reduceLeDiff, memAll, vAll, reduceCtorEq, Nat.reduceEqDiff, Nat.reduceAdd, Nat.reduceLT, Nat.reduceLeDiff, Nat.beq]
    · have hR : rcE s g b = ((decT b).1 : Int) := by
        unfold rcE; rw [if_pos c0, if_neg c1]
      have Zr : (((decT b).1 : Int) != 0) = true := by simpa using c1
      rw [if_neg (by rw [hR]; omega), if_neg (by rw [hR]; omega), hR, eItn_zero]
      generalize newI s g = o at *
      rw [cal_code env17 rfl]; simp only [fn17, slAll, Nat.reduceBEq, Nat.reduceLeDiff, Nat.reduceAdd, List.length_cons, List.length_nil]
      simp only [e0, e1, Z0, Zr, P5, part_bm, List.length_map, List.length_nil, List.map_nil, slAll, slsAll, Nat.reduceMul, Nat.reduceBEq, Nat.reduceLT, Nat.reduceLeDiff, memAll, vAll, reduceCtorEq, Nat.reduceEqDiff, Nat.reduceAdd, Nat.reduceLT, Nat.reduceLeDiff, Nat.beq]
  · have hR : rcE s g b = newIE s g := by
      unfold rcE; rw [if_neg c0]
    have Zr : (newIE s g != 0) = true := by simpa using c0
    rw [if_neg (by rw [hR]; exact c0), if_neg (by rw [hR]; exact c0), hR, eItn_zero]
    rw [eI5] at e0
    generalize newI s g = o at *
    rw [cal_code env17 rfl]; simp only [fn17, slAll, Nat.reduceBEq, Nat.reduceLeDiff, Nat.reduceAdd, List.length_cons, List.length_nil]
    simp only [e0, Zr, P5, part_bm, List.length_map, List.length_nil, List.map_nil, slAll, slsAll, Nat.reduceMul, Nat.reduceBEq, Nat.reduceLT, Nat.reduceLeDiff, memAll, vAll, reduceCtorEq, Nat.reduceEqDiff, Nat.reduceAdd, Nat.reduceLT, Nat.reduceLeDiff, Nat.beq]
end Go.Proofs.YtdahanchdjadiaaGreatDoor.V
