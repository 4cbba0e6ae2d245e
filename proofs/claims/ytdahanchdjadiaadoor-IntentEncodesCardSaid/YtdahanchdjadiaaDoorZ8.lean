/-
  Part 8 of the texts that the statement stands on.
-/
import Derived.Test.YtdahanchdjadiaaDoorZ7
set_option linter.all false
namespace Go.Proofs.YtdahanchdjadiaaDoor.V
def aw0 : Itn := ⟨20, 8, [0, 0, 0], ⟨3, [0]⟩⟩
def aw1 : Itn := ⟨20, 8, [1, 1, 0], ⟨3, [3]⟩⟩
def aw2 : Itn := ⟨20, 8, [1, 2, 0], ⟨3, [3]⟩⟩
def aw3 : Itn := ⟨20, 8, [0, 1, 0], ⟨3, [3]⟩⟩
def aw4 : Itn := ⟨20, 8, [0, 1, 0], ⟨3, [2]⟩⟩
def awR : Itn := ⟨20, 8, [0, 0, 0], ⟨3, [3]⟩⟩
def awB : List Nat := [20, 8, 1, 0, 2]
theorem xNew : newI 20 8 = aw0 := by kernel_rfl
theorem xNewE : newIE 20 8 = 0 := by kernel_rfl
theorem xB1 : bgI aw0 ⟨6, 4⟩ = aw1 := by kernel_rfl
theorem xB1s : bgS aw0 ⟨6, 4⟩ = true := by kernel_rfl
theorem xB1e : bgE aw0 ⟨6, 4⟩ = 0 := by kernel_rfl
theorem xB2 : bgI aw1 ⟨9, 1⟩ = aw2 := by kernel_rfl
theorem xB2s : bgS aw1 ⟨9, 1⟩ = false := by kernel_rfl
theorem xB2e : bgE aw1 ⟨9, 1⟩ = 0 := by kernel_rfl
theorem xEnc : encO aw2 = awB := by kernel_rfl
theorem xRc : rcI 20 8 awB = awR := by kernel_rfl
theorem xRl : rcL 20 8 awB = [⟨0, 16⟩] := by kernel_rfl
theorem xRe : rcE 20 8 awB = 0 := by kernel_rfl
theorem xEn : cgI endV endE aw2 ⟨6, 4⟩ = aw3 := by kernel_rfl
theorem xEnE : cgE endE aw2 ⟨6, 4⟩ = 0 := by kernel_rfl
theorem xCl : clnI aw3 = aw4 := by kernel_rfl
theorem xClF : clnF aw3 = true := by kernel_rfl
theorem xX4 : bmX aw4.bm = [⟨1, 1⟩] := by kernel_rfl
set_option maxRecDepth 20000 in
theorem calAwake : cal env 8 [] = some [(.bool true, false)] := by
  have n1 := cal9 (s := 20) (g := 8)
  rw [xNew, xNewE] at n1
  have b1 := cal16 (i := aw0) (e := ⟨6, 4⟩) (by decide)
  rw [xB1, xB1s, xB1e] at b1
  have b2 := cal16 (i := aw1) (e := ⟨9, 1⟩) (by decide)
  rw [xB2, xB2s, xB2e] at b2
  have c1 := cal12 (i := aw2) (by decide)
  rw [xEnc] at c1
  have r1 := cal19 (s := 20) (g := 8) (b := awB) (by decide) (by decide)
  rw [xRc, xRl, xRe] at r1
  have s1 := cal25 (a := [⟨0, 16⟩]) (b := [⟨0, 16⟩]) (by decide)
  rw [decide_eq_true rfl] at s1
  have d1 := cal17 (i := aw2) (e := ⟨6, 4⟩) (by decide)
  rw [xEn, xEnE] at d1
  have k1 := cal18 (i := aw3) (by decide)
  rw [xCl, xClF] at k1
  have x1 := cal26 (b := aw4.bm)
  rw [xX4] at x1
  have s2 := cal25 (a := [⟨1, 1⟩]) (b := [⟨1, 1⟩]) (by decide)
  rw [decide_eq_true rfl] at s2
  have w0 : ((0 : Wd).toNat : Int) = 0 := rfl
  have w2 : ((2 : Wd).toNat : Int) = 2 := rfl
  have w3 : ((3 : Wd).toNat : Int) = 3 := rfl
  simp only [aw0, aw1, aw2, aw3, aw4, awR, awB, eItn, eBm, eExt, eI, eW, eY, w0, w2, w3, List.map_cons, List.map_nil, Int.natCast_zero] at n1 b1 b2 c1 r1 s1 d1 k1 x1 s2
  have P5 : ∀ a b c d e : PV, part [a, b, c, d, e] 0 (some 5) = some (.agg [a, b, c, d, e]) := fun _ _ _ _ _ => rfl
  have L1 : (1 ≤ lim) = True := eq_true (by decide)
  have Z0 : ((0 : Int) != 0) = false := rfl
  have Q0 : ((0 : Int) == 0) = true := rfl
  have Q1 : ((1 : Int) == 1) = true := rfl
  have Q3 : (((3 : Nat) : Int) == 3) = true := rfl
  have I0 : index (.int .i64 0) 3 = some 0 := by kernel_rfl
  have I1 : index (.int .i64 1) 3 = some 1 := by kernel_rfl
  rw [cal_code env8 rfl]; simp only [fn8, slAll, Nat.reduceBEq, Nat.reduceLeDiff, Nat.reduceAdd, List.length_cons, List.length_nil]
  simp only [Z0, Q0, Q1, Q3, I0, I1, n1, b1, b2, c1, r1, s1, d1, k1, x1, s2, P5, L1, part_bm, List.length_cons, List.length_nil, slAll, slsAll, Nat.reduceMul, Nat.reduceBEq, Nat.reduceLT, Nat.reduceLeDiff, memAll, vAll, reduceCtorEq, Nat.reduceEqDiff, Nat.reduceAdd, Nat.reduceLT, Nat.reduceLeDiff, Nat.beq]
end Go.Proofs.YtdahanchdjadiaaDoor.V
