/-
  Layer 7's laws: the examples.
-/
import Derived.Test.YtldnpgbacakfeaaLaw07b
namespace Go.Proofs.Ytldnpgbacakfeaa
open Go.RowKit

/-- A slice that has been written out. -/
theorem Sl.lit {α : Type} {r : Rep α} {ok : Nat → Prop} {w : World} {E : TypeId} {cs : Array Value} {l : List α} {n : Nat} (hn : l.length = n) (h : Chunks r ok (w.alloc (.cells cs E)) cs.toList l) (hok : ok w.heap.size) (hmax : n ≤ maxLen) :
    Sl r ok (w.alloc (.cells cs E)) (some ⟨w.heap.size, 0, none⟩) n n l := by
  subst hn
  refine ⟨rfl, Nat.le_refl _, hmax, (fun e => by cases e), .inr ⟨_, _, rfl, hok, by simp, fun i x hx => ?_⟩⟩
  obtain ⟨c, h1, h2⟩ := h.at hx
  refine ⟨c, fun j hj => ?_, h2⟩
  rw [Nat.zero_add, World.cell?_alloc_mark w cs E (0, 0), ← Array.getElem?_toList, h1 j hj]

theorem i64_0 : i64ok 0 := by unfold i64ok; omega
theorem i64_1 : i64ok 1 := by unfold i64ok; omega
theorem i64_2 : i64ok 2 := by unfold i64ok; omega

theorem sector1_any (w : World) : Calls Try.prog 41 #[.int .u8 1] w fun e w' => e = .returned (.agg #[.int .u8 1, .int .u8 0, .int .u8 0, .int .u8 0, .int .u8 0, .int .u8 0, .int .u8 0, .int .u8 0]) ∧ Below w.heap.size w w' := sector_any 1 w
theorem sector2_any (w : World) : Calls Try.prog 41 #[.int .u8 2] w fun e w' => e = .returned (.agg #[.int .u8 2, .int .u8 0, .int .u8 0, .int .u8 0, .int .u8 0, .int .u8 0, .int .u8 0, .int .u8 0]) ∧ Below w.heap.size w w' := sector_any 2 w
theorem sector3_any (w : World) : Calls Try.prog 41 #[.int .u8 3] w fun e w' => e = .returned (.agg #[.int .u8 3, .int .u8 0, .int .u8 0, .int .u8 0, .int .u8 0, .int .u8 0, .int .u8 0, .int .u8 0]) ∧ Below w.heap.size w w' := sector_any 3 w

def exIm : List (List Sec) := newImg [4, 2]
def exWs : List Wr := [(0, 1, [secOf 1, secOf 2]), (0, 2, [secOf 3])]
def exA : List (List Sec) := [[zeroSec, secOf 1, secOf 3, zeroSec], [zeroSec, zeroSec]]
theorem ex_sizes : sizesErr [4, 2] = 0 := by decide
theorem ex_img : applyImg exIm exWs = exA := by decide
theorem ex_err : applyE exIm exWs = 0 := by decide
theorem ex_pair : pairErr exIm exA = 0 := by decide
theorem ex_differ : diffImgs exIm exA = [[(1, 2)], []] := by decide
theorem ex_patch : patchImgs exIm exA = [(0, 1, [secOf 1, secOf 3])] := by decide
theorem ex_fit1 : fitsErr exIm 0 2 3 = 2 := by decide
theorem ex_fit2 : fitsErr exIm 2 0 1 = 7 := by decide
theorem ex_fit3 : fitsErr exIm 1 0 0 = 1 := by decide

set_option maxRecDepth 100000 in
set_option maxHeartbeats 4000000 in
theorem awake_any (w : World) : Calls Try.prog 14 #[] w fun e w' => e = .returned (.bool true) ∧ Below w.heap.size w w' := by
  have hB0 : Below w.heap.size w (w.alloc (.cells #[.int .i64 4, .int .i64 2] 3)) := (Below.refl _ w).alloc (Nat.le_refl _) _
  have hsz : Sl intR (fun _ => True) (w.alloc (.cells #[.int .i64 4, .int .i64 2] 3)) (some ⟨w.heap.size, 0, none⟩) 2 2 [4, 2] :=
    Sl.lit rfl ⟨[_], [_], rfl, ⟨rfl, by unfold i64ok; omega⟩, [_], [], rfl, ⟨rfl, by unfold i64ok; omega⟩, rfl⟩ trivial (by unfold maxLen; omega)
  go_enter Try.func14, Try.ntmps14
  go_wp2_with fail
  refine (newI_any hsz (by omega)).mono ?_
  rintro e w1 ⟨ia, n, ic, rfl, hI, hB1⟩
  rw [ex_sizes, orNil_ok rfl] at *
  obtain rfl : n = 2 := hI.len.symm
  have hB2 : Below w.heap.size w w1 := hB0.trans (hB1.mono hB0.size)
  replace hI : Sl secsR (w.heap.size ≤ ·) w1 ia 2 ic exIm := hI.mono fun b hb => Nat.le_trans hB0.size hb
  go_wp2_with fail
  refine (sector1_any _).mono ?_
  rintro e w2 ⟨rfl, hB3⟩
  go_wp2_with fail
  refine (sector2_any _).mono ?_
  rintro e w3 ⟨rfl, hB4⟩
  go_wp2_with fail
  refine (sector3_any _).mono ?_
  rintro e w4 ⟨rfl, hB5⟩
  have hs12 : Sl secR (fun _ => True) (w3.alloc (.cells #[.int .u8 1, .int .u8 0, .int .u8 0, .int .u8 0, .int .u8 0, .int .u8 0, .int .u8 0, .int .u8 0, .int .u8 2, .int .u8 0, .int .u8 0, .int .u8 0, .int .u8 0, .int .u8 0, .int .u8 0, .int .u8 0] 52)) (some ⟨w3.heap.size, 0, none⟩) 2 2 [secOf 1, secOf 2] :=
    Sl.lit rfl ⟨secCells (secOf 1), secCells (secOf 2) ++ [], rfl, rfl, secCells (secOf 2), [], rfl, rfl, rfl⟩ trivial (by unfold maxLen; omega)
  have hs3 : Sl secR (fun _ => True) (w4.alloc (.cells #[.int .u8 3, .int .u8 0, .int .u8 0, .int .u8 0, .int .u8 0, .int .u8 0, .int .u8 0, .int .u8 0] 52)) (some ⟨w4.heap.size, 0, none⟩) 1 1 [secOf 3] :=
    Sl.lit rfl ⟨secCells (secOf 3), [], rfl, rfl, rfl⟩ trivial (by unfold maxLen; omega)
  have hB34 : Below w3.heap.size w3 (w3.alloc (.cells #[.int .u8 1, .int .u8 0, .int .u8 0, .int .u8 0, .int .u8 0, .int .u8 0, .int .u8 0, .int .u8 0, .int .u8 2, .int .u8 0, .int .u8 0, .int .u8 0, .int .u8 0, .int .u8 0, .int .u8 0, .int .u8 0] 52)) := (Below.refl _ _).alloc (Nat.le_refl _) _
  have hB45 : Below w4.heap.size w4 (w4.alloc (.cells #[.int .u8 3, .int .u8 0, .int .u8 0, .int .u8 0, .int .u8 0, .int .u8 0, .int .u8 0, .int .u8 0] 52)) := (Below.refl _ _).alloc (Nat.le_refl _) _
  obtain ⟨W4, hW4⟩ : ∃ W4, w4.alloc (.cells #[.int .u8 3, .int .u8 0, .int .u8 0, .int .u8 0, .int .u8 0, .int .u8 0, .int .u8 0, .int .u8 0] 52) = W4 := ⟨_, rfl⟩
  obtain ⟨W5, hW5⟩ : ∃ W5, W4.alloc (.cells #[.int .i64 0, .int .i64 1, .slice (some ⟨w3.heap.size, 0, none⟩) 2 2, .int .i64 0, .int .i64 2, .slice (some ⟨w4.heap.size, 0, none⟩) 1 1] 42) = W5 := ⟨_, rfl⟩
  have hz4 : W4.heap.size = w4.heap.size + 1 := by rw [← hW4, World.size_alloc]
  have hB56 : Below W4.heap.size W4 W5 := by rw [← hW5]; exact (Below.refl _ _).alloc (Nat.le_refl _) _
  have hB4' : Below w4.heap.size w4 W4 := by rw [← hW4]; exact hB45
  rw [hW4] at hs3
  have hs12' : Sl secR (fun _ => True) W5 (some ⟨w3.heap.size, 0, none⟩) 2 2 [secOf 1, secOf 2] := ((hs12.below hB5).below hB4').below hB56
  have hs3' : Sl secR (fun _ => True) W5 (some ⟨w4.heap.size, 0, none⟩) 1 1 [secOf 3] := hs3.below hB56
  have hws : Sl wrR (fun _ => True) W5 (some ⟨w4.heap.size + 1, 0, none⟩) 2 2 exWs := by
    rw [← hz4]
    rw [← hW5] at hs12' hs3' ⊢
    exact Sl.lit rfl ⟨[_, _, _], [_, _, _], rfl, ⟨[_], [_, _], rfl, ⟨rfl, i64_0⟩, [_], [_], rfl, ⟨rfl, i64_1⟩, _, _, _, rfl, hs12'⟩,
      [_, _, _], [], rfl, ⟨[_], [_, _], rfl, ⟨rfl, i64_0⟩, [_], [_], rfl, ⟨rfl, i64_2⟩, _, _, _, rfl, hs3'⟩, rfl⟩ trivial (by unfold maxLen; omega)
  have hB6 : Below w1.heap.size w1 W5 := (((hB3.trans (hB4.mono hB3.size)).trans (hB34.mono (Nat.le_trans hB3.size hB4.size))).trans (hB5.mono (Nat.le_trans (Nat.le_trans hB3.size hB4.size) hB34.size))).trans ((hB4'.trans (hB56.mono hB4'.size)).mono (Nat.le_trans (Nat.le_trans (Nat.le_trans hB3.size hB4.size) hB34.size) hB5.size))
  go_wp2_with fail
  try rw [hW4]
  try rw [hW5]
  refine (applyI_any (hI.below hB6) (by omega) (by decide) hws).mono ?_
  rintro e w5 ⟨aa, an, ac, he, hA, hB7⟩
  rw [ex_err] at he
  rw [ex_img] at hA
  subst he
  obtain rfl : an = 2 := hA.len.symm
  have hB8 : Below w1.heap.size w1 w5 := hB6.trans (hB7.mono hB6.size)
  go_wp2_with fail
  refine (differI_any (hI.below hB8) hA (by omega) (by omega) (by decide)).mono ?_
  rintro e w6 ⟨da, dn, dc, rfl, hD, hB9⟩
  rw [ex_pair, orNil_ok rfl, ex_differ] at *
  obtain rfl : dn = 2 := hD.len.symm
  have hB10 : Below w1.heap.size w1 w6 := hB8.trans (hB9.mono hB8.size)
  go_wp2_with fail
  refine (patchI_any (hI.below hB10) (hA.below hB9) (by omega) (by omega) (by decide) (by decide)).mono ?_
  rintro e w7 ⟨pa, pn, pc, rfl, hP, hB11⟩
  rw [ex_pair, orNil_ok rfl, ex_patch] at *
  obtain rfl : pn = 1 := hP.len.symm
  have hB12 : Below w1.heap.size w1 w7 := hB10.trans (hB11.mono hB10.size)
  obtain ⟨pb, po, rfl, _, hpb⟩ := hP.addr (k := 0) (by omega)
  obtain ⟨pda, pdn, pdc, hp0, hp1, hp2, _, _, hpd⟩ := hP.wr (k := 0) rfl
  obtain rfl : pdn = 2 := hpd.len.symm
  rw [Nat.zero_mul, Nat.add_zero] at hp0 hp1 hp2
  go_wp2_with (at_make; refine wpList_makeN (r := secR) (B := w7.heap.size) Try.slSec rfl _ _ rfl (z0 := zeroSec) secR_zero (n := 3) rfl rfl (by omega) (by unfold maxLen; omega) (Nat.le_refl _) ?_; intro w8 hm8 hB13)
  refine (fitsI_any ((hI.below hB12).below hB13) (by omega) i64_0 i64_2 (by omega)).mono ?_
  rintro e w9 ⟨rfl, hB14⟩
  rw [ex_fit1]
  have hB15 : Below w1.heap.size w1 w9 := (hB12.trans (hB13.mono hB12.size)).trans (hB14.mono (Nat.le_trans hB12.size hB13.size))
  go_wp2_with (at_make; refine wpList_makeN (r := secR) (B := w9.heap.size) Try.slSec rfl _ _ rfl (z0 := zeroSec) secR_zero (n := 1) rfl rfl (by omega) (by unfold maxLen; omega) (Nat.le_refl _) ?_; intro w10 hm10 hB16)
  refine (fitsI_any ((hI.below hB15).below hB16) (by omega) i64_2 i64_0 (by omega)).mono ?_
  rintro e w11 ⟨rfl, hB17⟩
  rw [ex_fit2]
  have hB18 : Below w1.heap.size w1 w11 := (hB15.trans (hB16.mono hB15.size)).trans (hB17.mono (Nat.le_trans hB15.size hB16.size))
  go_wp2_with fail
  refine (fitsI_any (hI.below hB18) (by omega) i64_1 i64_0 (by omega)).mono ?_
  rintro e w12 ⟨rfl, hB19⟩
  rw [ex_fit3]
  have hB20 : Below w1.heap.size w1 w12 := hB18.trans (hB19.mono hB18.size)
  have hC6 : Below w5.heap.size w5 w7 := hB9.trans (hB11.mono hB9.size)
  have hC7 : Below w7.heap.size w7 w12 := (((hB13.trans (hB14.mono hB13.size)).trans (hB16.mono (Nat.le_trans hB13.size hB14.size))).trans (hB17.mono (Nat.le_trans (Nat.le_trans hB13.size hB14.size) hB16.size))).trans (hB19.mono (Nat.le_trans (Nat.le_trans (Nat.le_trans hB13.size hB14.size) hB16.size) hB17.size))
  have hA2 := (hA.below hC6).below hC7
  have hD2 := (hD.below hB11).below hC7
  have hP2 := hP.below hC7
  obtain ⟨ab, ao, rfl, _, hab⟩ := hA2.addr (k := 0) (by omega)
  obtain ⟨db, do_, rfl, _, hdb⟩ := hD2.addr (k := 0) (by omega)
  obtain ⟨aa0, an0, ac0, hca0, hA0⟩ := hA2.slice (k := 0) rfl
  obtain ⟨da0, dn0, dc0, hcd0, hD0⟩ := hD2.slice (k := 0) rfl
  obtain ⟨da1, dn1, dc1, hcd1, hD1⟩ := hD2.slice (k := 1) rfl
  obtain ⟨_, _, _, _, hcp1, _⟩ := hP2.wr (k := 0) rfl
  obtain rfl : an0 = 4 := hA0.len.symm
  obtain rfl : dn0 = 1 := hD0.len.symm
  obtain rfl : dn1 = 0 := hD1.len.symm
  rw [Nat.add_zero] at hca0 hcd0
  rw [Nat.zero_mul, Nat.add_zero] at hcp1
  have hl0 := cellLater hca0
  have hl1 := cellLater hcd0
  have hl2 := cellLater hcd1
  have hl3 := cellLater hcp1
  go_wp2_with fail
  refine wp_region_acts (fun w' => ∃ x : Later (w12), w' = x.w) [([0, 1, 2, 3, 6], 4), ([], 5), ([], 7), ([], 8), ([9, 10, 11, 12, 13], 14), ([], 15)] [16, 17, 18, 19, 20, 21, 22, 23, 24, 25, 26, 27, 28, 29, 30, 31, 32, 33, 34, 35, 36, 37, 38, 39, 40, 41, 42, 43] Try.mixed (by kernel_rfl) (LaterS.drew _) ?_
  refine wpActs_act ?_
  simp only [pick, List.filterMap_cons, List.filterMap_nil, List.getElem?_toArray, List.getElem?_cons_succ, List.getElem?_cons_zero]
  change wpQuiet _ _ _ _ [_, _, _, _, _] _
  repeat (go_big_quiet_step (fail))
  refine wpQuiet_nil ?_
  change wpList _ _ _ [_] _ _
  go_wp2_with fail
  refine (sector1_any _).mono ?_
  rintro e v1 ⟨rfl, hE1⟩
  have hF1 : Below w12.heap.size w12 v1 := ((Below.refl _ _).drew).trans hE1
  go_wp2_with fail
  refine ⟨LaterS.of hF1, ?_⟩
  refine wpActs_act ?_
  simp only [pick, List.filterMap_cons, List.filterMap_nil, List.getElem?_toArray, List.getElem?_cons_succ, List.getElem?_cons_zero]
  change wpQuiet _ _ _ _ [] _
  repeat (go_big_quiet_step (fail))
  refine wpQuiet_nil ?_
  change wpList _ _ _ [_] _ _
  go_wp2_with fail
  refine (sector3_any _).mono ?_
  rintro e v2 ⟨rfl, hE2⟩
  have hF2 : Below w12.heap.size w12 v2 := hF1.trans (hE2.mono hF1.size)
  go_wp2_with fail
  refine ⟨LaterS.of hF2, ?_⟩
  refine wpActs_act ?_
  simp only [pick, List.filterMap_cons, List.filterMap_nil, List.getElem?_toArray, List.getElem?_cons_succ, List.getElem?_cons_zero]
  change wpQuiet _ _ _ _ [] _
  repeat (go_big_quiet_step (fail))
  refine wpQuiet_nil ?_
  change wpList _ _ _ [_] _ _
  go_wp2_with fail
  have hx4 : Sl secR (fun _ => True) (v2.alloc (.cells #[.int .u8 0, .int .u8 0, .int .u8 0, .int .u8 0, .int .u8 0, .int .u8 0, .int .u8 0, .int .u8 0, .int .u8 1, .int .u8 0, .int .u8 0, .int .u8 0, .int .u8 0, .int .u8 0, .int .u8 0, .int .u8 0, .int .u8 3, .int .u8 0, .int .u8 0, .int .u8 0, .int .u8 0, .int .u8 0, .int .u8 0, .int .u8 0, .int .u8 0, .int .u8 0, .int .u8 0, .int .u8 0, .int .u8 0, .int .u8 0, .int .u8 0, .int .u8 0] 52)) (some ⟨v2.heap.size, 0, none⟩) 4 4 [zeroSec, secOf 1, secOf 3, zeroSec] :=
    Sl.lit rfl ⟨secCells zeroSec, secCells (secOf 1) ++ (secCells (secOf 3) ++ (secCells zeroSec ++ [])), rfl, rfl, _, _, rfl, rfl, _, _, rfl, rfl, secCells zeroSec, [], rfl, rfl, rfl⟩ trivial (by unfold maxLen; omega)
  obtain ⟨v3, hv3⟩ : ∃ v3, v2.alloc (.cells #[.int .u8 0, .int .u8 0, .int .u8 0, .int .u8 0, .int .u8 0, .int .u8 0, .int .u8 0, .int .u8 0, .int .u8 1, .int .u8 0, .int .u8 0, .int .u8 0, .int .u8 0, .int .u8 0, .int .u8 0, .int .u8 0, .int .u8 3, .int .u8 0, .int .u8 0, .int .u8 0, .int .u8 0, .int .u8 0, .int .u8 0, .int .u8 0, .int .u8 0, .int .u8 0, .int .u8 0, .int .u8 0, .int .u8 0, .int .u8 0, .int .u8 0, .int .u8 0] 52) = v3 := ⟨_, rfl⟩
  have hF3 : Below w12.heap.size w12 v3 := by rw [← hv3]; exact hF2.trans ((Below.refl _ _).alloc hF2.size _)
  rw [hv3] at hx4 ⊢
  refine ⟨LaterS.of hF3, ?_⟩
  refine wpActs_act ?_
  simp only [pick, List.filterMap_cons, List.filterMap_nil, List.getElem?_toArray, List.getElem?_cons_succ, List.getElem?_cons_zero]
  change wpQuiet _ _ _ _ [] _
  repeat (go_big_quiet_step (fail))
  refine wpQuiet_nil ?_
  change wpList _ _ _ [_] _ _
  go_wp2_with fail
  refine (equal_sec (hA0.below hF3) hx4).mono ?_
  rintro e v4 ⟨rfl, hE4⟩
  have hF4 : Below w12.heap.size w12 v4 := hF3.trans (hE4.mono hF3.size)
  rw [beq_self_eq_true]
  go_wp2_with fail
  refine ⟨LaterS.of hF4, ?_⟩
  refine wpActs_act ?_
  simp only [pick, List.filterMap_cons, List.filterMap_nil, List.getElem?_toArray, List.getElem?_cons_succ, List.getElem?_cons_zero]
  change wpQuiet _ _ _ _ [_, _, _, _, _] _
  repeat (go_big_quiet_step (fail))
  refine wpQuiet_nil ?_
  change wpList _ _ _ [_] _ _
  go_wp2_with fail
  have hx5 : Sl extR (fun _ => True) (v4.alloc (.cells #[.int .i64 1, .int .i64 2] 59)) (some ⟨v4.heap.size, 0, none⟩) 1 1 [(1, 2)] :=
    Sl.lit rfl ⟨[_, _], [], rfl, ⟨[_], [_], rfl, ⟨rfl, i64_1⟩, ⟨rfl, i64_2⟩⟩, rfl⟩ trivial (by unfold maxLen; omega)
  obtain ⟨v5, hv5⟩ : ∃ v5, v4.alloc (.cells #[.int .i64 1, .int .i64 2] 59) = v5 := ⟨_, rfl⟩
  have hF5 : Below w12.heap.size w12 v5 := by rw [← hv5]; exact hF4.trans ((Below.refl _ _).alloc hF4.size _)
  rw [hv5] at hx5 ⊢
  refine ⟨LaterS.of hF5, ?_⟩
  refine wpActs_act ?_
  simp only [pick, List.filterMap_cons, List.filterMap_nil, List.getElem?_toArray, List.getElem?_cons_succ, List.getElem?_cons_zero]
  change wpQuiet _ _ _ _ [] _
  repeat (go_big_quiet_step (fail))
  refine wpQuiet_nil ?_
  change wpList _ _ _ [_] _ _
  go_wp2_with fail
  refine (equal_ext (hD0.below hF5) hx5).mono ?_
  rintro e v6 ⟨rfl, hE6⟩
  have hF6 : Below w12.heap.size w12 v6 := hF5.trans (hE6.mono hF5.size)
  rw [beq_self_eq_true]
  go_wp2_with fail
  refine ⟨LaterS.of hF6, ?_⟩
  refine wpActs_last ?_
  simp only [pick, List.filterMap_cons, List.filterMap_nil, List.getElem?_toArray, List.getElem?_cons_succ, List.getElem?_cons_zero]
  change wpQuiet _ _ _ _ [_, _, _, _, _, _, _, _, _, _, _, _, _, _, _, _, _, _, _, _, _, _, _, _, _, _, _, _] _
  repeat (go_big_quiet_step (fail))
  refine wpQuiet_nil ?_
  go_wp2
  go_ret
  exact ⟨rfl, (hB2.trans (hB20.mono hB2.size)).trans (hF6.mono (Nat.le_trans hB2.size hB20.size))⟩

end Go.Proofs.Ytldnpgbacakfeaa
