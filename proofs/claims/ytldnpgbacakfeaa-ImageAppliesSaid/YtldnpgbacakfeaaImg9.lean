/-
  Layer 7: pairs of images, and where they differ.
-/
import Derived.Test.YtldnpgbacakfeaaImg8
namespace Go.Proofs.Ytldnpgbacakfeaa
open Go.RowKit

/-- The error of two images that are to be compared. -/
def pairErr (a b : List (List Sec)) : Int := if imgErr a ≠ 0 then imgErr a else if imgErr b ≠ 0 then imgErr b else if lens a = lens b then 0 else 22

set_option maxRecDepth 100000 in
set_option maxHeartbeats 2000000 in
theorem pairI_any {a1 a2 : Option Addr} {n1 c1 n2 c2 : Nat} {l1 l2 : List (List Sec)} {ok1 ok2 : Nat → Prop} {w : World} (h1 : Sl secsR ok1 w a1 n1 c1 l1) (h2 : Sl secsR ok2 w a2 n2 c2 l2) (hn1 : n1 ≤ 1000000) (hn2 : n2 ≤ 1000000) :
    Calls Try.prog 54 #[.slice a1 n1 c1, .slice a2 n2 c2] w fun e w' => e = .returned (.int .i64 (pairErr l1 l2)) ∧ Below w.heap.size w w' := by
  have hp : ∀ P : Int → Prop, (imgErr l1 ≠ 0 → P (imgErr l1)) → (imgErr l1 = 0 → imgErr l2 ≠ 0 → P (imgErr l2)) → (imgErr l1 = 0 → imgErr l2 = 0 → lens l1 ≠ lens l2 → P 22) → (imgErr l1 = 0 → imgErr l2 = 0 → lens l1 = lens l2 → P 0) → P (pairErr l1 l2) := by
    intro P g1 g2 g3 g4
    unfold pairErr
    by_cases e1 : imgErr l1 = 0
    · rw [if_neg (not_not_intro e1)]
      by_cases e2 : imgErr l2 = 0
      · rw [if_neg (not_not_intro e2)]
        by_cases e3 : lens l1 = lens l2
        · rw [if_pos e3]; exact g4 e1 e2 e3
        · rw [if_neg e3]; exact g3 e1 e2 e3
      · rw [if_pos e2]; exact g2 e1 e2
    · rw [if_pos e1]; exact g1 e1
  have HP := Lib.hid hp; clear hp
  go_enter Try.func54, Try.ntmps54
  go_wp2
  go_loopw [12] (fun i wr => ∃ k : Nat, k ≤ 2 ∧ i = .int .i64 k ∧ (1 ≤ k → imgErr l1 = 0) ∧ (2 ≤ k → imgErr l2 = 0) ∧ Below (w.heap.size + 1) (w.alloc (.cells #[.slice a1 n1 c1, .slice a2 n2 c2] 24)) wr) (fun i _ => 2 - (intOf i).toNat)
  case atStart => exact ⟨0, Nat.zero_le _, rfl, fun h => by omega, fun h => by omega, Below.refl _ _⟩
  case round =>
    obtain ⟨k, hk, rfl, he1, he2, hB⟩ := hrel
    have hB0 : Below w.heap.size w wr := ((Below.refl _ w).alloc (Nat.le_refl _) _).trans (hB.mono (by omega))
    have hc0 : wr.cell? ⟨w.heap.size, 0, none⟩ = some (.slice a1 n1 c1) := boxCell (by simpa using hB) (j := 0) rfl
    have hc1 : wr.cell? ⟨w.heap.size, 1, none⟩ = some (.slice a2 n2 c2) := boxCell (by simpa using hB) (j := 1) rfl
    match k, hk with
    | 0, _ =>
      by_cases he : imgErr l1 = 0
      · have hb : (imgErr l1 != 0) = false := by simp [he]
        have HE := Lib.hid he; clear he
        go_wp2_with fail
        refine (checkI_any (h1.below hB0) hn1).mono ?_
        rintro e w2 ⟨rfl, hB2⟩
        go_wp2
        go_roundw
        case rel => exact ⟨1, by omega, by go_num, fun _ => HE.out, fun h => by omega, hB.trans (hB2.mono (by have := hB.size; simp at this; omega))⟩
        case measure => simp [intOf]
      · have hb : (imgErr l1 != 0) = true := by simp [he]
        have HE := Lib.hid he; clear he
        go_wp2_with fail
        refine (checkI_any (h1.below hB0) hn1).mono ?_
        rintro e w2 ⟨rfl, hB2⟩
        go_wp2
        go_ret
        exact ⟨HP.out (fun z => Ending.returned (Value.int .i64 _) = .returned (.int .i64 z)) (fun _ => rfl) (fun g => absurd g HE.out) (fun g => absurd g HE.out) (fun g => absurd g HE.out), hB0.trans (hB2.mono hB0.size)⟩
    | 1, _ =>
      have HE1 := Lib.hid (he1 (by omega))
      clear he1 he2
      by_cases he : imgErr l2 = 0
      · have hb : (imgErr l2 != 0) = false := by simp [he]
        have HE := Lib.hid he; clear he
        go_wp2_with fail
        refine (checkI_any (h2.below hB0) hn2).mono ?_
        rintro e w2 ⟨rfl, hB2⟩
        go_wp2
        go_roundw
        case rel => exact ⟨2, by omega, by go_num, fun _ => HE1.out, fun _ => HE.out, hB.trans (hB2.mono (by have := hB.size; simp at this; omega))⟩
        case measure => simp [intOf]
      · have hb : (imgErr l2 != 0) = true := by simp [he]
        have HE := Lib.hid he; clear he
        go_wp2_with fail
        refine (checkI_any (h2.below hB0) hn2).mono ?_
        rintro e w2 ⟨rfl, hB2⟩
        go_wp2
        go_ret
        exact ⟨HP.out (fun z => Ending.returned (Value.int .i64 _) = .returned (.int .i64 z)) (fun g => absurd HE1.out g) (fun _ _ => rfl) (fun _ g => absurd g HE.out) (fun _ g => absurd g HE.out), hB0.trans (hB2.mono hB0.size)⟩
    | 2, _ =>
      have HE1 := Lib.hid (he1 (by omega))
      have HE2 := Lib.hid (he2 (by omega))
      clear he1 he2
      go_wp2_with fail
      refine (sizesI_any (h1.below hB0) hn1).mono ?_
      rintro e w2 ⟨a3, n3, c3, rfl, h3, hB2⟩
      go_wp2_with fail
      refine (sizesI_any ((h2.below hB0).below hB2) hn2).mono ?_
      rintro e w3 ⟨a4, n4, c4, rfl, h4, hB3⟩
      go_wp2_with fail
      refine (equal_int (h3.below hB3) h4).mono ?_
      rintro e w4 ⟨rfl, hB4⟩
      have hB5 : Below w.heap.size w w4 := ((hB0.trans (hB2.mono hB0.size)).trans (hB3.mono (Nat.le_trans hB0.size hB2.size))).trans (hB4.mono (Nat.le_trans (Nat.le_trans hB0.size hB2.size) hB3.size))
      by_cases he : lens l1 = lens l2
      · have hb : (lens l1 == lens l2) = true := by simp [he]
        have HE := Lib.hid he; clear he
        go_wp2
        go_ret
        exact ⟨HP.out (fun z => Ending.returned (Value.int .i64 _) = .returned (.int .i64 z)) (fun g => absurd HE1.out g) (fun _ g => absurd HE2.out g) (fun _ _ g => absurd HE.out g) (fun _ _ _ => rfl), hB5⟩
      · have hb : (lens l1 == lens l2) = false := by simp [he]
        have HE := Lib.hid he; clear he
        go_wp2
        go_ret
        exact ⟨HP.out (fun z => Ending.returned (Value.int .i64 _) = .returned (.int .i64 z)) (fun g => absurd HE1.out g) (fun _ g => absurd HE2.out g) (fun _ _ _ => rfl) (fun _ _ g => absurd g HE.out), hB5⟩
theorem lens_take {l : List (List Sec)} {k : Nat} : (lens l).take k = lens (l.take k) := by simp [lens, List.map_take]

set_option maxRecDepth 100000 in
set_option maxHeartbeats 2000000 in
theorem pairR_any {a1 a2 : Option Addr} {n1 c1 n2 c2 : Nat} {l1 l2 : List (List Sec)} {ok1 ok2 : Nat → Prop} {w : World} (h1 : Sl secsR ok1 w a1 n1 c1 l1) (h2 : Sl secsR ok2 w a2 n2 c2 l2) (hn1 : n1 ≤ 1000000) (hn2 : n2 ≤ 1000000) :
    Calls Try.prog 59 #[.slice a1 n1 c1, .slice a2 n2 c2] w fun e w' => e = .returned (.int .i64 (pairErr l1 l2)) ∧ Below w.heap.size w w' := by
  have hs1 := h1.small
  have hs2 := h2.small
  by_cases e1 : imgErr l1 = 0
  rotate_left
  · have hb : (imgErr l1 != 0) = true := by simp [e1]
    have HE := Lib.hid e1; clear e1
    go_enter Try.func59, Try.ntmps59
    go_wp2_with fail
    refine (check_any h1 hn1).mono ?_
    rintro e w1 ⟨rfl, hB1⟩
    go_wp2
    go_ret
    exact ⟨ret_int (by rw [pairErr, if_pos HE.out]), hB1⟩
  by_cases e2 : imgErr l2 = 0
  rotate_left
  · have hb1 : (imgErr l1 != 0) = false := by simp [e1]
    have hb : (imgErr l2 != 0) = true := by simp [e2]
    have HE1 := Lib.hid e1; clear e1
    have HE := Lib.hid e2; clear e2
    go_enter Try.func59, Try.ntmps59
    go_wp2_with fail
    refine (check_any h1 hn1).mono ?_
    rintro e w1 ⟨rfl, hB1⟩
    go_wp2_with fail
    refine (check_any (h2.below hB1) hn2).mono ?_
    rintro e w2 ⟨rfl, hB2⟩
    go_wp2
    go_ret
    exact ⟨ret_int (by rw [pairErr, if_neg (not_not_intro HE1.out), if_pos HE.out]), hB1.trans (hB2.mono hB1.size)⟩
  have hb1 : (imgErr l1 != 0) = false := by simp [e1]
  have hb2 : (imgErr l2 != 0) = false := by simp [e2]
  have HP : Hid (pairErr l1 l2 = if lens l1 = lens l2 then 0 else 22) := by show _ = _; rw [pairErr, if_neg (not_not_intro e1), if_neg (not_not_intro e2)]
  clear e1 e2
  by_cases hn : n1 = n2
  rotate_left
  · have HN : Hid (lens l1 ≠ lens l2) := by intro e; have := congrArg List.length e; simp [lens, h1.len, h2.len] at this; exact hn this
    go_enter Try.func59, Try.ntmps59
    go_wp2_with fail
    refine (check_any h1 hn1).mono ?_
    rintro e w1 ⟨rfl, hB1⟩
    go_wp2_with fail
    refine (check_any (h2.below hB1) hn2).mono ?_
    rintro e w2 ⟨rfl, hB2⟩
    go_wp2
    go_ret
    exact ⟨ret_int (by rw [HP.out, if_neg HN.out]), hB1.trans (hB2.mono hB1.size)⟩
  subst hn
  go_enter Try.func59, Try.ntmps59
  go_wp2_with fail
  refine (check_any h1 hn1).mono ?_
  rintro e w1 ⟨rfl, hB1⟩
  go_wp2_with fail
  refine (check_any (h2.below hB1) hn2).mono ?_
  rintro e w2 ⟨rfl, hB2⟩
  have hB0 := hB1.trans (hB2.mono hB1.size)
  go_wp2
  go_loopw [7] (fun i wr => ∃ k : Nat, k ≤ n1 ∧ i = .int .i64 k ∧ Hid (lens (l1.take k) = lens (l2.take k)) ∧ Below w2.heap.size w2 wr) (fun i _ => n1 - (intOf i).toNat)
  case atStart => exact ⟨0, Nat.zero_le _, rfl, rfl, Below.refl _ _⟩
  case round =>
    obtain ⟨k, hk, rfl, HT, hB⟩ := hrel
    have hB3 := hB0.trans (hB.mono hB0.size)
    by_cases hlt : k < n1
    · obtain ⟨b1, o1, rfl, _, _⟩ := h1.addr hlt
      obtain ⟨b2, o2, rfl, _, _⟩ := h2.addr hlt
      obtain ⟨x, hx⟩ := h1.get hlt
      obtain ⟨y, hy⟩ := h2.get hlt
      obtain ⟨a1', n1', c1', hc1, hx1⟩ := (h1.below hB3).slice hx
      obtain ⟨a2', n2', c2', hc2, hy1⟩ := (h2.below hB3).slice hy
      have hl1 := cellLater hc1
      have hl2 := cellLater hc2
      have hsx := hx1.small
      have hsy := hy1.small
      have HX := Lib.hid hx
      have HY := Lib.hid hy
      clear hx hy
      by_cases hxy : n1' = n2'
      · subst hxy
        have hbb : ((n1' : Int) != n1') = false := by simp
        go_wp2_with fail
        refine wp_region_quiet_lit (by kernel_rfl) (by kernel_rfl) ?_
        repeat (go_big_quiet_step (fail))
        refine wpQuiet_nil ?_
        rintro _ ⟨nq, rfl⟩
        go_wp2
        go_roundw
        case rel => exact ⟨k + 1, by omega, by go_num, by
          show _ = _
          rw [take_succ_get HX.out, take_succ_get HY.out, lens, List.map_append, lens, List.map_append, show List.map _ (l1.take k) = List.map _ (l2.take k) from HT.out]
          simp [hx1.len, hy1.len], below_drewN hB _⟩
        case measure => simp [intOf]; omega
      · have hbb : ((n1' : Int) != n2') = true := by simp; omega
        have HN : Hid (lens l1 ≠ lens l2) := by
          intro e
          have := congrArg (fun l : List Int => l[k]?) e
          simp [lens, HX.out, HY.out, hx1.len, hy1.len] at this
          exact hxy (by omega)
        clear hxy
        go_wp2_with fail
        refine wp_region_quiet_lit (by kernel_rfl) (by kernel_rfl) ?_
        repeat (go_big_quiet_step (fail))
        refine wpQuiet_nil ?_
        rintro _ ⟨nq, rfl⟩
        go_wp2
        go_ret
        exact ⟨ret_int (by rw [HP.out, if_neg HN.out]), below_drewN hB3 _⟩
    · obtain rfl : k = n1 := by omega
      have HE : Hid (lens l1 = lens l2) := by have := HT.out; rwa [take_all h1.len, take_all h2.len] at this
      go_wp2
      go_ret
      exact ⟨ret_int (by rw [HP.out, if_pos HE.out]), hB3⟩

end Go.Proofs.Ytldnpgbacakfeaa
