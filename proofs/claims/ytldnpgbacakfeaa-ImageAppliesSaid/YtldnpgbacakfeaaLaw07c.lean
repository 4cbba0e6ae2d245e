/-
  Layer 7's laws: New and Check.
-/
import Derived.Test.YtldnpgbacakfeaaAwake07
namespace Go.Proofs.Ytldnpgbacakfeaa
open Go.RowKit

/-- A size that is not tried. -/
def bigSize (x : Int) : Bool := decide (100 < x) && decide (x < 4096)
theorem big_any {x : Int} {w : World} : Calls Try.prog 13 #[.int .i64 x] w fun e w' => e = .returned (.bool (bigSize x)) ∧ Below w.heap.size w w' := by
  by_cases h1 : 100 < x
  · by_cases h2 : x < 4096
    · go_enter Try.func13, Try.ntmps13
      go_wp2
      go_ret
      exact ⟨ret_bool (by simp [bigSize, h1, h2]), Below.refl _ _⟩
    · go_enter Try.func13, Try.ntmps13
      go_wp2
      go_ret
      exact ⟨ret_bool (by simp [bigSize, h2]), Below.refl _ _⟩
  · go_enter Try.func13, Try.ntmps13
    go_wp2
    go_ret
    exact ⟨ret_bool (by rw [bigSize, decide_eq_false (by omega), Bool.false_and]), Below.refl _ _⟩

set_option maxHeartbeats 1000000 in
/-- slices.IndexFunc with standby/standbylaw07.ImageMakes$1. -/
theorem contains_big_idx {a : Option Addr} {n c : Nat} {l : List Int} {ok : Nat → Prop} {w : World} (h : Sl intR ok w a n c l) :
    Calls Try.prog 40 #[.slice a n c, .func (.func 13) #[] #[]] w fun e w' => ∃ z : Int, e = .returned (.int .i64 z) ∧ (0 ≤ z ↔ l.any bigSize = true) ∧ i64ok z ∧ Below w.heap.size w w' := by
  have hs := h.small
  go_enter Try.func40, Try.ntmps40
  go_wp2
  go_loopw [5, 8] (fun _ i wr => ∃ k : Nat, k ≤ n ∧ i = .int .i64 k ∧ Hid ((l.take k).any bigSize = false) ∧ Below w.heap.size w wr) (fun _ i _ => n - (intOf i).toNat)
  case atStart => exact ⟨0, Nat.zero_le _, rfl, rfl, Below.refl _ _⟩
  case round =>
    obtain ⟨k, hk, rfl, HT, hB⟩ := hrel
    by_cases hlt : k < n
    · obtain ⟨b, off, rfl, _, _⟩ := h.addr hlt
      obtain ⟨x, hx⟩ := h.get hlt
      obtain ⟨hcell, hi⟩ := (h.below hB).int hx
      have HX := Lib.hid hx
      clear hx
      cases hp : bigSize x with
      | true =>
        have HP := Lib.hid hp
        have hcall := big_any (x := x) (w := wr)
        rw [hp] at hcall
        clear hp
        go_wp2_with (fail)
        refine hcall.mono ?_
        rintro e w1 ⟨rfl, hB1⟩
        go_wp2
        go_ret
        exact ⟨k, rfl, by rw [any_true HX.out HP.out]; simp, by unfold i64ok; omega, hB.trans (hB1.mono hB.size)⟩
      | false =>
        have HP := Lib.hid hp
        have hcall := big_any (x := x) (w := wr)
        rw [hp] at hcall
        clear hp
        go_wp2_with (fail)
        refine hcall.mono ?_
        rintro e w1 ⟨rfl, hB1⟩
        go_wp2
        go_roundw
        case rel => exact ⟨k + 1, by omega, by go_num, by show _ = false; rw [take_any_succ HX.out, HT.out, HP.out]; rfl, hB.trans (hB1.mono hB.size)⟩
        case measure => simp [intOf]; omega
    · go_wp2
      go_ret
      obtain rfl : k = n := by omega
      have e := HT.out
      rw [take_all h.len] at e
      exact ⟨-1, rfl, by rw [e]; simp, by unfold i64ok; omega, hB⟩

theorem contains_big {a : Option Addr} {n c : Nat} {l : List Int} {ok : Nat → Prop} {w : World} (h : Sl intR ok w a n c l) :
    Calls Try.prog 12 #[.slice a n c, .func (.func 13) #[] #[]] w fun e w' => e = .returned (.bool (l.any bigSize)) ∧ Below w.heap.size w w' := by
  go_enter Try.func12, Try.ntmps12
  go_wp2_with fail
  refine (contains_big_idx h).mono ?_
  rintro e w1 ⟨z, rfl, hz, hi, hB⟩
  unfold i64ok at hi
  cases hp : l.any bigSize with
  | true =>
    have hz0 : 0 ≤ z := hz.2 hp
    have HP := Lib.hid hp
    clear hz hp
    go_wp2
    go_ret
    exact ⟨ret_bool HP.out.symm, hB⟩
  | false =>
    have hz0 : z < 0 := by rw [hp] at hz; simp at hz; omega
    have HP := Lib.hid hp
    clear hz hp
    go_wp2
    go_ret
    exact ⟨ret_bool (by rw [HP.out]; simp; omega), hB⟩


theorem fewB_len {im : List (List Sec)} (h : fewB im = true) : im.length ≤ 9 := by
  unfold fewB at h; simp at h; exact h.1
theorem fewB_each {im : List (List Sec)} (h : fewB im = true) : ∀ v ∈ im, v.length ≤ 24 := by
  unfold fewB at h; simp at h; exact h.2

set_option maxRecDepth 100000 in
set_option maxHeartbeats 2000000 in
theorem makes_any {a1 a2 : Option Addr} {n1 c1 n2 c2 : Nat} {sz : List Int} {im : List (List Sec)} {ok1 ok2 : Nat → Prop} {w : World} (h1 : Sl intR ok1 w a1 n1 c1 sz) (h2 : Sl secsR ok2 w a2 n2 c2 im) :
    Calls Try.prog 3 #[.slice a1 n1 c1, .slice a2 n2 c2] w fun e w' => e = .returned (.bool true) ∧ Below w.heap.size w w' := by
  have hs1 := h1.small
  cases hf : fewB im with
  | false =>
    go_enter Try.func3, Try.ntmps3
    go_wp2_with fail
    refine (few_any h2).mono ?_
    rintro e w1 ⟨rfl, rfl⟩
    rw [hf]
    go_wp2_with fail
    refine (awake_any _).mono ?_
    rintro e w2 ⟨rfl, hB⟩
    go_wp2
    go_ret
    exact ⟨rfl, hB⟩
  | true =>
    have hn2 := fewB_len hf
    rw [h2.len] at hn2
    by_cases hn1 : 20 < n1
    · go_enter Try.func3, Try.ntmps3
      go_wp2_with fail
      refine (few_any h2).mono ?_
      rintro e w1 ⟨rfl, rfl⟩
      rw [hf]
      go_wp2_with fail
      refine (awake_any _).mono ?_
      rintro e w2 ⟨rfl, hB⟩
      go_wp2
      go_ret
      exact ⟨rfl, hB⟩
    · cases hc : sz.any bigSize with
      | true =>
        go_enter Try.func3, Try.ntmps3
        go_wp2_with fail
        refine (few_any h2).mono ?_
        rintro e w1 ⟨rfl, rfl⟩
        rw [hf]
        go_wp2_with fail
        refine (contains_big h1).mono ?_
        rintro e w1 ⟨rfl, hB1⟩
        rw [hc]
        go_wp2_with fail
        refine (awake_any _).mono ?_
        rintro e w2 ⟨rfl, hB⟩
        go_wp2
        go_ret
        exact ⟨rfl, hB1.trans (hB.mono hB1.size)⟩
      | false =>
        have hb0 : (sizesErr sz == sizesErr sz) = true := beq_self_eq_true _
        have hb1 : (imgErr im == imgErr im) = true := beq_self_eq_true _
        go_enter Try.func3, Try.ntmps3
        go_wp2_with fail
        refine (few_any h2).mono ?_
        rintro e w1 ⟨rfl, rfl⟩
        rw [hf]
        go_wp2_with fail
        refine (contains_big h1).mono ?_
        rintro e w1 ⟨rfl, hB1⟩
        rw [hc]
        go_wp2_with fail
        refine (newI_any (h1.below hB1) (by omega)).mono ?_
        rintro e w2 ⟨a3, n3, c3, rfl, h3, hB2⟩
        have hC2 := hB1.trans (hB2.mono hB1.size)
        go_wp2_with fail
        refine (newR_any (h1.below hC2) (by omega)).mono ?_
        rintro e w3 ⟨a4, n4, c4, rfl, h4, hB3⟩
        have hC3 := hC2.trans (hB3.mono hC2.size)
        go_wp2_with fail
        refine (same_any (h3.below hB3) h4).mono ?_
        rintro e w4 ⟨rfl, hB4⟩
        have hC4 := hC3.trans (hB4.mono hC3.size)
        rw [beq_self_eq_true]
        go_wp2_with fail
        refine (checkI_any (h2.below hC4) (by omega)).mono ?_
        rintro e w5 ⟨rfl, hB5⟩
        have hC5 := hC4.trans (hB5.mono hC4.size)
        go_wp2_with fail
        refine (check_any (h2.below hC5) (by omega)).mono ?_
        rintro e w6 ⟨rfl, hB6⟩
        have hC6 := hC5.trans (hB6.mono hC5.size)
        go_wp2_with fail
        refine (awake_any _).mono ?_
        rintro e w7 ⟨rfl, hB7⟩
        go_wp2
        go_ret
        exact ⟨rfl, hC6.trans (hB7.mono hC6.size)⟩

end Go.Proofs.Ytldnpgbacakfeaa
