/-
  Layer 7, and the library's functions on slices that it uses: those that only look.
-/
import Derived.Test.YtldnpgbacakfeaaRef07d
import Derived.Test.YtldnpgbacakfeaaOwn2
namespace Go.Proofs.Ytldnpgbacakfeaa
open Go.RowKit

set_option maxHeartbeats 1000000 in
/-- slices.Equal at sectors. -/
theorem equal_sec {a1 a2 : Option Addr} {n1 c1 n2 c2 : Nat} {l1 l2 : List Sec} {ok1 ok2 : Nat → Prop} {w : World} (h1 : Sl secR ok1 w a1 n1 c1 l1) (h2 : Sl secR ok2 w a2 n2 c2 l2) :
    Calls Try.prog 30 #[.slice a1 n1 c1, .slice a2 n2 c2] w fun e w' => e = .returned (.bool (l1 == l2)) ∧ Below w.heap.size w w' := by
  have hs1 := h1.small
  have hs2 := h2.small
  by_cases hn : n1 = n2
  · subst hn
    go_enter Try.func30, Try.ntmps30
    go_wp2
    go_loopw [5, 13] (fun _ i wr => ∃ k : Nat, k ≤ n1 ∧ i = .int .i64 k ∧ Hid (l1.take k = l2.take k) ∧ Below w.heap.size w wr) (fun _ i _ => n1 - (intOf i).toNat)
    case atStart => exact ⟨0, Nat.zero_le _, rfl, rfl, Below.refl _ _⟩
    case round =>
      obtain ⟨k, hk, rfl, HT, hB⟩ := hrel
      by_cases hlt : k < n1
      · obtain ⟨b1, o1, rfl, _, _⟩ := h1.addr hlt
        obtain ⟨b2, o2, rfl, _, _⟩ := h2.addr hlt
        obtain ⟨x, hx⟩ := h1.get hlt
        obtain ⟨y, hy⟩ := h2.get hlt
        have hL1 := Try.secLater (h1.below hB) hx; have hL2 := Try.secLater (h2.below hB) hy; have hE := Try.eqSec x y
        have HX := Lib.hid hx
        have HY := Lib.hid hy
        clear hx hy
        cases hxy : x == y with
        | true =>
          rw [hxy] at hE
          have HE := Lib.hid hxy
          clear hxy
          go_wp2_with fail
          refine wp_region_acts (fun w' => ∃ x : Later (wr), w' = x.w) [] [0, 1, 2, 3, 4, 5, 6, 7, 8] Try.mixed (by kernel_rfl) (LaterS.drew _) ?_
          refine wpActs_last ?_
          simp only [pick, List.filterMap_cons, List.filterMap_nil, List.getElem?_toArray, List.getElem?_cons_succ, List.getElem?_cons_zero]
          change wpQuiet _ _ _ _ [_, _, _, _, _, _, _, _, _] _
          repeat (first | (go_big_quiet_want; refine quiet_load _ (.tmp 18) rfl _ rfl _ hL1 ?_; go_big_quiet_on; simp only [Act.put, List.setIfInBounds_toArray, List.set_cons_zero, List.set_cons_succ]) | (go_big_quiet_want; refine quiet_load _ (.tmp 22) rfl _ rfl _ hL2 ?_; go_big_quiet_on; simp only [Act.put, List.setIfInBounds_toArray, List.set_cons_zero, List.set_cons_succ]) | go_big_quiet_step (fail))
          refine wpQuiet_nil ?_
          go_wp2
          go_roundw
          case rel => exact ⟨k + 1, by omega, by go_num, by
            have := eq_of_beq HE.out
            subst this
            exact take_eq_succ HT.out HX.out HY.out, hB.drew⟩
          case measure => simp [intOf]; omega
        | false =>
          rw [hxy] at hE
          have HE := Lib.hid hxy
          clear hxy
          go_wp2_with fail
          refine wp_region_acts (fun w' => ∃ x : Later (wr), w' = x.w) [] [0, 1, 2, 3, 4, 5, 6, 7, 8] Try.mixed (by kernel_rfl) (LaterS.drew _) ?_
          refine wpActs_last ?_
          simp only [pick, List.filterMap_cons, List.filterMap_nil, List.getElem?_toArray, List.getElem?_cons_succ, List.getElem?_cons_zero]
          change wpQuiet _ _ _ _ [_, _, _, _, _, _, _, _, _] _
          repeat (first | (go_big_quiet_want; refine quiet_load _ (.tmp 18) rfl _ rfl _ hL1 ?_; go_big_quiet_on; simp only [Act.put, List.setIfInBounds_toArray, List.set_cons_zero, List.set_cons_succ]) | (go_big_quiet_want; refine quiet_load _ (.tmp 22) rfl _ rfl _ hL2 ?_; go_big_quiet_on; simp only [Act.put, List.setIfInBounds_toArray, List.set_cons_zero, List.set_cons_succ]) | go_big_quiet_step (fail))
          refine wpQuiet_nil ?_
          go_wp2
          go_ret
          exact ⟨ret_bool (beq_eq_false_iff_ne.2 (ne_at HX.out HY.out (beq_eq_false_iff_ne.1 HE.out))).symm, hB.drew⟩
      · go_wp2
        go_ret
        obtain rfl : k = n1 := by omega
        have e := HT.out
        rw [take_all h1.len, take_all h2.len] at e
        exact ⟨ret_bool (beq_iff_eq.2 e).symm, hB⟩
  · have hn' : ¬ (n1 : Int) = (n2 : Int) := by omega
    go_enter Try.func30, Try.ntmps30
    go_wp2
    go_ret
    exact ⟨ret_bool (beq_eq_false_iff_ne.2 (fun e => hn (by rw [← h1.len, ← h2.len, e]))).symm, Below.refl _ _⟩

set_option maxHeartbeats 1000000 in
/-- slices.Equal at integers. -/
theorem equal_int {a1 a2 : Option Addr} {n1 c1 n2 c2 : Nat} {l1 l2 : List Int} {ok1 ok2 : Nat → Prop} {w : World} (h1 : Sl intR ok1 w a1 n1 c1 l1) (h2 : Sl intR ok2 w a2 n2 c2 l2) :
    Calls Try.prog 36 #[.slice a1 n1 c1, .slice a2 n2 c2] w fun e w' => e = .returned (.bool (l1 == l2)) ∧ Below w.heap.size w w' := by
  have hs1 := h1.small
  have hs2 := h2.small
  by_cases hn : n1 = n2
  · subst hn
    go_enter Try.func36, Try.ntmps36
    go_wp2
    go_loopw [5, 13] (fun _ i wr => ∃ k : Nat, k ≤ n1 ∧ i = .int .i64 k ∧ Hid (l1.take k = l2.take k) ∧ Below w.heap.size w wr) (fun _ i _ => n1 - (intOf i).toNat)
    case atStart => exact ⟨0, Nat.zero_le _, rfl, rfl, Below.refl _ _⟩
    case round =>
      obtain ⟨k, hk, rfl, HT, hB⟩ := hrel
      by_cases hlt : k < n1
      · obtain ⟨b1, o1, rfl, _, _⟩ := h1.addr hlt
        obtain ⟨b2, o2, rfl, _, _⟩ := h2.addr hlt
        obtain ⟨x, hx⟩ := h1.get hlt
        obtain ⟨y, hy⟩ := h2.get hlt
        obtain ⟨hc1, hi1⟩ := (h1.below hB).int hx; obtain ⟨hc2, hi2⟩ := (h2.below hB).int hy; have hl1 := cellLater hc1; have hl2 := cellLater hc2
        have HX := Lib.hid hx
        have HY := Lib.hid hy
        clear hx hy
        cases hxy : x == y with
        | true =>
          have hxy2 : (x == y) = _ := hxy
          have HE := Lib.hid hxy
          clear hxy
          go_wp2_with fail
          refine wp_region_acts (fun w' => ∃ x : Later (wr), w' = x.w) [] [0, 1, 2, 3, 4, 5, 6, 7, 8] Try.mixed (by kernel_rfl) (LaterS.drew _) ?_
          refine wpActs_last ?_
          simp only [pick, List.filterMap_cons, List.filterMap_nil, List.getElem?_toArray, List.getElem?_cons_succ, List.getElem?_cons_zero]
          change wpQuiet _ _ _ _ [_, _, _, _, _, _, _, _, _] _
          repeat (go_big_quiet_step (fail))
          refine wpQuiet_nil ?_
          go_wp2
          go_roundw
          case rel => exact ⟨k + 1, by omega, by go_num, by
            have := eq_of_beq HE.out
            subst this
            exact take_eq_succ HT.out HX.out HY.out, hB.drew⟩
          case measure => simp [intOf]; omega
        | false =>
          have hxy2 : (x == y) = _ := hxy
          have HE := Lib.hid hxy
          clear hxy
          go_wp2_with fail
          refine wp_region_acts (fun w' => ∃ x : Later (wr), w' = x.w) [] [0, 1, 2, 3, 4, 5, 6, 7, 8] Try.mixed (by kernel_rfl) (LaterS.drew _) ?_
          refine wpActs_last ?_
          simp only [pick, List.filterMap_cons, List.filterMap_nil, List.getElem?_toArray, List.getElem?_cons_succ, List.getElem?_cons_zero]
          change wpQuiet _ _ _ _ [_, _, _, _, _, _, _, _, _] _
          repeat (go_big_quiet_step (fail))
          refine wpQuiet_nil ?_
          go_wp2
          go_ret
          exact ⟨ret_bool (beq_eq_false_iff_ne.2 (ne_at HX.out HY.out (beq_eq_false_iff_ne.1 HE.out))).symm, hB.drew⟩
      · go_wp2
        go_ret
        obtain rfl : k = n1 := by omega
        have e := HT.out
        rw [take_all h1.len, take_all h2.len] at e
        exact ⟨ret_bool (beq_iff_eq.2 e).symm, hB⟩
  · have hn' : ¬ (n1 : Int) = (n2 : Int) := by omega
    go_enter Try.func36, Try.ntmps36
    go_wp2
    go_ret
    exact ⟨ret_bool (beq_eq_false_iff_ne.2 (fun e => hn (by rw [← h1.len, ← h2.len, e]))).symm, Below.refl _ _⟩


theorem bad_any {x : Int} {w : World} (_hx : i64ok x) : Calls Try.prog 69 #[.int .i64 x] w fun e w' => e = .returned (.bool (badSize x)) ∧ Below w.heap.size w w' := by
  by_cases h1 : x < 1
  · go_enter Try.func69, Try.ntmps69
    go_wp2
    go_ret
    exact ⟨ret_bool (by simp [badSize, h1]), Below.refl _ _⟩
  · by_cases h2 : 4096 < x
    · go_enter Try.func69, Try.ntmps69
      go_wp2
      go_ret
      exact ⟨ret_bool (by simp [badSize, h2]), Below.refl _ _⟩
    · go_enter Try.func69, Try.ntmps69
      go_wp2
      go_ret
      exact ⟨ret_bool (by simp [badSize]; omega), Below.refl _ _⟩

set_option maxHeartbeats 1000000 in
/-- slices.IndexFunc with standby/image.checkSizes$1. -/
theorem contains_bad_idx {a : Option Addr} {n c : Nat} {l : List Int} {ok : Nat → Prop} {w : World} (h : Sl intR ok w a n c l) :
    Calls Try.prog 40 #[.slice a n c, .func (.func 69) #[] #[]] w fun e w' => ∃ z : Int, e = .returned (.int .i64 z) ∧ (0 ≤ z ↔ l.any badSize = true) ∧ i64ok z ∧ Below w.heap.size w w' := by
  have hs := h.small
  go_enter Try.func40, Try.ntmps40
  go_wp2
  go_loopw [5, 8] (fun _ i wr => ∃ k : Nat, k ≤ n ∧ i = .int .i64 k ∧ Hid ((l.take k).any badSize = false) ∧ Below w.heap.size w wr) (fun _ i _ => n - (intOf i).toNat)
  case atStart => exact ⟨0, Nat.zero_le _, rfl, rfl, Below.refl _ _⟩
  case round =>
    obtain ⟨k, hk, rfl, HT, hB⟩ := hrel
    by_cases hlt : k < n
    · obtain ⟨b, off, rfl, _, _⟩ := h.addr hlt
      obtain ⟨x, hx⟩ := h.get hlt
      obtain ⟨hcell, hi⟩ := (h.below hB).int hx
      have HX := Lib.hid hx
      clear hx
      cases hp : badSize x with
      | true =>
        have HP := Lib.hid hp
        have hcall := bad_any (w := wr) hi
        rw [hp] at hcall
        clear hp
        go_wp2_with (fail)
        refine hcall.mono ?_
        rintro e w1 ⟨rfl, hB1⟩
        go_wp2
        go_ret
        exact ⟨k, rfl, by rw [any_true HX.out HP.out]; simp, by unfold i64ok; omega, hB.trans (hB1.mono hB.size)⟩
      | false =>
        have HP := Lib.hid hp
        have hcall := bad_any (w := wr) hi
        rw [hp] at hcall
        clear hp
        go_wp2_with (fail)
        refine hcall.mono ?_
        rintro e w1 ⟨rfl, hB1⟩
        go_wp2
        go_roundw
        case rel => exact ⟨k + 1, by omega, by go_num, by show _ = false; rw [take_any_succ HX.out, HT.out, HP.out]; rfl, hB.trans (hB1.mono hB.size)⟩
        case measure => simp [intOf]; omega
    · go_wp2
      go_ret
      obtain rfl : k = n := by omega
      have e := HT.out
      rw [take_all h.len] at e
      exact ⟨-1, rfl, by rw [e]; simp, by unfold i64ok; omega, hB⟩

theorem contains_bad {a : Option Addr} {n c : Nat} {l : List Int} {ok : Nat → Prop} {w : World} (h : Sl intR ok w a n c l) :
    Calls Try.prog 12 #[.slice a n c, .func (.func 69) #[] #[]] w fun e w' => e = .returned (.bool (l.any badSize)) ∧ Below w.heap.size w w' := by
  go_enter Try.func12, Try.ntmps12
  go_wp2_with fail
  refine (contains_bad_idx h).mono ?_
  rintro e w1 ⟨z, rfl, hz, hi, hB⟩
  unfold i64ok at hi
  cases hp : l.any badSize with
  | true =>
    have hz0 : 0 ≤ z := hz.2 hp
    have HP := Lib.hid hp
    clear hz hp
    go_wp2
    go_ret
    exact ⟨ret_bool HP.out.symm, hB⟩
  | false =>
    have hz0 : z < 0 := by rw [hp] at hz; simp at hz; omega
    have HP := Lib.hid hp
    clear hz hp
    go_wp2
    go_ret
    exact ⟨ret_bool (by rw [HP.out]; simp; omega), hB⟩


theorem checkSizes_any {a : Option Addr} {n c : Nat} {l : List Int} {ok : Nat → Prop} {w : World} (h : Sl intR ok w a n c l) :
    Calls Try.prog 43 #[.slice a n c] w fun e w' => e = .returned (.int .i64 (sizesErr l)) ∧ Below w.heap.size w w' := by
  have hs := h.small
  by_cases hn1 : n < 1
  · obtain rfl : n = 0 := by omega
    go_enter Try.func43, Try.ntmps43
    go_wp2
    go_ret
    exact ⟨by simp [sizesErr, h.len], Below.refl _ _⟩
  by_cases hn8 : 8 < n
  · go_enter Try.func43, Try.ntmps43
    go_wp2
    go_ret
    exact ⟨ret_int (by rw [sizesErr, if_pos (by rw [h.len]; exact .inr hn8)]), Below.refl _ _⟩
  go_enter Try.func43, Try.ntmps43
  go_wp2_with fail
  refine (contains_bad h).mono ?_
  rintro e w1 ⟨rfl, hB⟩
  cases hp : l.any badSize with
  | true =>
    have HP := Lib.hid hp; clear hp
    go_wp2
    go_ret
    exact ⟨ret_int (by rw [sizesErr, if_neg (by rw [h.len]; omega), if_pos HP.out]), hB⟩
  | false =>
    have HP := Lib.hid hp; clear hp
    go_wp2
    go_ret
    exact ⟨ret_int (by rw [sizesErr, if_neg (by rw [h.len]; omega), HP.out]; rfl), hB⟩

end Go.Proofs.Ytldnpgbacakfeaa
