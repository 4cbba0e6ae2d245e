/-
  The reference of layer 7: volumes and images that are the same.
-/
import Derived.Test.YtldnpgbacakfeaaRef07c
namespace Go.Proofs.Ytldnpgbacakfeaa
open Go.RowKit

/-- Up to k the two lists agree; at k they do not. -/
theorem ne_at {α : Type} {l m : List α} {k : Nat} {x y : α} (hx : l[k]? = some x) (hy : m[k]? = some y) (h : x ≠ y) : l ≠ m := by
  intro e; subst e; rw [hx] at hy; exact h (Option.some.inj hy)
theorem take_eq_succ {α : Type} {l m : List α} {k : Nat} {x : α} (h : l.take k = m.take k) (hx : l[k]? = some x) (hy : m[k]? = some x) : l.take (k + 1) = m.take (k + 1) := by
  rw [take_succ_get hx, take_succ_get hy, h]

set_option maxHeartbeats 1000000 in
theorem sameVolume_any {a1 a2 : Option Addr} {n1 c1 n2 c2 : Nat} {l1 l2 : List Sec} {ok1 ok2 : Nat → Prop} {w : World} (h1 : Sl secR ok1 w a1 n1 c1 l1) (h2 : Sl secR ok2 w a2 n2 c2 l2) :
    Calls Try.prog 47 #[.slice a1 n1 c1, .slice a2 n2 c2] w fun e w' => e = .returned (.bool (l1 == l2)) ∧ Below w.heap.size w w' := by
  have hs1 := h1.small
  have hs2 := h2.small
  by_cases hn : n1 = n2
  · subst hn
    go_enter Try.func47, Try.ntmps47
    go_wp2
    go_loopw [5] (fun i wr => ∃ k : Nat, k ≤ n1 ∧ i = .int .i64 k ∧ Hid (l1.take k = l2.take k) ∧ Below w.heap.size w wr) (fun i _ => n1 - (intOf i).toNat)
    case atStart => exact ⟨0, Nat.zero_le _, rfl, rfl, Below.refl _ _⟩
    case round =>
      obtain ⟨k, hk, rfl, HT, hB⟩ := hrel
      by_cases hlt : k < n1
      · obtain ⟨b1, o1, rfl, _, _⟩ := h1.addr hlt
        obtain ⟨b2, o2, rfl, _, _⟩ := h2.addr hlt
        obtain ⟨x, hx⟩ := h1.get hlt
        obtain ⟨y, hy⟩ := h2.get hlt
        have hL1 := Try.secLater (h1.below hB) hx
        have hL2 := Try.secLater (h2.below hB) hy
        have hE := Try.eqSec x y
        have HX := Lib.hid hx
        have HY := Lib.hid hy
        clear hx hy
        cases hxy : x == y with
        | true =>
          rw [hxy] at hE
          have HE := Lib.hid hxy
          clear hxy
          go_wp2_with fail
          refine wp_region_acts (fun w' => ∃ x : Later (wr), w' = x.w) [] [0, 1, 2, 3, 4, 5, 6, 7, 8] Try.mixed (by kernel_rfl) (LaterS.drew _) ?_
          refine wpActs_last ?_
          simp only [pick, List.filterMap_cons, List.filterMap_nil, List.getElem?_toArray, List.getElem?_cons_succ, List.getElem?_cons_zero]
          change wpQuiet _ _ _ _ [_, _, _, _, _, _, _, _, _] _
          repeat (first | (go_big_quiet_want; refine quiet_load _ (.tmp 19) rfl _ rfl _ hL1 ?_; go_big_quiet_on; simp only [Act.put, List.setIfInBounds_toArray, List.set_cons_zero, List.set_cons_succ]) | (go_big_quiet_want; refine quiet_load _ (.tmp 23) rfl _ rfl _ hL2 ?_; go_big_quiet_on; simp only [Act.put, List.setIfInBounds_toArray, List.set_cons_zero, List.set_cons_succ]) | go_big_quiet_step (fail))
          refine wpQuiet_nil ?_
          go_wp2
          go_roundw
          case rel => exact ⟨k + 1, by omega, by go_num, by
            have := eq_of_beq HE.out
            subst this
            exact take_eq_succ HT.out HX.out HY.out, hB.drew⟩
          case measure => simp [intOf]; omega
        | false =>
          rw [hxy] at hE
          have HE := Lib.hid hxy
          clear hxy
          go_wp2_with fail
          refine wp_region_acts (fun w' => ∃ x : Later (wr), w' = x.w) [] [0, 1, 2, 3, 4, 5, 6, 7, 8] Try.mixed (by kernel_rfl) (LaterS.drew _) ?_
          refine wpActs_last ?_
          simp only [pick, List.filterMap_cons, List.filterMap_nil, List.getElem?_toArray, List.getElem?_cons_succ, List.getElem?_cons_zero]
          change wpQuiet _ _ _ _ [_, _, _, _, _, _, _, _, _] _
          repeat (first | (go_big_quiet_want; refine quiet_load _ (.tmp 19) rfl _ rfl _ hL1 ?_; go_big_quiet_on; simp only [Act.put, List.setIfInBounds_toArray, List.set_cons_zero, List.set_cons_succ]) | (go_big_quiet_want; refine quiet_load _ (.tmp 23) rfl _ rfl _ hL2 ?_; go_big_quiet_on; simp only [Act.put, List.setIfInBounds_toArray, List.set_cons_zero, List.set_cons_succ]) | go_big_quiet_step (fail))
          refine wpQuiet_nil ?_
          go_wp2
          go_ret
          exact ⟨ret_bool (beq_eq_false_iff_ne.2 (ne_at HX.out HY.out (beq_eq_false_iff_ne.1 HE.out))).symm, hB.drew⟩
      · go_wp2
        go_ret
        obtain rfl : k = n1 := by omega
        have e := HT.out
        rw [take_all h1.len, take_all h2.len] at e
        exact ⟨ret_bool (beq_iff_eq.2 e).symm, hB⟩
  · have hn' : ¬ (n1 : Int) = (n2 : Int) := by omega
    go_enter Try.func47, Try.ntmps47
    go_wp2
    go_ret
    exact ⟨ret_bool (beq_eq_false_iff_ne.2 (fun e => hn (by rw [← h1.len, ← h2.len, e]))).symm, Below.refl _ _⟩

set_option maxHeartbeats 1000000 in
theorem same_any {a1 a2 : Option Addr} {n1 c1 n2 c2 : Nat} {l1 l2 : List (List Sec)} {ok1 ok2 : Nat → Prop} {w : World} (h1 : Sl secsR ok1 w a1 n1 c1 l1) (h2 : Sl secsR ok2 w a2 n2 c2 l2) :
    Calls Try.prog 17 #[.slice a1 n1 c1, .slice a2 n2 c2] w fun e w' => e = .returned (.bool (l1 == l2)) ∧ Below w.heap.size w w' := by
  have hs1 := h1.small
  have hs2 := h2.small
  by_cases hn : n1 = n2
  · subst hn
    go_enter Try.func17, Try.ntmps17
    go_wp2
    go_loopw [5] (fun i wr => ∃ k : Nat, k ≤ n1 ∧ i = .int .i64 k ∧ Hid (l1.take k = l2.take k) ∧ Below w.heap.size w wr) (fun i _ => n1 - (intOf i).toNat)
    case atStart => exact ⟨0, Nat.zero_le _, rfl, rfl, Below.refl _ _⟩
    case round =>
      obtain ⟨k, hk, rfl, HT, hB⟩ := hrel
      by_cases hlt : k < n1
      · obtain ⟨b1, o1, rfl, _, _⟩ := h1.addr hlt
        obtain ⟨b2, o2, rfl, _, _⟩ := h2.addr hlt
        obtain ⟨x, hx⟩ := h1.get hlt
        obtain ⟨y, hy⟩ := h2.get hlt
        obtain ⟨a1', n1', c1', hc1, hx1⟩ := (h1.below hB).slice hx
        obtain ⟨a2', n2', c2', hc2, hy1⟩ := (h2.below hB).slice hy
        have hl1 : ∀ x : Later wr, x.w.cell? ⟨b1, o1 + k, none⟩ = some (.slice a1' n1' c1') := fun x => (x.below.cell (World.block_lt_of_cell? wr _ hc1)).trans hc1
        have hl2 : ∀ x : Later wr, x.w.cell? ⟨b2, o2 + k, none⟩ = some (.slice a2' n2' c2') := fun x => (x.below.cell (World.block_lt_of_cell? wr _ hc2)).trans hc2
        have HX := Lib.hid hx
        have HY := Lib.hid hy
        clear hx hy
        have hcall := sameVolume_any (hx1.below ((Below.refl _ _).drew)) (hy1.below ((Below.refl _ _).drew))
        cases hxy : x == y with
        | true =>
          rw [hxy] at hcall
          have HE := Lib.hid hxy
          clear hxy
          go_wp2_with fail
          refine wp_region_acts (fun w' => ∃ x : Later (wr), w' = x.w) [([0, 1, 2, 3, 4, 5, 6, 7], 8)] [9] Try.mixed (by kernel_rfl) (LaterS.drew _) ?_
          refine wpActs_act ?_
          simp only [pick, List.filterMap_cons, List.filterMap_nil, List.getElem?_toArray, List.getElem?_cons_succ, List.getElem?_cons_zero]
          change wpQuiet _ _ _ _ [_, _, _, _, _, _, _, _] _
          repeat (go_big_quiet_step (fail))
          refine wpQuiet_nil ?_
          change wpList _ _ _ [_] _ _
          go_wp2_with fail
          refine hcall.mono ?_
          rintro e w2 ⟨rfl, hB3⟩
          have hB4 : Below wr.heap.size wr w2 := ((Below.refl _ _).drew).trans hB3
          go_wp2_with fail
          refine ⟨LaterS.of hB4, ?_⟩
          refine wpActs_last ?_
          simp only [pick, List.filterMap_cons, List.filterMap_nil, List.getElem?_toArray, List.getElem?_cons_succ, List.getElem?_cons_zero]
          change wpQuiet _ _ _ _ [_] _
          repeat (go_big_quiet_step (fail))
          refine wpQuiet_nil ?_
          go_wp2
          go_roundw
          case rel => exact ⟨k + 1, by omega, by go_num, by
            have := eq_of_beq HE.out
            subst this
            exact take_eq_succ HT.out HX.out HY.out, hB.trans (hB4.mono hB.size)⟩
          case measure => simp [intOf]; omega
        | false =>
          rw [hxy] at hcall
          have HE := Lib.hid hxy
          clear hxy
          go_wp2_with fail
          refine wp_region_acts (fun w' => ∃ x : Later (wr), w' = x.w) [([0, 1, 2, 3, 4, 5, 6, 7], 8)] [9] Try.mixed (by kernel_rfl) (LaterS.drew _) ?_
          refine wpActs_act ?_
          simp only [pick, List.filterMap_cons, List.filterMap_nil, List.getElem?_toArray, List.getElem?_cons_succ, List.getElem?_cons_zero]
          change wpQuiet _ _ _ _ [_, _, _, _, _, _, _, _] _
          repeat (go_big_quiet_step (fail))
          refine wpQuiet_nil ?_
          change wpList _ _ _ [_] _ _
          go_wp2_with fail
          refine hcall.mono ?_
          rintro e w2 ⟨rfl, hB3⟩
          have hB4 : Below wr.heap.size wr w2 := ((Below.refl _ _).drew).trans hB3
          go_wp2_with fail
          refine ⟨LaterS.of hB4, ?_⟩
          refine wpActs_last ?_
          simp only [pick, List.filterMap_cons, List.filterMap_nil, List.getElem?_toArray, List.getElem?_cons_succ, List.getElem?_cons_zero]
          change wpQuiet _ _ _ _ [_] _
          repeat (go_big_quiet_step (fail))
          refine wpQuiet_nil ?_
          go_wp2
          go_ret
          exact ⟨ret_bool (beq_eq_false_iff_ne.2 (ne_at HX.out HY.out (beq_eq_false_iff_ne.1 HE.out))).symm, hB.trans (hB4.mono hB.size)⟩
      · go_wp2
        go_ret
        obtain rfl : k = n1 := by omega
        have e := HT.out
        rw [take_all h1.len, take_all h2.len] at e
        exact ⟨ret_bool (beq_iff_eq.2 e).symm, hB⟩
  · have hn' : ¬ (n1 : Int) = (n2 : Int) := by omega
    go_enter Try.func17, Try.ntmps17
    go_wp2
    go_ret
    exact ⟨ret_bool (beq_eq_false_iff_ne.2 (fun e => hn (by rw [← h1.len, ← h2.len, e]))).symm, Below.refl _ _⟩

end Go.Proofs.Ytldnpgbacakfeaa
