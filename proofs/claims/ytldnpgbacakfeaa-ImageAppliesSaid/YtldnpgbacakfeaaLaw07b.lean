/-
  Layer 7's laws: lists of extents that are equal.
-/
import Derived.Test.YtldnpgbacakfeaaLaw07a
namespace Go.Proofs.Ytldnpgbacakfeaa
open Go.RowKit

theorem Try.eqExt (x y : Ext) (w : World) : (Op.equalIn 10000 59 (.agg #[.int .i64 x.1, .int .i64 x.2]) (.agg #[.int .i64 y.1, .int .i64 y.2])).run Try.prog w = .ok (x == y) w := by
  obtain ⟨a, b⟩ := x
  obtain ⟨c, d⟩ := y
  rw [run_equalIn_agg w 9999 _ _ _ (by kernel_rfl) (by kernel_rfl)]
  go_simp
  by_cases h1 : a = c
  · by_cases h2 : b = d
    · subst h1; subst h2; simp
    · rw [if_pos h1, if_neg h2, beq_eq_false_iff_ne.2 (fun e => h2 (by cases e; rfl))]
  · rw [if_neg h1, beq_eq_false_iff_ne.2 (fun e => h1 (by cases e; rfl))]
/-- An extent of a slice, in whatever later world. -/
theorem Try.extLater {ok : Nat → Prop} {w : World} {b off n c k : Nat} {l : List Ext} {x : Ext} (h : Sl extR ok w (some ⟨b, off, none⟩) n c l) (hx : l[k]? = some x) :
    ∀ w', LaterS w w' → (loadVar 59 ⟨b, off + k * 2, none⟩).run Try.prog w' = .ok (.agg #[.int .i64 x.1, .int .i64 x.2]) w' := by
  rintro _ ⟨y, rfl⟩
  obtain ⟨h0, h1, _, _⟩ := (h.below y.below).ext hx
  refine run_loadAgg (cs := [.int .i64 x.1, .int .i64 x.2]) Try.underlying59 rfl (by kernel_rfl) fun j hj => ?_
  rw [Addr.add_lit]
  match j, hj with
  | 0, _ => exact h0
  | 1, _ => exact h1

set_option maxHeartbeats 1000000 in
/-- slices.Equal at extents. -/
theorem equal_ext {a1 a2 : Option Addr} {n1 c1 n2 c2 : Nat} {l1 l2 : List Ext} {ok1 ok2 : Nat → Prop} {w : World} (h1 : Sl extR ok1 w a1 n1 c1 l1) (h2 : Sl extR ok2 w a2 n2 c2 l2) :
    Calls Try.prog 42 #[.slice a1 n1 c1, .slice a2 n2 c2] w fun e w' => e = .returned (.bool (l1 == l2)) ∧ Below w.heap.size w w' := by
  have hs1 := h1.small
  have hs2 := h2.small
  by_cases hn : n1 = n2
  · subst hn
    go_enter Try.func42, Try.ntmps42
    go_wp2
    go_loopw [5, 13] (fun _ i wr => ∃ k : Nat, k ≤ n1 ∧ i = .int .i64 k ∧ Hid (l1.take k = l2.take k) ∧ Below w.heap.size w wr) (fun _ i _ => n1 - (intOf i).toNat)
    case atStart => exact ⟨0, Nat.zero_le _, rfl, rfl, Below.refl _ _⟩
    case round =>
      obtain ⟨k, hk, rfl, HT, hB⟩ := hrel
      by_cases hlt : k < n1
      · obtain ⟨b1, o1, rfl, _, _⟩ := h1.addr hlt
        obtain ⟨b2, o2, rfl, _, _⟩ := h2.addr hlt
        obtain ⟨x, hx⟩ := h1.get hlt
        obtain ⟨y, hy⟩ := h2.get hlt
        have hL1 := Try.extLater (h1.below hB) hx; have hL2 := Try.extLater (h2.below hB) hy; have hE := Try.eqExt x y
        have HX := Lib.hid hx
        have HY := Lib.hid hy
        clear hx hy
        cases hxy : x == y with
        | true =>
          rw [hxy] at hE
          have HE := Lib.hid hxy
          clear hxy
          go_wp2_with fail
          refine wp_region_acts (fun w' => ∃ x : Later (wr), w' = x.w) [] [0, 1, 2, 3, 4, 5, 6, 7, 8] Try.mixed (by kernel_rfl) (LaterS.drew _) ?_
          refine wpActs_last ?_
          simp only [pick, List.filterMap_cons, List.filterMap_nil, List.getElem?_toArray, List.getElem?_cons_succ, List.getElem?_cons_zero]
          change wpQuiet _ _ _ _ [_, _, _, _, _, _, _, _, _] _
          repeat (first | (go_big_quiet_want; refine quiet_load _ (.tmp 18) rfl _ rfl _ hL1 ?_; go_big_quiet_on; simp only [Act.put, List.setIfInBounds_toArray, List.set_cons_zero, List.set_cons_succ]) | (go_big_quiet_want; refine quiet_load _ (.tmp 22) rfl _ rfl _ hL2 ?_; go_big_quiet_on; simp only [Act.put, List.setIfInBounds_toArray, List.set_cons_zero, List.set_cons_succ]) | go_big_quiet_step (fail))
          refine wpQuiet_nil ?_
          go_wp2
          go_roundw
          case rel => exact ⟨k + 1, by omega, by go_num, by
            have := eq_of_beq HE.out
            subst this
            exact take_eq_succ HT.out HX.out HY.out, hB.drew⟩
          case measure => simp [intOf]; omega
        | false =>
          rw [hxy] at hE
          have HE := Lib.hid hxy
          clear hxy
          go_wp2_with fail
          refine wp_region_acts (fun w' => ∃ x : Later (wr), w' = x.w) [] [0, 1, 2, 3, 4, 5, 6, 7, 8] Try.mixed (by kernel_rfl) (LaterS.drew _) ?_
          refine wpActs_last ?_
          simp only [pick, List.filterMap_cons, List.filterMap_nil, List.getElem?_toArray, List.getElem?_cons_succ, List.getElem?_cons_zero]
          change wpQuiet _ _ _ _ [_, _, _, _, _, _, _, _, _] _
          repeat (first | (go_big_quiet_want; refine quiet_load _ (.tmp 18) rfl _ rfl _ hL1 ?_; go_big_quiet_on; simp only [Act.put, List.setIfInBounds_toArray, List.set_cons_zero, List.set_cons_succ]) | (go_big_quiet_want; refine quiet_load _ (.tmp 22) rfl _ rfl _ hL2 ?_; go_big_quiet_on; simp only [Act.put, List.setIfInBounds_toArray, List.set_cons_zero, List.set_cons_succ]) | go_big_quiet_step (fail))
          refine wpQuiet_nil ?_
          go_wp2
          go_ret
          exact ⟨ret_bool (beq_eq_false_iff_ne.2 (ne_at HX.out HY.out (beq_eq_false_iff_ne.1 HE.out))).symm, hB.drew⟩
      · go_wp2
        go_ret
        obtain rfl : k = n1 := by omega
        have e := HT.out
        rw [take_all h1.len, take_all h2.len] at e
        exact ⟨ret_bool (beq_iff_eq.2 e).symm, hB⟩
  · have hn' : ¬ (n1 : Int) = (n2 : Int) := by omega
    go_enter Try.func42, Try.ntmps42
    go_wp2
    go_ret
    exact ⟨ret_bool (beq_eq_false_iff_ne.2 (fun e => hn (by rw [← h1.len, ← h2.len, e]))).symm, Below.refl _ _⟩


end Go.Proofs.Ytldnpgbacakfeaa
