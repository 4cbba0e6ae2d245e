/-
  Layer 7's laws: Fits and Apply.
-/
import Derived.Test.YtldnpgbacakfeaaFew07
import Derived.Test.YtldnpgbacakfeaaImg16
namespace Go.Proofs.Ytldnpgbacakfeaa
open Go.RowKit

set_option maxRecDepth 100000 in
set_option maxHeartbeats 4000000 in
theorem applies_any {a1 a2 : Option Addr} {n1 c1 n2 c2 : Nat} {im : List (List Sec)} {l : List Wr} {ok1 ok2 : Nat → Prop} {w : World} (h1 : Sl secsR ok1 w a1 n1 c1 im) (h2 : Sl wrR ok2 w a2 n2 c2 l) :
    Calls Try.prog 4 #[.slice a1 n1 c1, .slice a2 n2 c2] w fun e w' => e = .returned (.bool true) ∧ Below w.heap.size w w' := by
  have hs2 := h2.small
  cases hf : fewB im with
  | false =>
    go_enter Try.func4, Try.ntmps4
    go_wp2_with fail
    refine (few_any h1).mono ?_
    rintro e w1 ⟨rfl, rfl⟩
    rw [hf]
    go_wp2_with fail
    refine (awake_any _).mono ?_
    rintro e w2 ⟨rfl, hB⟩
    go_wp2
    go_ret
    exact ⟨rfl, hB⟩
  | true =>
    cases hg : fewW l with
    | false =>
      go_enter Try.func4, Try.ntmps4
      go_wp2_with fail
      refine (few_any h1).mono ?_
      rintro e w1 ⟨rfl, rfl⟩
      rw [hf]
      go_wp2_with fail
      refine (fewW_any h2).mono ?_
      rintro e w2 ⟨rfl, hB1⟩
      rw [hg]
      go_wp2_with fail
      refine (awake_any _).mono ?_
      rintro e w3 ⟨rfl, hB⟩
      go_wp2
      go_ret
      exact ⟨rfl, hB1.trans (hB.mono hB1.size)⟩
    | true =>
      have hn1 : n1 ≤ 1000000 := by have := fewB_len hf; rw [h1.len] at this; omega
      have hvs : ∀ v ∈ im, v.length ≤ 1000000 := fun v hv => by have := fewB_each hf v hv; omega
      go_enter Try.func4, Try.ntmps4
      go_wp2_with fail
      refine (few_any h1).mono ?_
      rintro e w1 ⟨rfl, rfl⟩
      rw [hf]
      go_wp2_with fail
      refine (fewW_any h2).mono ?_
      rintro e w2 ⟨rfl, hB1⟩
      rw [hg]
      go_wp2
      go_loopw [24] (fun i wr => ∃ k : Nat, k ≤ n2 ∧ i = .int .i64 k ∧ Below w.heap.size w wr) (fun i _ => n2 - (intOf i).toNat)
      case atStart => exact ⟨0, Nat.zero_le _, rfl, hB1⟩
      case round =>
        obtain ⟨k, hk, rfl, hB⟩ := hrel
        by_cases hlt : k < n2
        · obtain ⟨b, off, rfl, _, hbl⟩ := h2.addr hlt
          obtain ⟨⟨v, s, d⟩, hx⟩ := h2.get hlt
          obtain ⟨da, dn, dc, hc0, hc1, hc2, hv, hs, hd⟩ := (h2.below hB).wr hx
          have hds := hd.small
          have hB2 : Below w.heap.size w (wr.alloc (.cells #[.int .i64 v, .int .i64 s, .slice da dn dc] 42)) := hB.trans ((Below.refl _ _).alloc hB.size _)
          have hld := loadNewAgg (P := Try.prog) Try.underlying42 rfl (by kernel_rfl) rfl rfl (Below.refl _ (wr.alloc (.cells #[.int .i64 v, .int .i64 s, .slice da dn dc] 42)))
          have hbb : (fitsErr im v s dn != fitsErr im v s dn) = false := by simp
          clear hx
          go_wp2_with fail
          refine wp_region_acts (fun w' => ∃ x : Later (wr.alloc (.cells #[.int .i64 v, .int .i64 s, .slice da dn dc] 42)), w' = x.w) [([0, 1, 3, 4], 2), ([], 5)] [6] Try.mixed (by kernel_rfl) (LaterS.drew _) ?_
          refine wpActs_act ?_
          simp only [pick, List.filterMap_cons, List.filterMap_nil, List.getElem?_toArray, List.getElem?_cons_succ, List.getElem?_cons_zero]
          change wpQuiet _ _ _ _ (_ :: _ :: _ :: _ :: []) _
          repeat (first | (go_big_quiet_want; refine quiet_load _ (.tmp 6) rfl _ rfl _ hld ?_; go_big_quiet_on; simp only [Act.put, List.setIfInBounds_toArray, List.set_cons_zero, List.set_cons_succ]) | go_big_quiet_step (fail))
          refine wpQuiet_nil ?_
          change wpList _ _ _ [_] _ _
          go_wp2_with fail
          refine (fitsI_any ((h1.below hB2).below ((Below.refl _ _).drew)) hn1 hv hs hds).mono ?_
          rintro e w3 ⟨rfl, hB3⟩
          have hB4 : Below (wr.alloc (.cells #[.int .i64 v, .int .i64 s, .slice da dn dc] 42)).heap.size (wr.alloc (.cells #[.int .i64 v, .int .i64 s, .slice da dn dc] 42)) w3 := ((Below.refl _ _).drew).trans hB3
          go_wp2_with fail
          refine ⟨LaterS.of hB4, ?_⟩
          refine wpActs_act ?_
          simp only [pick, List.filterMap_cons, List.filterMap_nil, List.getElem?_toArray, List.getElem?_cons_succ, List.getElem?_cons_zero]
          change wpQuiet _ _ _ _ ([]) _
          repeat (go_big_quiet_step (fail))
          refine wpQuiet_nil ?_
          change wpList _ _ _ [_] _ _
          go_wp2_with fail
          refine (fits_any ((h1.below hB2).below hB4) hn1 hv hs hds).mono ?_
          rintro e w4 ⟨rfl, hB5⟩
          have hB6 := hB4.trans (hB5.mono hB4.size)
          go_wp2_with fail
          refine ⟨LaterS.of hB6, ?_⟩
          refine wpActs_last ?_
          simp only [pick, List.filterMap_cons, List.filterMap_nil, List.getElem?_toArray, List.getElem?_cons_succ, List.getElem?_cons_zero]
          change wpQuiet _ _ _ _ (_ :: []) _
          repeat (go_big_quiet_step (fail))
          refine wpQuiet_nil ?_
          go_wp2
          go_roundw
          case rel => exact ⟨k + 1, by omega, by go_num, hB2.trans (hB6.mono hB2.size)⟩
          case measure => simp [intOf]; omega
        · obtain rfl : k = n2 := by omega
          have hb0 : (applyIdx im l == applyIdx im l) = true := beq_self_eq_true _
          have hb1 : (applyE im l == applyE im l) = true := beq_self_eq_true _
          go_wp2_with fail
          refine (applyI_any (h1.below hB) hn1 hvs (h2.below hB)).mono ?_
          rintro e w3 ⟨a3, n3, c3, rfl, h3, hB3⟩
          have hC3 := hB.trans (hB3.mono hB.size)
          go_wp2_with fail
          refine (applyR_any (h1.below hC3) hn1 hvs (h2.below hC3)).mono ?_
          rintro e w4 ⟨a4, n4, c4, rfl, h4, hB4⟩
          have hC4 := hC3.trans (hB4.mono hC3.size)
          go_wp2_with fail
          refine (same_any (h3.below hB4) h4).mono ?_
          rintro e w5 ⟨rfl, hB5⟩
          have hC5 := hC4.trans (hB5.mono hC4.size)
          rw [beq_self_eq_true]
          go_wp2_with fail
          refine (awake_any _).mono ?_
          rintro e w6 ⟨rfl, hB6⟩
          go_wp2
          go_ret
          exact ⟨rfl, hC5.trans (hB6.mono hC5.size)⟩

end Go.Proofs.Ytldnpgbacakfeaa
