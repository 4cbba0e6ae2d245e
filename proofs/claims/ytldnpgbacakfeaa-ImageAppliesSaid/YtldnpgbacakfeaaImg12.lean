/-
  Layer 7: where two images differ, by the reference.
-/
import Derived.Test.YtldnpgbacakfeaaImg11
namespace Go.Proofs.Ytldnpgbacakfeaa
open Go.RowKit

set_option maxRecDepth 100000 in
set_option maxHeartbeats 2000000 in
theorem differR_any {a1 a2 : Option Addr} {n1 c1 n2 c2 : Nat} {l1 l2 : List (List Sec)} {ok1 ok2 : Nat → Prop} {w : World} (h1 : Sl secsR ok1 w a1 n1 c1 l1) (h2 : Sl secsR ok2 w a2 n2 c2 l2) (hn1 : n1 ≤ 1000000) (hn2 : n2 ≤ 1000000)
    (hv : ∀ v ∈ l1, v.length ≤ 1000000) : Calls Try.prog 31 #[.slice a1 n1 c1, .slice a2 n2 c2] w (RetSlE extsR (w.heap.size ≤ ·) w (orNil (pairErr l1 l2) (diffImgs l1 l2)) (pairErr l1 l2)) := by
  by_cases he : pairErr l1 l2 = 0
  rotate_left
  · have hb : (pairErr l1 l2 != 0) = true := by simp [he]
    have HE := Lib.hid he; clear he
    go_enter Try.func31, Try.ntmps31
    go_wp2_with fail
    refine (pairR_any h1 h2 hn1 hn2).mono ?_
    rintro e w1 ⟨rfl, hB1⟩
    go_wp2
    go_ret2
    exact RetSlE.mk rfl (by rw [orNil_bad HE.out]; exact Sl.nil0 _ _ _) hB1
  have hb : (pairErr l1 l2 != 0) = false := by simp [he]
  obtain rfl : n1 = n2 := by
    have := congrArg List.length (pairErr_ok he).2.2
    simp [lens, h1.len, h2.len] at this; exact this
  have HE := Lib.hid he; clear he
  have hlz : (diffImgs l1 l2).length = n1 := by simp [diffImgs, h1.len, h2.len]
  have HZ := Lib.hid hlz; clear hlz
  go_enter Try.func31, Try.ntmps31
  go_wp2_with fail
  refine (pairR_any h1 h2 hn1 hn2).mono ?_
  rintro e w1 ⟨rfl, hB1⟩
  go_wp2
  go_loopw [7, 8] (fun v i wr => ∃ k : Nat, k ≤ n1 ∧ i = .int .i64 k ∧ OwnD ownExts w.heap.size wr.heap.size 80 wr v ((diffImgs l1 l2).take k) ∧ Below w.heap.size w wr) (fun _ i _ => n1 - (intOf i).toNat)
  case atStart => exact ⟨0, Nat.zero_le _, rfl, OwnD.nil _ _ _ _ _, hB1⟩
  case round =>
    obtain ⟨k, hk, rfl, hown, hB⟩ := hrel
    by_cases hlt : k < n1
    · obtain ⟨b1, o1, rfl, _, hb1⟩ := h1.addr hlt
      obtain ⟨b2, o2, rfl, _, hb2⟩ := h2.addr hlt
      obtain ⟨x, hx⟩ := h1.get hlt
      obtain ⟨y, hy⟩ := h2.get hlt
      have HD : Hid ((diffImgs l1 l2)[k]? = some (extents x y)) := diffImgs_get hx hy
      obtain ⟨a1', n1', c1', hc1, hx1⟩ := (h1.below hB).slice hx
      obtain ⟨a2', n2', c2', hc2, hy1⟩ := (h2.below hB).slice hy
      have hnn : n2' = n1' := by
        have := congrArg (fun l : List Int => l[k]?) (pairErr_ok HE.out).2.2
        simp [lens, hx, hy, hx1.len, hy1.len] at this; omega
      subst hnn
      have hn3 : n2' ≤ 1000000 := by rw [← hx1.len]; exact hv x (List.mem_of_getElem? hx)
      have hownl := hown.lt
      have hle := ownOr_le (v := u7) (d := wr.heap.size) hB.size (fun k hk => (hownl k hk).1)
      have hl1 := cellLaterB (g := ownOr u7 wr.heap.size) hc1 (by simp only; omega)
      have hl2 := cellLaterB (g := ownOr u7 wr.heap.size) hc2 (by simp only; omega)
      have hlen : ((diffImgs l1 l2).take k).length = k := by have := HZ.out; simp; omega
      have HL := Lib.hid hlen; clear hlen
      have HX := Lib.hid hx; clear hx
      have HY := Lib.hid hy; clear hy
      go_wp2_with fail
      refine wp_region_acts (fun w' => ∃ x : LaterB (wr) (ownOr u7 wr.heap.size), w' = x.w) [([0, 1, 2, 3, 4, 5, 6, 7, 8], 9), ([], 10), ([], 11)] [12] Try.mixed (by kernel_rfl) (LaterB.drew _ _) ?_
      refine wpActs_act ?_
      simp only [pick, List.filterMap_cons, List.filterMap_nil, List.getElem?_toArray, List.getElem?_cons_succ, List.getElem?_cons_zero]
      change wpQuiet _ _ _ _ [_, _, _, _, _, _, _, _, _] _
      repeat (go_big_quiet_step (fail))
      refine wpQuiet_nil ?_
      change wpList _ _ _ [_] _ _
      go_wp2_with fail
      refine (volumeDiffer_any (hx1.below ((Below.refl _ _).drew)) (hy1.below ((Below.refl _ _).drew)) hn3).mono ?_
      rintro e w2 ⟨v2, rfl, hrd, hB2⟩
      obtain ⟨a4, n4, c4, rfl, _⟩ := ownRowR.sl (Flat.pair Flat.int Flat.int) hrd
      have hB3 : Below wr.heap.size wr w2 := ((Below.refl _ _).drew).trans hB2
      go_wp2_with fail
      refine ⟨LaterB.of (grown_row (below_grown hB3)), ?_⟩
      refine wpActs_act ?_
      simp only [pick, List.filterMap_cons, List.filterMap_nil, List.getElem?_toArray, List.getElem?_cons_succ, List.getElem?_cons_zero]
      change wpQuiet _ _ _ _ [] _
      repeat (go_big_quiet_step (fail))
      refine wpQuiet_nil ?_
      change wpList _ _ _ [_] _ _
      go_wp2_with fail
      have hB4 : Below wr.heap.size wr (w2.alloc (.cells #[.slice a4 n4 c4] 80)) := hB3.trans ((Below.refl _ _).alloc hB3.size _)
      refine ⟨LaterB.of (grown_row (below_grown hB4)), ?_⟩
      refine wpActs_act ?_
      simp only [pick, List.filterMap_cons, List.filterMap_nil, List.getElem?_toArray, List.getElem?_cons_succ, List.getElem?_cons_zero]
      change wpQuiet _ _ _ _ [] _
      repeat (go_big_quiet_step (fail))
      refine wpQuiet_nil ?_
      change wpList _ _ _ [_] _ _
      have hz3 := hB3.size
      have hz0 := hB.size
      refine wpList_appD Try.slExts rfl _ _ rfl rfl (hown.below hB4) rfl (news_new w2 80 #[.slice a4 n4 c4]) (rd_alloc hrd) (fun k hk => (hownl k hk).2) ?c1 ?c2 ?c3 ?c4 ?_
      case c1 => rw [HL.out]; unfold maxLen; omega
      case c2 => rw [HL.out]; omega
      case c3 => exact hz0
      case c4 => simp; omega
      intro v' w3 hown1 hgrow _
      have hg3 : wr.grownBy w3 u7.ownBlock := grown_trans (grown_row (below_grown hB4)) hgrow
      go_wp2_with fail
      refine ⟨LaterB.of (grown_own hg3 _), ?_⟩
      refine wpActs_last ?_
      simp only [pick, List.filterMap_cons, List.filterMap_nil, List.getElem?_toArray, List.getElem?_cons_succ, List.getElem?_cons_zero]
      change wpQuiet _ _ _ _ [_] _
      repeat (go_big_quiet_step (fail))
      refine wpQuiet_nil ?_
      go_wp2
      go_roundw
      case rel => exact ⟨k + 1, by omega, by go_num, by rw [take_succ_get HD.out]; exact hown1, hB.grown hg3 hB.size (fun k hk => (hownl k hk).1)⟩
      case measure => simp [intOf]; omega
    · obtain rfl : k = n1 := by omega
      rw [take_all HZ.out] at hown
      obtain ⟨a3, n3, c3, rfl, h3⟩ := hown.exts
      go_wp2
      go_ret2
      exact RetSlE.mk HE.out.symm (by rw [orNil_ok HE.out]; exact h3) hB
end Go.Proofs.Ytldnpgbacakfeaa
