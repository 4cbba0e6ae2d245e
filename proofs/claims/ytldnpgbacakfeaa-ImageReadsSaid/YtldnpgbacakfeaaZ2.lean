/-
  Part 2 of the texts that the statement stands on.
-/
import Derived.Test.YtldnpgbacakfeaaZ1
import Derived.WalkKit
import Derived.Lib.LazyBuf
namespace Go.Proofs.Ytldnpgbacakfeaa
open Go.RowKit

def pairErr (a b : List (List Sec)) : Int := if imgErr a ≠ 0 then imgErr a else if imgErr b ≠ 0 then imgErr b else if lens a = lens b then 0 else 22

set_option maxRecDepth 100000 in
set_option maxHeartbeats 2000000 in
theorem pairI_any {a1 a2 : Option Addr} {n1 c1 n2 c2 : Nat} {l1 l2 : List (List Sec)} {ok1 ok2 : Nat → Prop} {w : World} (h1 : Sl secsR ok1 w a1 n1 c1 l1) (h2 : Sl secsR ok2 w a2 n2 c2 l2) (hn1 : n1 ≤ 1000000) (hn2 : n2 ≤ 1000000) :
    Calls Try.prog 54 #[.slice a1 n1 c1, .slice a2 n2 c2] w fun e w' => e = .returned (.int .i64 (pairErr l1 l2)) ∧ Below w.heap.size w w' := by
  have hp : ∀ P : Int → Prop, (imgErr l1 ≠ 0 → P (imgErr l1)) → (imgErr l1 = 0 → imgErr l2 ≠ 0 → P (imgErr l2)) → (imgErr l1 = 0 → imgErr l2 = 0 → lens l1 ≠ lens l2 → P 22) → (imgErr l1 = 0 → imgErr l2 = 0 → lens l1 = lens l2 → P 0) → P (pairErr l1 l2) := by
    intro P g1 g2 g3 g4
    unfold pairErr
    by_cases e1 : imgErr l1 = 0
    · rw [if_neg (not_not_intro e1)]
      by_cases e2 : imgErr l2 = 0
      · rw [if_neg (not_not_intro e2)]
        by_cases e3 : lens l1 = lens l2
        · rw [if_pos e3]; exact g4 e1 e2 e3
        · rw [if_neg e3]; exact g3 e1 e2 e3
      · rw [if_pos e2]; exact g2 e1 e2
    · rw [if_pos e1]; exact g1 e1
  have HP := Lib.hid hp; clear hp
  go_enter Try.func54, Try.ntmps54
  go_wp2
  go_loopw [12] (fun i wr => ∃ k : Nat, k ≤ 2 ∧ i = .int .i64 k ∧ (1 ≤ k → imgErr l1 = 0) ∧ (2 ≤ k → imgErr l2 = 0) ∧ Below (w.heap.size + 1) (w.alloc (.cells #[.slice a1 n1 c1, .slice a2 n2 c2] 24)) wr) (fun i _ => 2 - (intOf i).toNat)
  case atStart => exact ⟨0, Nat.zero_le _, rfl, fun h => by omega, fun h => by omega, Below.refl _ _⟩
  case round =>
    obtain ⟨k, hk, rfl, he1, he2, hB⟩ := hrel
    have hB0 : Below w.heap.size w wr := ((Below.refl _ w).alloc (Nat.le_refl _) _).trans (hB.mono (by omega))
    have hc0 : wr.cell? ⟨w.heap.size, 0, none⟩ = some (.slice a1 n1 c1) := boxCell (by simpa using hB) (j := 0) rfl
    have hc1 : wr.cell? ⟨w.heap.size, 1, none⟩ = some (.slice a2 n2 c2) := boxCell (by simpa using hB) (j := 1) rfl
    match k, hk with
    | 0, _ =>
      by_cases he : imgErr l1 = 0
      · have hb : (imgErr l1 != 0) = false := by simp [he]
        have HE := Lib.hid he; clear he
        go_wp2_with fail
        refine (checkI_any (h1.below hB0) hn1).mono ?_
        rintro e w2 ⟨rfl, hB2⟩
        go_wp2
        go_roundw
        case rel => exact ⟨1, by omega, by go_num, fun _ => HE.out, fun h => by omega, hB.trans (hB2.mono (by have := hB.size; simp at this; omega))⟩
        case measure => simp [intOf]
      · have hb : (imgErr l1 != 0) = true := by simp [he]
        have HE := Lib.hid he; clear he
        go_wp2_with fail
        refine (checkI_any (h1.below hB0) hn1).mono ?_
        rintro e w2 ⟨rfl, hB2⟩
        go_wp2
        go_ret
        exact ⟨HP.out (fun z => Ending.returned (Value.int .i64 _) = .returned (.int .i64 z)) (fun _ => rfl) (fun g => absurd g HE.out) (fun g => absurd g HE.out) (fun g => absurd g HE.out), hB0.trans (hB2.mono hB0.size)⟩
    | 1, _ =>
      have HE1 := Lib.hid (he1 (by omega))
      clear he1 he2
      by_cases he : imgErr l2 = 0
      · have hb : (imgErr l2 != 0) = false := by simp [he]
        have HE := Lib.hid he; clear he
        go_wp2_with fail
        refine (checkI_any (h2.below hB0) hn2).mono ?_
        rintro e w2 ⟨rfl, hB2⟩
        go_wp2
        go_roundw
        case rel => exact ⟨2, by omega, by go_num, fun _ => HE1.out, fun _ => HE.out, hB.trans (hB2.mono (by have := hB.size; simp at this; omega))⟩
        case measure => simp [intOf]
      · have hb : (imgErr l2 != 0) = true := by simp [he]
        have HE := Lib.hid he; clear he
        go_wp2_with fail
        refine (checkI_any (h2.below hB0) hn2).mono ?_
        rintro e w2 ⟨rfl, hB2⟩
        go_wp2
        go_ret
        exact ⟨HP.out (fun z => Ending.returned (Value.int .i64 _) = .returned (.int .i64 z)) (fun g => absurd HE1.out g) (fun _ _ => rfl) (fun _ g => absurd g HE.out) (fun _ g => absurd g HE.out), hB0.trans (hB2.mono hB0.size)⟩
    | 2, _ =>
      have HE1 := Lib.hid (he1 (by omega))
      have HE2 := Lib.hid (he2 (by omega))
      clear he1 he2
      go_wp2_with fail
      refine (sizesI_any (h1.below hB0) hn1).mono ?_
      rintro e w2 ⟨a3, n3, c3, rfl, h3, hB2⟩
      go_wp2_with fail
      refine (sizesI_any ((h2.below hB0).below hB2) hn2).mono ?_
      rintro e w3 ⟨a4, n4, c4, rfl, h4, hB3⟩
      go_wp2_with fail
      refine (equal_int (h3.below hB3) h4).mono ?_
      rintro e w4 ⟨rfl, hB4⟩
      have hB5 : Below w.heap.size w w4 := ((hB0.trans (hB2.mono hB0.size)).trans (hB3.mono (Nat.le_trans hB0.size hB2.size))).trans (hB4.mono (Nat.le_trans (Nat.le_trans hB0.size hB2.size) hB3.size))
      by_cases he : lens l1 = lens l2
      · have hb : (lens l1 == lens l2) = true := by simp [he]
        have HE := Lib.hid he; clear he
        go_wp2
        go_ret
        exact ⟨HP.out (fun z => Ending.returned (Value.int .i64 _) = .returned (.int .i64 z)) (fun g => absurd HE1.out g) (fun _ g => absurd HE2.out g) (fun _ _ g => absurd HE.out g) (fun _ _ _ => rfl), hB5⟩
      · have hb : (lens l1 == lens l2) = false := by simp [he]
        have HE := Lib.hid he; clear he
        go_wp2
        go_ret
        exact ⟨HP.out (fun z => Ending.returned (Value.int .i64 _) = .returned (.int .i64 z)) (fun g => absurd HE1.out g) (fun _ g => absurd HE2.out g) (fun _ _ _ => rfl) (fun _ _ g => absurd g HE.out), hB5⟩
theorem lens_take {l : List (List Sec)} {k : Nat} : (lens l).take k = lens (l.take k) := by simp [lens, List.map_take]

set_option maxRecDepth 100000 in
set_option maxHeartbeats 2000000 in
theorem pairR_any {a1 a2 : Option Addr} {n1 c1 n2 c2 : Nat} {l1 l2 : List (List Sec)} {ok1 ok2 : Nat → Prop} {w : World} (h1 : Sl secsR ok1 w a1 n1 c1 l1) (h2 : Sl secsR ok2 w a2 n2 c2 l2) (hn1 : n1 ≤ 1000000) (hn2 : n2 ≤ 1000000) :
    Calls Try.prog 59 #[.slice a1 n1 c1, .slice a2 n2 c2] w fun e w' => e = .returned (.int .i64 (pairErr l1 l2)) ∧ Below w.heap.size w w' := by
  have hs1 := h1.small
  have hs2 := h2.small
  by_cases e1 : imgErr l1 = 0
  rotate_left
  · have hb : (imgErr l1 != 0) = true := by simp [e1]
    have HE := Lib.hid e1; clear e1
    go_enter Try.func59, Try.ntmps59
    go_wp2_with fail
    refine (check_any h1 hn1).mono ?_
    rintro e w1 ⟨rfl, hB1⟩
    go_wp2
    go_ret
    exact ⟨ret_int (by rw [pairErr, if_pos HE.out]), hB1⟩
  by_cases e2 : imgErr l2 = 0
  rotate_left
  · have hb1 : (imgErr l1 != 0) = false := by simp [e1]
    have hb : (imgErr l2 != 0) = true := by simp [e2]
    have HE1 := Lib.hid e1; clear e1
    have HE := Lib.hid e2; clear e2
    go_enter Try.func59, Try.ntmps59
    go_wp2_with fail
    refine (check_any h1 hn1).mono ?_
    rintro e w1 ⟨rfl, hB1⟩
    go_wp2_with fail
    refine (check_any (h2.below hB1) hn2).mono ?_
    rintro e w2 ⟨rfl, hB2⟩
    go_wp2
    go_ret
    exact ⟨ret_int (by rw [pairErr, if_neg (not_not_intro HE1.out), if_pos HE.out]), hB1.trans (hB2.mono hB1.size)⟩
  have hb1 : (imgErr l1 != 0) = false := by simp [e1]
  have hb2 : (imgErr l2 != 0) = false := by simp [e2]
  have HP : Hid (pairErr l1 l2 = if lens l1 = lens l2 then 0 else 22) := by show _ = _; rw [pairErr, if_neg (not_not_intro e1), if_neg (not_not_intro e2)]
  clear e1 e2
  by_cases hn : n1 = n2
  rotate_left
  · have HN : Hid (lens l1 ≠ lens l2) := by intro e; have := congrArg List.length e; simp [lens, h1.len, h2.len] at this; exact hn this
    go_enter Try.func59, Try.ntmps59
    go_wp2_with fail
    refine (check_any h1 hn1).mono ?_
    rintro e w1 ⟨rfl, hB1⟩
    go_wp2_with fail
    refine (check_any (h2.below hB1) hn2).mono ?_
    rintro e w2 ⟨rfl, hB2⟩
    go_wp2
    go_ret
    exact ⟨ret_int (by rw [HP.out, if_neg HN.out]), hB1.trans (hB2.mono hB1.size)⟩
  subst hn
  go_enter Try.func59, Try.ntmps59
  go_wp2_with fail
  refine (check_any h1 hn1).mono ?_
  rintro e w1 ⟨rfl, hB1⟩
  go_wp2_with fail
  refine (check_any (h2.below hB1) hn2).mono ?_
  rintro e w2 ⟨rfl, hB2⟩
  have hB0 := hB1.trans (hB2.mono hB1.size)
  go_wp2
  go_loopw [7] (fun i wr => ∃ k : Nat, k ≤ n1 ∧ i = .int .i64 k ∧ Hid (lens (l1.take k) = lens (l2.take k)) ∧ Below w2.heap.size w2 wr) (fun i _ => n1 - (intOf i).toNat)
  case atStart => exact ⟨0, Nat.zero_le _, rfl, rfl, Below.refl _ _⟩
  case round =>
    obtain ⟨k, hk, rfl, HT, hB⟩ := hrel
    have hB3 := hB0.trans (hB.mono hB0.size)
    by_cases hlt : k < n1
    · obtain ⟨b1, o1, rfl, _, _⟩ := h1.addr hlt
      obtain ⟨b2, o2, rfl, _, _⟩ := h2.addr hlt
      obtain ⟨x, hx⟩ := h1.get hlt
      obtain ⟨y, hy⟩ := h2.get hlt
      obtain ⟨a1', n1', c1', hc1, hx1⟩ := (h1.below hB3).slice hx
      obtain ⟨a2', n2', c2', hc2, hy1⟩ := (h2.below hB3).slice hy
      have hl1 := cellLater hc1
      have hl2 := cellLater hc2
      have hsx := hx1.small
      have hsy := hy1.small
      have HX := Lib.hid hx
      have HY := Lib.hid hy
      clear hx hy
      by_cases hxy : n1' = n2'
      · subst hxy
        have hbb : ((n1' : Int) != n1') = false := by simp
        go_wp2_with fail
        refine wp_region_quiet_lit (by kernel_rfl) (by kernel_rfl) ?_
        repeat (go_big_quiet_step (fail))
        refine wpQuiet_nil ?_
        rintro _ ⟨nq, rfl⟩
        go_wp2
        go_roundw
        case rel => exact ⟨k + 1, by omega, by go_num, by
          show _ = _
          rw [take_succ_get HX.out, take_succ_get HY.out, lens, List.map_append, lens, List.map_append, show List.map _ (l1.take k) = List.map _ (l2.take k) from HT.out]
          simp [hx1.len, hy1.len], below_drewN hB _⟩
        case measure => simp [intOf]; omega
      · have hbb : ((n1' : Int) != n2') = true := by simp; omega
        have HN : Hid (lens l1 ≠ lens l2) := by
          intro e
          have := congrArg (fun l : List Int => l[k]?) e
          simp [lens, HX.out, HY.out, hx1.len, hy1.len] at this
          exact hxy (by omega)
        clear hxy
        go_wp2_with fail
        refine wp_region_quiet_lit (by kernel_rfl) (by kernel_rfl) ?_
        repeat (go_big_quiet_step (fail))
        refine wpQuiet_nil ?_
        rintro _ ⟨nq, rfl⟩
        go_wp2
        go_ret
        exact ⟨ret_int (by rw [HP.out, if_neg HN.out]), below_drewN hB3 _⟩
    · obtain rfl : k = n1 := by omega
      have HE : Hid (lens l1 = lens l2) := by have := HT.out; rwa [take_all h1.len, take_all h2.len] at this
      go_wp2
      go_ret
      exact ⟨ret_int (by rw [HP.out, if_pos HE.out]), hB3⟩

end Go.Proofs.Ytldnpgbacakfeaa

namespace Go.Proofs.Ytldnpgbacakfeaa
open Go.RowKit

def diffImgs (a b : List (List Sec)) : List (List Ext) := List.zipWith extents a b
theorem diffImgs_get {a b : List (List Sec)} {k : Nat} {x y : List Sec} (hx : a[k]? = some x) (hy : b[k]? = some y) : (diffImgs a b)[k]? = some (extents x y) := by
  simp [diffImgs, List.getElem?_zipWith, hx, hy]
theorem pairErr_ok {a b : List (List Sec)} (h : pairErr a b = 0) : imgErr a = 0 ∧ imgErr b = 0 ∧ lens a = lens b := by
  unfold pairErr at h
  split at h
  · rename_i h1; exact absurd h h1
  · rename_i h1
    split at h
    · rename_i h2; exact absurd h h2
    · rename_i h2
      split at h
      · rename_i h3; exact ⟨Decidable.not_not.1 h1, Decidable.not_not.1 h2, h3⟩
      · cases h

def ownOr (v : Value) (d : Nat) : Nat := v.ownBlock.getD d
theorem grown_own {v : Value} {w w' : World} (h : w.grownBy w' v.ownBlock) (d : Nat) : w.grownBy w' (some (ownOr v d)) := by
  unfold ownOr
  cases e : v.ownBlock with
  | none => rw [e] at h; exact grown_row h
  | some b => rw [e] at h; exact h
theorem ownOr_le {v : Value} {d B : Nat} (hd : B ≤ d) (h : ∀ k, v.ownBlock = some k → B ≤ k) : B ≤ ownOr v d := by
  unfold ownOr
  cases e : v.ownBlock with
  | none => exact hd
  | some b => exact h b e

theorem ownExts_exts {ok : Nat → Prop} {w : World} {cs : List Value} {x : List Ext} (h : ownExts.rd ok w cs x) : extsR.rd ok w cs x := by
  obtain ⟨v, rfl, h1⟩ := h
  obtain ⟨a, n, c, rfl, h2⟩ := ownRowR.sl (Flat.pair Flat.int Flat.int) (v := v) ⟨v, rfl, h1⟩
  exact ⟨a, n, c, rfl, h2⟩
theorem OwnD.exts {B F : Nat} {E : TypeId} {w : World} {v : Value} {l : List (List Ext)} (h : OwnD ownExts B F E w v l) : ∃ a n c, v = .slice a n c ∧ Sl extsR (B ≤ ·) w a n c l :=
  let ⟨a, n, c, e, h⟩ := h.sl; ⟨a, n, c, e, Sl.imp (r := ownExts) (s := extsR) rfl (fun _ _ g => ownExts_exts g) h⟩

set_option maxRecDepth 100000 in
set_option maxHeartbeats 2000000 in
theorem differI_any {a1 a2 : Option Addr} {n1 c1 n2 c2 : Nat} {l1 l2 : List (List Sec)} {ok1 ok2 : Nat → Prop} {w : World} (h1 : Sl secsR ok1 w a1 n1 c1 l1) (h2 : Sl secsR ok2 w a2 n2 c2 l2) (hn1 : n1 ≤ 1000000) (hn2 : n2 ≤ 1000000)
    (hv : ∀ v ∈ l1, v.length ≤ 1000000) : Calls Try.prog 26 #[.slice a1 n1 c1, .slice a2 n2 c2] w (RetSlE extsR (w.heap.size ≤ ·) w (orNil (pairErr l1 l2) (diffImgs l1 l2)) (pairErr l1 l2)) := by
  by_cases he : pairErr l1 l2 = 0
  rotate_left
  · have hb : (pairErr l1 l2 != 0) = true := by simp [he]
    have HE := Lib.hid he; clear he
    go_enter Try.func26, Try.ntmps26
    go_wp2_with fail
    refine (pairI_any h1 h2 hn1 hn2).mono ?_
    rintro e w1 ⟨rfl, hB1⟩
    go_wp2
    go_ret2
    exact RetSlE.mk rfl (by rw [orNil_bad HE.out]; exact Sl.nil0 _ _ _) hB1
  have hb : (pairErr l1 l2 != 0) = false := by simp [he]
  obtain rfl : n1 = n2 := by
    have := congrArg List.length (pairErr_ok he).2.2
    simp [lens, h1.len, h2.len] at this; exact this
  have HE := Lib.hid he; clear he
  have hlz : (diffImgs l1 l2).length = n1 := by simp [diffImgs, h1.len, h2.len]
  have HZ := Lib.hid hlz; clear hlz
  go_enter Try.func26, Try.ntmps26
  go_wp2_with fail
  refine (pairI_any h1 h2 hn1 hn2).mono ?_
  rintro e w1 ⟨rfl, hB1⟩
  go_wp2
  go_loopw [7, 17] (fun v i wr => ∃ k : Nat, k ≤ n1 ∧ i = .int .i64 k ∧ OwnD ownExts w.heap.size wr.heap.size 80 wr v ((diffImgs l1 l2).take k) ∧ Below w.heap.size w wr) (fun _ i _ => n1 - (intOf i).toNat)
  case atStart => exact ⟨0, Nat.zero_le _, rfl, OwnD.nil _ _ _ _ _, hB1⟩
  case round =>
    obtain ⟨k, hk, rfl, hown, hB⟩ := hrel
    by_cases hlt : k < n1
    · obtain ⟨b1, o1, rfl, _, hb1⟩ := h1.addr hlt
      obtain ⟨b2, o2, rfl, _, hb2⟩ := h2.addr hlt
      obtain ⟨x, hx⟩ := h1.get hlt
      obtain ⟨y, hy⟩ := h2.get hlt
      have HD : Hid ((diffImgs l1 l2)[k]? = some (extents x y)) := diffImgs_get hx hy
      obtain ⟨a1', n1', c1', hc1, hx1⟩ := (h1.below hB).slice hx
      obtain ⟨a2', n2', c2', hc2, hy1⟩ := (h2.below hB).slice hy
      have hnn : n2' = n1' := by
        have := congrArg (fun l : List Int => l[k]?) (pairErr_ok HE.out).2.2
        simp [lens, hx, hy, hx1.len, hy1.len] at this; omega
      subst hnn
      have hn3 : n2' ≤ 1000000 := by rw [← hx1.len]; exact hv x (List.mem_of_getElem? hx)
      have hownl := hown.lt
      have hle := ownOr_le (v := u7) (d := wr.heap.size) hB.size (fun k hk => (hownl k hk).1)
      have hl1 := cellLaterB (g := ownOr u7 wr.heap.size) hc1 (by simp only; omega)
      have hl2 := cellLaterB (g := ownOr u7 wr.heap.size) hc2 (by simp only; omega)
      have hlen : ((diffImgs l1 l2).take k).length = k := by have := HZ.out; simp; omega
      have HL := Lib.hid hlen; clear hlen
      have HX := Lib.hid hx; clear hx
      have HY := Lib.hid hy; clear hy
      go_wp2_with fail
      refine wp_region_acts (fun w' => ∃ x : LaterB (wr) (ownOr u7 wr.heap.size), w' = x.w) [([0, 1, 2, 3, 4, 5, 6, 7, 8], 9), ([], 10), ([], 11)] [12] Try.mixed (by kernel_rfl) (LaterB.drew _ _) ?_
      refine wpActs_act ?_
      simp only [pick, List.filterMap_cons, List.filterMap_nil, List.getElem?_toArray, List.getElem?_cons_succ, List.getElem?_cons_zero]
      change wpQuiet _ _ _ _ [_, _, _, _, _, _, _, _, _] _
      repeat (go_big_quiet_step (fail))
      refine wpQuiet_nil ?_
      change wpList _ _ _ [_] _ _
      go_wp2_with fail
      refine (extents_any (hx1.below ((Below.refl _ _).drew)) (hy1.below ((Below.refl _ _).drew)) hn3).mono ?_
      rintro e w2 ⟨v2, rfl, hrd, hB2⟩
      obtain ⟨a4, n4, c4, rfl, _⟩ := ownRowR.sl (Flat.pair Flat.int Flat.int) hrd
      have hB3 : Below wr.heap.size wr w2 := ((Below.refl _ _).drew).trans hB2
      go_wp2_with fail
      refine ⟨LaterB.of (grown_row (below_grown hB3)), ?_⟩
      refine wpActs_act ?_
      simp only [pick, List.filterMap_cons, List.filterMap_nil, List.getElem?_toArray, List.getElem?_cons_succ, List.getElem?_cons_zero]
      change wpQuiet _ _ _ _ [] _
      repeat (go_big_quiet_step (fail))
      refine wpQuiet_nil ?_
      change wpList _ _ _ [_] _ _
      go_wp2_with fail
      have hB4 : Below wr.heap.size wr (w2.alloc (.cells #[.slice a4 n4 c4] 80)) := hB3.trans ((Below.refl _ _).alloc hB3.size _)
      refine ⟨LaterB.of (grown_row (below_grown hB4)), ?_⟩
      refine wpActs_act ?_
      simp only [pick, List.filterMap_cons, List.filterMap_nil, List.getElem?_toArray, List.getElem?_cons_succ, List.getElem?_cons_zero]
      change wpQuiet _ _ _ _ [] _
      repeat (go_big_quiet_step (fail))
      refine wpQuiet_nil ?_
      change wpList _ _ _ [_] _ _
      have hz3 := hB3.size
      have hz0 := hB.size
      refine wpList_appD Try.slExts rfl _ _ rfl rfl (hown.below hB4) rfl (news_new w2 80 #[.slice a4 n4 c4]) (rd_alloc hrd) (fun k hk => (hownl k hk).2) ?c1 ?c2 ?c3 ?c4 ?_
      case c1 => rw [HL.out]; unfold maxLen; omega
      case c2 => rw [HL.out]; omega
      case c3 => exact hz0
      case c4 => simp; omega
      intro v' w3 hown1 hgrow _
      have hg3 : wr.grownBy w3 u7.ownBlock := grown_trans (grown_row (below_grown hB4)) hgrow
      go_wp2_with fail
      refine ⟨LaterB.of (grown_own hg3 _), ?_⟩
      refine wpActs_last ?_
      simp only [pick, List.filterMap_cons, List.filterMap_nil, List.getElem?_toArray, List.getElem?_cons_succ, List.getElem?_cons_zero]
      change wpQuiet _ _ _ _ [_] _
      repeat (go_big_quiet_step (fail))
      refine wpQuiet_nil ?_
      go_wp2
      go_roundw
      case rel => exact ⟨k + 1, by omega, by go_num, by rw [take_succ_get HD.out]; exact hown1, hB.grown hg3 hB.size (fun k hk => (hownl k hk).1)⟩
      case measure => simp [intOf]; omega
    · obtain rfl : k = n1 := by omega
      rw [take_all HZ.out] at hown
      obtain ⟨a3, n3, c3, rfl, h3⟩ := hown.exts
      go_wp2
      go_ret2
      exact RetSlE.mk HE.out.symm (by rw [orNil_ok HE.out]; exact h3) hB
end Go.Proofs.Ytldnpgbacakfeaa

namespace Go.Proofs.Ytldnpgbacakfeaa
open Go.RowKit

set_option maxRecDepth 100000 in
set_option maxHeartbeats 4000000 in
theorem volumeDiffer_any {a1 a2 : Option Addr} {n c1 c2 : Nat} {l1 l2 : List Sec} {ok1 ok2 : Nat → Prop} {w : World} (h1 : Sl secR ok1 w a1 n c1 l1) (h2 : Sl secR ok2 w a2 n c2 l2) (hn : n ≤ 1000000) :
    Calls Try.prog 60 #[.slice a1 n c1, .slice a2 n c2] w fun e w' => ∃ v, e = .returned v ∧ ownExts.rd (w.heap.size ≤ ·) w' [v] (extents l1 l2) ∧ Below w.heap.size w w' := by
  have hs := h1.small
  go_enter Try.func60, Try.ntmps60
  go_wp2
  go_loopw [5, 6] (fun v i wr => ∃ k : Nat, k ≤ n ∧ i = .int .i64 k ∧ Own extR w.heap.size 59 (fun _ => False) wr v (runs (diffs l1 l2 k)) ∧ (runs (diffs l1 l2 k) = [] → v = .slice none 0 0) ∧ Within n (runs (diffs l1 l2 k)) ∧ Below w.heap.size w wr) (fun _ i _ => n - (intOf i).toNat)
  case atStart => exact ⟨0, Nat.zero_le _, rfl, Own.nil _ _ _ _ _, fun _ => rfl, Within.nil _, Below.refl _ _⟩
  case round =>
    obtain ⟨k, hk, rfl, hown, hnil, hW, hB⟩ := hrel
    have hz := hB.size
    by_cases hlt : k < n
    · obtain ⟨b1, o1, rfl, _, _⟩ := h1.addr hlt
      obtain ⟨b2, o2, rfl, _, _⟩ := h2.addr hlt
      obtain ⟨x, hx⟩ := h1.get hlt
      obtain ⟨y, hy⟩ := h2.get hlt
      have hL1 := Try.secLater (h1.below hB) hx
      have hL2 := Try.secLater (h2.below hB) hy
      have hE := Try.eqSec x y
      have hlen : (runs (diffs l1 l2 k)).length ≤ k := Nat.le_trans (runs_length _) (diffs_length _ _ _)
      have hown2 := hown.below (((Below.refl wr.heap.size wr).drew.drew).alloc (Nat.le_refl wr.heap.size) (.cells #[.int .i64 k, .int .i64 1] 59))
      have hsrc2 : Src extR (fun b => False ∧ Option.some b ≠ u5.ownBlock) (wr.drew.drew.alloc (.cells #[.int .i64 k, .int .i64 1] 59)) (some ⟨wr.drew.drew.heap.size, 0, none⟩) 1 1 [((k : Int), (1 : Int))] :=
        Src.flat (Flat.pair Flat.int Flat.int) (ok := fun _ => True) (Src.new1 (r := extR) (x := ((k : Int), (1 : Int))) (show extR.rd _ _ [.int .i64 k, .int .i64 1] ((k : Int), (1 : Int)) from ⟨[_], [_], rfl, ⟨rfl, i64ok_nat (by unfold maxLen; omega)⟩, ⟨rfl, by unfold i64ok; omega⟩⟩))
      cases hxy : x == y with
      | true =>
        rw [hxy] at hE
        have HE : Hid (diffs l1 l2 (k + 1) = diffs l1 l2 k) := diffs_miss (by rw [hx, hy, eq_of_beq hxy])
        clear hxy hx hy hlen
        go_wp2_with fail
        refine wp_region_acts (fun w' => ∃ x : Later (wr), w' = x.w) [] [0, 1, 2, 3, 4, 5, 6, 7, 8] Try.mixed (by kernel_rfl) (LaterS.drew _) ?_
        refine wpActs_last ?_
        simp only [pick, List.filterMap_cons, List.filterMap_nil, List.getElem?_toArray, List.getElem?_cons_succ, List.getElem?_cons_zero]
        change wpQuiet _ _ _ _ [_, _, _, _, _, _, _, _, _] _
        repeat (first | (go_big_quiet_want; refine quiet_load _ (.tmp 16) rfl _ rfl _ hL1 ?_; go_big_quiet_on; simp only [Act.put, List.setIfInBounds_toArray, List.set_cons_zero, List.set_cons_succ]) | (go_big_quiet_want; refine quiet_load _ (.tmp 20) rfl _ rfl _ hL2 ?_; go_big_quiet_on; simp only [Act.put, List.setIfInBounds_toArray, List.set_cons_zero, List.set_cons_succ]) | go_big_quiet_step (fail))
        refine wpQuiet_nil ?_
        go_wp2
        go_roundw
        case rel => exact ⟨k + 1, by omega, by go_num, by rw [HE.out]; exact hown.below (Below.refl _ _).drew, by rw [HE.out]; exact hnil, by rw [HE.out]; exact hW, hB.drew⟩
        case measure => simp [intOf]; omega
      | false =>
        rw [hxy] at hE
        have HE : Hid (diffs l1 l2 (k + 1) = diffs l1 l2 k ++ [k]) := diffs_hit (by rw [hx, hy]; intro e; rw [Option.some.inj e] at hxy; simp at hxy)
        clear hxy hx hy
        generalize hR : runs (diffs l1 l2 k) = R at *
        have HR := Lib.hid hR; clear hR
        by_cases hR0 : R = []
        · obtain rfl := hnil hR0
          subst hR0
          go_wp2_with fail
          refine wp_region_acts (fun w' => ∃ x : Later (wr), w' = x.w) [] [0, 1, 2, 3, 4, 5, 6, 7, 8] Try.mixed (by kernel_rfl) (LaterS.drew _) ?_
          refine wpActs_last ?_
          simp only [pick, List.filterMap_cons, List.filterMap_nil, List.getElem?_toArray, List.getElem?_cons_succ, List.getElem?_cons_zero]
          change wpQuiet _ _ _ _ [_, _, _, _, _, _, _, _, _] _
          repeat (first | (go_big_quiet_want; refine quiet_load _ (.tmp 16) rfl _ rfl _ hL1 ?_; go_big_quiet_on; simp only [Act.put, List.setIfInBounds_toArray, List.set_cons_zero, List.set_cons_succ]) | (go_big_quiet_want; refine quiet_load _ (.tmp 20) rfl _ rfl _ hL2 ?_; go_big_quiet_on; simp only [Act.put, List.setIfInBounds_toArray, List.set_cons_zero, List.set_cons_succ]) | go_big_quiet_step (fail))
          refine wpQuiet_nil ?_
          go_wp2_with fail
          refine wp_region_acts (fun w' => ∃ x : Later (wr.drew), w' = x.w) [] [0, 1, 2, 3, 4, 5, 6, 7, 8, 9, 10, 11, 12, 13, 14, 15, 16, 17, 18] Try.mixed (by kernel_rfl) (LaterS.drew _) ?_
          refine wpActs_last ?_
          simp only [pick, List.filterMap_cons, List.filterMap_nil, List.getElem?_toArray, List.getElem?_cons_succ, List.getElem?_cons_zero]
          change wpQuiet _ _ _ _ [_, _, _, _, _, _, _, _, _, _, _, _, _, _, _, _, _, _, _] _
          repeat (go_big_quiet_step (fail))
          refine wpQuiet_nil ?_
          go_wp2_with (at_builtin; refine wpList_app Try.slExt rfl _ _ rfl rfl hown2 rfl hsrc2 ?c1 ?c2 ?c3 ?_)
          case c1 => decide
          case c2 => decide
          case c3 => simp; omega
          intro v' w1 hown' hgrow hblk
          have hb1 : Below w.heap.size wr w1 := ((((Below.refl _ wr).drew).drew).alloc hB.size _).grown hgrow (by simp; omega) (fun b hb => (hown.lt b hb).1)
          go_wp2
          go_roundw
          case rel => exact ⟨k + 1, by omega, by go_num, by rw [HE.out, runs_snoc, HR.out, bump_new (by simp [endOf])]; exact hown', by rw [HE.out, runs_snoc, HR.out, bump_new (by simp [endOf])]; simp, by rw [HE.out, runs_snoc, HR.out]; exact hW.bump hlt, hB.trans hb1⟩
          case measure => simp [intOf]; omega
        · obtain ⟨g, cap, rfl, hg, hgs⟩ := hown.row hR0
          obtain ⟨j, hj⟩ : ∃ j, R.length = j + 1 := ⟨R.length - 1, by have : R.length ≠ 0 := fun e => hR0 (List.eq_nil_of_length_eq_zero e); omega⟩
          obtain ⟨p, hp⟩ : ∃ p, R[j]? = some p := ⟨_, List.getElem?_eq_getElem (by omega)⟩
          have hend : endOf R = p.1 + p.2 := by rw [endOf, hj, Nat.add_sub_cancel, hp]
          have hwp := hW p (List.mem_of_getElem? hp)
          obtain ⟨_, cs, hcs, a, b, rfl, ⟨rfl, ha⟩, ⟨rfl, hb⟩⟩ := hown.elem hp
          have hc0 : wr.drew.cell? ⟨g, j * 2, none⟩ = some (.int .i64 p.1) := hcs 0 (by decide)
          have hc1 : wr.drew.cell? ⟨g, j * 2 + 1, none⟩ = some (.int .i64 p.2) := hcs 1 (by decide)
          have hl0 := cellLater hc0
          have hl1 := cellLater hc1
          have hjk : j < 1000000 := by omega
          have hd : decide ((0 : Int) < (j : Int) + 1) = true := decide_eq_true (by omega)
          have hfr := hown.frozen (j * 2 + 1)
          have HJ := Lib.hid hj
          rw [hj] at hown2
          have HEND := Lib.hid hend; clear hend
          have HP := Lib.hid hp; clear hp
          by_cases he : p.1 + p.2 = (k : Int)
          · have heb : (p.1 + p.2 == (k : Int)) = true := by simp [he]
            have HK := Lib.hid he; clear he
            go_wp2_with fail
            refine wp_region_acts (fun w' => ∃ x : Later (wr), w' = x.w) [] [0, 1, 2, 3, 4, 5, 6, 7, 8] Try.mixed (by kernel_rfl) (LaterS.drew _) ?_
            refine wpActs_last ?_
            simp only [pick, List.filterMap_cons, List.filterMap_nil, List.getElem?_toArray, List.getElem?_cons_succ, List.getElem?_cons_zero]
            change wpQuiet _ _ _ _ [_, _, _, _, _, _, _, _, _] _
            repeat (first | (go_big_quiet_want; refine quiet_load _ (.tmp 16) rfl _ rfl _ hL1 ?_; go_big_quiet_on; simp only [Act.put, List.setIfInBounds_toArray, List.set_cons_zero, List.set_cons_succ]) | (go_big_quiet_want; refine quiet_load _ (.tmp 20) rfl _ rfl _ hL2 ?_; go_big_quiet_on; simp only [Act.put, List.setIfInBounds_toArray, List.set_cons_zero, List.set_cons_succ]) | go_big_quiet_step (fail))
            refine wpQuiet_nil ?_
            go_wp2_with fail
            refine wp_region_acts (fun w' => ∃ x : Later (wr.drew), w' = x.w) [] [0, 1, 2, 3, 4, 5, 6, 7, 8, 9, 10, 11, 12, 13, 14, 15, 16, 17, 18] Try.mixed (by kernel_rfl) (LaterS.drew _) ?_
            refine wpActs_last ?_
            simp only [pick, List.filterMap_cons, List.filterMap_nil, List.getElem?_toArray, List.getElem?_cons_succ, List.getElem?_cons_zero]
            change wpQuiet _ _ _ _ [_, _, _, _, _, _, _, _, _, _, _, _, _, _, _, _, _, _, _] _
            repeat (go_big_quiet_step (fail))
            refine wpQuiet_nil ?_
            have hc1' : wr.drew.drew.cell? ⟨g, j * 2 + 1, none⟩ = some (.int .i64 p.2) := hc1
            have hf1' : wr.drew.drew.frozen? ⟨g, j * 2 + 1, none⟩ = false := hfr
            go_wp2
            go_roundw
            case rel =>
              have hst := hown.stored (Flat.pair Flat.int Flat.int) (k := j) (j := 1) (u := .int .i64 (p.2 + 1)) (x' := (p.1, p.2 + 1)) HP.out (by decide) (by
                rintro c ⟨a, b, rfl, ⟨rfl, h1⟩, ⟨rfl, h2⟩⟩
                exact ⟨[_], [_], rfl, ⟨rfl, h1⟩, ⟨rfl, by unfold i64ok; omega⟩⟩)
              have hb1 : Below w.heap.size wr (wr.setCell ⟨g, j * 2 + 1, none⟩ (.int .i64 (p.2 + 1))) := below_set _ _ _ hg hz
              have hbump : bump R k = R.set j (p.1, p.2 + 1) := by
                obtain ⟨j', p', g1, g2, _, g4⟩ := endOf_some (HEND.out.trans HK.out)
                obtain rfl : j' = j := by have := HJ.out; omega
                obtain rfl : p' = p := by have := g2.symm.trans HP.out; exact Option.some.inj this
                exact g4
              rw [hj] at hst
              exact ⟨k + 1, by omega, by go_num, by rw [HE.out, runs_snoc, HR.out, hbump]; exact hst.below ((Below.refl _ _).drew).drew, (by rw [HE.out, runs_snoc, HR.out, hbump]; intro e; have := congrArg List.length e; rw [List.length_set, hj] at this; cases this),
                by rw [HE.out, runs_snoc, HR.out]; exact hW.bump hlt, (hB.trans hb1).drew.drew⟩
            case measure => simp [intOf]; omega
          · have heb : (p.1 + p.2 == (k : Int)) = false := by simp [he]
            have HK := Lib.hid he; clear he
            go_wp2_with fail
            refine wp_region_acts (fun w' => ∃ x : Later (wr), w' = x.w) [] [0, 1, 2, 3, 4, 5, 6, 7, 8] Try.mixed (by kernel_rfl) (LaterS.drew _) ?_
            refine wpActs_last ?_
            simp only [pick, List.filterMap_cons, List.filterMap_nil, List.getElem?_toArray, List.getElem?_cons_succ, List.getElem?_cons_zero]
            change wpQuiet _ _ _ _ [_, _, _, _, _, _, _, _, _] _
            repeat (first | (go_big_quiet_want; refine quiet_load _ (.tmp 16) rfl _ rfl _ hL1 ?_; go_big_quiet_on; simp only [Act.put, List.setIfInBounds_toArray, List.set_cons_zero, List.set_cons_succ]) | (go_big_quiet_want; refine quiet_load _ (.tmp 20) rfl _ rfl _ hL2 ?_; go_big_quiet_on; simp only [Act.put, List.setIfInBounds_toArray, List.set_cons_zero, List.set_cons_succ]) | go_big_quiet_step (fail))
            refine wpQuiet_nil ?_
            go_wp2_with fail
            refine wp_region_acts (fun w' => ∃ x : Later (wr.drew), w' = x.w) [] [0, 1, 2, 3, 4, 5, 6, 7, 8, 9, 10, 11, 12, 13, 14, 15, 16, 17, 18] Try.mixed (by kernel_rfl) (LaterS.drew _) ?_
            refine wpActs_last ?_
            simp only [pick, List.filterMap_cons, List.filterMap_nil, List.getElem?_toArray, List.getElem?_cons_succ, List.getElem?_cons_zero]
            change wpQuiet _ _ _ _ [_, _, _, _, _, _, _, _, _, _, _, _, _, _, _, _, _, _, _] _
            repeat (go_big_quiet_step (fail))
            refine wpQuiet_nil ?_
            go_wp2_with (at_builtin; refine wpList_app Try.slExt rfl _ _ rfl rfl hown2 rfl hsrc2 ?c1 ?c2 ?c3 ?_)
            case c1 => rw [HJ.out]; unfold maxLen; omega
            case c2 => rw [HJ.out]; omega
            case c3 => simp; omega
            intro v' w1 hown' hgrow hblk
            have hb1 : Below w.heap.size wr w1 := ((((Below.refl _ wr).drew).drew).alloc hB.size _).grown hgrow (by simp; omega) (fun b hb => (hown.lt b hb).1)
            go_wp2
            go_roundw
            case rel => exact ⟨k + 1, by omega, by go_num, by rw [HE.out, runs_snoc, HR.out, bump_new (by rw [HEND.out]; exact HK.out)]; exact hown', by rw [HE.out, runs_snoc, HR.out, bump_new (by rw [HEND.out]; exact HK.out)]; simp, by rw [HE.out, runs_snoc, HR.out]; exact hW.bump hlt, hB.trans hb1⟩
            case measure => simp [intOf]; omega
    · obtain rfl : k = n := by omega
      go_wp2
      go_ret
      rw [extents, h1.len]
      exact ⟨_, rfl, ownRowR.mk hown (fun e => .inl (hnil e)), hB⟩

end Go.Proofs.Ytldnpgbacakfeaa

namespace Go.Proofs.Ytldnpgbacakfeaa
open Go.RowKit

set_option maxRecDepth 100000 in
set_option maxHeartbeats 2000000 in
theorem differR_any {a1 a2 : Option Addr} {n1 c1 n2 c2 : Nat} {l1 l2 : List (List Sec)} {ok1 ok2 : Nat → Prop} {w : World} (h1 : Sl secsR ok1 w a1 n1 c1 l1) (h2 : Sl secsR ok2 w a2 n2 c2 l2) (hn1 : n1 ≤ 1000000) (hn2 : n2 ≤ 1000000)
    (hv : ∀ v ∈ l1, v.length ≤ 1000000) : Calls Try.prog 31 #[.slice a1 n1 c1, .slice a2 n2 c2] w (RetSlE extsR (w.heap.size ≤ ·) w (orNil (pairErr l1 l2) (diffImgs l1 l2)) (pairErr l1 l2)) := by
  by_cases he : pairErr l1 l2 = 0
  rotate_left
  · have hb : (pairErr l1 l2 != 0) = true := by simp [he]
    have HE := Lib.hid he; clear he
    go_enter Try.func31, Try.ntmps31
    go_wp2_with fail
    refine (pairR_any h1 h2 hn1 hn2).mono ?_
    rintro e w1 ⟨rfl, hB1⟩
    go_wp2
    go_ret2
    exact RetSlE.mk rfl (by rw [orNil_bad HE.out]; exact Sl.nil0 _ _ _) hB1
  have hb : (pairErr l1 l2 != 0) = false := by simp [he]
  obtain rfl : n1 = n2 := by
    have := congrArg List.length (pairErr_ok he).2.2
    simp [lens, h1.len, h2.len] at this; exact this
  have HE := Lib.hid he; clear he
  have hlz : (diffImgs l1 l2).length = n1 := by simp [diffImgs, h1.len, h2.len]
  have HZ := Lib.hid hlz; clear hlz
  go_enter Try.func31, Try.ntmps31
  go_wp2_with fail
  refine (pairR_any h1 h2 hn1 hn2).mono ?_
  rintro e w1 ⟨rfl, hB1⟩
  go_wp2
  go_loopw [7, 8] (fun v i wr => ∃ k : Nat, k ≤ n1 ∧ i = .int .i64 k ∧ OwnD ownExts w.heap.size wr.heap.size 80 wr v ((diffImgs l1 l2).take k) ∧ Below w.heap.size w wr) (fun _ i _ => n1 - (intOf i).toNat)
  case atStart => exact ⟨0, Nat.zero_le _, rfl, OwnD.nil _ _ _ _ _, hB1⟩
  case round =>
    obtain ⟨k, hk, rfl, hown, hB⟩ := hrel
    by_cases hlt : k < n1
    · obtain ⟨b1, o1, rfl, _, hb1⟩ := h1.addr hlt
      obtain ⟨b2, o2, rfl, _, hb2⟩ := h2.addr hlt
      obtain ⟨x, hx⟩ := h1.get hlt
      obtain ⟨y, hy⟩ := h2.get hlt
      have HD : Hid ((diffImgs l1 l2)[k]? = some (extents x y)) := diffImgs_get hx hy
      obtain ⟨a1', n1', c1', hc1, hx1⟩ := (h1.below hB).slice hx
      obtain ⟨a2', n2', c2', hc2, hy1⟩ := (h2.below hB).slice hy
      have hnn : n2' = n1' := by
        have := congrArg (fun l : List Int => l[k]?) (pairErr_ok HE.out).2.2
        simp [lens, hx, hy, hx1.len, hy1.len] at this; omega
      subst hnn
      have hn3 : n2' ≤ 1000000 := by rw [← hx1.len]; exact hv x (List.mem_of_getElem? hx)
      have hownl := hown.lt
      have hle := ownOr_le (v := u7) (d := wr.heap.size) hB.size (fun k hk => (hownl k hk).1)
      have hl1 := cellLaterB (g := ownOr u7 wr.heap.size) hc1 (by simp only; omega)
      have hl2 := cellLaterB (g := ownOr u7 wr.heap.size) hc2 (by simp only; omega)
      have hlen : ((diffImgs l1 l2).take k).length = k := by have := HZ.out; simp; omega
      have HL := Lib.hid hlen; clear hlen
      have HX := Lib.hid hx; clear hx
      have HY := Lib.hid hy; clear hy
      go_wp2_with fail
      refine wp_region_acts (fun w' => ∃ x : LaterB (wr) (ownOr u7 wr.heap.size), w' = x.w) [([0, 1, 2, 3, 4, 5, 6, 7, 8], 9), ([], 10), ([], 11)] [12] Try.mixed (by kernel_rfl) (LaterB.drew _ _) ?_
      refine wpActs_act ?_
      simp only [pick, List.filterMap_cons, List.filterMap_nil, List.getElem?_toArray, List.getElem?_cons_succ, List.getElem?_cons_zero]
      change wpQuiet _ _ _ _ [_, _, _, _, _, _, _, _, _] _
      repeat (go_big_quiet_step (fail))
      refine wpQuiet_nil ?_
      change wpList _ _ _ [_] _ _
      go_wp2_with fail
      refine (volumeDiffer_any (hx1.below ((Below.refl _ _).drew)) (hy1.below ((Below.refl _ _).drew)) hn3).mono ?_
      rintro e w2 ⟨v2, rfl, hrd, hB2⟩
      obtain ⟨a4, n4, c4, rfl, _⟩ := ownRowR.sl (Flat.pair Flat.int Flat.int) hrd
      have hB3 : Below wr.heap.size wr w2 := ((Below.refl _ _).drew).trans hB2
      go_wp2_with fail
      refine ⟨LaterB.of (grown_row (below_grown hB3)), ?_⟩
      refine wpActs_act ?_
      simp only [pick, List.filterMap_cons, List.filterMap_nil, List.getElem?_toArray, List.getElem?_cons_succ, List.getElem?_cons_zero]
      change wpQuiet _ _ _ _ [] _
      repeat (go_big_quiet_step (fail))
      refine wpQuiet_nil ?_
      change wpList _ _ _ [_] _ _
      go_wp2_with fail
      have hB4 : Below wr.heap.size wr (w2.alloc (.cells #[.slice a4 n4 c4] 80)) := hB3.trans ((Below.refl _ _).alloc hB3.size _)
      refine ⟨LaterB.of (grown_row (below_grown hB4)), ?_⟩
      refine wpActs_act ?_
      simp only [pick, List.filterMap_cons, List.filterMap_nil, List.getElem?_toArray, List.getElem?_cons_succ, List.getElem?_cons_zero]
      change wpQuiet _ _ _ _ [] _
      repeat (go_big_quiet_step (fail))
      refine wpQuiet_nil ?_
      change wpList _ _ _ [_] _ _
      have hz3 := hB3.size
      have hz0 := hB.size
      refine wpList_appD Try.slExts rfl _ _ rfl rfl (hown.below hB4) rfl (news_new w2 80 #[.slice a4 n4 c4]) (rd_alloc hrd) (fun k hk => (hownl k hk).2) ?c1 ?c2 ?c3 ?c4 ?_
      case c1 => rw [HL.out]; unfold maxLen; omega
      case c2 => rw [HL.out]; omega
      case c3 => exact hz0
      case c4 => simp; omega
      intro v' w3 hown1 hgrow _
      have hg3 : wr.grownBy w3 u7.ownBlock := grown_trans (grown_row (below_grown hB4)) hgrow
      go_wp2_with fail
      refine ⟨LaterB.of (grown_own hg3 _), ?_⟩
      refine wpActs_last ?_
      simp only [pick, List.filterMap_cons, List.filterMap_nil, List.getElem?_toArray, List.getElem?_cons_succ, List.getElem?_cons_zero]
      change wpQuiet _ _ _ _ [_] _
      repeat (go_big_quiet_step (fail))
      refine wpQuiet_nil ?_
      go_wp2
      go_roundw
      case rel => exact ⟨k + 1, by omega, by go_num, by rw [take_succ_get HD.out]; exact hown1, hB.grown hg3 hB.size (fun k hk => (hownl k hk).1)⟩
      case measure => simp [intOf]; omega
    · obtain rfl : k = n1 := by omega
      rw [take_all HZ.out] at hown
      obtain ⟨a3, n3, c3, rfl, h3⟩ := hown.exts
      go_wp2
      go_ret2
      exact RetSlE.mk HE.out.symm (by rw [orNil_ok HE.out]; exact h3) hB
end Go.Proofs.Ytldnpgbacakfeaa

namespace Go.Proofs.Ytldnpgbacakfeaa
open Go.RowKit

def cut (v : List Sec) (s m : Int) : List Sec := (v.drop s.toNat).take m.toNat

set_option maxRecDepth 100000 in
set_option maxHeartbeats 2000000 in
theorem patch1_any {Bi Bt : Nat} {k : Nat} {a : Option Addr} {n c : Nat} {im : List (List Sec)} {ok : Nat → Prop} {w : World} (hi : w.cell? ⟨Bi, 0, none⟩ = some (.int .i64 k)) (ht : w.cell? ⟨Bt, 0, none⟩ = some (.slice a n c))
    (h : Sl secsR ok w a n c im) {v : List Sec} (hv : im[k]? = some v) (hv6 : v.length ≤ 1000000) {s m : Nat} (hsm : s + m ≤ v.length) (hk : k ≤ 1000000) :
    Calls Try.prog 62 #[.agg #[.int .i64 s, .int .i64 m], .pointer (some ⟨Bi, 0, none⟩), .pointer (some ⟨Bt, 0, none⟩)] w fun e w' => ∃ a' n' c', e = .returned (.agg #[.int .i64 k, .int .i64 s, .slice a' n' c']) ∧
      wrR.rd (w.heap.size ≤ ·) w' [.int .i64 k, .int .i64 s, .slice a' n' c'] ((k : Int), (s : Int), cut v s m) ∧ Below w.heap.size w w' := by
  have hkn : k < n := by rw [← h.len]; exact (List.getElem?_eq_some_iff.1 hv).1
  obtain ⟨b, off, rfl, _, hb⟩ := h.addr hkn
  obtain ⟨a', n', c', hc, hx⟩ := h.slice hv
  have hbi := World.block_lt_of_cell? w _ hi
  have hbt := World.block_lt_of_cell? w _ ht
  have HV := Lib.hid hv; clear hv
  obtain ⟨W, hW⟩ : ∃ W, (w.alloc (.cells #[.int .i64 s, .int .i64 m] 59)).alloc (.cells #[.int .i64 0, .int .i64 0, .slice none 0 0] 42) = W := ⟨_, rfl⟩
  have hB : Below w.heap.size w W := by rw [← hW]; exact ((Below.refl _ w).alloc (Nat.le_refl _) _).alloc (by simp) _
  have hsz : W.heap.size = w.heap.size + 2 := by rw [← hW]; simp
  have hbox : ∀ j, W.cell? ⟨w.heap.size, j, none⟩ = #[Value.int .i64 s, .int .i64 m][j]? := fun j => by
    rw [← hW, ((Below.refl _ _).alloc (Nat.le_refl _) _).cell (p := ⟨w.heap.size, j, none⟩) (by simp), World.cell?_alloc_mark w _ _ (0, 0) j]
  have hl0 := cellLaterB (g := w.heap.size + 1) ((hB.cell (p := ⟨Bi, 0, none⟩) hbi).trans hi) (by show Bi ≠ _; have : Bi < w.heap.size := hbi; omega)
  have hl1 := cellLaterB (g := w.heap.size + 1) ((hB.cell (p := ⟨Bt, 0, none⟩) hbt).trans ht) (by show Bt ≠ _; have : Bt < w.heap.size := hbt; omega)
  have hl2 := cellLaterB (g := w.heap.size + 1) (hbox 0) (by simp)
  have hl3 := cellLaterB (g := w.heap.size + 1) (hbox 1) (by simp)
  have hl4 := cellLaterB (g := w.heap.size + 1) ((hB.cell (p := ⟨b, off + k, none⟩) hb).trans hc) (by show b ≠ _; omega)
  have hsl := fun w => run_sub Try.underlying40 Try.szSec a' n' c' s m (by have := hx.len; have := hx.cap; omega) w
  have hs := hx.small
  have hsm2 : s + m ≤ 1000000 := by omega
  go_enter Try.func62, Try.ntmps62
  go_wp2_with fail
  try rw [hW]
  refine wp_region_acts (fun w' => ∃ x : LaterB (W) (w.heap.size + 1), w' = x.w) [([0, 1, 2, 3, 4, 5, 6, 7, 8, 9, 10, 11, 12, 13, 14], 15), ([16], 17)] [] Try.mixed (by kernel_rfl) (LaterB.drew _ _) ?_
  refine wpActs_act ?_
  simp only [pick, List.filterMap_cons, List.filterMap_nil, List.getElem?_toArray, List.getElem?_cons_succ, List.getElem?_cons_zero]
  change wpQuiet _ _ _ _ [_, _, _, _, _, _, _, _, _, _, _, _, _, _, _] _
  repeat (go_big_quiet_step (fail))
  refine wpQuiet_nil ?_
  change wpList _ _ _ [_] _ _
  go_wp2_with fail
  have hlen : ((v.drop s).take m).length = m := by simp; omega
  refine (clone_sec (((hx.below hB).below ((Below.refl _ _).drew)).sub (s := s) (k := m) (by rw [← hx.len]; exact hsm)) (by omega)).mono ?_
  rintro e w2 ⟨a2, n2, c2, rfl, hr, hB2⟩
  have hB3 : Below W.heap.size W w2 := ((Below.refl _ _).drew).trans hB2
  have hfz : w2.heap[w.heap.size + 1]? = some (.cells #[.int .i64 0, .int .i64 0, .slice none 0 0] 42) := by
    rw [hB3.block _ (by omega), ← hW]
    have := World.alloc_heap_new (w.alloc (.cells #[.int .i64 s, .int .i64 m] 59)) (.cells #[.int .i64 0, .int .i64 0, .slice none 0 0] 42)
    rwa [World.size_alloc] at this
  go_wp2_with fail
  refine ⟨LaterB.of (grown_row (below_grown hB3)), ?_⟩
  refine wpActs_act ?_
  simp only [pick, List.filterMap_cons, List.filterMap_nil, List.getElem?_toArray, List.getElem?_cons_succ, List.getElem?_cons_zero]
  change wpQuiet _ _ _ _ [_] _
  repeat (go_big_quiet_step (fail))
  refine wpQuiet_nil ?_
  change wpList _ _ _ [_] _ _
  refine wpList_store_row rfl 42 _ _ rfl (w.heap.size + 1) #[.int .i64 k, .int .i64 s, .slice a2 n2 c2] rfl rfl 42 _ hfz (by kernel_rfl) rfl (by simp [Value.oneCell']) ?_
  have hgr : W.grownBy (w2.setRow (w.heap.size + 1) #[.int .i64 k, .int .i64 s, .slice a2 n2 c2]) (some (w.heap.size + 1)) :=
    grown_trans (grown_row (below_grown hB3)) ⟨rfl, rfl, rfl, by simp, fun j _ hj => setRow_other w2 (w.heap.size + 1) j _ (fun e => hj (by rw [e]))⟩
  go_wp2_with fail
  refine ⟨LaterB.of hgr, ?_⟩
  refine wpActs_last ?_
  simp only [pick, List.filterMap_cons, List.filterMap_nil, List.getElem?_toArray, List.getElem?_cons_succ, List.getElem?_cons_zero]
  change wpQuiet _ _ _ _ [] _
  repeat (go_big_quiet_step (fail))
  refine wpQuiet_nil ?_
  go_wp2
  obtain ⟨_, _, _, e, hs2⟩ := ownRowR.sl Flat.sec hr
  cases e
  have hlt : ∀ b, W.drew.heap.size ≤ b → w.heap.size + 2 ≤ b := fun b hb => by rw [← hsz]; exact hb
  refine bodyPost_ret (results_cell_row rfl _ _ (w.heap.size + 1) 42 #[.int .i64 k, .int .i64 s, .slice a2 n2 c2] (0, 0) _ rfl (setRow_heap _ _ _ _ _ _ hfz) Try.underlying42 rfl (by kernel_rfl)) rfl ?_
  refine ⟨_, _, _, rfl, ⟨[_], [_, _], rfl, ⟨rfl, i64ok_nat (by unfold maxLen; omega)⟩, [_], [_], rfl, ⟨rfl, i64ok_nat (by unfold maxLen; omega)⟩, _, _, _, rfl, ?_⟩, hB.grown hgr (by omega) (fun j hj => by cases hj; omega)⟩
  rw [cut, Int.toNat_natCast, Int.toNat_natCast]
  exact (hs2.frame fun b hb => setRow_other w2 (w.heap.size + 1) b _ (fun e => by have := hlt b hb; omega)).mono fun b hb => by have := hlt b hb; omega

end Go.Proofs.Ytldnpgbacakfeaa

namespace Go.Proofs.Ytldnpgbacakfeaa
open Go.RowKit

def wrOf (k : Nat) (v : List Sec) (p : Ext) : Wr := ((k : Int), p.1, cut v p.1 p.2)
theorem lt_alloc {w : World} {o : Obj} {k : Nat} (h : k < w.heap.size) : k < (w.alloc o).heap.size := by rw [World.size_alloc]; omega

set_option maxRecDepth 100000 in
set_option maxHeartbeats 2000000 in
theorem mapped_patch {a : Option Addr} {n c : Nat} {l : List Ext} {ok : Nat → Prop} {w : World} (h : Sl extR ok w a n c l) (hn : n ≤ 1000000) {Bi Bt : Nat} {kk : Nat} {ai : Option Addr} {ni ci : Nat} {im : List (List Sec)} {oki : Nat → Prop} (hi : w.cell? ⟨Bi, 0, none⟩ = some (.int .i64 kk)) (ht : w.cell? ⟨Bt, 0, none⟩ = some (.slice ai ni ci)) (him : Sl secsR oki w ai ni ci im) {vv : List Sec} (hvv : im[kk]? = some vv) (hv6 : vv.length ≤ 1000000) (hkk : kk ≤ 1000000) (hwin : Within vv.length l) :
    Calls Try.prog 61 #[.slice a n c, .func (.func 62) #[] #[.pointer (some ⟨Bi, 0, none⟩), .pointer (some ⟨Bt, 0, none⟩)]] w fun e w' => ∃ v, e = .returned v ∧ OwnD wrR w.heap.size w'.heap.size 42 w' v (l.map (wrOf kk vv)) ∧ Below w.heap.size w w' := by
  go_enter Try.func61, Try.ntmps61
  go_wp2_with (at_make; refine wpList_make0 (r := wrR) (B := w.heap.size) Try.slWr rfl _ _ rfl rfl rfl ?b2 ?b3 ?b4 ?_)
  case b2 => omega
  case b3 => unfold maxLen; omega
  case b4 => exact Nat.le_refl _
  intro w0 hown0 hB0
  have hs := h.small
  go_wp2
  go_loopw [5, 13] (fun v i wr => ∃ k : Nat, k ≤ n ∧ i = .int .i64 k ∧ OwnD wrR w.heap.size wr.heap.size 42 wr v ((l.map (wrOf kk vv)).take k) ∧ Below w.heap.size w wr) (fun _ i _ => n - (intOf i).toNat)
  case atStart => exact ⟨0, Nat.zero_le _, rfl, hown0 _, hB0⟩
  case round =>
    obtain ⟨k, hk, rfl, hown, hB⟩ := hrel
    by_cases hlt : k < n
    · obtain ⟨b, off, rfl, _, _⟩ := h.addr hlt
      obtain ⟨x, hx⟩ := h.get hlt
      obtain ⟨s, m⟩ := x
      have hw := hwin _ (List.mem_of_getElem? hx)
      obtain ⟨s, rfl⟩ := Int.eq_ofNat_of_zero_le hw.1
      obtain ⟨m, rfl⟩ := Int.eq_ofNat_of_zero_le (Int.le_trans (by decide) hw.2.1)
      obtain ⟨hc0, hc1, i0, i1⟩ := (h.below hB).ext hx
      have hw3 : s + m ≤ vv.length := by have := hw.2.2; simp only at this; omega
      have hBa : Below w.heap.size w (wr.alloc (.cells #[.int .i64 s, .int .i64 m] 59)) := hB.alloc hB.size _
      have hci := (hBa.cell (p := ⟨Bi, 0, none⟩) (World.block_lt_of_cell? w _ hi)).trans hi
      have hct := (hBa.cell (p := ⟨Bt, 0, none⟩) (World.block_lt_of_cell? w _ ht)).trans ht
      have hlen : ((l.map (wrOf kk vv)).take k).length = k := by have := h.len; simp; omega
      have HL := Lib.hid hlen; clear hlen
      have HX := Lib.hid hx; clear hx
      go_wp2_with (fail)
      refine (patch1_any hci hct (him.below hBa) hvv hv6 hw3 hkk).mono ?_
      rintro e w1 ⟨a2, n2, c2, rfl, hrd, hB1⟩
      have hownl := hown.lt
      have hB2 : Below wr.heap.size wr w1 := ((Below.refl _ _).alloc (Nat.le_refl _) _).trans (hB1.mono (by simp))
      have hz2 := hB2.size
      have hrd2 := wrR.mono (ok' := (wr.heap.size ≤ ·)) (fun b hb => by rw [World.size_alloc] at hb; omega) hrd
      have hz1 := hB1.size
      have hz := hB.size
      go_wp2_with (at_builtin; refine wpList_appD Try.slWr rfl _ _ rfl rfl ((hown.below hB2).below ((Below.refl _ _).alloc (Nat.le_refl _) _)) rfl (news_new w1 42 #[.int .i64 kk, .int .i64 s, .slice a2 n2 c2]) (rd_alloc hrd2) (fun k hk => (hownl k hk).2) ?c1 ?c2 ?c3 ?c4 ?_)
      case c1 => rw [HL.out]; unfold maxLen; omega
      case c2 => rw [HL.out]; omega
      case c3 => omega
      case c4 => simp; omega
      intro v' w2 hown1 hgrow _
      go_wp2
      go_roundw
      case rel => exact ⟨k + 1, by omega, by go_num, by
        have e : (l.map (wrOf kk vv)).take (k + 1) = (l.map (wrOf kk vv)).take k ++ [(wrOf kk vv) ((s : Int), (m : Int))] := take_succ_get (by rw [List.getElem?_map, HX.out]; rfl)
        rw [e]; exact hown1, ((hB.trans (hB2.mono hB.size)).alloc (by omega) _).grown hgrow (by simp; omega) (fun k hk => (hownl k hk).1)⟩
      case measure => simp [intOf]; omega
    · go_wp2
      go_ret
      obtain rfl : k = n := by omega
      rw [take_all (by rw [List.length_map]; exact h.len)] at hown
      exact ⟨_, rfl, hown, hB⟩


end Go.Proofs.Ytldnpgbacakfeaa

namespace Go.Proofs.Ytldnpgbacakfeaa
open Go.RowKit

theorem diffs_lt {a b : List Sec} {k i : Nat} (h : i ∈ diffs a b k) : i < k := by
  unfold diffs at h; have := (List.mem_filter.1 h).1; simpa using this
theorem runs_within {n : Nat} {ks : List Nat} (h : ∀ i ∈ ks, i < n) : Within n (runs ks) := by
  have : ∀ (ks : List Nat) (l : List Ext), (∀ i ∈ ks, i < n) → Within n l → Within n (ks.foldl bump l) := by
    intro ks
    induction ks with
    | nil => intro l _ hl; exact hl
    | cons k ks ih => intro l hk hl; exact ih _ (fun i hi => hk i (List.mem_cons_of_mem _ hi)) (hl.bump (hk k List.mem_cons_self))
  exact this ks [] h (Within.nil n)
theorem extents_within (a b : List Sec) : Within a.length (extents a b) := runs_within fun _ hi => diffs_lt hi
theorem extents_length (a b : List Sec) : (extents a b).length ≤ a.length := Nat.le_trans (runs_length _) (diffs_length _ _ _)

def patchTo (b : List (List Sec)) (d : List (List Ext)) (k : Nat) : List Wr := (List.range k).flatMap fun i => (d.getD i []).map (wrOf i (b.getD i []))
theorem patchTo_succ {b : List (List Sec)} {d : List (List Ext)} {k : Nat} {v : List Sec} {e : List Ext} (hv : b[k]? = some v) (he : d[k]? = some e) : patchTo b d (k + 1) = patchTo b d k ++ e.map (wrOf k v) := by
  unfold patchTo
  rw [List.range_succ, List.flatMap_append]
  simp [List.getD, hv, he]
def patchImgs (a b : List (List Sec)) : List Wr := patchTo b (diffImgs a b) (diffImgs a b).length

set_option maxRecDepth 100000 in
set_option maxHeartbeats 2000000 in
theorem patchI_any {a1 a2 : Option Addr} {n1 c1 n2 c2 : Nat} {l1 l2 : List (List Sec)} {ok1 ok2 : Nat → Prop} {w : World} (h1 : Sl secsR ok1 w a1 n1 c1 l1) (h2 : Sl secsR ok2 w a2 n2 c2 l2) (hn1 : n1 ≤ 1000000) (hn2 : n2 ≤ 1000000)
    (hv1 : ∀ v ∈ l1, v.length ≤ 1000000) (hv2 : ∀ v ∈ l2, v.length ≤ 1000000) : Calls Try.prog 32 #[.slice a1 n1 c1, .slice a2 n2 c2] w (RetSlE wrR (w.heap.size ≤ ·) w (orNil (pairErr l1 l2) (patchImgs l1 l2)) (pairErr l1 l2)) := by
  have hB0 : Below w.heap.size w (w.alloc (.cells #[.slice a2 n2 c2] 24)) := (Below.refl _ w).alloc (Nat.le_refl _) _
  have hbx : (w.alloc (.cells #[.slice a2 n2 c2] 24)).cell? ⟨w.heap.size, 0, none⟩ = some (.slice a2 n2 c2) := (Boxed.new w _ _).cell
  by_cases he : pairErr l1 l2 = 0
  rotate_left
  · have hb : (pairErr l1 l2 != 0) = true := by simp [he]
    have HE := Lib.hid he; clear he
    go_enter Try.func32, Try.ntmps32
    go_wp2_with fail
    refine (differI_any (h1.below hB0) (h2.below hB0) hn1 hn2 hv1).mono ?_
    rintro e w1 ⟨da, dn, dc, rfl, hd, hB1⟩
    go_wp2
    go_ret2
    exact RetSlE.mk rfl (by rw [orNil_bad HE.out]; exact Sl.nil0 _ _ _) (hB0.trans (hB1.mono hB0.size))
  have hb : (pairErr l1 l2 != 0) = false := by simp [he]
  obtain ⟨_, _, hle⟩ := pairErr_ok he
  obtain rfl : n1 = n2 := by
    have := congrArg List.length hle
    simp [lens, h1.len, h2.len] at this; exact this
  have HE := Lib.hid he; clear he
  have HLE := Lib.hid hle; clear hle
  have hlz : (diffImgs l1 l2).length = n1 := by simp [diffImgs, h1.len, h2.len]
  have HZ := Lib.hid hlz; clear hlz
  go_enter Try.func32, Try.ntmps32
  go_wp2_with fail
  refine (differI_any (h1.below hB0) (h2.below hB0) hn1 hn2 hv1).mono ?_
  rintro e w1 ⟨da, dn, dc, rfl, hd, hB1⟩
  rw [orNil_ok HE.out] at hd
  obtain rfl : dn = n1 := by have := hd.len; have := HZ.out; omega
  have hB2 : Below w.heap.size w w1 := hB0.trans (hB1.mono hB0.size)
  have hbx1 : w1.cell? ⟨w.heap.size, 0, none⟩ = some (.slice a2 dn c2) := boxCell hB1 (j := 0) rfl
  go_wp2
  go_loopw [8, 22] (fun v i wr => ∃ k : Nat, k ≤ dn ∧ i = .int .i64 k ∧ Own wrR w1.heap.size 42 (w1.heap.size ≤ ·) wr v (patchTo l2 (diffImgs l1 l2) k) ∧ (patchTo l2 (diffImgs l1 l2) k).length ≤ k * 1000000 ∧ Below w1.heap.size w1 wr) (fun _ i _ => dn - (intOf i).toNat)
  case atStart => exact ⟨0, Nat.zero_le _, rfl, Own.nil _ _ _ _ _, by simp [patchTo], Below.refl _ _⟩
  case round =>
    obtain ⟨k, hk, rfl, hown, hlen, hB⟩ := hrel
    have hB3 : Below w.heap.size w wr := hB2.trans (hB.mono hB2.size)
    by_cases hlt : k < dn
    · obtain ⟨b, off, rfl, _, hbd⟩ := hd.addr hlt
      obtain ⟨x, hx⟩ := h1.get hlt
      obtain ⟨y, hy⟩ := h2.get hlt
      have hxy : x.length = y.length := by
        have := congrArg (fun l : List Int => l[k]?) HLE.out
        simp [lens, hx, hy] at this; omega
      have hdk : (diffImgs l1 l2)[k]? = some (extents x y) := diffImgs_get hx hy
      obtain ⟨a', n', c', hc, hdx⟩ := (hd.below hB).slice hdk
      have hx6 := hv1 x (List.mem_of_getElem? hx)
      have hy6 := hv2 y (List.mem_of_getElem? hy)
      have hn' : n' ≤ 1000000 := by have := extents_length x y; rw [← hdx.len]; omega
      have hwin : Within y.length (extents x y) := by rw [← hxy]; exact extents_within x y
      have HP : Hid (patchTo l2 (diffImgs l1 l2) (k + 1) = patchTo l2 (diffImgs l1 l2) k ++ (extents x y).map (wrOf k y)) := patchTo_succ hy hdk
      have HY := Lib.hid hy
      have hbr : wr.cell? ⟨w.heap.size, 0, none⟩ = some (.slice a2 dn c2) := (hB.cell (p := ⟨w.heap.size, 0, none⟩) (World.block_lt_of_cell? w1 _ hbx1)).trans hbx1
      clear hx hy hdk
      have hBa : Below wr.heap.size wr (wr.alloc (.cells #[.int .i64 k] 3)) := (Below.refl _ _).alloc (Nat.le_refl _) _
      have hBw : Below w.heap.size w (wr.alloc (.cells #[.int .i64 k] 3)) := hB3.trans (hBa.mono hB3.size)
      have hbr2 : (wr.alloc (.cells #[.int .i64 k] 3)).cell? ⟨w.heap.size, 0, none⟩ = some (.slice a2 dn c2) := (hBa.cell (p := ⟨w.heap.size, 0, none⟩) (World.block_lt_of_cell? wr _ hbr)).trans hbr
      have hbk : (wr.alloc (.cells #[.int .i64 k] 3)).cell? ⟨wr.heap.size, 0, none⟩ = some (.int .i64 k) := (Boxed.new wr _ _).cell
      have hz := hB.size
      have hz2 := hB2.size
      go_wp2_with fail
      refine (mapped_patch (hdx.below hBa) hn' hbk hbr2 (h2.below hBw) HY.out hy6 (by omega) hwin).mono ?_
      rintro e w2 ⟨v2, rfl, hown2, hB4⟩
      have hB5 : Below wr.heap.size wr w2 := hBa.trans (hB4.mono hBa.size)
      obtain ⟨a4, n4, c4, rfl, hs4⟩ := hown2.sl
      obtain rfl : n4 = n' := by rw [← hs4.len, List.length_map, hdx.len]
      have hm6 : n4 ≤ 1000000 := by omega
      have hlt8 := hown.lt
      have hsrc : Src wrR (fun b => w1.heap.size ≤ b ∧ Option.some b ≠ u8.ownBlock) w2 a4 n4 c4 ((extents x y).map (wrOf k y)) := Src.of_sl (hs4.mono fun b hb => by
        rw [World.size_alloc] at hb
        exact ⟨by omega, fun e => by have := (hlt8 b e.symm).2; omega⟩)
      go_wp2_with (at_builtin; refine wpList_app (v := u8) Try.slWr rfl _ _ rfl rfl (hown.below hB5) rfl hsrc ?c1 ?c2 ?c3 ?_)
      case c1 => unfold maxLen; omega
      case c2 => omega
      case c3 => have := hB5.size; omega
      intro v' w3 hown' hgrow hblk
      go_wp2
      go_roundw
      case rel => exact ⟨k + 1, by omega, by go_num, by rw [HP.out]; exact hown', by rw [HP.out, List.length_append, hs4.len]; omega, (hB.trans (hB5.mono hz)).grown hgrow (by have := hB5.size; omega) (fun b hb => (hlt8 b hb).1)⟩
      case measure => simp [intOf]; omega
    · obtain rfl : k = dn := by omega
      obtain ⟨a3, n3, c3, rfl, h3⟩ := hown.sl
      go_wp2
      go_ret2
      exact RetSlE.mk HE.out.symm (by rw [orNil_ok HE.out, patchImgs, HZ.out]; exact h3.mono fun b hb => Nat.le_trans hB2.size (hb.elim id id)) hB3
end Go.Proofs.Ytldnpgbacakfeaa

namespace Go.Proofs.Ytldnpgbacakfeaa
open Go.RowKit

def secOf (b : UInt8) : Sec := #v[b, 0, 0, 0, 0, 0, 0, 0]

set_option maxRecDepth 100000 in
set_option maxHeartbeats 1000000 in
theorem sector_any (b : UInt8) (w : World) :
    Calls Try.prog 41 #[.int .u8 (b.toNat : Int)] w fun e w' => e = .returned (.agg (secCells (secOf b)).toArray) ∧ Below w.heap.size w w' := by
  have hfz : (w.alloc (.cells #[.int .u8 0, .int .u8 0, .int .u8 0, .int .u8 0, .int .u8 0, .int .u8 0, .int .u8 0, .int .u8 0] 52)).heap[w.heap.size]? = _ := World.alloc_heap_new w _
  go_enter Try.func41, Try.ntmps41
  go_wp2_with (refine wpList_store_row rfl 52 _ _ rfl w.heap.size (secCells (secOf b)).toArray rfl rfl 52 _ hfz (by kernel_rfl) rfl (by simp [secCells, secOf, Value.oneCell']) ?_)
  refine bodyPost_ret (results_cell_row rfl _ _ w.heap.size 52 (secCells (secOf b)).toArray (0, 0) _ rfl (setRow_heap _ _ _ _ _ _ hfz) Try.underlying52 rfl (by kernel_rfl)) rfl ?_
  exact ⟨rfl, ((Below.refl _ w).alloc (Nat.le_refl _) _).grown ⟨rfl, rfl, rfl, by simp, fun j _ hj => setRow_other _ w.heap.size j _ (fun e => hj (by rw [e]))⟩ (by simp) (fun j hj => by cases hj; exact Nat.le_refl _)⟩

set_option maxRecDepth 100000 in
set_option maxHeartbeats 2000000 in
theorem newR_any {a : Option Addr} {n c : Nat} {l : List Int} {ok : Nat → Prop} {w : World} (h : Sl intR ok w a n c l) (hn : n ≤ 1000000) :
    Calls Try.prog 16 #[.slice a n c] w (RetSlE secsR (w.heap.size ≤ ·) w (orNil (sizesErr l) (newImg l)) (sizesErr l)) := by
  have hs := h.small
  by_cases he : sizesErr l = 0
  rotate_left
  · have hb : (sizesErr l != 0) = true := by simp [he]
    have HE := Lib.hid he; clear he
    go_enter Try.func16, Try.ntmps16
    go_wp2_with fail
    refine (sizes_any h).mono ?_
    rintro e w1 ⟨rfl, rfl⟩
    go_wp2
    go_ret2
    exact RetSlE.mk rfl (by rw [orNil_bad HE.out]; exact Sl.nil0 _ _ _) (Below.refl _ _)
  have hb : (sizesErr l != 0) = false := by simp [he]
  have hl : ∀ x ∈ l, 0 ≤ x ∧ x ≤ 4096 := fun x hx => by
    unfold sizesErr at he
    split at he
    · omega
    · split at he
      · omega
      · rename_i h2
        have := List.any_eq_false.1 (by simpa using h2) x hx
        simp [badSize] at this
        omega
  have HE := Lib.hid he; clear he
  go_enter Try.func16, Try.ntmps16
  go_wp2_with fail
  refine (sizes_any h).mono ?_
  rintro e w1 ⟨rfl, rfl⟩
  go_wp2
  go_loopw [5, 6] (fun v i wr => ∃ k : Nat, k ≤ n ∧ i = .int .i64 k ∧ OwnD ownSecs w.heap.size wr.heap.size 40 wr v ((newImg l).take k) ∧ Below w.heap.size w wr) (fun _ i _ => n - (intOf i).toNat)
  case atStart => exact ⟨0, Nat.zero_le _, rfl, OwnD.nil _ _ _ _ _, Below.refl _ _⟩
  case round =>
    obtain ⟨k, hk, rfl, hown, hB⟩ := hrel
    by_cases hlt : k < n
    · obtain ⟨b, off, rfl, _, _⟩ := h.addr hlt
      obtain ⟨x, hx⟩ := h.get hlt
      obtain ⟨m, rfl⟩ := Int.eq_ofNat_of_zero_le (hl x (List.mem_of_getElem? hx)).1
      have hm : m ≤ 4096 := by have := (hl _ (List.mem_of_getElem? hx)).2; omega
      obtain ⟨hc, _⟩ := (h.below hB).int hx
      have HX := Lib.hid hx; clear hx
      have hlen : ((newImg l).take k).length = k := by have := h.len; simp [newImg]; omega
      have HL := Lib.hid hlen; clear hlen
      go_wp2_with (at_make; refine wpList_makeN (r := secR) (B := wr.heap.size) Try.slSec rfl _ _ rfl (z0 := zeroSec) secR_zero (n := m) rfl rfl ?b2 ?b3 ?b4 ?_)
      case b2 => omega
      case b3 => unfold maxLen; omega
      case b4 => exact Nat.le_refl _
      intro w2 hown2 hB2
      have hrd : ownSecs.rd (wr.heap.size ≤ ·) w2 [.slice (some ⟨wr.heap.size, 0, none⟩) m m] (zeros m) := by
        rw [zeros, Int.toNat_natCast]; exact ownRowR.mk hown2 (fun e => .inr ⟨_, _, by
          have := congrArg List.length e; simp at this; subst this; rfl⟩)
      have hownl := hown.lt
      have hz := hB.size
      have hz2 := hB2.size
      have hB4 : Below wr.heap.size wr (w2.alloc (.cells #[.slice (some ⟨wr.heap.size, 0, none⟩) m m] 40)) := hB2.trans ((Below.refl _ _).alloc hz2 _)
      go_wp2_with (at_builtin; refine wpList_appD Try.slImg rfl _ _ rfl rfl (hown.below hB4) rfl (news_new w2 40 #[.slice (some ⟨wr.heap.size, 0, none⟩) m m]) (rd_alloc hrd) (fun k hk => (hownl k hk).2) ?c1 ?c2 ?c3 ?c4 ?_)
      case c1 => rw [HL.out]; unfold maxLen; omega
      case c2 => rw [HL.out]; omega
      case c3 => exact hz
      case c4 => simp; omega
      intro v' w3 hown3 hgrow _
      go_wp2
      go_roundw
      case rel => exact ⟨k + 1, by omega, by go_num, by
        have e : (newImg l).take (k + 1) = (newImg l).take k ++ [zeros m] := take_succ_get (by rw [newImg, List.getElem?_map, HX.out]; rfl)
        rw [e]; exact hown3, (hB.trans (hB4.mono hB.size)).grown hgrow (by simp; omega) (fun k hk => (hownl k hk).1)⟩
      case measure => simp [intOf]; omega
    · obtain rfl : k = n := by omega
      rw [take_all (by rw [newImg, List.length_map]; exact h.len)] at hown
      obtain ⟨a3, n3, c3, rfl, h3⟩ := hown.img
      go_wp2
      go_ret2
      exact RetSlE.mk HE.out.symm (by rw [orNil_ok HE.out]; exact h3) hB

end Go.Proofs.Ytldnpgbacakfeaa

namespace Go.Proofs.Ytldnpgbacakfeaa
open Go.RowKit

theorem Try.eqExt (x y : Ext) (w : World) : (Op.equalIn 10000 59 (.agg #[.int .i64 x.1, .int .i64 x.2]) (.agg #[.int .i64 y.1, .int .i64 y.2])).run Try.prog w = .ok (x == y) w := by
  obtain ⟨a, b⟩ := x
  obtain ⟨c, d⟩ := y
  rw [run_equalIn_agg w 9999 _ _ _ (by kernel_rfl) (by kernel_rfl)]
  go_simp
  by_cases h1 : a = c
  · by_cases h2 : b = d
    · subst h1; subst h2; simp
    · rw [if_pos h1, if_neg h2, beq_eq_false_iff_ne.2 (fun e => h2 (by cases e; rfl))]
  · rw [if_neg h1, beq_eq_false_iff_ne.2 (fun e => h1 (by cases e; rfl))]
theorem Try.extLater {ok : Nat → Prop} {w : World} {b off n c k : Nat} {l : List Ext} {x : Ext} (h : Sl extR ok w (some ⟨b, off, none⟩) n c l) (hx : l[k]? = some x) :
    ∀ w', LaterS w w' → (loadVar 59 ⟨b, off + k * 2, none⟩).run Try.prog w' = .ok (.agg #[.int .i64 x.1, .int .i64 x.2]) w' := by
  rintro _ ⟨y, rfl⟩
  obtain ⟨h0, h1, _, _⟩ := (h.below y.below).ext hx
  refine run_loadAgg (cs := [.int .i64 x.1, .int .i64 x.2]) Try.underlying59 rfl (by kernel_rfl) fun j hj => ?_
  rw [Addr.add_lit]
  match j, hj with
  | 0, _ => exact h0
  | 1, _ => exact h1

set_option maxHeartbeats 1000000 in
theorem equal_ext {a1 a2 : Option Addr} {n1 c1 n2 c2 : Nat} {l1 l2 : List Ext} {ok1 ok2 : Nat → Prop} {w : World} (h1 : Sl extR ok1 w a1 n1 c1 l1) (h2 : Sl extR ok2 w a2 n2 c2 l2) :
    Calls Try.prog 42 #[.slice a1 n1 c1, .slice a2 n2 c2] w fun e w' => e = .returned (.bool (l1 == l2)) ∧ Below w.heap.size w w' := by
  have hs1 := h1.small
  have hs2 := h2.small
  by_cases hn : n1 = n2
  · subst hn
    go_enter Try.func42, Try.ntmps42
    go_wp2
    go_loopw [5, 13] (fun _ i wr => ∃ k : Nat, k ≤ n1 ∧ i = .int .i64 k ∧ Hid (l1.take k = l2.take k) ∧ Below w.heap.size w wr) (fun _ i _ => n1 - (intOf i).toNat)
    case atStart => exact ⟨0, Nat.zero_le _, rfl, rfl, Below.refl _ _⟩
    case round =>
      obtain ⟨k, hk, rfl, HT, hB⟩ := hrel
      by_cases hlt : k < n1
      · obtain ⟨b1, o1, rfl, _, _⟩ := h1.addr hlt
        obtain ⟨b2, o2, rfl, _, _⟩ := h2.addr hlt
        obtain ⟨x, hx⟩ := h1.get hlt
        obtain ⟨y, hy⟩ := h2.get hlt
        have hL1 := Try.extLater (h1.below hB) hx; have hL2 := Try.extLater (h2.below hB) hy; have hE := Try.eqExt x y
        have HX := Lib.hid hx
        have HY := Lib.hid hy
        clear hx hy
        cases hxy : x == y with
        | true =>
          rw [hxy] at hE
          have HE := Lib.hid hxy
          clear hxy
          go_wp2_with fail
          refine wp_region_acts (fun w' => ∃ x : Later (wr), w' = x.w) [] [0, 1, 2, 3, 4, 5, 6, 7, 8] Try.mixed (by kernel_rfl) (LaterS.drew _) ?_
          refine wpActs_last ?_
          simp only [pick, List.filterMap_cons, List.filterMap_nil, List.getElem?_toArray, List.getElem?_cons_succ, List.getElem?_cons_zero]
          change wpQuiet _ _ _ _ [_, _, _, _, _, _, _, _, _] _
          repeat (first | (go_big_quiet_want; refine quiet_load _ (.tmp 18) rfl _ rfl _ hL1 ?_; go_big_quiet_on; simp only [Act.put, List.setIfInBounds_toArray, List.set_cons_zero, List.set_cons_succ]) | (go_big_quiet_want; refine quiet_load _ (.tmp 22) rfl _ rfl _ hL2 ?_; go_big_quiet_on; simp only [Act.put, List.setIfInBounds_toArray, List.set_cons_zero, List.set_cons_succ]) | go_big_quiet_step (fail))
          refine wpQuiet_nil ?_
          go_wp2
          go_roundw
          case rel => exact ⟨k + 1, by omega, by go_num, by
            have := eq_of_beq HE.out
            subst this
            exact take_eq_succ HT.out HX.out HY.out, hB.drew⟩
          case measure => simp [intOf]; omega
        | false =>
          rw [hxy] at hE
          have HE := Lib.hid hxy
          clear hxy
          go_wp2_with fail
          refine wp_region_acts (fun w' => ∃ x : Later (wr), w' = x.w) [] [0, 1, 2, 3, 4, 5, 6, 7, 8] Try.mixed (by kernel_rfl) (LaterS.drew _) ?_
          refine wpActs_last ?_
          simp only [pick, List.filterMap_cons, List.filterMap_nil, List.getElem?_toArray, List.getElem?_cons_succ, List.getElem?_cons_zero]
          change wpQuiet _ _ _ _ [_, _, _, _, _, _, _, _, _] _
          repeat (first | (go_big_quiet_want; refine quiet_load _ (.tmp 18) rfl _ rfl _ hL1 ?_; go_big_quiet_on; simp only [Act.put, List.setIfInBounds_toArray, List.set_cons_zero, List.set_cons_succ]) | (go_big_quiet_want; refine quiet_load _ (.tmp 22) rfl _ rfl _ hL2 ?_; go_big_quiet_on; simp only [Act.put, List.setIfInBounds_toArray, List.set_cons_zero, List.set_cons_succ]) | go_big_quiet_step (fail))
          refine wpQuiet_nil ?_
          go_wp2
          go_ret
          exact ⟨ret_bool (beq_eq_false_iff_ne.2 (ne_at HX.out HY.out (beq_eq_false_iff_ne.1 HE.out))).symm, hB.drew⟩
      · go_wp2
        go_ret
        obtain rfl : k = n1 := by omega
        have e := HT.out
        rw [take_all h1.len, take_all h2.len] at e
        exact ⟨ret_bool (beq_iff_eq.2 e).symm, hB⟩
  · have hn' : ¬ (n1 : Int) = (n2 : Int) := by omega
    go_enter Try.func42, Try.ntmps42
    go_wp2
    go_ret
    exact ⟨ret_bool (beq_eq_false_iff_ne.2 (fun e => hn (by rw [← h1.len, ← h2.len, e]))).symm, Below.refl _ _⟩


end Go.Proofs.Ytldnpgbacakfeaa

namespace Go.Proofs.Ytldnpgbacakfeaa
open Go.RowKit

theorem Sl.lit {α : Type} {r : Rep α} {ok : Nat → Prop} {w : World} {E : TypeId} {cs : Array Value} {l : List α} {n : Nat} (hn : l.length = n) (h : Chunks r ok (w.alloc (.cells cs E)) cs.toList l) (hok : ok w.heap.size) (hmax : n ≤ maxLen) :
    Sl r ok (w.alloc (.cells cs E)) (some ⟨w.heap.size, 0, none⟩) n n l := by
  subst hn
  refine ⟨rfl, Nat.le_refl _, hmax, (fun e => by cases e), .inr ⟨_, _, rfl, hok, by simp, fun i x hx => ?_⟩⟩
  obtain ⟨c, h1, h2⟩ := h.at hx
  refine ⟨c, fun j hj => ?_, h2⟩
  rw [Nat.zero_add, World.cell?_alloc_mark w cs E (0, 0), ← Array.getElem?_toList, h1 j hj]

theorem i64_0 : i64ok 0 := by unfold i64ok; omega
theorem i64_1 : i64ok 1 := by unfold i64ok; omega
theorem i64_2 : i64ok 2 := by unfold i64ok; omega

theorem sector1_any (w : World) : Calls Try.prog 41 #[.int .u8 1] w fun e w' => e = .returned (.agg #[.int .u8 1, .int .u8 0, .int .u8 0, .int .u8 0, .int .u8 0, .int .u8 0, .int .u8 0, .int .u8 0]) ∧ Below w.heap.size w w' := sector_any 1 w
theorem sector2_any (w : World) : Calls Try.prog 41 #[.int .u8 2] w fun e w' => e = .returned (.agg #[.int .u8 2, .int .u8 0, .int .u8 0, .int .u8 0, .int .u8 0, .int .u8 0, .int .u8 0, .int .u8 0]) ∧ Below w.heap.size w w' := sector_any 2 w
theorem sector3_any (w : World) : Calls Try.prog 41 #[.int .u8 3] w fun e w' => e = .returned (.agg #[.int .u8 3, .int .u8 0, .int .u8 0, .int .u8 0, .int .u8 0, .int .u8 0, .int .u8 0, .int .u8 0]) ∧ Below w.heap.size w w' := sector_any 3 w

def exIm : List (List Sec) := newImg [4, 2]
def exWs : List Wr := [(0, 1, [secOf 1, secOf 2]), (0, 2, [secOf 3])]
def exA : List (List Sec) := [[zeroSec, secOf 1, secOf 3, zeroSec], [zeroSec, zeroSec]]
theorem ex_sizes : sizesErr [4, 2] = 0 := by decide
theorem ex_img : applyImg exIm exWs = exA := by decide
theorem ex_err : applyE exIm exWs = 0 := by decide
theorem ex_pair : pairErr exIm exA = 0 := by decide
theorem ex_differ : diffImgs exIm exA = [[(1, 2)], []] := by decide
theorem ex_patch : patchImgs exIm exA = [(0, 1, [secOf 1, secOf 3])] := by decide
theorem ex_fit1 : fitsErr exIm 0 2 3 = 2 := by decide
theorem ex_fit2 : fitsErr exIm 2 0 1 = 7 := by decide
theorem ex_fit3 : fitsErr exIm 1 0 0 = 1 := by decide

set_option maxRecDepth 100000 in
set_option maxHeartbeats 4000000 in
theorem awake_any (w : World) : Calls Try.prog 14 #[] w fun e w' => e = .returned (.bool true) ∧ Below w.heap.size w w' := by
  have hB0 : Below w.heap.size w (w.alloc (.cells #[.int .i64 4, .int .i64 2] 3)) := (Below.refl _ w).alloc (Nat.le_refl _) _
  have hsz : Sl intR (fun _ => True) (w.alloc (.cells #[.int .i64 4, .int .i64 2] 3)) (some ⟨w.heap.size, 0, none⟩) 2 2 [4, 2] :=
    Sl.lit rfl ⟨[_], [_], rfl, ⟨rfl, by unfold i64ok; omega⟩, [_], [], rfl, ⟨rfl, by unfold i64ok; omega⟩, rfl⟩ trivial (by unfold maxLen; omega)
  go_enter Try.func14, Try.ntmps14
  go_wp2_with fail
  refine (newI_any hsz (by omega)).mono ?_
  rintro e w1 ⟨ia, n, ic, rfl, hI, hB1⟩
  rw [ex_sizes, orNil_ok rfl] at *
  obtain rfl : n = 2 := hI.len.symm
  have hB2 : Below w.heap.size w w1 := hB0.trans (hB1.mono hB0.size)
  replace hI : Sl secsR (w.heap.size ≤ ·) w1 ia 2 ic exIm := hI.mono fun b hb => Nat.le_trans hB0.size hb
  go_wp2_with fail
  refine (sector1_any _).mono ?_
  rintro e w2 ⟨rfl, hB3⟩
  go_wp2_with fail
  refine (sector2_any _).mono ?_
  rintro e w3 ⟨rfl, hB4⟩
  go_wp2_with fail
  refine (sector3_any _).mono ?_
  rintro e w4 ⟨rfl, hB5⟩
  have hs12 : Sl secR (fun _ => True) (w3.alloc (.cells #[.int .u8 1, .int .u8 0, .int .u8 0, .int .u8 0, .int .u8 0, .int .u8 0, .int .u8 0, .int .u8 0, .int .u8 2, .int .u8 0, .int .u8 0, .int .u8 0, .int .u8 0, .int .u8 0, .int .u8 0, .int .u8 0] 52)) (some ⟨w3.heap.size, 0, none⟩) 2 2 [secOf 1, secOf 2] :=
    Sl.lit rfl ⟨secCells (secOf 1), secCells (secOf 2) ++ [], rfl, rfl, secCells (secOf 2), [], rfl, rfl, rfl⟩ trivial (by unfold maxLen; omega)
  have hs3 : Sl secR (fun _ => True) (w4.alloc (.cells #[.int .u8 3, .int .u8 0, .int .u8 0, .int .u8 0, .int .u8 0, .int .u8 0, .int .u8 0, .int .u8 0] 52)) (some ⟨w4.heap.size, 0, none⟩) 1 1 [secOf 3] :=
    Sl.lit rfl ⟨secCells (secOf 3), [], rfl, rfl, rfl⟩ trivial (by unfold maxLen; omega)
  have hB34 : Below w3.heap.size w3 (w3.alloc (.cells #[.int .u8 1, .int .u8 0, .int .u8 0, .int .u8 0, .int .u8 0, .int .u8 0, .int .u8 0, .int .u8 0, .int .u8 2, .int .u8 0, .int .u8 0, .int .u8 0, .int .u8 0, .int .u8 0, .int .u8 0, .int .u8 0] 52)) := (Below.refl _ _).alloc (Nat.le_refl _) _
  have hB45 : Below w4.heap.size w4 (w4.alloc (.cells #[.int .u8 3, .int .u8 0, .int .u8 0, .int .u8 0, .int .u8 0, .int .u8 0, .int .u8 0, .int .u8 0] 52)) := (Below.refl _ _).alloc (Nat.le_refl _) _
  obtain ⟨W4, hW4⟩ : ∃ W4, w4.alloc (.cells #[.int .u8 3, .int .u8 0, .int .u8 0, .int .u8 0, .int .u8 0, .int .u8 0, .int .u8 0, .int .u8 0] 52) = W4 := ⟨_, rfl⟩
  obtain ⟨W5, hW5⟩ : ∃ W5, W4.alloc (.cells #[.int .i64 0, .int .i64 1, .slice (some ⟨w3.heap.size, 0, none⟩) 2 2, .int .i64 0, .int .i64 2, .slice (some ⟨w4.heap.size, 0, none⟩) 1 1] 42) = W5 := ⟨_, rfl⟩
  have hz4 : W4.heap.size = w4.heap.size + 1 := by rw [← hW4, World.size_alloc]
  have hB56 : Below W4.heap.size W4 W5 := by rw [← hW5]; exact (Below.refl _ _).alloc (Nat.le_refl _) _
  have hB4' : Below w4.heap.size w4 W4 := by rw [← hW4]; exact hB45
  rw [hW4] at hs3
  have hs12' : Sl secR (fun _ => True) W5 (some ⟨w3.heap.size, 0, none⟩) 2 2 [secOf 1, secOf 2] := ((hs12.below hB5).below hB4').below hB56
  have hs3' : Sl secR (fun _ => True) W5 (some ⟨w4.heap.size, 0, none⟩) 1 1 [secOf 3] := hs3.below hB56
  have hws : Sl wrR (fun _ => True) W5 (some ⟨w4.heap.size + 1, 0, none⟩) 2 2 exWs := by
    rw [← hz4]
    rw [← hW5] at hs12' hs3' ⊢
    exact Sl.lit rfl ⟨[_, _, _], [_, _, _], rfl, ⟨[_], [_, _], rfl, ⟨rfl, i64_0⟩, [_], [_], rfl, ⟨rfl, i64_1⟩, _, _, _, rfl, hs12'⟩,
      [_, _, _], [], rfl, ⟨[_], [_, _], rfl, ⟨rfl, i64_0⟩, [_], [_], rfl, ⟨rfl, i64_2⟩, _, _, _, rfl, hs3'⟩, rfl⟩ trivial (by unfold maxLen; omega)
  have hB6 : Below w1.heap.size w1 W5 := (((hB3.trans (hB4.mono hB3.size)).trans (hB34.mono (Nat.le_trans hB3.size hB4.size))).trans (hB5.mono (Nat.le_trans (Nat.le_trans hB3.size hB4.size) hB34.size))).trans ((hB4'.trans (hB56.mono hB4'.size)).mono (Nat.le_trans (Nat.le_trans (Nat.le_trans hB3.size hB4.size) hB34.size) hB5.size))
  go_wp2_with fail
  try rw [hW4]
  try rw [hW5]
  refine (applyI_any (hI.below hB6) (by omega) (by decide) hws).mono ?_
  rintro e w5 ⟨aa, an, ac, he, hA, hB7⟩
  rw [ex_err] at he
  rw [ex_img] at hA
  subst he
  obtain rfl : an = 2 := hA.len.symm
  have hB8 : Below w1.heap.size w1 w5 := hB6.trans (hB7.mono hB6.size)
  go_wp2_with fail
  refine (differI_any (hI.below hB8) hA (by omega) (by omega) (by decide)).mono ?_
  rintro e w6 ⟨da, dn, dc, rfl, hD, hB9⟩
  rw [ex_pair, orNil_ok rfl, ex_differ] at *
  obtain rfl : dn = 2 := hD.len.symm
  have hB10 : Below w1.heap.size w1 w6 := hB8.trans (hB9.mono hB8.size)
  go_wp2_with fail
  refine (patchI_any (hI.below hB10) (hA.below hB9) (by omega) (by omega) (by decide) (by decide)).mono ?_
  rintro e w7 ⟨pa, pn, pc, rfl, hP, hB11⟩
  rw [ex_pair, orNil_ok rfl, ex_patch] at *
  obtain rfl : pn = 1 := hP.len.symm
  have hB12 : Below w1.heap.size w1 w7 := hB10.trans (hB11.mono hB10.size)
  obtain ⟨pb, po, rfl, _, hpb⟩ := hP.addr (k := 0) (by omega)
  obtain ⟨pda, pdn, pdc, hp0, hp1, hp2, _, _, hpd⟩ := hP.wr (k := 0) rfl
  obtain rfl : pdn = 2 := hpd.len.symm
  rw [Nat.zero_mul, Nat.add_zero] at hp0 hp1 hp2
  go_wp2_with (at_make; refine wpList_makeN (r := secR) (B := w7.heap.size) Try.slSec rfl _ _ rfl (z0 := zeroSec) secR_zero (n := 3) rfl rfl (by omega) (by unfold maxLen; omega) (Nat.le_refl _) ?_; intro w8 hm8 hB13)
  refine (fitsI_any ((hI.below hB12).below hB13) (by omega) i64_0 i64_2 (by omega)).mono ?_
  rintro e w9 ⟨rfl, hB14⟩
  rw [ex_fit1]
  have hB15 : Below w1.heap.size w1 w9 := (hB12.trans (hB13.mono hB12.size)).trans (hB14.mono (Nat.le_trans hB12.size hB13.size))
  go_wp2_with (at_make; refine wpList_makeN (r := secR) (B := w9.heap.size) Try.slSec rfl _ _ rfl (z0 := zeroSec) secR_zero (n := 1) rfl rfl (by omega) (by unfold maxLen; omega) (Nat.le_refl _) ?_; intro w10 hm10 hB16)
  refine (fitsI_any ((hI.below hB15).below hB16) (by omega) i64_2 i64_0 (by omega)).mono ?_
  rintro e w11 ⟨rfl, hB17⟩
  rw [ex_fit2]
  have hB18 : Below w1.heap.size w1 w11 := (hB15.trans (hB16.mono hB15.size)).trans (hB17.mono (Nat.le_trans hB15.size hB16.size))
  go_wp2_with fail
  refine (fitsI_any (hI.below hB18) (by omega) i64_1 i64_0 (by omega)).mono ?_
  rintro e w12 ⟨rfl, hB19⟩
  rw [ex_fit3]
  have hB20 : Below w1.heap.size w1 w12 := hB18.trans (hB19.mono hB18.size)
  have hC6 : Below w5.heap.size w5 w7 := hB9.trans (hB11.mono hB9.size)
  have hC7 : Below w7.heap.size w7 w12 := (((hB13.trans (hB14.mono hB13.size)).trans (hB16.mono (Nat.le_trans hB13.size hB14.size))).trans (hB17.mono (Nat.le_trans (Nat.le_trans hB13.size hB14.size) hB16.size))).trans (hB19.mono (Nat.le_trans (Nat.le_trans (Nat.le_trans hB13.size hB14.size) hB16.size) hB17.size))
  have hA2 := (hA.below hC6).below hC7
  have hD2 := (hD.below hB11).below hC7
  have hP2 := hP.below hC7
  obtain ⟨ab, ao, rfl, _, hab⟩ := hA2.addr (k := 0) (by omega)
  obtain ⟨db, do_, rfl, _, hdb⟩ := hD2.addr (k := 0) (by omega)
  obtain ⟨aa0, an0, ac0, hca0, hA0⟩ := hA2.slice (k := 0) rfl
  obtain ⟨da0, dn0, dc0, hcd0, hD0⟩ := hD2.slice (k := 0) rfl
  obtain ⟨da1, dn1, dc1, hcd1, hD1⟩ := hD2.slice (k := 1) rfl
  obtain ⟨_, _, _, _, hcp1, _⟩ := hP2.wr (k := 0) rfl
  obtain rfl : an0 = 4 := hA0.len.symm
  obtain rfl : dn0 = 1 := hD0.len.symm
  obtain rfl : dn1 = 0 := hD1.len.symm
  rw [Nat.add_zero] at hca0 hcd0
  rw [Nat.zero_mul, Nat.add_zero] at hcp1
  have hl0 := cellLater hca0
  have hl1 := cellLater hcd0
  have hl2 := cellLater hcd1
  have hl3 := cellLater hcp1
  go_wp2_with fail
  refine wp_region_acts (fun w' => ∃ x : Later (w12), w' = x.w) [([0, 1, 2, 3, 6], 4), ([], 5), ([], 7), ([], 8), ([9, 10, 11, 12, 13], 14), ([], 15)] [16, 17, 18, 19, 20, 21, 22, 23, 24, 25, 26, 27, 28, 29, 30, 31, 32, 33, 34, 35, 36, 37, 38, 39, 40, 41, 42, 43] Try.mixed (by kernel_rfl) (LaterS.drew _) ?_
  refine wpActs_act ?_
  simp only [pick, List.filterMap_cons, List.filterMap_nil, List.getElem?_toArray, List.getElem?_cons_succ, List.getElem?_cons_zero]
  change wpQuiet _ _ _ _ [_, _, _, _, _] _
  repeat (go_big_quiet_step (fail))
  refine wpQuiet_nil ?_
  change wpList _ _ _ [_] _ _
  go_wp2_with fail
  refine (sector1_any _).mono ?_
  rintro e v1 ⟨rfl, hE1⟩
  have hF1 : Below w12.heap.size w12 v1 := ((Below.refl _ _).drew).trans hE1
  go_wp2_with fail
  refine ⟨LaterS.of hF1, ?_⟩
  refine wpActs_act ?_
  simp only [pick, List.filterMap_cons, List.filterMap_nil, List.getElem?_toArray, List.getElem?_cons_succ, List.getElem?_cons_zero]
  change wpQuiet _ _ _ _ [] _
  repeat (go_big_quiet_step (fail))
  refine wpQuiet_nil ?_
  change wpList _ _ _ [_] _ _
  go_wp2_with fail
  refine (sector3_any _).mono ?_
  rintro e v2 ⟨rfl, hE2⟩
  have hF2 : Below w12.heap.size w12 v2 := hF1.trans (hE2.mono hF1.size)
  go_wp2_with fail
  refine ⟨LaterS.of hF2, ?_⟩
  refine wpActs_act ?_
  simp only [pick, List.filterMap_cons, List.filterMap_nil, List.getElem?_toArray, List.getElem?_cons_succ, List.getElem?_cons_zero]
  change wpQuiet _ _ _ _ [] _
  repeat (go_big_quiet_step (fail))
  refine wpQuiet_nil ?_
  change wpList _ _ _ [_] _ _
  go_wp2_with fail
  have hx4 : Sl secR (fun _ => True) (v2.alloc (.cells #[.int .u8 0, .int .u8 0, .int .u8 0, .int .u8 0, .int .u8 0, .int .u8 0, .int .u8 0, .int .u8 0, .int .u8 1, .int .u8 0, .int .u8 0, .int .u8 0, .int .u8 0, .int .u8 0, .int .u8 0, .int .u8 0, .int .u8 3, .int .u8 0, .int .u8 0, .int .u8 0, .int .u8 0, .int .u8 0, .int .u8 0, .int .u8 0, .int .u8 0, .int .u8 0, .int .u8 0, .int .u8 0, .int .u8 0, .int .u8 0, .int .u8 0, .int .u8 0] 52)) (some ⟨v2.heap.size, 0, none⟩) 4 4 [zeroSec, secOf 1, secOf 3, zeroSec] :=
    Sl.lit rfl ⟨secCells zeroSec, secCells (secOf 1) ++ (secCells (secOf 3) ++ (secCells zeroSec ++ [])), rfl, rfl, _, _, rfl, rfl, _, _, rfl, rfl, secCells zeroSec, [], rfl, rfl, rfl⟩ trivial (by unfold maxLen; omega)
  obtain ⟨v3, hv3⟩ : ∃ v3, v2.alloc (.cells #[.int .u8 0, .int .u8 0, .int .u8 0, .int .u8 0, .int .u8 0, .int .u8 0, .int .u8 0, .int .u8 0, .int .u8 1, .int .u8 0, .int .u8 0, .int .u8 0, .int .u8 0, .int .u8 0, .int .u8 0, .int .u8 0, .int .u8 3, .int .u8 0, .int .u8 0, .int .u8 0, .int .u8 0, .int .u8 0, .int .u8 0, .int .u8 0, .int .u8 0, .int .u8 0, .int .u8 0, .int .u8 0, .int .u8 0, .int .u8 0, .int .u8 0, .int .u8 0] 52) = v3 := ⟨_, rfl⟩
  have hF3 : Below w12.heap.size w12 v3 := by rw [← hv3]; exact hF2.trans ((Below.refl _ _).alloc hF2.size _)
  rw [hv3] at hx4 ⊢
  refine ⟨LaterS.of hF3, ?_⟩
  refine wpActs_act ?_
  simp only [pick, List.filterMap_cons, List.filterMap_nil, List.getElem?_toArray, List.getElem?_cons_succ, List.getElem?_cons_zero]
  change wpQuiet _ _ _ _ [] _
  repeat (go_big_quiet_step (fail))
  refine wpQuiet_nil ?_
  change wpList _ _ _ [_] _ _
  go_wp2_with fail
  refine (equal_sec (hA0.below hF3) hx4).mono ?_
  rintro e v4 ⟨rfl, hE4⟩
  have hF4 : Below w12.heap.size w12 v4 := hF3.trans (hE4.mono hF3.size)
  rw [beq_self_eq_true]
  go_wp2_with fail
  refine ⟨LaterS.of hF4, ?_⟩
  refine wpActs_act ?_
  simp only [pick, List.filterMap_cons, List.filterMap_nil, List.getElem?_toArray, List.getElem?_cons_succ, List.getElem?_cons_zero]
  change wpQuiet _ _ _ _ [_, _, _, _, _] _
  repeat (go_big_quiet_step (fail))
  refine wpQuiet_nil ?_
  change wpList _ _ _ [_] _ _
  go_wp2_with fail
  have hx5 : Sl extR (fun _ => True) (v4.alloc (.cells #[.int .i64 1, .int .i64 2] 59)) (some ⟨v4.heap.size, 0, none⟩) 1 1 [(1, 2)] :=
    Sl.lit rfl ⟨[_, _], [], rfl, ⟨[_], [_], rfl, ⟨rfl, i64_1⟩, ⟨rfl, i64_2⟩⟩, rfl⟩ trivial (by unfold maxLen; omega)
  obtain ⟨v5, hv5⟩ : ∃ v5, v4.alloc (.cells #[.int .i64 1, .int .i64 2] 59) = v5 := ⟨_, rfl⟩
  have hF5 : Below w12.heap.size w12 v5 := by rw [← hv5]; exact hF4.trans ((Below.refl _ _).alloc hF4.size _)
  rw [hv5] at hx5 ⊢
  refine ⟨LaterS.of hF5, ?_⟩
  refine wpActs_act ?_
  simp only [pick, List.filterMap_cons, List.filterMap_nil, List.getElem?_toArray, List.getElem?_cons_succ, List.getElem?_cons_zero]
  change wpQuiet _ _ _ _ [] _
  repeat (go_big_quiet_step (fail))
  refine wpQuiet_nil ?_
  change wpList _ _ _ [_] _ _
  go_wp2_with fail
  refine (equal_ext (hD0.below hF5) hx5).mono ?_
  rintro e v6 ⟨rfl, hE6⟩
  have hF6 : Below w12.heap.size w12 v6 := hF5.trans (hE6.mono hF5.size)
  rw [beq_self_eq_true]
  go_wp2_with fail
  refine ⟨LaterS.of hF6, ?_⟩
  refine wpActs_last ?_
  simp only [pick, List.filterMap_cons, List.filterMap_nil, List.getElem?_toArray, List.getElem?_cons_succ, List.getElem?_cons_zero]
  change wpQuiet _ _ _ _ [_, _, _, _, _, _, _, _, _, _, _, _, _, _, _, _, _, _, _, _, _, _, _, _, _, _, _, _] _
  repeat (go_big_quiet_step (fail))
  refine wpQuiet_nil ?_
  go_wp2
  go_ret
  exact ⟨rfl, (hB2.trans (hB20.mono hB2.size)).trans (hF6.mono (Nat.le_trans hB2.size hB20.size))⟩

end Go.Proofs.Ytldnpgbacakfeaa

namespace Go.Proofs.Ytldnpgbacakfeaa

inductive PV where
  | int (k : IntKind) (n : Int)
  | bool (b : Bool)
  | str (s : ByteArray)
  | list (sz : Nat) (es : List PV)
  | agg (cs : List PV)
  | func (f : Nat) (caps : List PV)
  | nilf
  | iptr (cs : List PV) (j : Nat)
  | void
  deriving Inhabited
def PV.cells : PV → List PV
  | .agg cs => cs
  | v => [v]

inductive Root where
  | slot (t : Nat)
  | part (t i : Nat)
  | cell (o j : Nat)
  deriving DecidableEq

inductive BV where
  | pv (v : PV)
  | row (sz : Nat) (es : List PV)
  deriving Inhabited

inductive AV where
  | pv (v : PV)
  | row (sz : Nat) (es : List PV)
  | ref (r : Root) (off len : Nat)
  | pbox (o j : Nat)
  | pel (r : Root) (i j : Nat)
  | fn (f : Nat) (caps : List AV)
  | tup (l : List AV)
  | yld
  | any
  deriving Inhabited

structure Box where
  fz : Bool
  cs : List BV
  deriving Inhabited

structure St where
  slots : List AV
  boxes : List Box
  ys : List (List PV)
  stop : Option (Option Nat)
  deriving Inhabited

inductive Opd where
  | t (n : Nat)
  | c (v : PV)
  | nil (sz : Nat)
  deriving Inhabited

inductive VOp where
  | mov (d : Nat) (x : Opd)
  | asg (d : Nat) (x : Opd)
  | pick (d : Nat) (c x y : Opd)
  | bin (d : Nat) (o : BinOp) (x y : Opd)
  | eqa (d : Nat) (neg : Bool) (n : Nat) (x y : Opd)
  | eqb (d : Nat) (neg : Bool) (x y : Opd)
  | isn (d : Nat) (neg : Bool) (x : Opd)
  | cut (d : Nat) (sz : Nat) (x : Opd)
  | un (d : Nat) (o : UnOp) (x : Opd)
  | conv (d : Nat) (k : IntKind) (x : Opd)
  | alloc (d : Nat) (z : List PV)
  | box (d : Nat) (x : Opd)
  | load (d : Nat) (n : Option Nat) (p : Opd)
  | store (d : Option Nat) (n : Nat) (p x : Opd)
  | fadr (d : Nat) (p : Opd) (off : Nat)
  | iadr (d : Nat) (sz : Nat) (x i : Opd)
  | aadr (d : Nat) (p i : Opd) (len sz : Nat)
  | fld (d : Nat) (x : Opd) (off : Nat) (n : Option Nat)
  | idx (d : Nat) (x i : Opd) (len sz : Nat) (n : Option Nat)
  | sli (d : Nat) (sz : Nat) (x : Opd) (lo hi : Option Opd)
  | ext (d : Nat) (x : Opd) (i : Nat)
  | build (d : Nat) (z : List PV) (parts : List (Nat × Nat × Opd))
  | mksl (d : Nat) (sz : Nat) (parts : List Opd)
  | make (d : Nat) (z : PV) (n c : Opd)
  | len (d : Nat) (x : Opd)
  | lens (d : Nat) (x : Opd)
  | app (d : Nat) (sz : Nat) (x y : Opd)
  | cpy (d : Nat) (sz : Nat) (x y : Opd)
  | mn (d : Nat) (mx : Bool) (x y : Opd)
  | call (d : Nat) (f : Nat) (args : List Opd)
  | callv (d : Nat) (x : Opd) (args : List Opd)
  | yield (d : Nat) (x : Opd) (args : List Opd)
  | mkf (d : Nat) (f : Nat) (caps : List Opd)
  | grd (g : Nat) (want : Bool) (o : VOp)
  deriving Inhabited

inductive VCode where
  | skip
  | ops (l : List VOp)
  | drw (acts : List (List Nat × Nat)) (fin : Option (List Nat × Nat × List (List Nat × Nat))) (last : List Nat) (l : List VOp)
  | seq (a b : VCode)
  | cond (c : Opd) (a b : VCode)
  | block (id : Nat) (a : VCode)
  | loop (keep : List Nat) (a : VCode)
  | round (keep : List Nat) (nb : Nat) (a : VCode)
  | rng (g : Opd) (ps : List Nat) (assign body : VCode)
  | clean (pre post : List Nat) (a : VCode)
  | exit (id : Nat)
  | ret
  deriving Inhabited

inductive VRes where
  | tmp (t : Nat)
  | cell (t : Nat) (n : Option Nat)
  deriving Inhabited

structure VFn where
  nargs : Nat
  ntmps : Nat
  results : List VRes
  body : VCode
  deriving Inhabited

abbrev Res := PV × Bool

inductive VDef where
  | code (f : VFn)
  | ext (g : List PV → Option (List Res))
  deriving Inhabited

abbrev Env := Nat → Option VDef

inductive Ex where
  | normal
  | exit (id : Nat)
  | ret
  deriving DecidableEq, Inhabited

def lim : Nat := 1073741824

def St.get (st : St) : Opd → AV
  | .t n => st.slots.getD n .any
  | .c v => .pv v
  | .nil sz => .row sz []
def St.put (st : St) (d : Nat) (v : AV) : St := { st with slots := st.slots.set d v }
def AV.roots (d : Nat) : AV → Bool
  | .ref (.slot t) _ _ => t == d
  | .pel (.slot t) _ _ => t == d
  | _ => false
def AV.kill (d : Nat) (v : AV) : AV := if v.roots d then .any else v
def St.putRow (st : St) (d sz : Nat) (es : List PV) : St := { st with slots := (st.slots.map (AV.kill d)).set d (.row sz es) }
def AV.rootsCell (o : Nat) : AV → Bool
  | .ref (.cell p _) _ _ => p == o
  | .pel (.cell p _) _ _ => p == o
  | _ => false
def AV.killCell (o : Nat) (v : AV) : AV := if v.rootsCell o then .any else v
def St.setCell (st : St) (o j : Nat) (v : BV) : St :=
  match st.boxes[o]? with
  | some b => { st with boxes := st.boxes.set o { b with cs := b.cs.set j v } }
  | none => st
def St.setCellRow (st : St) (o j sz : Nat) (es : List PV) : St := { (st.setCell o j (.row sz es)) with slots := st.slots.map (AV.killCell o) }

def St.row (st : St) : Root → Option (Nat × List PV)
  | .slot t => match st.slots[t]? with
    | some (.row sz es) => some (sz, es)
    | _ => none
  | .cell o j => match st.boxes[o]? with
    | some b => if b.fz then none else match b.cs[j]? with
      | some (.row sz es) => some (sz, es)
      | _ => none
    | none => none
  | .part _ _ => none
def St.setRow (st : St) (r : Root) (sz : Nat) (es : List PV) : St :=
  match r with
  | .slot t => st.put t (.row sz es)
  | .cell o j => st.setCell o j (.row sz es)
  | .part _ _ => st
def St.takeRow (st : St) : Root → St
  | .slot t => st.put t .any
  | .cell o j => st.setCell o j (.pv .void)
  | .part _ _ => st
def St.freeze (st : St) (r : Root) : St :=
  match st.row r with
  | some (sz, es) => match r with
    | .slot t => st.put t (.pv (.list sz es))
    | .cell o j => st.setCell o j (.pv (.list sz es))
    | .part _ _ => st
  | none => st
def BV.frozen : BV → BV
  | .row sz es => .pv (.list sz es)
  | v => v
def BV.val : BV → PV
  | .row sz es => .list sz es
  | .pv v => v
def St.freezeRows (st : St) (o : Nat) : St :=
  match st.boxes[o]? with
  | some b => { st with boxes := st.boxes.set o { b with cs := b.cs.map BV.frozen } }
  | none => st
def St.freezeBox (st : St) (o : Nat) : St :=
  match st.boxes[o]? with
  | some b => { st with boxes := st.boxes.set o ⟨true, b.cs.map BV.frozen⟩ }
  | none => st

def St.consume (st : St) : Opd → Option (PV × Bool × St)
  | .c v => some (v, false, st)
  | .nil sz => some (.list sz [], true, st)
  | .t n => match st.slots.getD n .any with
    | .pv v => some (v, false, st)
    | .row sz es => some (.list sz es, true, st.put n .any)
    | .ref r off len => match st.row r with
      | some (sz, es) => if off + len ≤ es.length then some (.list sz ((es.drop off).take len), false, st.freeze r) else none
      | none => none
    | _ => none

def St.snap (st : St) : AV → Option (PV × Bool)
  | .pv v => some (v, false)
  | .row sz es => some (.list sz es, true)
  | .ref r off len => match st.row r with
    | some (sz, es) => if off + len ≤ es.length then some (.list sz ((es.drop off).take len), true) else none
    | none => none
  | .pbox o j => match st.boxes[o]? with
    | some b => some (.iptr (b.cs.map BV.val) j, !b.fz)
    | none => none
  | .pel r i j => match st.row r with
    | some (_, es) => match es[i]? with
      | some e => some (.iptr e.cells j, true)
      | none => none
    | none => none
  | _ => none
def St.snapFn (st : St) : AV → Option (PV × Bool)
  | .fn f caps => do
    let l ← caps.mapM st.snap
    some (.func f (l.map (·.1)), l.any (·.2))
  | v => st.snap v
def St.freezeArg1 (st : St) (x : Opd) (v : AV) : St :=
  match v with
  | .row _ _ => match x with
    | .t n => st.freeze (.slot n)
    | _ => st
  | .ref r _ _ => st.freeze r
  | .pel r _ _ => st.freeze r
  | .pbox o _ => st.freezeBox o
  | _ => st
def St.freezeArg (st : St) (x : Opd) : St :=
  match st.get x with
  | .fn _ caps => caps.foldl (fun s v => s.freezeArg1 (.c .void) v) st
  | v => st.freezeArg1 x v

def PV.scalar : PV → Bool
  | .int _ _ | .bool _ | .str _ => true
  | .agg cs => cs.all fun c => match c with
    | .int _ _ | .bool _ | .str _ => true
    | _ => false
  | _ => false

def eqCells : List PV → List PV → Option Bool
  | [], [] => some true
  | .int k a :: xs, .int l b :: ys => if k = l then (eqCells xs ys).map fun r => (a == b) && r else none
  | _, _ => none
def intBin (o : BinOp) (k : IntKind) (a b : Int) : Option PV :=
  match o with
  | .add => some (.int k (k.wrap (a + b)))
  | .sub => some (.int k (k.wrap (a - b)))
  | .mul => some (.int k (k.wrap (a * b)))
  | .quo => if b = 0 then none else some (.int k (k.wrap (a.tdiv b)))
  | .rem => if b = 0 then none else some (.int k (a.tmod b))
  | .and => some (.int k (k.wrap (BitVec.ofInt k.bits a &&& BitVec.ofInt k.bits b).toNat))
  | .or => some (.int k (k.wrap (BitVec.ofInt k.bits a ||| BitVec.ofInt k.bits b).toNat))
  | .xor => some (.int k (k.wrap (BitVec.ofInt k.bits a ^^^ BitVec.ofInt k.bits b).toNat))
  | .andNot => some (.int k (k.wrap (BitVec.ofInt k.bits a &&& ~~~(BitVec.ofInt k.bits b)).toNat))
  | .eql => some (.bool (a == b))
  | .neq => some (.bool (a != b))
  | .lss => some (.bool (a < b))
  | .leq => some (.bool (a ≤ b))
  | .gtr => some (.bool (a > b))
  | .geq => some (.bool (a ≥ b))
  | .shl => if b < 0 then none else some (.int k (k.wrap (a * 2 ^ (min b.toNat k.bits))))
  | .shr => if b < 0 then none else some (.int k (a.fdiv (2 ^ (min b.toNat k.bits))))
def binPV (o : BinOp) (x y : PV) : Option PV :=
  match x, y with
  | .int k a, .int l b => match o with
    | .shl => intBin .shl k a b
    | .shr => intBin .shr k a b
    | o => if k = l then intBin o k a b else none
  | _, _ => none
def unPV (o : UnOp) (x : PV) : Option PV :=
  match o, x with
  | .neg, .int k n => some (.int k (k.wrap (0 - n)))
  | .not, .bool b => some (.bool !b)
  | .xor, .int k n => intBin .xor k (if k.signed then -1 else k.max) n
  | _, _ => none

def part (cs : List PV) (off : Nat) : Option Nat → Option PV
  | none => cs[off]?
  | some n => if off + n ≤ cs.length then some (.agg ((cs.drop off).take n)) else none
def splice (cs : List PV) (off : Nat) (new : List PV) : Option (List PV) :=
  if off + new.length ≤ cs.length then some (cs.take off ++ new ++ cs.drop (off + new.length)) else none
def index (i : PV) (len : Nat) : Option Nat :=
  match i with
  | .int _ n => if 0 ≤ n ∧ n < len then some n.toNat else none
  | _ => none
def bound (v : Option PV) (d : Nat) (y : Nat) : Option Nat :=
  match v with
  | none => some d
  | some (.int _ n) => if 0 ≤ n ∧ n ≤ y then some n.toNat else none
  | _ => none
def PV.remade (e : PV) (cs : List PV) : Option PV :=
  match e with
  | .agg _ => some (.agg cs)
  | _ => match cs with
    | [.agg _] => none
    | [c] => some c
    | _ => none
def St.pvOf (st : St) (x : Opd) : Option PV :=
  match st.get x with
  | .pv v => some v
  | _ => none
def St.optPv (st : St) : Option Opd → Option (Option PV)
  | none => some none
  | some x => (st.pvOf x).map some
def St.elems (st : St) (x : Opd) : Option (Nat × List PV) :=
  match st.get x with
  | .pv (.list sz es) => some (sz, es)
  | .row sz es => some (sz, es)
  | .ref r off len => match st.row r with
    | some (sz, es) => if off + len ≤ es.length then some (sz, (es.drop off).take len) else none
    | none => none
  | _ => none
def St.place (st : St) (x : Opd) : Option (Root × Nat × Nat) :=
  match x with
  | .t n => match st.slots.getD n .any with
    | .ref r off len => some (r, off, len)
    | .row _ es => some (.slot n, 0, es.length)
    | _ => none
  | _ => none
def St.grab (st : St) (x : Opd) : Option (Nat × List PV × St) :=
  match x with
  | .nil sz => some (sz, [], st)
  | .c _ => none
  | .t n => match st.slots.getD n .any with
    | .row sz es => some (sz, es, st.put n .any)
    | .ref r 0 len => match st.row r with
      | some (sz, es) => if len ≤ es.length then some (sz, es.take len, st.takeRow r) else none
      | none => none
    | _ => none
def St.lay (st : St) (d : Nat) (v : PV) (own : Bool) : St :=
  if own then match v with
    | .list sz es => st.putRow d sz es
    | v => st.put d (.pv v)
  else st.put d (.pv v)
def St.layAll (st : St) (d : Nat) : List Res → St
  | [(v, own)] => st.lay d v own
  | l => st.put d (.tup (l.map fun r => match r with
    | (.list sz es, true) => .row sz es
    | (v, _) => .pv v))

def buildParts (cs : List PV) (st : St) : List (Nat × Nat × Opd) → Option (List PV × St)
  | [] => some (cs, st)
  | (off, n, x) :: l => do
    let (v, _, st) ← st.consume x
    let cs ← splice cs off v.cells
    if v.cells.length = n then buildParts cs st l else none
def capOf (st : St) (x : Opd) : Option AV :=
  match st.get x with
  | .pv v => some (.pv v)
  | .pbox o j => some (.pbox o j)
  | _ => none
def capsOf (st : St) : List Opd → Option (List AV)
  | [] => some []
  | x :: l => do
    let v ← capOf st x
    let vs ← capsOf st l
    some (v :: vs)

def plain (o : VOp) (st : St) : Option St :=
  match o with
  | .mov d x => match st.get x with
    | .row sz es => match x with
      | .t n => some (st.put d (.ref (.slot n) 0 es.length))
      | _ => some (st.putRow d sz es)
    | .tup l => match x with
      | .t n => some ((st.put n .any).put d (.tup l))
      | _ => none
    | v => some (st.put d v)
  | .asg d x => match st.get x with
    | .row sz es => match x with
      | .t n => some ((st.put n .any).putRow d sz es)
      | _ => some (st.putRow d sz es)
    | .tup l => match x with
      | .t n => some ((st.put n .any).put d (.tup l))
      | _ => none
    | v => some (st.put d v)
  | .pick d c x y => do
    let .bool b ← st.pvOf c | none
    let v ← st.pvOf (if b then x else y)
    some (st.put d (.pv v))
  | .bin d o x y => do
    let a ← st.pvOf x
    let b ← st.pvOf y
    let v ← binPV o a b
    some (st.put d (.pv v))
  | .eqa d neg n x y => do
    let .agg xs ← st.pvOf x | none
    let .agg ys ← st.pvOf y | none
    let r ← eqCells xs ys
    if xs.length = n then some (st.put d (.pv (.bool (if neg then !r else r)))) else none
  | .eqb d neg x y => do
    let .bool a ← st.pvOf x | none
    let .bool b ← st.pvOf y | none
    some (st.put d (.pv (.bool (if neg then !(a == b) else a == b))))
  | .isn d neg x => match st.get x with
    | .pv (.list _ (_ :: _)) => some (st.put d (.pv (.bool neg)))
    | _ => none
  | .cut d sz x => match st.get x with
    | .pv (.list _ (_ :: _)) => some (st.putRow d sz [])
    | _ => none
  | .un d o x => do
    let a ← st.pvOf x
    let v ← unPV o a
    some (st.put d (.pv v))
  | .conv d k x => do
    let .int _ n ← st.pvOf x | none
    some (st.put d (.pv (.int k (k.wrap n))))
  | .load d n p => match st.get p with
    | .pv (.iptr cs j) => do some (st.put d (.pv (← part cs j n)))
    | .pel r i j => do
      let (_, es) ← st.row r
      let e ← es[i]?
      some (st.put d (.pv (← part e.cells j n)))
    | .pbox o j => do
      let b ← st.boxes[o]?
      match n with
      | none => match b.cs[j]? with
        | some (.pv v) => some (st.put d (.pv v))
        | some (.row _ es) => if b.fz then none else some (st.put d (.ref (.cell o j) 0 es.length))
        | none => none
      | some n => do
        let v ← part (b.cs.map BV.val) j (some n)
        some ((st.freezeRows o).put d (.pv v))
    | _ => none
  | .fadr d p off => match st.get p with
    | .pv (.iptr cs j) => some (st.put d (.pv (.iptr cs (j + off))))
    | .pel r i j => match st.row r with
      | some _ => some (st.put d (.pel r i (j + off)))
      | none => none
    | .pbox o j => some (st.put d (.pbox o (j + off)))
    | _ => none
  | .aadr d p i len sz => do
    let k ← index (← st.pvOf i) len
    match st.get p with
    | .pv (.iptr cs j) => some (st.put d (.pv (.iptr cs (j + k * sz))))
    | .pel r i j => match st.row r with
      | some _ => some (st.put d (.pel r i (j + k * sz)))
      | none => none
    | .pbox o j => some (st.put d (.pbox o (j + k * sz)))
    | _ => none
  | .iadr d sz x i => do
    let iv ← st.pvOf i
    match st.get x with
    | .pv (.list s es) => do
      let k ← index iv es.length
      let e ← es[k]?
      if s = sz then some (st.put d (.pv (.iptr e.cells 0))) else none
    | .ref r off len => do
      let (s, es) ← st.row r
      if off + len ≤ es.length ∧ s = sz then
        let k ← index iv len
        some (st.put d (.pel r (off + k) 0))
      else none
    | .row s es => do
      let .t n := x | none
      let k ← index iv es.length
      if s = sz then some (st.put d (.pel (.slot n) k 0)) else none
    | _ => none
  | .fld d x off n => do
    let .agg cs ← st.pvOf x | none
    some (st.put d (.pv (← part cs off n)))
  | .idx d x i len sz n => do
    let .agg cs ← st.pvOf x | none
    let k ← index (← st.pvOf i) len
    some (st.put d (.pv (← part cs (k * sz) n)))
  | .sli d sz x lo hi => do
    let l ← st.optPv lo
    let h ← st.optPv hi
    match st.get x with
    | .pv (.list s es) => do
      let h ← bound h es.length es.length
      let l ← bound l 0 h
      if s = sz then some (st.put d (.pv (.list sz ((es.drop l).take (h - l))))) else none
    | .row s es => do
      let .t n := x | none
      let h ← bound h es.length es.length
      let l ← bound l 0 h
      if s = sz then some (st.put d (.ref (.slot n) l (h - l))) else none
    | .ref r off len => do
      let (s, es) ← st.row r
      if off + len ≤ es.length ∧ s = sz then
        let h ← bound h len len
        let l ← bound l 0 h
        some (st.put d (.ref r (off + l) (h - l)))
      else none
    | _ => none
  | .len d x => match st.get x with
    | .pv (.list _ es) => some (st.put d (.pv (.int .i64 es.length)))
    | .row _ es => some (st.put d (.pv (.int .i64 es.length)))
    | .ref r _ len => match st.row r with
      | some _ => some (st.put d (.pv (.int .i64 len)))
      | none => none
    | _ => none
  | .lens d x => match st.get x with
    | .pv (.str s) => some (st.put d (.pv (.int .i64 s.size)))
    | _ => none
  | .ext d x i => match x with
    | .t n => match st.slots.getD n .any with
      | .tup l => match l[i]? with
        | some (.pv v) => some (st.put d (.pv v))
        | some (.row sz es) => some ((st.put n (.tup (l.set i .any))).putRow d sz es)
        | _ => none
      | _ => none
    | _ => none
  | .build d z parts => do
    let (cs, st) ← buildParts z st parts
    some (st.put d (.pv (.agg cs)))
  | .mn d mx x y => do
    let .int k m ← st.pvOf x | none
    let .int l n ← st.pvOf y | none
    if k = l then some (st.put d (.pv (.int k (if mx then (if m < n then n else m) else (if n < m then n else m))))) else none
  | .mkf d f caps => do
    let l ← capsOf st caps
    some (st.put d (.fn f l))
  | _ => none

def resultOf (st : St) : VRes → Option (Res × St)
  | .tmp t => match st.grab (.t t) with
    | some (sz, es, st1) => some ((.list sz es, true), st1)
    | none => match st.slots.getD t .any with
      | .pv v => some ((v, false), st)
      | .ref r off len => match st.row r with
        | some (sz, es) => if off + len ≤ es.length then some ((.list sz ((es.drop off).take len), false), st.freeze r) else none
        | none => none
      | _ => none
  | .cell t n => match st.slots.getD t .any with
    | .pbox o j => match st.boxes[o]? with
      | some b => match n with
        | none => match b.cs[j]? with
          | some (.row sz es) => if b.fz then none else some ((.list sz es, false), st.freeze (.cell o j))
          | some (.pv v) => some ((v, false), st)
          | none => none
        | some n => (part (b.cs.map BV.val) j (some n)).map fun v => ((v, false), st.freezeRows o)
      | none => none
    | _ => none
def resultList (st : St) : List VRes → Option (List Res)
  | [] => some []
  | r :: rs => do
    let (x, st) ← resultOf st r
    let l ← resultList st rs
    some (x :: l)
def resultsOf (st : St) (rs : List VRes) : Option (List Res) :=
  match rs with
  | [.tmp t] => match st.slots.getD t .any with
    | .fn f caps => (st.snapFn (.fn f caps)).map fun p => [(p.1, false)]
    | _ => resultList st rs
  | _ => resultList st rs

section
variable (rec : VCode → St → Option (Ex × St)) (env : Env)
def callRes (f : Nat) (args : List PV) : Option (List Res) :=
  match env f with
  | some (.ext g) => g args
  | some (.code fn) =>
    if args.length = fn.nargs then do
      let (e, st) ← rec fn.body ⟨args.map .pv ++ List.replicate (fn.ntmps - args.length) .any, [], [], none⟩
      match e with
      | .exit _ => none
      | _ => resultsOf st fn.results
    else none
  | none => none
def iterRes (f : Nat) (caps : List PV) (stop : Option Nat) : Option (List (List PV)) :=
  match env f with
  | some (.code fn) =>
    if caps.length + 1 = fn.nargs ∧ fn.results.isEmpty = true then do
      let (e, st) ← rec fn.body ⟨.yld :: (caps.map .pv ++ List.replicate (fn.ntmps - (caps.length + 1)) .any), [], [], some stop⟩
      match e with
      | .exit _ => none
      | _ => some st.ys
    else none
  | _ => none
def callOn (d f : Nat) (args : List Opd) (caps : List AV) (st : St) : Option St := do
  let l ← args.mapM fun x => st.snapFn (st.get x)
  let k ← caps.mapM st.snap
  let rs ← callRes rec env f (l.map (·.1) ++ k.map (·.1))
  let st1 := if (l.any (·.2) || k.any (·.2)) && !(rs.all (·.1.scalar)) then caps.foldl (fun s v => s.freezeArg1 (.c .void) v) (args.foldl St.freezeArg st) else st
  some (st1.layAll d rs)
def consumeAll (st : St) : List Opd → Option (List PV × St)
  | [] => some ([], st)
  | x :: l => do
    let (v, _, st) ← st.consume x
    let (vs, st) ← consumeAll st l
    some (v :: vs, st)

def act (o : VOp) (st : St) : Option St :=
  match o with
  | .alloc d z => some (({ st with boxes := st.boxes ++ [(⟨false, z.map .pv⟩ : Box)] } : St).put d (.pbox st.boxes.length 0))
  | .box d x => do
    let (v, own, st) ← st.consume x
    let cs := match v, own with
      | .list sz es, true => [BV.row sz es]
      | v, _ => v.cells.map .pv
    some (({ st with boxes := st.boxes ++ [(⟨false, cs⟩ : Box)] } : St).put d (.pbox st.boxes.length 0))
  | .store _ n p x => do
    let (v, own, st) ← st.consume x
    match st.get p with
    | .pbox o j => do
      let b ← st.boxes[o]?
      if b.fz || !(v.cells.length = n) || !(j + n ≤ b.cs.length) then none
      else match v, own with
        | .list sz es, true => some (st.setCellRow o j sz es)
        | v, _ => some { st with boxes := st.boxes.set o { b with cs := b.cs.take j ++ v.cells.map .pv ++ b.cs.drop (j + n) } }
    | .pel r i j => do
      let (sz, es) ← st.row r
      let e ← es[i]?
      if v.cells.length = n then
        let cs ← splice e.cells j v.cells
        let e' ← e.remade cs
        some (st.setRow r sz (es.set i e'))
      else none
    | _ => none
  | .mksl d sz parts => do
    let (vs, st) ← consumeAll st parts
    if vs.all fun v => v.cells.length == sz then some (st.putRow d sz vs) else none
  | .make d z n c => do
    let .int _ n ← st.pvOf n | none
    let .int _ c ← st.pvOf c | none
    if 0 ≤ n ∧ n ≤ c ∧ c ≤ lim then some (st.putRow d z.cells.length (List.replicate n.toNat z)) else none
  | .app d sz x y => do
    let (sy, ys) ← st.elems y
    let (sx, es, st) ← st.grab x
    if sx = sz ∧ sy = sz ∧ es.length + ys.length ≤ lim then some (st.putRow d sz (es ++ ys)) else none
  | .cpy d sz x y => do
    let (sy, ys) ← st.elems y
    let (r, off, len) ← st.place x
    let (sx, es) ← st.row r
    if sx = sz ∧ sy = sz ∧ off + len ≤ es.length then
      let n := min ys.length len
      some ((st.setRow r sz (es.take off ++ ys.take n ++ es.drop (off + n))).put d (.pv (.int .i64 n)))
    else none
  | .call d f args => callOn rec env d f args [] st
  | .callv d x args => match st.get x with
    | .pv (.func f caps) => callOn rec env d f args (caps.map .pv) st
    | .fn f caps => callOn rec env d f args caps st
    | _ => none
  | .yield d x args => match st.get x with
    | .yld => do
      let stop ← st.stop
      let (vs, st) ← consumeAll st args
      match stop with
      | none => some (({ st with ys := st.ys ++ [vs] } : St).put d (.pv (.bool true)))
      | some k => if st.ys.length < k then some (({ st with ys := st.ys ++ [vs] } : St).put d (.pv (.bool (!(st.ys.length + 1 == k))))) else none
    | _ => none
  | _ => none
def isAct : VOp → Bool
  | .alloc .. | .box .. | .store .. | .mksl .. | .make .. | .app .. | .cpy .. | .call .. | .callv .. | .yield .. => true
  | _ => false
def dstOf : VOp → Option Nat
  | .mov d _ | .asg d _ | .pick d _ _ _ | .bin d _ _ _ | .eqa d _ _ _ _ | .eqb d _ _ _ | .isn d _ _ | .cut d _ _ | .un d _ _ | .conv d _ _ | .alloc d _ | .box d _ | .load d _ _ | .fadr d _ _ | .iadr d _ _ _ | .aadr d _ _ _ _ | .fld d _ _ _ | .idx d _ _ _ _ _ | .sli d _ _ _ _
  | .ext d _ _ | .build d _ _ | .mksl d _ _ | .make d _ _ _ | .len d _ | .lens d _ | .app d _ _ _ | .cpy d _ _ _ | .mn d _ _ _ | .call d _ _ | .callv d _ _ | .yield d _ _ | .mkf d _ _ => some d
  | .store d _ _ _ => d
  | .grd _ _ _ => none
def op1 (o : VOp) (st : St) : Option St := if isAct o then act rec env o st else plain o st
def op (o : VOp) (st : St) : Option St :=
  match o with
  | .grd g want o => match st.slots.getD g .any with
    | .pv (.bool b) => if b = want then op1 rec env o st else match dstOf o with
      | some d => some (st.put d .any)
      | none => some st
    | _ => none
  | o => op1 rec env o st
def ops : List VOp → St → Option St
  | [], st => some st
  | o :: l, st => (op rec env o st).bind (ops l)

def AV.low (nb : Nat) : AV → Bool
  | .pv _ | .row _ _ | .yld | .any => true
  | .pbox o _ => o < nb
  | .ref (.cell o _) _ _ | .pel (.cell o _) _ _ => o < nb
  | .ref .. | .pel .. => true
  | .fn _ caps => caps.all fun c => match c with
    | .pv _ => true
    | .pbox o _ => o < nb
    | _ => false
  | .tup _ => false
def St.head (st : St) (keep : List Nat) (nb : Nat) : Option St :=
  let sl := st.slots.zipIdx.map fun (v, i) => if keep.contains i then v else .any
  if sl.all (AV.low nb) && nb ≤ st.boxes.length then some { st with slots := sl, boxes := st.boxes.take nb } else none
def setParams (slots : List AV) : List Nat → List PV → Option (List AV)
  | [], [] => some slots
  | p :: ps, v :: vs => setParams (slots.set p (.pv v)) ps vs
  | _, _ => none
def AV.froze : AV → AV
  | .row sz es => .pv (.list sz es)
  | .tup _ | .ref _ _ _ | .pel _ _ _ => .any
  | v => v
def rounds (slots : List AV) (ps : List Nat) (assign body : VCode) (nb : Nat) : Nat → List (List PV) → St → Option (Option (Ex × Nat) × St)
  | _, [], st => some (none, st)
  | k, x :: xs, st => do
    let sl ← setParams slots ps x
    let (e, st) ← rec assign { st with slots := sl }
    match e with
    | .normal => do
      let (e, st) ← rec body st
      match e with
      | .normal => if nb ≤ st.boxes.length then rounds slots ps assign body nb (k + 1) xs { st with boxes := st.boxes.take nb } else none
      | e => some (some (e, k + 1), st)
    | _ => none
def ranged (g : Opd) (ps : List Nat) (assign body : VCode) (st : St) : Option (Ex × St) := do
  let .func f caps ← st.pvOf g | none
  let slots := st.slots.map AV.froze
  let st := { st with slots := slots }
  let xs ← iterRes rec env f caps none
  let (r, st1) ← rounds rec slots ps assign body st.boxes.length 0 xs st
  match r with
  | none => some (.normal, { st1 with slots := slots })
  | some (_, k) => do
    let ys ← iterRes rec env f caps (some k)
    let (r, st1) ← rounds rec slots ps assign body st.boxes.length 0 ys st
    match r with
    | some (e, m) => if m = k ∧ ys.length = k then some (e, { st1 with slots := slots }) else none
    | none => none

def step (c : VCode) (st : St) : Option (Ex × St) :=
  match c with
  | .skip => some (.normal, st)
  | .ops l => (ops rec env l st).map fun st => (.normal, st)
  | .drw _ _ _ l => (ops rec env l st).map fun st => (.normal, st)
  | .seq a b => do
    let (e, st) ← rec a st
    match e with
    | .normal => rec b st
    | e => some (e, st)
  | .cond c a b => do
    let .bool t ← st.pvOf c | none
    if t then rec a st else rec b st
  | .block id a => do
    let (e, st) ← rec a st
    some (if e = .exit id then .normal else e, st)
  | .loop keep a => rec (.round keep st.boxes.length a) st
  | .round keep nb a => do
    let (e, st) ← rec a (← st.head keep nb)
    match e with
    | .normal => rec (.round keep nb a) st
    | e => some (e, st)
  | .rng g ps assign body => ranged rec env g ps assign body st
  | .clean pre post a => do
    let st1 ← st.head pre st.boxes.length
    let (e, st2) ← rec a st1
    let st3 ← st2.head post st.boxes.length
    some (e, st3)
  | .exit id => some (.exit id, st)
  | .ret => some (.ret, st)
end
def vm (env : Env) : Nat → VCode → St → Option (Ex × St)
  | 0, _, _ => none
  | n + 1, c, st => step (vm env n) env c st
def vmCall (env : Env) (n f : Nat) (args : List PV) : Option (List Res) := callRes (vm env n) env f args
end Go.Proofs.Ytldnpgbacakfeaa

namespace Go.Proofs.Ytldnpgbacakfeaa
open Go.RowKit

inductive Owner where
  | ro
  | box (o : Nat)
  | row (r : Root)
  | other
  deriving DecidableEq
abbrev Tags := Nat → Owner

def Cellish (w : World) (b : Nat) : Prop := ∃ arr E q, w.heap[b]? = some (.cells arr E q)
theorem Cellish.lt {w : World} {b : Nat} (h : Cellish w b) : b < w.heap.size := let ⟨_, _, _, h⟩ := h; (Array.getElem?_eq_some_iff.1 h).1
theorem Cellish.same {w w' : World} {b : Nat} (h : Cellish w b) (hw : w'.heap[b]? = w.heap[b]?) : Cellish w' b := let ⟨_, _, _, h⟩ := h; ⟨_, _, _, hw.trans h⟩

inductive PRep (ok : Nat → Prop) (w : World) : PV → Value → Prop
  | int (k : IntKind) (n : Int) : PRep ok w (.int k n) (.int k n)
  | bool (b : Bool) : PRep ok w (.bool b) (.bool b)
  | str (s : ByteArray) : PRep ok w (.str s) (.string s)
  | nilf : PRep ok w .nilf .nilFunc
  | void (v : Value) : v.oneCell' = true → PRep ok w .void v
  | nil (sz : Nat) (a : Option Addr) : PRep ok w (.list sz []) (.slice a 0 0)
  | list (sz : Nat) (es : List PV) (b off c : Nat) (cv : Nat → Nat → Value) : ok b → Cellish w b → es.length ≤ c → c ≤ maxLen → (∀ e ∈ es, e.cells.length = sz) →
      (∀ i e j x, es[i]? = some e → e.cells[j]? = some x → w.cell? ⟨b, off + i * sz + j, none⟩ = some (cv i j) ∧ (cv i j).oneCell' = true) →
      (∀ i e j x, es[i]? = some e → e.cells[j]? = some x → PRep ok w x (cv i j)) → PRep ok w (.list sz es) (.slice (some ⟨b, off, none⟩) es.length c)
  | agg (cs : List PV) (arr : Array Value) : arr.size = cs.length → (∀ (j : Nat) (v : Value), arr[j]? = some v → v.oneCell' = true) → (∀ (j : Nat) (x : PV) (v : Value), cs[j]? = some x → arr[j]? = some v → PRep ok w x v) → PRep ok w (.agg cs) (.agg arr)
  | func (f : Nat) (caps : List PV) (arr : Array Value) : arr.size = caps.length → (∀ (j : Nat) (x : PV) (v : Value), caps[j]? = some x → arr[j]? = some v → PRep ok w x v) → PRep ok w (.func f caps) (.func (.func f) #[] arr)
  | iptr (cs : List PV) (j b off : Nat) (cv : Nat → Value) : ok b → Cellish w b → (∀ k x, cs[k]? = some x → w.cell? ⟨b, off + k, none⟩ = some (cv k) ∧ (cv k).oneCell' = true) →
      (∀ k x, cs[k]? = some x → PRep ok w x (cv k)) → PRep ok w (.iptr cs j) (.pointer (some ⟨b, off + j, none⟩))

theorem heap_lt {w w' : World} {b : Nat} (h : w'.heap[b]? = w.heap[b]?) (hb : b < w.heap.size) : b < w'.heap.size := live_of_same h hb
theorem PRep.frame {ok ok' : Nat → Prop} {w w' : World} (hf : ∀ b, ok b → b < w.heap.size → ok' b ∧ w'.heap[b]? = w.heap[b]?) {x : PV} {v : Value} (h : PRep ok w x v) : PRep ok' w' x v := by
  induction h with
  | int k n => exact .int k n
  | bool b => exact .bool b
  | str s => exact .str s
  | nilf => exact .nilf
  | void v h => exact .void v h
  | nil sz a => exact .nil sz a
  | list sz es b off c cv h1 h2 h3 h4 h6 h7 h8 ih =>
    obtain ⟨g1, g2⟩ := hf b h1 h2.lt
    exact .list sz es b off c cv g1 (h2.same g2) h3 h4 h6 (fun i e j x hi hj => by
      obtain ⟨k1, k2⟩ := h7 i e j x hi hj
      exact ⟨(World.cell?_of_block (w := w) (a := ⟨b, _, none⟩) g2).trans k1, k2⟩) ih
  | agg cs arr h1 h2 h3 ih => exact .agg cs arr h1 h2 ih
  | func f caps arr h1 h2 ih => exact .func f caps arr h1 ih
  | iptr cs j b off cv h1 h2 h3 h4 ih =>
    obtain ⟨g1, g2⟩ := hf b h1 h2.lt
    exact .iptr cs j b off cv g1 (h2.same g2) (fun k x hk => by
      obtain ⟨k1, k2⟩ := h3 k x hk
      exact ⟨(World.cell?_of_block (w := w) (a := ⟨b, _, none⟩) g2).trans k1, k2⟩) ih

def RowRep (T : Tags) (w : World) (r : Root) (sz : Nat) (es : List PV) (v : Value) : Prop :=
  (es = [] ∧ ∃ a, v = .slice a 0 0) ∨
  ∃ b c arr E, v = .slice (some ⟨b, 0, none⟩) es.length c ∧ T b = .row r ∧ w.heap[b]? = some (.cells arr E (0, 0)) ∧ arr.size = c * sz ∧ es.length ≤ c ∧ c ≤ maxLen ∧ (∀ e ∈ es, e.cells.length = sz) ∧
    ∀ i e j x, es[i]? = some e → e.cells[j]? = some x → ∃ u, arr[i * sz + j]? = some u ∧ u.oneCell' = true ∧ PRep (fun b => T b = .ro) w x u

def Sees (T : Tags) (w w' : World) : Prop := w.heap.size ≤ w'.heap.size ∧ ∀ b, T b ≠ .other → b < w.heap.size → w'.heap[b]? = w.heap[b]?
theorem Sees.refl (T : Tags) (w : World) : Sees T w w := ⟨Nat.le_refl _, fun _ _ _ => rfl⟩

theorem PRep.sees {T T' : Tags} {w w' : World} (hw : ∀ b, T b = .ro → b < w.heap.size → T' b = .ro ∧ w'.heap[b]? = w.heap[b]?) {x : PV} {v : Value} (h : PRep (fun b => T b = .ro) w x v) : PRep (fun b => T' b = .ro) w' x v :=
  h.frame hw
theorem RowRep.frame {T T' : Tags} {w w' : World} {r r' : Root} {sz : Nat} {es : List PV} {v : Value} (hr : ∀ b, T b = .row r → b < w.heap.size → T' b = .row r' ∧ w'.heap[b]? = w.heap[b]?)
    (hw : ∀ b, T b = .ro → b < w.heap.size → T' b = .ro ∧ w'.heap[b]? = w.heap[b]?) (h : RowRep T w r sz es v) : RowRep T' w' r' sz es v := by
  rcases h with h | ⟨b, c, arr, E, h1, h2, h3, h4, h5, h6, h7, h8⟩
  · exact .inl h
  · have hb := (Array.getElem?_eq_some_iff.1 h3).1
    obtain ⟨g1, g2⟩ := hr b h2 hb
    refine .inr ⟨b, c, arr, E, h1, g1, g2.trans h3, h4, h5, h6, h7, fun i e j x hi hj => ?_⟩
    obtain ⟨u, k1, k2, k3⟩ := h8 i e j x hi hj
    exact ⟨u, k1, k2, k3.frame hw⟩
theorem RowRep.list {T T' : Tags} {w : World} {r : Root} {sz : Nat} {es : List PV} {v : Value} (hr : ∀ b, T b = .row r → T' b = .ro) (hw : ∀ b, T b = .ro → T' b = .ro) (h : RowRep T w r sz es v) :
    PRep (fun b => T' b = .ro) w (.list sz es) v := by
  rcases h with ⟨rfl, a, rfl⟩ | ⟨b, c, arr, E, rfl, h2, h3, h4, h5, h6, h7, h8⟩
  · exact .nil sz a
  · have hb := (Array.getElem?_eq_some_iff.1 h3).1
    refine .list sz es b 0 c (fun i j => arr.getD (i * sz + j) undef) (hr b h2) ⟨_, _, _, h3⟩ h5 h6 h7 (fun i e j x hi hj => ?_) fun i e j x hi hj => ?_
    · obtain ⟨u, k1, k2, k3⟩ := h8 i e j x hi hj
      rw [cell_of_row w b _ arr E (0, 0) h3, Nat.zero_add, k1, Array.getD_eq_getD_getElem?, k1]
      exact ⟨rfl, k2⟩
    · obtain ⟨u, k1, k2, k3⟩ := h8 i e j x hi hj
      rw [Array.getD_eq_getD_getElem?, k1]
      exact k3.frame fun b hb _ => ⟨hw b hb, rfl⟩

def hdr (σ : Nat → Nat) (a : Act) (w : World) : Root → Option Value
  | .slot t => a.tmps[t]?
  | .cell o j => w.cell? ⟨σ o, j, none⟩
  | .part _ _ => none
def RefRep (h : Option Value) (off len sz : Nat) (v : Value) : Prop :=
  ∃ a n c a', h = some (.slice a n c) ∧ v = .slice a' len (c - off) ∧ (off = 0 → a' = a) ∧ (0 < len → a' = a.map (·.add (off * sz))) ∧ ∀ b o, a = some ⟨b, o, none⟩ → ∃ o', a' = some ⟨b, o', none⟩
def PelRep (h : Option Value) (i j sz : Nat) (v : Value) : Prop :=
  ∃ b n c, h = some (.slice (some ⟨b, 0, none⟩) n c) ∧ v = .pointer (some ⟨b, i * sz + j, none⟩)

def CapRep (nb : Nat) (σ : Nat → Nat) (T : Tags) (w : World) : AV → Value → Prop
  | .pv x, v => PRep (fun b => T b = .ro) w x v
  | .pbox o j, v => o < nb ∧ v = .pointer (some ⟨σ o, j, none⟩)
  | _, _ => False
def PartRep (T : Tags) (w : World) (t i : Nat) : AV → Value → Prop
  | .pv x, v => PRep (fun b => T b = .ro) w x v
  | .row sz es, v => RowRep T w (.part t i) sz es v
  | .any, _ => True
  | _, _ => False
def Root.low (nb : Nat) : Root → Prop
  | .cell o _ => o < nb
  | _ => True
theorem Root.low_mono {nb nb' : Nat} (h : nb ≤ nb') {r : Root} (hr : r.low nb) : r.low nb' := by
  cases r <;> simp only [Root.low] at hr ⊢
  omega
def ARep (L : Nat) (σ : Nat → Nat) (T : Tags) (st : St) (a : Act) (w : World) (t : Nat) : AV → Value → Prop
  | .pv x, v => PRep (fun b => T b = .ro) w x v
  | .row sz es, v => RowRep T w (.slot t) sz es v
  | .ref r off len, v => r.low st.boxes.length ∧ ∀ sz es, st.row r = some (sz, es) → RefRep (hdr σ a w r) off len sz v
  | .pbox o j, v => o < st.boxes.length ∧ v = .pointer (some ⟨σ o, j, none⟩)
  | .pel r i j, v => r.low st.boxes.length ∧ ∀ sz es, st.row r = some (sz, es) → PelRep (hdr σ a w r) i j sz v
  | .fn f caps, v => ∃ arr : Array Value, v = .func (.func f) #[] arr ∧ arr.size = caps.length ∧ ∀ (k : Nat) x u, caps[k]? = some x → arr[k]? = some u → CapRep st.boxes.length σ T w x u
  | .tup l, v => ∃ arr : Array Value, v = .tuple arr ∧ arr.size = l.length ∧ ∀ (k : Nat) x u, l[k]? = some x → arr[k]? = some u → PartRep T w t k x u
  | .yld, v => v = .func (.yield L) #[] #[]
  | .any, _ => True

def BRep (T : Tags) (w : World) (o j : Nat) : BV → Value → Prop
  | .pv x, u => PRep (fun b => T b = .ro) w x u
  | .row sz es, u => RowRep T w (.cell o j) sz es u
def BoxRep (T : Tags) (w : World) (b o : Nat) (bx : Box) : Prop :=
  ∃ arr E, w.heap[b]? = some (.cells arr E (0, 0)) ∧ arr.size = bx.cs.length ∧ T b = (if bx.fz then .ro else .box o) ∧ (bx.fz = true → ∀ (j : Nat) sz es, bx.cs[j]? ≠ some (.row sz es)) ∧
    ∀ (j : Nat) bv u, bx.cs[j]? = some bv → arr[j]? = some u → u.oneCell' = true ∧ BRep T w o j bv u

structure Sim (L : Nat) (σ : Nat → Nat) (T : Tags) (st : St) (a : Act) (w : World) : Prop where
  size : a.tmps.size = st.slots.length
  slots : ∀ (t : Nat) av v, st.slots[t]? = some av → a.tmps[t]? = some v → ARep L σ T st a w t av v
  boxes : ∀ (o : Nat) bx, st.boxes[o]? = some bx → BoxRep T w (σ o) o bx
  fresh : ∀ b, w.heap.size ≤ b → T b = .other

structure Chg (T T' : Tags) (w w' : World) : Prop where
  size : w.heap.size ≤ w'.heap.size
  os : w'.os = w.os
  tape : w'.tape = w.tape
  output : w'.output = w.output
  same : ∀ b, b < w.heap.size → (T b = .ro ∨ T b = .other) → w'.heap[b]? = w.heap[b]?
  ro : ∀ b, T b = .ro → T' b = .ro
  other : ∀ b, b < w.heap.size → T b = .other → T' b = .other

theorem Chg.refl (T : Tags) (w : World) : Chg T T w w := ⟨Nat.le_refl _, rfl, rfl, rfl, fun _ _ _ => rfl, fun _ h => h, fun _ _ h => h⟩
theorem Chg.trans {T T' T'' : Tags} {a b c : World} (h : Chg T T' a b) (k : Chg T' T'' b c) : Chg T T'' a c :=
  ⟨Nat.le_trans h.size k.size, k.os.trans h.os, k.tape.trans h.tape, k.output.trans h.output,
   fun i hi ht => (k.same i (Nat.lt_of_lt_of_le hi h.size) (ht.imp (h.ro i) (h.other i hi))).trans (h.same i hi ht),
   fun i ht => k.ro i (h.ro i ht), fun i hi ht => k.other i (Nat.lt_of_lt_of_le hi h.size) (h.other i hi ht)⟩

section
variable {L : Nat} {σ : Nat → Nat} {T T' : Tags} {st st' : St} {a : Act} {w w' : World}

theorem CapRep.frame {nb : Nat} (hw : ∀ b, T b = .ro → b < w.heap.size → T' b = .ro ∧ w'.heap[b]? = w.heap[b]?) {x : AV} {u : Value} (h : CapRep nb σ T w x u) : CapRep nb σ T' w' x u := by
  cases x <;> simp only [CapRep] at h ⊢ <;> first | exact PRep.frame hw h | exact h
theorem PartRep.frame {t i : Nat} {x : AV} {u : Value} (hr : (∃ s l, x = .row s l) → ∀ b, T b = .row (.part t i) → b < w.heap.size → T' b = .row (.part t i) ∧ w'.heap[b]? = w.heap[b]?) (hw : ∀ b, T b = .ro → b < w.heap.size → T' b = .ro ∧ w'.heap[b]? = w.heap[b]?)
    (h : PartRep T w t i x u) : PartRep T' w' t i x u := by
  cases x <;> simp only [PartRep] at h ⊢ <;> first | exact PRep.frame hw h | exact RowRep.frame (hr ⟨_, _, rfl⟩) hw h | exact h
theorem BRep.frame {o j : Nat} (hr : ∀ b, T b = .row (.cell o j) → b < w.heap.size → T' b = .row (.cell o j) ∧ w'.heap[b]? = w.heap[b]?) (hw : ∀ b, T b = .ro → b < w.heap.size → T' b = .ro ∧ w'.heap[b]? = w.heap[b]?)
    {x : BV} {u : Value} (h : BRep T w o j x u) : BRep T' w' o j x u := by
  cases x <;> simp only [BRep] at h ⊢ <;> first | exact PRep.frame hw h | exact RowRep.frame hr hw h

theorem BoxRep.lt {b o : Nat} {bx : Box} (h : BoxRep T w b o bx) : b < w.heap.size := let ⟨_, _, h1, _⟩ := h; (Array.getElem?_eq_some_iff.1 h1).1
theorem BoxRep.frame {b o : Nat} {bx : Box} (hb : T' b = T b ∧ w'.heap[b]? = w.heap[b]?) (hr : ∀ j b, T b = .row (.cell o j) → b < w.heap.size → T' b = .row (.cell o j) ∧ w'.heap[b]? = w.heap[b]?)
    (hw : ∀ b, T b = .ro → b < w.heap.size → T' b = .ro ∧ w'.heap[b]? = w.heap[b]?) (h : BoxRep T w b o bx) : BoxRep T' w' b o bx := by
  obtain ⟨arr, E, h1, h2, h3, h4, h5⟩ := h
  exact ⟨arr, E, hb.2.trans h1, h2, hb.1.trans h3, h4, fun j bv u hj hu => ⟨(h5 j bv u hj hu).1, (h5 j bv u hj hu).2.frame (hr j) hw⟩⟩

theorem Sim.sees (h : Sim L σ T st a w) (hs : Sees T w w') : Sim L σ T st a w' := by
  have hb : ∀ b q, T b = q → q ≠ .other → b < w.heap.size → T b = q ∧ w'.heap[b]? = w.heap[b]? := fun b q e hq hl => ⟨e, hs.2 b (by rw [e]; exact hq) hl⟩
  have hw : ∀ b, T b = .ro → b < w.heap.size → T b = .ro ∧ w'.heap[b]? = w.heap[b]? := fun b e hl => hb b _ e (by simp) hl
  have hr : ∀ r b, T b = .row r → b < w.heap.size → T b = .row r ∧ w'.heap[b]? = w.heap[b]? := fun r b e hl => hb b _ e (by simp) hl
  have hbox : ∀ o bx, st.boxes[o]? = some bx → w'.heap[σ o]? = w.heap[σ o]? := fun o bx ho => by
    have k := h.boxes o bx ho
    have hl := k.lt
    obtain ⟨arr, E, h1, h2, h3, h4⟩ := k
    exact hs.2 _ (by rw [h3]; split <;> simp) hl
  have hh : ∀ r, (st.row r).isSome = true → hdr σ a w' r = hdr σ a w r := fun r hr => by
    cases r with
    | slot t => rfl
    | part t i => rfl
    | cell o j =>
      simp only [St.row] at hr
      cases ho : st.boxes[o]? with
      | none => rw [ho] at hr; simp at hr
      | some bx => exact World.cell?_of_block (w := w) (a := ⟨σ o, j, none⟩) (hbox o bx ho)
  refine ⟨h.size, fun t av v ht hv => ?_, fun o bx ho => (h.boxes o bx ho).frame ⟨rfl, hbox o bx ho⟩ (fun j => hr _) hw, fun b hb => h.fresh b (Nat.le_trans hs.1 hb)⟩
  have g := h.slots t av v ht hv
  cases av <;> simp only [ARep] at g ⊢
  case pv x => exact PRep.frame hw g
  case row sz es => exact RowRep.frame (hr _) hw g
  case ref r off len => exact ⟨g.1, fun sz es e => by rw [hh r (by rw [e]; rfl)]; exact g.2 sz es e⟩
  case pel r i j => exact ⟨g.1, fun sz es e => by rw [hh r (by rw [e]; rfl)]; exact g.2 sz es e⟩
  case pbox o j => exact g
  case fn f caps =>
    obtain ⟨arr, e, h1, h2⟩ := g
    exact ⟨arr, e, h1, fun k x u hx hu => (h2 k x u hx hu).frame hw⟩
  case tup l =>
    obtain ⟨arr, e, h1, h2⟩ := g
    exact ⟨arr, e, h1, fun k x u hx hu => (h2 k x u hx hu).frame (fun _ => hr _) hw⟩
  case yld => exact g
end
end Go.Proofs.Ytldnpgbacakfeaa

namespace Go.Proofs.Ytldnpgbacakfeaa
open Go.RowKit

def AV.root? : AV → Option Root
  | .ref r _ _ => some r
  | .pel r _ _ => some r
  | _ => none

section
variable {L : Nat} {σ σ' : Nat → Nat} {T T' : Tags} {st st' : St} {a a' : Act} {w w' : World}

theorem ARep.keep {t : Nat} {av : AV} {v : Value} (h : ARep L σ T st a w t av v)
    (hw : ∀ b, T b = .ro → b < w.heap.size → T' b = .ro ∧ w'.heap[b]? = w.heap[b]?)
    (hr : ∀ sz es, av = .row sz es → ∀ b, T b = .row (.slot t) → b < w.heap.size → T' b = .row (.slot t) ∧ w'.heap[b]? = w.heap[b]?)
    (hp : ∀ l, av = .tup l → ∀ (i : Nat), (∃ s es, l[i]? = some (.row s es)) → ∀ b, T b = .row (.part t i) → b < w.heap.size → T' b = .row (.part t i) ∧ w'.heap[b]? = w.heap[b]?)
    (hd : ∀ r, av.root? = some r → r.low st.boxes.length → ∀ sz es, st'.row r = some (sz, es) → (∃ es0, st.row r = some (sz, es0)) ∧ hdr σ' a' w' r = hdr σ a w r)
    (hb : st.boxes.length ≤ st'.boxes.length) (hσ : ∀ o, o < st.boxes.length → σ' o = σ o) : ARep L σ' T' st' a' w' t av v := by
  cases av <;> simp only [ARep] at h ⊢
  case pv x => exact PRep.frame hw h
  case row sz es => exact RowRep.frame (hr sz es rfl) hw h
  case ref r off len =>
    refine ⟨Root.low_mono hb h.1, fun sz es e => ?_⟩
    obtain ⟨⟨es0, e0⟩, e1⟩ := hd r rfl (h.1) sz es e
    rw [e1]; exact h.2 sz es0 e0
  case pel r i j =>
    refine ⟨Root.low_mono hb h.1, fun sz es e => ?_⟩
    obtain ⟨⟨es0, e0⟩, e1⟩ := hd r rfl (h.1) sz es e
    rw [e1]; exact h.2 sz es0 e0
  case pbox o j => exact ⟨Nat.lt_of_lt_of_le h.1 hb, by rw [hσ o h.1]; exact h.2⟩
  case fn f caps =>
    obtain ⟨arr, e, h1, h2⟩ := h
    refine ⟨arr, e, h1, fun k x u hx hu => ?_⟩
    have g := h2 k x u hx hu
    cases x <;> simp only [CapRep] at g ⊢
    case pv x => exact PRep.frame hw g
    case pbox o j => exact ⟨Nat.lt_of_lt_of_le g.1 hb, by rw [hσ o g.1]; exact g.2⟩
  case tup l =>
    obtain ⟨arr, e, h1, h2⟩ := h
    exact ⟨arr, e, h1, fun k x u hx hu => (h2 k x u hx hu).frame (fun ⟨s, l', e⟩ => hp l rfl k ⟨s, l', by rw [hx, e]⟩) hw⟩
  case yld => exact h

theorem getElem_set_tmps {tmps : Array Value} {d t : Nat} {x v : Value} (h : (tmps.setIfInBounds d x)[t]? = some v) : (t = d ∧ v = x ∧ d < tmps.size) ∨ (t ≠ d ∧ tmps[t]? = some v) := by
  rw [Array.getElem?_setIfInBounds] at h
  split at h
  · rename_i e
    subst e
    split at h
    · cases h; exact .inl ⟨rfl, rfl, by assumption⟩
    · cases h
  · exact .inr ⟨fun e => by simp_all, h⟩
theorem getElem_set_slots {l : List AV} {d t : Nat} {x v : AV} (h : (l.set d x)[t]? = some v) : (t = d ∧ v = x ∧ d < l.length) ∨ (t ≠ d ∧ l[t]? = some v) := by
  rw [List.getElem?_set] at h
  split at h
  · rename_i e
    subst e
    split at h
    · cases h; exact .inl ⟨rfl, rfl, by assumption⟩
    · cases h
  · exact .inr ⟨fun e => by simp_all, h⟩

theorem row_put_ne {d : Nat} {x : AV} {r : Root} (hr : r ≠ .slot d) : (st.put d x).row r = st.row r := by
  cases r with
  | slot t =>
    have : t ≠ d := fun e => hr (by rw [e])
    simp only [St.row, St.put, List.getElem?_set, if_neg (Ne.symm this)]
  | part t i => rfl
  | cell o j => rfl
theorem row_put_nil {d : Nat} {x : AV} (hx : ∀ sz es, x ≠ .row sz es) : (st.put d x).row (.slot d) = none := by
  simp only [St.row, St.put, List.getElem?_set, if_true]
  split
  · rename_i h
    split at h
    · cases h; exact absurd rfl (hx _ _)
    · cases h
  · rfl
theorem hdr_put_ne {d : Nat} {x : Value} {r : Root} (hr : r ≠ .slot d) : hdr σ (a.put (some d) x) w r = hdr σ a w r := by
  cases r with
  | slot t =>
    have : t ≠ d := fun e => hr (by rw [e])
    simp [hdr, Act.put, Array.getElem?_setIfInBounds, Ne.symm this]
  | part t i => rfl
  | cell o j => rfl

theorem Sim.put (h : Sim L σ T st a w) {d : Nat} {av : AV} {v : Value} (hav : ∀ sz es, av ≠ .row sz es) (hrep : ARep L σ T (st.put d av) (a.put (some d) v) w d av v) : Sim L σ T (st.put d av) (a.put (some d) v) w := by
  refine ⟨by simp [Act.put, St.put, h.size], fun t x u hx hu => ?_, h.boxes, h.fresh⟩
  rcases getElem_set_slots hx with ⟨rfl, rfl, h1⟩ | ⟨h1, h2⟩
  · rcases getElem_set_tmps hu with ⟨_, rfl, _⟩ | ⟨h3, _⟩
    · exact hrep
    · exact absurd rfl h3
  · rcases getElem_set_tmps hu with ⟨h3, _⟩ | ⟨_, h4⟩
    · exact absurd h3 h1
    · refine (h.slots t x u h2 h4).keep (fun b e _ => ⟨e, rfl⟩) (fun _ _ _ b e _ => ⟨e, rfl⟩) (fun _ _ _ _ b e _ => ⟨e, rfl⟩) (fun r hr _ sz es e => ?_) (Nat.le_refl _) (fun _ _ => rfl)
      by_cases hrd : r = .slot d
      · subst hrd; rw [row_put_nil hav] at e; cases e
      · rw [row_put_ne hrd] at e
        exact ⟨⟨es, e⟩, hdr_put_ne hrd⟩
theorem Sim.putPv (h : Sim L σ T st a w) {d : Nat} {x : PV} {v : Value} (hx : PRep (fun b => T b = .ro) w x v) : Sim L σ T (st.put d (.pv x)) (a.put (some d) v) w :=
  h.put (fun _ _ e => by cases e) hx
theorem Sim.putAny (h : Sim L σ T st a w) {d : Nat} {v : Value} : Sim L σ T (st.put d .any) (a.put (some d) v) w :=
  h.put (fun _ _ e => by cases e) trivial
theorem Sim.forget (h : Sim L σ T st a w) (d : Nat) : Sim L σ T (st.put d .any) a w := by
  refine ⟨by simp [St.put, h.size], fun t x u hx hu => ?_, h.boxes, h.fresh⟩
  rcases getElem_set_slots hx with ⟨rfl, rfl, h1⟩ | ⟨h1, h2⟩
  · trivial
  · refine (h.slots t x u h2 hu).keep (fun b e _ => ⟨e, rfl⟩) (fun _ _ _ b e _ => ⟨e, rfl⟩) (fun _ _ _ _ b e _ => ⟨e, rfl⟩) (fun r hr _ sz es e => ?_) (Nat.le_refl _) (fun _ _ => rfl)
    by_cases hrd : r = .slot d
    · subst hrd; rw [row_put_nil (fun _ _ e => by cases e)] at e; cases e
    · rw [row_put_ne hrd] at e
      exact ⟨⟨es, e⟩, rfl⟩

theorem kill_getElem {l : List AV} {f : AV → AV} {t : Nat} {v : AV} (h : (l.map f)[t]? = some v) : ∃ x, l[t]? = some x ∧ f x = v := by
  rw [List.getElem?_map] at h
  cases e : l[t]? with
  | none => rw [e] at h; cases h
  | some x => rw [e] at h; exact ⟨x, rfl, Option.some.inj h⟩
theorem kill_cases (d : Nat) (x : AV) : (x.kill d = .any) ∨ (x.kill d = x ∧ x.root? ≠ some (.slot d)) := by
  unfold AV.kill
  split
  · exact .inl rfl
  · rename_i hh
    refine .inr ⟨rfl, fun e => hh ?_⟩
    cases x <;> simp only [AV.root?] at e <;> cases e <;> simp [AV.roots]
theorem killCell_cases (o : Nat) (x : AV) : (x.killCell o = .any) ∨ (x.killCell o = x ∧ ∀ j, x.root? ≠ some (.cell o j)) := by
  unfold AV.killCell
  split
  · exact .inl rfl
  · rename_i hh
    refine .inr ⟨rfl, fun j e => hh ?_⟩
    cases x <;> simp only [AV.root?] at e <;> cases e <;> simp [AV.rootsCell]
theorem kill_row {d : Nat} {sz : Nat} {es : List PV} {x : AV} (h : x.kill d = .row sz es) : x = .row sz es := by
  unfold AV.kill at h; split at h
  · cases h
  · exact h

theorem row_putRow_ne {d sz : Nat} {es : List PV} {r : Root} (hr : r ≠ .slot d) {s : Nat} {l : List PV} (h : (st.putRow d sz es).row r = some (s, l)) : st.row r = some (s, l) := by
  cases r with
  | slot t =>
    have : t ≠ d := fun e => hr (by rw [e])
    simp only [St.row, St.putRow, List.getElem?_set, if_neg (Ne.symm this)] at h ⊢
    split at h
    · rename_i h1
      obtain ⟨x, h2, h3⟩ := kill_getElem h1
      rw [h2, kill_row h3]; exact h
    · cases h
  | part t i => exact h
  | cell o j => exact h

theorem Sim.putRow (h : Sim L σ T st a w) {d sz : Nat} {es : List PV} {v : Value} (hrow : RowRep T' w (.slot d) sz es v)
    (hro : ∀ b, T b = .ro → T' b = .ro) (hbox : ∀ b o, T b = .box o → T' b = .box o) (hoth : ∀ b, w.heap.size ≤ b → T' b = .other)
    (hrows : ∀ (t : Nat) s l, t ≠ d → st.slots[t]? = some (.row s l) → ∀ b, T b = .row (.slot t) → T' b = .row (.slot t))
    (hparts : ∀ (t i : Nat) l, t ≠ d → st.slots[t]? = some (.tup l) → (∃ s es, l[i]? = some (.row s es)) → ∀ b, T b = .row (.part t i) → T' b = .row (.part t i))
    (hcells : ∀ (o j : Nat) b, T b = .row (.cell o j) → T' b = .row (.cell o j)) :
    Sim L σ T' (st.putRow d sz es) (a.put (some d) v) w := by
  refine ⟨by simp [Act.put, St.putRow, h.size], fun t x u hx hu => ?_, fun o bx ho => ?_, hoth⟩
  · rcases getElem_set_slots hx with ⟨rfl, rfl, h1⟩ | ⟨h1, h2⟩
    · rcases getElem_set_tmps hu with ⟨_, rfl, _⟩ | ⟨h3, _⟩
      · exact hrow
      · exact absurd rfl h3
    · rcases getElem_set_tmps hu with ⟨h3, _⟩ | ⟨_, h4⟩
      · exact absurd h3 h1
      · obtain ⟨y, hy, rfl⟩ := kill_getElem h2
        rcases kill_cases d y with e | ⟨e, hne⟩
        · rw [e]; trivial
        · rw [e]
          refine (h.slots t y u hy h4).keep (fun b e _ => ⟨hro b e, rfl⟩) (fun s l e b hb _ => ⟨hrows t s l h1 (by rw [hy, e]) b hb, rfl⟩) (fun l e i he b hb _ => ⟨hparts t i l h1 (by rw [hy, e]) he b hb, rfl⟩) (fun r hr _ s l e => ?_) (Nat.le_refl _) (fun _ _ => rfl)
          have hrd : r ≠ .slot d := fun e => hne (by rw [hr, e])
          exact ⟨⟨l, row_putRow_ne hrd e⟩, hdr_put_ne hrd⟩
  · have hb := h.boxes o bx ho
    have hT : T' (σ o) = T (σ o) := by
      obtain ⟨_, _, _, _, h3, _⟩ := hb
      rw [h3]; split
      · rename_i hf; exact hro _ (by rw [h3, if_pos hf])
      · rename_i hf; exact hbox _ _ (by rw [h3, if_neg hf])
    exact hb.frame ⟨hT, rfl⟩ (fun j b e _ => ⟨hcells o j b e, rfl⟩) (fun b e _ => ⟨hro b e, rfl⟩)

def moved (T : Tags) (s d : Root) : Tags := fun b => if T b = .row s then .row d else if T b = .row d then .other else T b
theorem moved_ro {s d : Root} {b : Nat} (h : T b = .ro) : moved T s d b = .ro := by simp [moved, h]
theorem moved_box {s d : Root} {b o : Nat} (h : T b = .box o) : moved T s d b = .box o := by simp [moved, h]
theorem moved_other {s d : Root} {b : Nat} (h : T b = .other) : moved T s d b = .other := by simp [moved, h]
theorem moved_src {s d : Root} {b : Nat} (h : T b = .row s) : moved T s d b = .row d := by simp [moved, h]
theorem moved_row {s d r : Root} {b : Nat} (h1 : r ≠ s) (h2 : r ≠ d) (h : T b = .row r) : moved T s d b = .row r := by simp [moved, h, h1, h2]
theorem moved_tagged {s d : Root} {b : Nat} (h : moved T s d b ≠ .other) : T b ≠ .other := fun e => h (moved_other e)
def froz (T : Tags) (r : Root) : Tags := fun b => if T b = .row r then .ro else T b
theorem froz_ro {r : Root} {b : Nat} (h : T b = .ro) : froz T r b = .ro := by simp [froz, h]
theorem froz_box {r : Root} {b o : Nat} (h : T b = .box o) : froz T r b = .box o := by simp [froz, h]
theorem froz_other {r : Root} {b : Nat} (h : T b = .other) : froz T r b = .other := by simp [froz, h]
theorem froz_src {r : Root} {b : Nat} (h : T b = .row r) : froz T r b = .ro := by simp [froz, h]
theorem froz_row {r q : Root} {b : Nat} (h1 : q ≠ r) (h : T b = .row q) : froz T r b = .row q := by simp [froz, h, h1]
theorem froz_tagged {r : Root} {b : Nat} (h : froz T r b ≠ .other) : T b ≠ .other := fun e => h (froz_other e)

structure Still (T T' : Tags) : Prop where
  ro : ∀ b, T b = .ro → T' b = .ro
  other : ∀ b, T b = .other → T' b = .other
theorem Still.refl (T : Tags) : Still T T := ⟨fun _ h => h, fun _ h => h⟩
theorem Still.trans {T T' T'' : Tags} (h : Still T T') (k : Still T' T'') : Still T T'' := ⟨fun b e => k.ro b (h.ro b e), fun b e => k.other b (h.other b e)⟩
theorem Still.chg {T T' : Tags} (h : Still T T') (w : World) : Chg T T' w w := ⟨Nat.le_refl _, rfl, rfl, rfl, fun _ _ _ => rfl, h.ro, fun b _ e => h.other b e⟩
theorem Still.sees {T T' : Tags} (h : Still T T') {w w' : World} (hs : Sees T w w') : Sees T' w w' := ⟨hs.1, fun b hb hl => hs.2 b (fun e => hb (h.other b e)) hl⟩
theorem Still.moved (T : Tags) (s d : Root) : Still T (moved T s d) := ⟨fun _ => moved_ro, fun _ => moved_other⟩
theorem Still.froz (T : Tags) (r : Root) : Still T (froz T r) := ⟨fun _ => froz_ro, fun _ => froz_other⟩

theorem Sim.freeze (h : Sim L σ T st a w) (r : Root) : ∃ T', Sim L σ T' (st.freeze r) a w ∧ Still T T' ∧ (∀ b q, q ≠ r → T b = .row q → T' b = .row q) ∧ (∀ sz es, st.row r = some (sz, es) → ∀ b, T b = .row r → T' b = .ro) ∧ (∀ b o, T b = .box o → T' b = .box o) := by
  unfold St.freeze
  cases hr : st.row r with
  | none => exact ⟨T, h, Still.refl T, fun _ _ _ e => e, (fun _ _ e => by cases e), fun _ _ e => e⟩
  | some p =>
    obtain ⟨sz, es⟩ := p
    refine ⟨froz T r, ?_, Still.froz T r, fun b q hq e => froz_row hq e, (fun _ _ _ b e => froz_src e), fun b o e => froz_box e⟩
    have hw : ∀ b, T b = .ro → b < w.heap.size → froz T r b = .ro ∧ w.heap[b]? = w.heap[b]? := fun b e _ => ⟨froz_ro e, rfl⟩
    cases r with
    | part t i => simp [St.row] at hr
    | slot d =>
      have hd : st.slots[d]? = some (.row sz es) := by
        simp only [St.row] at hr
        split at hr
        · rename_i e; cases hr; exact e
        · cases hr
      refine ⟨by simp [St.put, h.size], fun t x u hx hu => ?_, fun o bx ho => ?_, fun b hb => froz_other (h.fresh b hb)⟩
      · rcases getElem_set_slots hx with ⟨rfl, rfl, h1⟩ | ⟨h1, h2⟩
        · exact RowRep.list (fun b e => froz_src e) (fun b e => froz_ro e) (h.slots t _ u hd hu)
        · refine (h.slots t x u h2 hu).keep hw (fun s l e b hb _ => ⟨froz_row (by simpa using h1) hb, rfl⟩) (fun l e i _ b hb _ => ⟨froz_row (by simp) hb, rfl⟩) (fun q hq _ s l e => ?_) (Nat.le_refl _) (fun _ _ => rfl)
          by_cases hrd : q = .slot d
          · subst hrd; rw [row_put_nil (fun _ _ e => by cases e)] at e; cases e
          · rw [row_put_ne hrd] at e
            exact ⟨⟨l, e⟩, rfl⟩
      · have hb := h.boxes o bx ho
        have hT : froz T (.slot d) (σ o) = T (σ o) := by
          obtain ⟨_, _, _, _, h3, _⟩ := hb
          rw [h3]; split
          · rename_i hf; exact froz_ro (by rw [h3, if_pos hf])
          · rename_i hf; exact froz_box (by rw [h3, if_neg hf])
        exact hb.frame ⟨hT, rfl⟩ (fun j b e _ => ⟨froz_row (by simp) e, rfl⟩) hw
    | cell p q =>
      obtain ⟨bx0, hbx0, hfz, hq⟩ : ∃ bx, st.boxes[p]? = some bx ∧ bx.fz = false ∧ bx.cs[q]? = some (.row sz es) := by
        simp only [St.row] at hr
        split at hr
        · rename_i bx hb
          split at hr
          · cases hr
          · rename_i hf
            split at hr
            · rename_i e; cases hr; exact ⟨bx, hb, by simpa using hf, e⟩
            · cases hr
        · cases hr
      have hst : st.setCell p q (.pv (.list sz es)) = { st with boxes := st.boxes.set p { bx0 with cs := bx0.cs.set q (.pv (.list sz es)) } } := by simp [St.setCell, hbx0]
      simp only [hst]
      have hpl : p < st.boxes.length := (List.getElem?_eq_some_iff.1 hbx0).1
      refine ⟨h.size, fun t x u hx hu => ?_, fun o bx ho => ?_, fun b hb => froz_other (h.fresh b hb)⟩
      · refine (h.slots t x u hx hu).keep hw (fun s l e b hb _ => ⟨froz_row (by simp) hb, rfl⟩) (fun l e i _ b hb _ => ⟨froz_row (by simp) hb, rfl⟩) (fun r' hr' _ s l e => ?_) (by simp) (fun _ _ => rfl)
        refine ⟨?_, rfl⟩
        cases r' with
        | slot t' => exact ⟨l, e⟩
        | part t' i => exact ⟨l, e⟩
        | cell o j =>
          simp only [St.row, List.getElem?_set] at e ⊢
          by_cases hop : p = o
          · subst hop
            simp only [if_true, if_pos hpl, hfz, Bool.false_eq_true, if_false, List.getElem?_set] at e
            simp only [hbx0, hfz, Bool.false_eq_true, if_false]
            by_cases hqj : q = j
            · subst hqj
              simp only [if_true] at e
              split at e
              · rename_i hh; split at hh <;> cases hh
              · cases e
            · simp only [if_neg hqj] at e; exact ⟨l, e⟩
          · simp only [if_neg hop] at e; exact ⟨l, e⟩
      · rw [List.getElem?_set] at ho
        by_cases hop : p = o
        · subst hop
          simp only [if_true, if_pos hpl, Option.some.injEq] at ho
          subst ho
          obtain ⟨arr, E, h1, h2, h3, h4, h5⟩ := h.boxes p bx0 hbx0
          have k3 : froz T (.cell p q) (σ p) = .box p := by
            simp only [hfz, Bool.false_eq_true, if_false] at h3; exact froz_box h3
          refine ⟨arr, E, h1, by simpa using h2, by simpa [hfz] using k3, by simp [hfz], ?_⟩
          intro j bv u hj hu
          · have hj : (bx0.cs.set q (.pv (.list sz es)))[j]? = some bv := hj
            rw [List.getElem?_set] at hj
            by_cases hqj : q = j
            · subst hqj
              simp only [if_true] at hj
              split at hj
              · cases hj
                obtain ⟨g1, g2⟩ := h5 q _ u hq hu
                exact ⟨g1, RowRep.list (fun b e => froz_src e) (fun b e => froz_ro e) g2⟩
              · cases hj
            · rw [if_neg hqj] at hj
              obtain ⟨g1, g2⟩ := h5 j bv u hj hu
              exact ⟨g1, g2.frame (fun b e _ => ⟨froz_row (by simpa using Ne.symm hqj) e, rfl⟩) hw⟩
        · rw [if_neg hop] at ho
          have hb := h.boxes o bx ho
          have hT : froz T (.cell p q) (σ o) = T (σ o) := by
            obtain ⟨_, _, _, _, h3, _⟩ := hb
            rw [h3]; split
            · rename_i hf; exact froz_ro (by rw [h3, if_pos hf])
            · rename_i hf; exact froz_box (by rw [h3, if_neg hf])
          exact hb.frame ⟨hT, rfl⟩ (fun j b e _ => ⟨froz_row (by intro e; cases e; exact hop rfl) e, rfl⟩) hw
end
end Go.Proofs.Ytldnpgbacakfeaa

namespace Go.Proofs.Ytldnpgbacakfeaa
open Go.RowKit

def isFn (f : Nat) : Fn → Bool
  | .func g => f == g
  | _ => false
theorem isFn_eq {f : Nat} {fn : Fn} (h : isFn f fn = true) : fn = .func f := by
  cases fn <;> simp [isFn] at h
  rw [h]
mutual
def isLit : PV → Value → Bool
  | .int k n, .int l m => k == l && n == m
  | .bool b, .bool c => b == c
  | .str s, .string t => decide (s.data = t.data)
  | .nilf, .nilFunc => true
  | .list _ [], .slice x n c => x.isNone && n == 0 && c == 0
  | .agg cs, .agg arr => isLits cs arr.toList
  | .func f [], .func fn first caps => isFn f fn && first.isEmpty && caps.isEmpty
  | _, _ => false
def isLits : List PV → List Value → Bool
  | [], [] => true
  | c :: cs, v :: vs => isLit c v && v.oneCell' && isLits cs vs
  | _, _ => false
end
mutual
theorem isLit_rep {ok : Nat → Prop} {w : World} : ∀ {x : PV} {v : Value}, isLit x v = true → PRep ok w x v
  | .int k n, v, h => by cases v <;> simp [isLit] at h; obtain ⟨rfl, rfl⟩ := h; exact .int _ _
  | .bool b, v, h => by cases v <;> simp [isLit] at h; subst h; exact .bool _
  | .str s, v, h => by
    cases v <;> simp [isLit] at h
    rename_i t
    have : s = t := by cases s; cases t; simp_all
    subst this; exact .str _
  | .nilf, v, h => by cases v <;> simp [isLit] at h; exact .nilf
  | .void, v, h => by cases v <;> simp [isLit] at h
  | .iptr cs j, v, h => by cases v <;> simp [isLit] at h
  | .list sz [], v, h => by
    cases v <;> simp [isLit] at h
    obtain ⟨⟨rfl, rfl⟩, rfl⟩ := h
    exact .nil _ _
  | .list sz (_ :: _), v, h => by cases v <;> simp [isLit] at h
  | .func f (_ :: _), v, h => by cases v <;> simp [isLit] at h
  | .func f [], v, h => by
    cases v <;> simp [isLit] at h
    obtain ⟨⟨h1, rfl⟩, rfl⟩ := h
    rw [isFn_eq h1]
    exact .func _ [] #[] rfl (fun j x v hj => by simp at hj)
  | .agg cs, v, h => by
    cases v <;> simp [isLit] at h
    rename_i arr
    obtain ⟨h1, h2⟩ := isLits_rep (ok := ok) (w := w) h
    refine .agg cs arr (by simpa using h1.symm) (fun j v hv => (h2 j v (by simpa using hv)).1) (fun j x v hx hv => (h2 j v (by simpa using hv)).2 x hx)
theorem isLits_rep {ok : Nat → Prop} {w : World} : ∀ {cs : List PV} {vs : List Value}, isLits cs vs = true → cs.length = vs.length ∧ ∀ (j : Nat) v, vs[j]? = some v → v.oneCell' = true ∧ ∀ x, cs[j]? = some x → PRep ok w x v
  | [], [], _ => ⟨rfl, fun j v hv => by simp at hv⟩
  | [], _ :: _, h => by simp [isLits] at h
  | _ :: _, [], h => by simp [isLits] at h
  | c :: cs, v :: vs, h => by
    simp only [isLits, Bool.and_eq_true] at h
    obtain ⟨⟨h1, h2⟩, h3⟩ := h
    obtain ⟨g1, g2⟩ := isLits_rep (ok := ok) (w := w) h3
    refine ⟨by simp [g1], fun j u hu => ?_⟩
    cases j with
    | zero =>
      simp only [List.getElem?_cons_zero, Option.some.injEq] at hu
      subst hu
      exact ⟨h2, fun x hx => by simp only [List.getElem?_cons_zero, Option.some.injEq] at hx; subst hx; exact isLit_rep h1⟩
    | succ j =>
      simp only [List.getElem?_cons_succ] at hu ⊢
      exact g2 j u hu
end

def isF0 (f : Nat) : PV → Bool
  | .func g [] => f == g
  | _ => false
theorem isF0_eq {f : Nat} {x : PV} (h : isF0 f x = true) : x = .func f [] := by
  unfold isF0 at h
  split at h
  · rw [beq_iff_eq.1 h]
  · cases h
def mOpd : Operand → Opd → Bool
  | .tmp n, .t m => n == m
  | .const v, .c x => isLit x v
  | .const v, .nil sz => isLit (.list sz []) v
  | .func f, .c x => isF0 f x
  | _, _ => false

section
variable {L : Nat} {σ σ' : Nat → Nat} {T T' : Tags} {st st' : St} {a a' : Act} {w w' : World}

theorem RowRep.nil (T : Tags) (w : World) (r : Root) (sz : Nat) (x : Option Addr) : RowRep T w r sz [] (.slice x 0 0) := .inl ⟨rfl, x, rfl⟩
theorem eval_tmp {t : Nat} {v : Value} (h : a.tmps[t]? = some v) : a.eval (.tmp t) = v := by simp [Act.eval, Array.getD_eq_getD_getElem?, h]

theorem Sim.get (h : Sim L σ T st a w) {y : Operand} {x : Opd} (hm : mOpd y x = true) : (∃ t, x = .t t ∧ (a.tmps[t]? = some (a.eval y) ∧ ARep L σ T st a w t (st.get x) (a.eval y) ∨ st.get x = .any)) ∨
    (∃ v, x = .c v ∧ PRep (fun b => T b = .ro) w v (a.eval y)) ∨ (∃ sz, x = .nil sz ∧ a.eval y = .slice none 0 0) := by
  cases y <;> cases x <;> simp [mOpd] at hm
  case tmp.t t m =>
    subst hm
    refine .inl ⟨t, rfl, ?_⟩
    cases hs : st.slots[t]? with
    | none => exact .inr (by simp [St.get, List.getD, hs])
    | some av =>
      have ht : t < a.tmps.size := by rw [h.size]; exact (List.getElem?_eq_some_iff.1 hs).1
      have e : a.tmps[t]? = some a.tmps[t] := Array.getElem?_eq_getElem ht
      rw [eval_tmp e]
      refine .inl ⟨e, ?_⟩
      have e2 : st.get (.t t) = av := by simp [St.get, List.getD, hs]
      rw [e2]
      exact h.slots t av _ hs e
  case const.c v x => exact .inr (.inl ⟨x, rfl, isLit_rep hm⟩)
  case const.nil v sz =>
    refine .inr (.inr ⟨sz, rfl, ?_⟩)
    show v = _
    cases v <;> simp [isLit] at hm
    obtain ⟨⟨rfl, rfl⟩, rfl⟩ := hm
    rfl
  case func.c f x =>
    rw [isF0_eq hm]
    exact .inr (.inl ⟨_, rfl, .func _ [] #[] rfl (fun j x v hj => by simp at hj)⟩)

theorem Sim.pv (h : Sim L σ T st a w) {y : Operand} {x : Opd} (hm : mOpd y x = true) {v : PV} (hv : st.pvOf x = some v) : PRep (fun b => T b = .ro) w v (a.eval y) := by
  unfold St.pvOf at hv
  rcases h.get hm with ⟨t, rfl, (⟨_, g⟩ | g)⟩ | ⟨v', rfl, g⟩ | ⟨sz, rfl, g⟩
  · cases e : st.get (.t t) <;> rw [e] at hv g <;> simp at hv
    subst hv; exact g
  · rw [g] at hv; cases hv
  · simp [St.get] at hv; subst hv; exact g
  · simp [St.get] at hv

end
end Go.Proofs.Ytldnpgbacakfeaa

namespace Go.Proofs.Ytldnpgbacakfeaa
open Go.RowKit

def szOf (P : Program) (T : TypeId) : Option Nat := (P.info? T).map (·.size)
def cellN (P : Program) (T : TypeId) : Option (Option Nat) :=
  match P.underlying T with
  | some (.struct _) => (szOf P T).map some
  | some (.array _ _) => (szOf P T).map some
  | some _ => some none
  | none => none
def sliceE (P : Program) (T : TypeId) : Option Nat :=
  match P.underlying T with
  | some (.slice e) => some e
  | _ => none
def arrE (P : Program) (T : TypeId) : Option (Nat × Nat) :=
  match P.underlying T with
  | some (.array n e) => some (n, e)
  | _ => none
def fieldOf (P : Program) (S f : Nat) : Option Field :=
  match P.underlying S with
  | some (.struct fs) => fs[f]?
  | _ => none
theorem sliceE_eq {P : Program} {T e : Nat} (h : sliceE P T = some e) : P.underlying T = some (.slice e) := by
  unfold sliceE at h; split at h
  · cases h; assumption
  · cases h
theorem arrE_eq {P : Program} {T n e : Nat} (h : arrE P T = some (n, e)) : P.underlying T = some (.array n e) := by
  unfold arrE at h; split at h
  · cases h; assumption
  · cases h
theorem fieldOf_eq {P : Program} {S f : Nat} {fd : Field} (h : fieldOf P S f = some fd) : ∃ fs, P.underlying S = some (.struct fs) ∧ fs[f]? = some fd := by
  unfold fieldOf at h; split at h
  · exact ⟨_, by assumption, h⟩
  · cases h

section
variable {P : Program} {w : World}
theorem run_szOf {T n : Nat} (h : szOf P T = some n) : (sizeOf T).run P w = .ok n w := by
  obtain ⟨i, hi, rfl⟩ := Option.map_eq_some_iff.1 h
  simp [sizeOf, typeInfo, hi]
theorem run_isAgg_no {T : Nat} (h : cellN P T = some none) : (isAgg T).run P w = .ok false w := by
  unfold cellN at h
  cases hu : P.underlying T with
  | none => rw [hu] at h; cases h
  | some d =>
    rw [hu] at h
    unfold isAgg
    simp only [Sem.run_bind, run_underlying hu, Result.andThen_ok]
    cases d <;> simp only [Option.map_eq_some_iff] at h <;> first | rfl | (obtain ⟨_, _, h⟩ := h; cases h)
theorem run_isAgg_yes {T n : Nat} (h : cellN P T = some (some n)) : (isAgg T).run P w = .ok true w ∧ szOf P T = some n := by
  unfold cellN at h
  cases hu : P.underlying T with
  | none => rw [hu] at h; cases h
  | some d =>
    rw [hu] at h
    unfold isAgg
    simp only [Sem.run_bind, run_underlying hu, Result.andThen_ok]
    cases d <;> simp only [Option.map_eq_some_iff] at h
    all_goals first
      | (obtain ⟨m, hm, e⟩ := h; cases e; exact ⟨rfl, hm⟩)
      | cases h

def Mem (ok : Nat → Prop) (w : World) (b o : Nat) (cs : List PV) : Prop := ∀ k x, cs[k]? = some x → ∃ u, w.cell? ⟨b, o + k, none⟩ = some u ∧ u.oneCell' = true ∧ PRep ok w x u

theorem part_mem {ok : Nat → Prop} {b o T : Nat} {n : Option Nat} {cs : List PV} (hm : Mem ok w b o cs) (hc : cellN P T = some n) {j : Nat} {v : PV} (hp : part cs j n = some v) :
    ∃ u, (∀ w' : World, w'.heap[b]? = w.heap[b]? → (loadVar T ⟨b, o + j, none⟩).run P w' = .ok u w') ∧ PRep ok w v u ∧ (n = none → u.oneCell' = true) := by
  have hcell : ∀ w' : World, w'.heap[b]? = w.heap[b]? → ∀ k, w'.cell? ⟨b, k, none⟩ = w.cell? ⟨b, k, none⟩ := fun w' hw k => World.cell?_of_block (w := w) (a := ⟨b, k, none⟩) hw
  cases n with
  | none =>
    obtain ⟨u, h1, h2, h3⟩ := hm j v hp
    refine ⟨u, fun w' hw => ?_, h3, fun _ => h2⟩
    unfold loadVar
    simp only [Sem.run_bind, run_isAgg_no hc, Result.andThen_ok, Bool.false_eq_true, if_false]
    unfold load
    simp only [Sem.run, hcell w' hw, h1]
  | some n =>
    have hs := (run_isAgg_yes (w := w) hc).2
    unfold part at hp
    simp only at hp
    split at hp
    case isFalse => cases hp
    rename_i hl
    cases hp
    have hget : ∀ k, k < n → ∃ x u, cs[j + k]? = some x ∧ w.cell? ⟨b, o + (j + k), none⟩ = some u ∧ u.oneCell' = true ∧ PRep ok w x u := fun k hk => by
      have e : cs[j + k]? = some cs[j + k] := List.getElem?_eq_getElem (by omega)
      obtain ⟨u, h1, h2, h3⟩ := hm _ _ e
      exact ⟨_, u, e, h1, h2, h3⟩
    let us : List Value := (List.range n).map fun k => (w.cell? ⟨b, o + (j + k), none⟩).getD undef
    have hus : ∀ k v, us[k]? = some v → k < n ∧ w.cell? ⟨b, o + (j + k), none⟩ = some v := fun k v hv => by
      have hk : k < n := by have := (List.getElem?_eq_some_iff.1 hv).1; simpa [us] using this
      simp only [us, List.getElem?_map, List.getElem?_range hk, Option.map_some, Option.some.injEq] at hv
      obtain ⟨x, u, _, h1, _⟩ := hget k hk
      rw [h1] at hv ⊢
      exact ⟨hk, by rw [← hv]; rfl⟩
    have hlen : us.length = n := by simp [us]
    refine ⟨.agg us.toArray, fun w' hw => ?_, .agg _ _ (by simp [us]; omega) (fun k v hv => ?_) (fun k x v hx hv => ?_), fun e => by cases e⟩
    · have hl2 := run_loadCells_list (P := P) (w := w') ⟨b, o + j, none⟩ us (fun k v hv => by
        rw [Addr.add_lit, hcell w' hw, Nat.add_assoc]; exact (hus k v hv).2)
      rw [hlen] at hl2
      unfold loadVar
      simp only [Sem.run_bind, (run_isAgg_yes (w := w') hc).1, Result.andThen_ok, if_true, run_szOf hs, hl2]
      rfl
    · obtain ⟨hk, h1⟩ := hus k v (by simpa using hv)
      obtain ⟨x, u, _, h2, h3, _⟩ := hget k hk
      rw [h1] at h2; cases h2; exact h3
    · obtain ⟨hk, h1⟩ := hus k v (by simpa using hv)
      obtain ⟨y, u, h0, h2, _, h4⟩ := hget k hk
      rw [h1] at h2; cases h2
      rw [List.getElem?_take, if_pos hk, List.getElem?_drop, h0] at hx
      cases hx; exact h4
end

section
variable {P : Program} {L : Nat} {σ : Nat → Nat} {T T' : Tags} {st st' st1 : St} {a : Act} {w : World} {o : Oper} {d n : Nat} {x : Opd} {y : Operand}

def Looks (P : Program) (L : Nat) (σ : Nat → Nat) (T : Tags) (st' : St) (a : Act) (w : World) (o : Oper) : Prop :=
  ∃ v T', (∀ w', Sees T w w' → (execOp a.eval o).run P w' = .ok (.value v) w') ∧ Sim L σ T' st' (a.put o.dst v) w ∧ Still T T'

def Mute (P : Program) (L : Nat) (σ : Nat → Nat) (T : Tags) (st' : St) (a : Act) (w : World) (o : Oper) : Prop :=
  ∃ v T', (∀ w', (execOp a.eval o).run P w' = .ok (.value v) w') ∧ Sim L σ T' st' (a.put o.dst v) w ∧ Still T T'
theorem Mute.looks (h : Mute P L σ T st' a w o) : Looks P L σ T st' a w o := by
  obtain ⟨v, T', h1, h2, h3⟩ := h
  exact ⟨v, T', fun w' _ => h1 w', h2, h3⟩

theorem ARep.copy {t : Nat} {av : AV} {v : Value} (h : ARep L σ T st a w t av v) (h1 : ∀ sz es, av ≠ .row sz es) (h2 : ∀ l, av ≠ .tup l) (u : Value) : ARep L σ T (st.put d av) (a.put (some d) u) w d av v := by
  have g : ARep L σ T (st.put d av) (a.put (some d) u) w t av v := h.keep (fun b e _ => ⟨e, rfl⟩) (fun _ _ e => absurd e (h1 _ _)) (fun _ e => absurd e (h2 _)) (fun r hr _ sz es e => by
    by_cases hrd : r = .slot d
    · subst hrd; rw [row_put_nil h1] at e; cases e
    · rw [row_put_ne hrd] at e; exact ⟨⟨es, e⟩, hdr_put_ne hrd⟩) (Nat.le_refl _) (fun _ _ => rfl)
  cases av <;> first | exact g | exact absurd rfl (h1 _ _) | exact absurd rfl (h2 _)

theorem Sim.turn (h : Sim L σ T st a w) {n : Nat} {av : AV} (hav : ∀ sz es, av ≠ .row sz es) (hrep : ∀ v, a.tmps[n]? = some v → ARep L σ T (st.put n av) a w n av v) : Sim L σ T (st.put n av) a w := by
  refine ⟨by simp [St.put, h.size], fun t x u hx hu => ?_, h.boxes, h.fresh⟩
  rcases getElem_set_slots hx with ⟨rfl, rfl, h1⟩ | ⟨h1, h2⟩
  · exact hrep u hu
  · refine (h.slots t x u h2 hu).keep (fun b e _ => ⟨e, rfl⟩) (fun _ _ _ b e _ => ⟨e, rfl⟩) (fun _ _ _ _ b e _ => ⟨e, rfl⟩) (fun r hr _ sz es e => ?_) (Nat.le_refl _) (fun _ _ => rfl)
    by_cases hrd : r = .slot n
    · subst hrd; rw [row_put_nil hav] at e; cases e
    · rw [row_put_ne hrd] at e
      exact ⟨⟨es, e⟩, rfl⟩

theorem slot_of_row {t sz : Nat} {es : List PV} (hr : st.row (.slot t) = some (sz, es)) : st.slots[t]? = some (.row sz es) := by
  simp only [St.row] at hr
  split at hr
  · rename_i e; cases hr; exact e
  · cases hr
theorem cell_of_row' {p q sz : Nat} {es : List PV} (hr : st.row (.cell p q) = some (sz, es)) : ∃ bx, st.boxes[p]? = some bx ∧ bx.fz = false ∧ bx.cs[q]? = some (.row sz es) := by
  simp only [St.row] at hr
  split at hr
  · rename_i bx hb
    split at hr
    · cases hr
    · rename_i hf
      split at hr
      · rename_i e; cases hr; exact ⟨bx, hb, by simpa using hf, e⟩
      · cases hr
  · cases hr
theorem Sim.rowHdr (h : Sim L σ T st a w) {r : Root} {sz : Nat} {es : List PV} (hr : st.row r = some (sz, es)) : ∃ v, hdr σ a w r = some v ∧ RowRep T w r sz es v := by
  cases r with
  | part t i => simp [St.row] at hr
  | slot t =>
    have hs := slot_of_row hr
    have ht : t < a.tmps.size := by rw [h.size]; exact (List.getElem?_eq_some_iff.1 hs).1
    exact ⟨a.tmps[t], Array.getElem?_eq_getElem ht, h.slots t _ _ hs (Array.getElem?_eq_getElem ht)⟩
  | cell p q =>
    obtain ⟨bx, h1, h2, h3⟩ := cell_of_row' hr
    obtain ⟨arr, E, g1, g2, g3, g4, g5⟩ := h.boxes p bx h1
    have hq : q < arr.size := by rw [g2]; exact (List.getElem?_eq_some_iff.1 h3).1
    exact ⟨arr[q], by simp only [hdr]; rw [cell_of_row w _ _ arr E (0, 0) g1, Array.getElem?_eq_getElem hq], (g5 q _ _ h3 (Array.getElem?_eq_getElem hq)).2⟩
theorem RowRep.slice {r : Root} {sz : Nat} {es : List PV} {v : Value} (h : RowRep T w r sz es v) : ∃ x c, v = .slice x es.length c ∧ es.length ≤ c ∧ c ≤ maxLen ∧ (0 < es.length → ∃ b, x = some ⟨b, 0, none⟩ ∧ T b = .row r ∧ Cellish w b ∧ (∀ e ∈ es, e.cells.length = sz) ∧ ∀ i e, es[i]? = some e → Mem (fun b => T b = .ro) w b (i * sz) e.cells) := by
  rcases h with ⟨rfl, x, rfl⟩ | ⟨b, c, arr, E, rfl, h2, h3, h4, h5, h6, h7, h8⟩
  · exact ⟨x, 0, rfl, Nat.le_refl _, Nat.zero_le _, fun h => by simp at h⟩
  · refine ⟨_, c, rfl, h5, h6, fun _ => ⟨b, rfl, h2, ⟨_, _, _, h3⟩, h7, fun i e hi k x hk => ?_⟩⟩
    obtain ⟨u, g1, g2, g3⟩ := h8 i e k x hi hk
    exact ⟨u, by rw [cell_of_row w b _ arr E (0, 0) h3, g1], g2, g3⟩

theorem run_value {ρ : Operand → Value} {s : Sem Value} {v : Value} {w : World} (he : execOp ρ o = (do let x ← s; pure (.value x))) (hs : s.run P w = .ok v w) : (execOp ρ o).run P w = .ok (.value v) w := by
  rw [he]; simp [hs]

theorem run_mov {ρ : Operand → Value} (ho : o.op = .move y ∨ o.op = .assign y) (w : World) : (execOp ρ o).run P w = .ok (.value (ρ y)) w := by
  rcases ho with ho | ho <;> simp [execOp, ho]

theorem Sim.transfer (h : Sim L σ T st a w) {sz : Nat} {es : List PV} (hn : st.slots[n]? = some (.row sz es)) : Sim L σ (moved T (.slot n) (.slot d)) ((st.put n .any).putRow d sz es) (a.put (some d) (a.eval (.tmp n))) w := by
  have ht : n < a.tmps.size := by rw [h.size]; exact (List.getElem?_eq_some_iff.1 hn).1
  have e : a.tmps[n]? = some a.tmps[n] := Array.getElem?_eq_getElem ht
  have hr := h.slots n _ _ hn e
  rw [eval_tmp e]
  refine (h.forget n).putRow (RowRep.frame (fun b e _ => ⟨moved_src e, rfl⟩) (fun b e _ => ⟨moved_ro e, rfl⟩) hr) (fun b e => moved_ro e) (fun b o e => moved_box e) (fun b hb => moved_other (h.fresh b hb)) (fun t s l ht hs b e => ?_) (fun t i l _ _ _ b e => moved_row (by simp) (by simp) e) (fun o j b e => moved_row (by simp) (by simp) e)
  have htn : t ≠ n := fun e => by
    subst e
    simp only [St.put, List.getElem?_set, if_true] at hs
    split at hs <;> cases hs
  exact moved_row (by simpa using htn) (by simpa using ht) e
theorem Sim.newRow (h : Sim L σ T st a w) {sz : Nat} {x : Option Addr} : Sim L σ T (st.putRow d sz []) (a.put (some d) (.slice x 0 0)) w :=
  h.putRow (RowRep.nil _ _ _ _ _) (fun _ e => e) (fun _ _ e => e) h.fresh (fun _ _ _ _ _ _ e => e) (fun _ _ _ _ _ _ _ e => e) (fun _ _ _ e => e)

def movedT (T : Tags) (s d : Nat) : Tags := fun b => match T b with
  | .row (.part t i) => if t = s then .row (.part d i) else if t = d then .other else .row (.part t i)
  | q => q
theorem Sim.transferT (h : Sim L σ T st a w) {l : List AV} (hn : st.slots[n]? = some (.tup l)) : Sim L σ (movedT T n d) ((st.put n .any).put d (.tup l)) (a.put (some d) (a.eval (.tmp n))) w := by
  have ht : n < a.tmps.size := by rw [h.size]; exact (List.getElem?_eq_some_iff.1 hn).1
  have e : a.tmps[n]? = some a.tmps[n] := Array.getElem?_eq_getElem ht
  obtain ⟨arr, e1, e2, e3⟩ := h.slots n _ _ hn e
  rw [eval_tmp e]
  have hro : ∀ b, T b = .ro → movedT T n d b = .ro := fun b e => by simp [movedT, e]
  have hbox : ∀ b o, T b = .box o → movedT T n d b = .box o := fun b o e => by simp [movedT, e]
  have hoth : ∀ b, T b = .other → movedT T n d b = .other := fun b e => by simp [movedT, e]
  have hslot : ∀ b t, T b = .row (.slot t) → movedT T n d b = .row (.slot t) := fun b o e => by simp [movedT, e]
  have hcell : ∀ b p q, T b = .row (.cell p q) → movedT T n d b = .row (.cell p q) := fun b p q e => by simp [movedT, e]
  have hw : ∀ b, T b = .ro → b < w.heap.size → movedT T n d b = .ro ∧ w.heap[b]? = w.heap[b]? := fun b e _ => ⟨hro b e, rfl⟩
  refine ⟨by simp [Act.put, St.put, h.size], fun t x u hx hu => ?_, fun o bx ho => ?_, fun b hb => hoth b (h.fresh b hb)⟩
  · rcases getElem_set_slots hx with ⟨rfl, rfl, h1⟩ | ⟨h1, h2⟩
    · rcases getElem_set_tmps hu with ⟨_, rfl, _⟩ | ⟨h3, _⟩
      · refine ⟨arr, e1, e2, fun k x u hk hu => ?_⟩
        have g := e3 k x u hk hu
        cases x <;> simp only [PartRep] at g ⊢
        · exact PRep.frame hw g
        · exact RowRep.frame (fun b e _ => ⟨by simp [movedT, e], rfl⟩) hw g
      · exact absurd rfl h3
    · rcases getElem_set_tmps hu with ⟨h3, _⟩ | ⟨_, h4⟩
      · exact absurd h3 h1
      · rcases getElem_set_slots h2 with ⟨rfl, rfl, _⟩ | ⟨h5, h6⟩
        · trivial
        · refine (h.slots t x u h6 h4).keep hw (fun s l e b hb _ => ⟨hslot b _ hb, rfl⟩) (fun l e i _ b hb _ => ⟨by simp [movedT, hb, h5, h1], rfl⟩) (fun r hr _ sz es e => ?_) (Nat.le_refl _) (fun _ _ => rfl)
          by_cases hrd : r = .slot d
          · subst hrd; rw [row_put_nil (fun _ _ e => by cases e)] at e; cases e
          · rw [row_put_ne hrd] at e
            by_cases hrn : r = .slot n
            · subst hrn; rw [row_put_nil (fun _ _ e => by cases e)] at e; cases e
            · rw [row_put_ne hrn] at e
              exact ⟨⟨es, e⟩, hdr_put_ne hrd⟩
  · have hb := h.boxes o bx ho
    have hT : movedT T n d (σ o) = T (σ o) := by
      obtain ⟨_, _, _, _, h3, _⟩ := hb
      rw [h3]; split
      · rename_i hf; exact hro _ (by rw [h3, if_pos hf])
      · rename_i hf; exact hbox _ _ (by rw [h3, if_neg hf])
    exact hb.frame ⟨hT, rfl⟩ (fun j b e _ => ⟨hcell b _ _ e, rfl⟩) hw
theorem Still.movedT (T : Tags) (n d : Nat) : Still T (movedT T n d) := ⟨fun b e => by simp [Go.Proofs.Ytldnpgbacakfeaa.movedT, e], fun b e => by simp [Go.Proofs.Ytldnpgbacakfeaa.movedT, e]⟩

theorem slots_get {t : Nat} {av : AV} (h : st.get (.t t) = av) (hne : av ≠ .any) : st.slots[t]? = some av := by
  simp only [St.get, List.getD] at h
  cases e : st.slots[t]? with
  | none => rw [e] at h; exact absurd h.symm hne
  | some x => rw [e] at h; exact congrArg _ h

theorem mute_mov (h : Sim L σ T st a w) (hd : o.dst = some d) (ho : o.op = .move y ∨ o.op = .assign y) (hm : mOpd y x = true) (asn : Bool) (hp : plain (if asn then .asg d x else .mov d x) st = some st') : Mute P L σ T st' a w o := by
  have hrun : ∀ w', (execOp a.eval o).run P w' = .ok (.value (a.eval y)) w' := fun w' => run_mov ho w'
  rcases h.get hm with ⟨t, rfl, hg⟩ | ⟨v, rfl, hv⟩ | ⟨sz, rfl, hv⟩
  · have ey : a.eval y = a.eval (.tmp t) := by
      cases y <;> simp [mOpd] at hm
      rw [hm]
    cases e : st.get (.t t) with
    | row sz es =>
      have hs := slots_get e (by simp)
      cases asn with
      | true =>
        have hp' : ((st.put t .any).putRow d sz es) = st' := by simpa [plain, e] using hp
        subst hp'
        refine ⟨_, moved T (.slot t) (.slot d), hrun, ?_, Still.moved _ _ _⟩
        rw [hd, ey]; exact h.transfer hs
      | false =>
        have hp' : st.put d (.ref (.slot t) 0 es.length) = st' := by simpa [plain, e] using hp
        subst hp'
        refine ⟨_, T, hrun, ?_, Still.refl _⟩
        rw [hd]
        refine h.put (fun _ _ e => by cases e) ⟨trivial, ?_⟩
        intro s l hl
        by_cases htd : t = d
        · subst htd; rw [row_put_nil (fun _ _ e => by cases e)] at hl; cases hl
        · have hne : (Root.slot t) ≠ .slot d := by simpa using htd
          rw [row_put_ne hne] at hl
          rw [hdr_put_ne hne]
          obtain ⟨v, h1, h2⟩ := h.rowHdr hl
          have := slot_of_row hl
          rw [hs] at this; cases this
          obtain ⟨x, c, rfl, _, _, _⟩ := h2.slice
          have h3 : a.eval y = .slice x es.length c := by rw [ey]; exact eval_tmp h1
          exact ⟨x, _, c, x, h1, by rw [h3]; simp, fun _ => rfl, fun _ => by cases x <;> simp [Addr.add], fun b o e => ⟨o, e⟩⟩
    | tup l =>
      have hs := slots_get e (by simp)
      have hp' : ((st.put t .any).put d (.tup l)) = st' := by cases asn <;> simpa [plain, e] using hp
      subst hp'
      refine ⟨_, Go.Proofs.Ytldnpgbacakfeaa.movedT T t d, hrun, ?_, Still.movedT _ _ _⟩
      rw [hd, ey]; exact h.transferT hs
    | any =>
      have hp' : st.put d .any = st' := by cases asn <;> simpa [plain, e] using hp
      subst hp'
      exact ⟨_, T, hrun, by rw [hd]; exact h.putAny, Still.refl _⟩
    | _ =>
      have hg' : ARep L σ T st a w t (st.get (.t t)) (a.eval y) := by
        rcases hg with ⟨_, hg⟩ | hg
        · exact hg
        · rw [e] at hg; cases hg
      rw [e] at hg'
      have hp' : st.put d (st.get (.t t)) = st' := by cases asn <;> simpa [plain, e] using hp
      subst hp'
      refine ⟨_, T, hrun, ?_, Still.refl _⟩
      rw [hd, e]
      exact h.put (fun _ _ e => by cases e) (hg'.copy (fun _ _ e => by cases e) (fun _ e => by cases e) _)
  · have hp' : st.put d (.pv v) = st' := by cases asn <;> simpa [plain, St.get] using hp
    subst hp'
    exact ⟨_, T, hrun, by rw [hd]; exact h.putPv hv, Still.refl _⟩
  · have hp' : st.putRow d sz [] = st' := by cases asn <;> simpa [plain, St.get] using hp
    subst hp'
    exact ⟨_, T, hrun, by rw [hd, hv]; exact h.newRow, Still.refl _⟩
theorem looks_mov (h : Sim L σ T st a w) (hd : o.dst = some d) (ho : o.op = .move y ∨ o.op = .assign y) (hm : mOpd y x = true) (asn : Bool) (hp : plain (if asn then .asg d x else .mov d x) st = some st') : Looks P L σ T st' a w o := (mute_mov h hd ho hm asn hp).looks
end
end Go.Proofs.Ytldnpgbacakfeaa

namespace Go.Proofs.Ytldnpgbacakfeaa
open Go.RowKit

section
variable {P : Program} {L : Nat} {σ : Nat → Nat} {T T' : Tags} {st st' st1 : St} {a : Act} {w : World} {o : Oper} {d n : Nat} {x x2 : Opd} {y y2 : Operand}

theorem looks_pv (h : Sim L σ T st a w) (hd : o.dst = some d) {v : PV} {u : Value} (hrun : ∀ w', Sees T w w' → (execOp a.eval o).run P w' = .ok (.value u) w') (hv : PRep (fun b => T b = .ro) w v u) : Looks P L σ T (st.put d (.pv v)) a w o :=
  ⟨u, T, hrun, by rw [hd]; exact h.putPv hv, Still.refl _⟩

theorem mute_pv (h : Sim L σ T st a w) (hd : o.dst = some d) {v : PV} {u : Value} (hrun : ∀ w', (execOp a.eval o).run P w' = .ok (.value u) w') (hv : PRep (fun b => T b = .ro) w v u) : Mute P L σ T (st.put d (.pv v)) a w o :=
  ⟨u, T, hrun, by rw [hd]; exact h.putPv hv, Still.refl _⟩

theorem PRep.int_inv {ok : Nat → Prop} {k : IntKind} {n : Int} {u : Value} (h : PRep ok w (.int k n) u) : u = .int k n := by cases h; rfl
theorem PRep.bool_inv {ok : Nat → Prop} {b : Bool} {u : Value} (h : PRep ok w (.bool b) u) : u = .bool b := by cases h; rfl
theorem PRep.str_inv {ok : Nat → Prop} {s : ByteArray} {u : Value} (h : PRep ok w (.str s) u) : u = .string s := by cases h; rfl
theorem PRep.agg_inv {ok : Nat → Prop} {cs : List PV} {u : Value} (h : PRep ok w (.agg cs) u) : ∃ arr : Array Value, u = .agg arr ∧ arr.size = cs.length ∧ (∀ (j : Nat) (v : Value), arr[j]? = some v → v.oneCell' = true) ∧ ∀ (j : Nat) (x : PV) (v : Value), cs[j]? = some x → arr[j]? = some v → PRep ok w x v := by
  cases h with
  | agg cs arr h1 h2 h3 => exact ⟨arr, rfl, h1, h2, h3⟩

theorem bind_some {α β : Type} {x : Option α} {f : α → Option β} {y : β} (h : (x >>= f) = some y) : ∃ z, x = some z ∧ f z = some y := by
  cases x with
  | none => cases h
  | some z => exact ⟨z, rfl, h⟩

theorem mute_pick {c : Opd} {yc : Operand} (h : Sim L σ T st a w) (hd : o.dst = some d) (ho : o.op = .pick yc y y2) (hmc : mOpd yc c = true) (hm : mOpd y x = true) (hm2 : mOpd y2 x2 = true) (hp : plain (.pick d c x x2) st = some st') : Mute P L σ T st' a w o := by
  simp only [plain] at hp
  obtain ⟨cv, h1, hp⟩ := bind_some hp
  cases cv <;> simp only [reduceCtorEq] at hp
  rename_i b
  obtain ⟨v, h2, hp⟩ := bind_some hp
  cases hp
  have hb := (h.pv hmc h1).bool_inv
  refine mute_pv h hd (u := if b then a.eval y else a.eval y2) (fun w' => ?_) ?_
  · simp [execOp, ho, hb, asBool]
  · cases b
    · exact h.pv hm2 (by simpa using h2)
    · exact h.pv hm (by simpa using h2)
theorem looks_pick {c : Opd} {yc : Operand} (h : Sim L σ T st a w) (hd : o.dst = some d) (ho : o.op = .pick yc y y2) (hmc : mOpd yc c = true) (hm : mOpd y x = true) (hm2 : mOpd y2 x2 = true) (hp : plain (.pick d c x x2) st = some st') : Looks P L σ T st' a w o := (mute_pick h hd ho hmc hm hm2 hp).looks

theorem run_intBin {T : TypeId} {b : BinOp} {k l : IntKind} {m n : Int} {v : PV} (hkl : (b = .shl ∨ b = .shr) ∨ k = l) (hb : intBin b k m n = some v) : ∃ u, (∀ w, (Go.binOp b T (.int k m) (.int l n)).run P w = .ok u w) ∧ ∀ ok w, PRep ok w v u := by
  have hi : ∀ k n, ∀ ok w, PRep ok w (.int k n) (.int k n) := fun k n ok w => .int k n
  have hbo : ∀ b, ∀ ok w, PRep ok w (.bool b) (.bool b) := fun b ok w => .bool b
  cases b <;> simp only [intBin] at hb
  case shl =>
    split at hb
    · cases hb
    · rename_i hn; cases hb; exact ⟨_, fun w => by simp [Go.binOp, Op.shift, hn], hi _ _⟩
  case shr =>
    split at hb
    · cases hb
    · rename_i hn; cases hb; exact ⟨_, fun w => by simp [Go.binOp, Op.shift, hn], hi _ _⟩
  all_goals
    have hk : k = l := hkl.resolve_left (by simp)
    subst hk
  case quo =>
    split at hb
    · cases hb
    · rename_i hn; cases hb; exact ⟨_, fun w => by simp [Go.binOp, Op.intDiv, hn], hi _ _⟩
  case rem =>
    split at hb
    · cases hb
    · rename_i hn; cases hb; exact ⟨_, fun w => by simp [Go.binOp, Op.intDiv, hn], hi _ _⟩
  all_goals
    cases hb
    first
      | exact ⟨_, fun w => by simp only [Go.binOp, ne_eq, not_true_eq_false, if_false, Op.intArith]; rfl, hi _ _⟩
      | exact ⟨_, fun w => by simp only [Go.binOp, ne_eq, not_true_eq_false, if_false, Op.intBits]; rfl, hi _ _⟩
      | exact ⟨_, fun w => by simp only [Go.binOp, ne_eq, not_true_eq_false, if_false, Op.intCmp]; rfl, hbo _⟩

def basicT (P : Program) (T : TypeId) : Bool :=
  match P.underlying T with
  | some (.int _) => szOf P T == some 1
  | _ => false
def fieldsOk (P : Program) : Nat → List Field → Bool
  | _, [] => true
  | k, f :: fs => f.name != "_" && f.offset == k && basicT P f.type && fieldsOk P (k + 1) fs
def eqOk (P : Program) (T : TypeId) : Bool :=
  match P.underlying T with
  | some (.struct fs) => !P.stoodInHeld T && !P.eqGuardType P.depth T && fieldsOk P 0 fs.toList && szOf P T == some fs.size
  | some (.array n e) => !P.eqGuardType P.depth T && basicT P e && szOf P T == some n
  | _ => false

theorem basicT_eq {e : TypeId} (he : basicT P e = true) : (∃ q, P.underlying e = some (.int q)) ∧ P.cellsOf e = 1 := by
  unfold basicT at he
  split at he
  · rename_i q hq
    exact ⟨⟨q, hq⟩, by have := beq_iff_eq.1 he; simp only [szOf] at this; simp [Program.cellsOf, this]⟩
  · cases he
theorem isAgg_basic {e : TypeId} (he : basicT P e = true) (w : World) : (isAgg e).run P w = .ok false w := by
  obtain ⟨⟨q, hq⟩, _⟩ := basicT_eq he
  unfold isAgg; simp only [Sem.run_bind, run_underlying hq, Result.andThen_ok]; rfl
theorem run_part1 {e : TypeId} (he : basicT P e = true) {xs : Array Value} {i : Nat} {v : Value} (h : xs[i]? = some v) (w : World) : (Go.part e xs i).run P w = .ok v w := by
  unfold Go.part
  simp only [Sem.run_bind, isAgg_basic he, Result.andThen_ok, Bool.false_eq_true, if_false, h, Sem.run_pure]

theorem eqCells_cons {x y : PV} {xs ys : List PV} {r : Bool} (h : eqCells (x :: xs) (y :: ys) = some r) : ∃ k a b s, x = .int k a ∧ y = .int k b ∧ eqCells xs ys = some s ∧ r = (a == b && s) := by
  cases x <;> cases y <;> simp only [eqCells, reduceCtorEq] at h
  rename_i k a l b
  split at h
  · rename_i e
    subst e
    obtain ⟨s, h1, h2⟩ := Option.map_eq_some_iff.1 h
    exact ⟨_, _, _, s, rfl, rfl, h1, h2.symm⟩
  · cases h

theorem run_fieldsEq {dd : Nat} {ok : Nat → Prop} {X Y : Array Value} (w : World) : ∀ (fs : List Field) (k : Nat) (xs ys : List PV) (r : Bool), fieldsOk P k fs = true → eqCells xs ys = some r → xs.length = fs.length →
    (∀ j x, xs[j]? = some x → ∃ u, X[k + j]? = some u ∧ PRep ok w x u) → (∀ j x, ys[j]? = some x → ∃ u, Y[k + j]? = some u ∧ PRep ok w x u) → ∀ w', (Op.eqFields (dd + 1) X Y fs).run P w' = .ok r w'
  | [], k, xs, ys, r, _, he, hl, _, _ => by
    intro w'
    cases xs with
    | cons _ _ => simp at hl
    | nil => cases ys <;> simp [eqCells] at he; subst he; simp [Op.eqFields]
  | f :: fs, k, xs, ys, r, hf, he, hl, hX, hY => by
    intro w'
    simp only [fieldsOk, Bool.and_eq_true, bne_iff_ne, ne_eq, beq_iff_eq] at hf
    obtain ⟨⟨⟨hn, ho⟩, hb⟩, hf⟩ := hf
    cases xs with
    | nil => simp at hl
    | cons x xs =>
      cases ys with
      | nil => cases x <;> simp [eqCells] at he
      | cons y ys =>
        obtain ⟨q, a, b, s, rfl, rfl, hs, rfl⟩ := eqCells_cons he
        obtain ⟨u, h1, h2⟩ := hX 0 _ rfl
        obtain ⟨v, h3, h4⟩ := hY 0 _ rfl
        rw [h2.int_inv] at h1
        rw [h4.int_inv] at h3
        obtain ⟨⟨q', hq⟩, _⟩ := basicT_eq hb
        have ih := run_fieldsEq (dd := dd) (ok := ok) (X := X) (Y := Y) w fs (k + 1) xs ys s hf hs (by simpa using hl) (fun j x hx => by have := hX (j + 1) x (by simpa using hx); rwa [show k + (j + 1) = k + 1 + j by omega] at this)
          (fun j x hx => by have := hY (j + 1) x (by simpa using hx); rwa [show k + (j + 1) = k + 1 + j by omega] at this) w'
        rw [Nat.add_zero] at h1 h3
        simp only [Op.eqFields, hn, ne_eq, not_false_eq_true, if_true, Sem.run_bind, ho, run_part1 hb h1, run_part1 hb h3, Result.andThen_ok, run_equalIn_int w' dd f.type q q' a b hq, ih]
        cases hab : a == b
        · simp
        · simpa using ih
theorem run_itemsEq {dd e : Nat} {ok : Nat → Prop} {X Y : Array Value} (he0 : basicT P e = true) (w : World) : ∀ (n k : Nat) (xs ys : List PV) (r : Bool), eqCells xs ys = some r → xs.length = n →
    (∀ j x, xs[j]? = some x → ∃ u, X[k + j]? = some u ∧ PRep ok w x u) → (∀ j x, ys[j]? = some x → ∃ u, Y[k + j]? = some u ∧ PRep ok w x u) → ∀ w', (Op.eqItems (dd + 1) e 1 X Y (List.range' k n)).run P w' = .ok r w'
  | 0, k, xs, ys, r, he, hl, _, _ => by
    intro w'
    cases xs with
    | cons _ _ => simp at hl
    | nil => cases ys <;> simp [eqCells] at he; subst he; simp [Op.eqItems]
  | n + 1, k, xs, ys, r, he, hl, hX, hY => by
    intro w'
    cases xs with
    | nil => simp at hl
    | cons x xs =>
      cases ys with
      | nil => cases x <;> simp [eqCells] at he
      | cons y ys =>
        obtain ⟨q, a, b, s, rfl, rfl, hs, rfl⟩ := eqCells_cons he
        obtain ⟨u, h1, h2⟩ := hX 0 _ rfl
        obtain ⟨v, h3, h4⟩ := hY 0 _ rfl
        rw [h2.int_inv] at h1
        rw [h4.int_inv] at h3
        obtain ⟨⟨q', hq⟩, _⟩ := basicT_eq he0
        have ih := run_itemsEq (dd := dd) (ok := ok) (X := X) (Y := Y) he0 w n (k + 1) xs ys s hs (by simpa using hl) (fun j x hx => by have := hX (j + 1) x (by simpa using hx); rwa [show k + (j + 1) = k + 1 + j by omega] at this)
          (fun j x hx => by have := hY (j + 1) x (by simpa using hx); rwa [show k + (j + 1) = k + 1 + j by omega] at this) w'
        rw [Nat.add_zero] at h1 h3
        simp only [List.range'_succ, Op.eqItems, Sem.run_bind, Nat.mul_one, run_part1 he0 h1, run_part1 he0 h3, Result.andThen_ok, run_equalIn_int w' dd e q q' a b hq, ih]
        cases hab : a == b
        · simp
        · simpa using ih

theorem eqCells_length : ∀ {xs ys : List PV} {r : Bool}, eqCells xs ys = some r → xs.length = ys.length
  | [], [], _, _ => rfl
  | [], _ :: _, _, h => by simp [eqCells] at h
  | x :: _, [], _, h => by cases x <;> simp [eqCells] at h
  | x :: xs, y :: ys, _, h => by obtain ⟨_, _, _, s, _, _, hs, _⟩ := eqCells_cons h; simp [eqCells_length hs]
theorem run_eqAgg {T0 : TypeId} (hT : eqOk P T0 = true) {ok : Nat → Prop} {xs ys : List PV} {r : Bool} {u v : Value} (he : eqCells xs ys = some r) (hu : PRep ok w (.agg xs) u) (hv : PRep ok w (.agg ys) v) (hs : szOf P T0 = some xs.length) (w' : World) :
    P.eqGuardType P.depth T0 = false ∧ (Op.equal T0 u v).run P w' = .ok r w' := by
  obtain ⟨X, rfl, hX1, _, hX⟩ := hu.agg_inv
  obtain ⟨Y, rfl, hY1, _, hY⟩ := hv.agg_inv
  have gX : ∀ j x, xs[j]? = some x → ∃ u, X[0 + j]? = some u ∧ PRep ok w x u := fun j x hx => by
    have hj := (List.getElem?_eq_some_iff.1 hx).1
    have e : X[j]? = some X[j] := Array.getElem?_eq_getElem (by omega)
    exact ⟨_, by rw [Nat.zero_add]; exact e, hX j x _ hx e⟩
  have gY : ∀ j x, ys[j]? = some x → ∃ u, Y[0 + j]? = some u ∧ PRep ok w x u := fun j x hx => by
    have hj := (List.getElem?_eq_some_iff.1 hx).1
    have e : Y[j]? = some Y[j] := Array.getElem?_eq_getElem (by omega)
    exact ⟨_, by rw [Nat.zero_add]; exact e, hY j x _ hx e⟩
  unfold eqOk at hT
  split at hT
  · rename_i fs hfs
    simp only [Bool.and_eq_true, Bool.not_eq_true', beq_iff_eq] at hT
    obtain ⟨⟨⟨h1, h2⟩, h3⟩, h4⟩ := hT
    rw [hs] at h4
    have hl : xs.length = fs.toList.length := by simpa using h4
    refine ⟨h2, ?_⟩
    have hfo : P.fieldsOf T0 = fs := by simp [Program.fieldsOf, hfs]
    unfold Op.equal
    rw [show Op.maxDepth = 9999 + 1 from rfl, run_equalIn_struct w' 9999 T0 X Y (by rw [hfo]; exact hfs) h1, hfo]
    exact run_fieldsEq (dd := 9998) w fs.toList 0 xs ys r h3 he hl gX gY w'
  · rename_i n e hne
    simp only [Bool.and_eq_true, Bool.not_eq_true', beq_iff_eq] at hT
    obtain ⟨⟨h2, h3⟩, h4⟩ := hT
    rw [hs] at h4
    refine ⟨h2, ?_⟩
    obtain ⟨⟨q, hq⟩, hc⟩ := basicT_eq h3
    have hi : ∃ i, P.info? e = some i := by
      cases hi : P.info? e with
      | none => simp [Program.cellsOf, hi] at hc
      | some i => exact ⟨i, rfl⟩
    obtain ⟨i, hi⟩ := hi
    unfold Op.equal
    rw [show Op.maxDepth = 9999 + 1 from rfl, run_equalIn_array w' 9999 X Y hne hi, hc, List.range_eq_range']
    exact run_itemsEq (dd := 9998) h3 w n 0 xs ys r he (by simpa using h4) gX gY w'
  · cases hT

theorem run_binop {ρ : Operand → Value} {b : BinOp} {T0 T1 : TypeId} {u : Value} (ho : o.op = .binOp b T0 y y2 T1) {w : World} (h1 : (eqGuard b T0 y y2 (ρ y) (ρ y2)).run P w = .ok () w) (h2 : (Go.binOp b T0 (ρ y) (ρ y2)).run P w = .ok u w) :
    (execOp ρ o).run P w = .ok (.value u) w := by simp [execOp, ho, h1, h2]
theorem looks_eqa {b : BinOp} {T0 T1 : TypeId} {neg : Bool} (h : Sim L σ T st a w) (hd : o.dst = some d) (ho : o.op = .binOp b T0 y y2 T1) (hb : b = if neg then .neq else .eql) (hm : mOpd y x = true) (hm2 : mOpd y2 x2 = true) (hT : eqOk P T0 = true) (hn : szOf P T0 = some n)
    (hp : plain (.eqa d neg n x x2) st = some st') : Looks P L σ T st' a w o := by
  simp only [plain] at hp
  obtain ⟨v1, h1, hp⟩ := bind_some hp
  cases v1 <;> simp only [reduceCtorEq] at hp
  rename_i xs
  obtain ⟨v2, h2, hp⟩ := bind_some hp
  cases v2 <;> simp only [reduceCtorEq] at hp
  rename_i ys
  obtain ⟨r, h3, hp⟩ := bind_some hp
  split at hp
  case isFalse => cases hp
  rename_i hl
  have hp := Option.some.inj hp
  subst hp
  have r1 := h.pv hm h1
  have r2 := h.pv hm2 h2
  have key := fun w' => run_eqAgg (P := P) hT h3 r1 r2 (by rw [hn, hl]) w'
  obtain ⟨X, e1, _⟩ := r1.agg_inv
  obtain ⟨Y, e2, _⟩ := r2.agg_inv
  refine looks_pv h hd (u := .bool (if neg then !r else r)) (fun w' _ => run_binop ho ?_ ?_) (.bool _)
  · obtain ⟨k1, k2⟩ := key w'
    rw [e1, e2]
    subst hb
    cases neg <;> simp [eqGuard, k1, program, Sem.run]
  · obtain ⟨k1, k2⟩ := key w'
    rw [e1, e2] at k2 ⊢
    subst hb
    cases neg <;> simp [Go.binOp, k2]
theorem looks_eqb {b : BinOp} {T0 T1 : TypeId} {neg : Bool} (h : Sim L σ T st a w) (hd : o.dst = some d) (ho : o.op = .binOp b T0 y y2 T1) (hb : b = if neg then .neq else .eql) (hm : mOpd y x = true) (hm2 : mOpd y2 x2 = true) (hT : P.underlying T0 = some .bool)
    (hp : plain (.eqb d neg x x2) st = some st') : Looks P L σ T st' a w o := by
  simp only [plain] at hp
  obtain ⟨v1, h1, hp⟩ := bind_some hp
  cases v1 <;> simp only [reduceCtorEq] at hp
  rename_i p
  obtain ⟨v2, h2, hp⟩ := bind_some hp
  cases v2 <;> simp only [reduceCtorEq] at hp
  rename_i q
  have hp := Option.some.inj hp
  subst hp
  have e1 := (h.pv hm h1).bool_inv
  have e2 := (h.pv hm2 h2).bool_inv
  refine looks_pv h hd (u := .bool (if neg then !(p == q) else p == q)) (fun w' _ => run_binop ho ?_ ?_) (.bool _)
  · rw [e1, e2]
    subst hb
    cases neg <;> simp [eqGuard]
  · have k2 := run_equal_bool (P := P) w' T0 p q hT
    rw [e1, e2]
    subst hb
    cases neg <;> simp [Go.binOp, k2]

theorem mute_bin {b : BinOp} {T0 T1 : TypeId} (h : Sim L σ T st a w) (hd : o.dst = some d) (ho : o.op = .binOp b T0 y y2 T1) (hm : mOpd y x = true) (hm2 : mOpd y2 x2 = true)
    (hp : plain (.bin d b x x2) st = some st') : Mute P L σ T st' a w o := by
  simp only [plain] at hp
  obtain ⟨v1, h1, hp⟩ := bind_some hp
  obtain ⟨v2, h2, hp⟩ := bind_some hp
  obtain ⟨v, h3, hp⟩ := bind_some hp
  have hp := Option.some.inj hp
  subst hp
  have r1 := h.pv hm h1
  have r2 := h.pv hm2 h2
  cases v1 with
  | int k m =>
    cases v2 with
    | int l q =>
      have e1 := r1.int_inv
      have e2 := r2.int_inv
      have hb : intBin b k m q = some v ∧ ((b = .shl ∨ b = .shr) ∨ k = l) := by
        simp only [binPV] at h3
        split at h3
        · exact ⟨h3, .inl (.inl rfl)⟩
        · exact ⟨h3, .inl (.inr rfl)⟩
        · split at h3
          · exact ⟨h3, .inr (by assumption)⟩
          · cases h3
      obtain ⟨hb, hkl⟩ := hb
      obtain ⟨u, h7, h8⟩ := run_intBin (P := P) (T := T0) hkl hb
      refine mute_pv h hd (u := u) (fun w' => run_binop ho ?_ ?_) (h8 _ _)
      · rw [e1, e2]; unfold eqGuard; cases b <;> rfl
      · rw [e1, e2]; exact h7 w'
    | _ => simp [binPV] at h3
  | _ => simp [binPV] at h3
theorem looks_bin {b : BinOp} {T0 T1 : TypeId} (h : Sim L σ T st a w) (hd : o.dst = some d) (ho : o.op = .binOp b T0 y y2 T1) (hm : mOpd y x = true) (hm2 : mOpd y2 x2 = true)
    (hp : plain (.bin d b x x2) st = some st') : Looks P L σ T st' a w o := (mute_bin h hd ho hm hm2 hp).looks
end
end Go.Proofs.Ytldnpgbacakfeaa

namespace Go.Proofs.Ytldnpgbacakfeaa
open Go.RowKit

section
variable {P : Program} {L : Nat} {σ : Nat → Nat} {T T' : Tags} {st st' st1 : St} {a : Act} {w : World} {o : Oper} {d n : Nat} {x x2 : Opd} {y y2 : Operand}

theorem mute_un {b : UnOp} {T0 : TypeId} (h : Sim L σ T st a w) (hd : o.dst = some d) (ho : o.op = .unOp b T0 y) (hm : mOpd y x = true) (hp : plain (.un d b x) st = some st') : Mute P L σ T st' a w o := by
  simp only [plain] at hp
  obtain ⟨v1, h1, hp⟩ := bind_some hp
  obtain ⟨v, h3, hp⟩ := bind_some hp
  have hp := Option.some.inj hp
  subst hp
  have r1 := h.pv hm h1
  unfold unPV at h3
  split at h3
  · have h3 := Option.some.inj h3
    subst h3
    refine mute_pv h hd (fun w' => ?_) (.int _ _)
    simp [execOp, ho, r1.int_inv, Op.unary, Op.intArith]
    try exact ⟨rfl, rfl⟩
  · have h3 := Option.some.inj h3
    subst h3
    refine mute_pv h hd (fun w' => ?_) (.bool _)
    simp [execOp, ho, r1.bool_inv, Op.unary]
    try exact ⟨rfl, rfl⟩
  · simp only [intBin] at h3
    have h3 := Option.some.inj h3
    subst h3
    refine mute_pv h hd (fun w' => ?_) (.int _ _)
    simp only [execOp, ho, r1.int_inv, Op.unary, Op.intBits, Sem.run_bind, Sem.run_pure, Result.andThen_ok]
  · cases h3
theorem looks_un {b : UnOp} {T0 : TypeId} (h : Sim L σ T st a w) (hd : o.dst = some d) (ho : o.op = .unOp b T0 y) (hm : mOpd y x = true) (hp : plain (.un d b x) st = some st') : Looks P L σ T st' a w o := (mute_un h hd ho hm hp).looks

theorem looks_conv {k : IntKind} {src dst : TypeId} (h : Sim L σ T st a w) (hd : o.dst = some d) (ho : o.op = .convert src dst y) (hm : mOpd y x = true) (hsrc : ∃ q, P.underlying src = some (.int q)) (hdst : P.underlying dst = some (.int k))
    (hp : plain (.conv d k x) st = some st') : Looks P L σ T st' a w o := by
  simp only [plain] at hp
  obtain ⟨v1, h1, hp⟩ := bind_some hp
  cases v1 <;> simp only [reduceCtorEq] at hp
  rename_i l m
  have hp := Option.some.inj hp
  subst hp
  have r1 := (h.pv hm h1).int_inv
  obtain ⟨q, hq⟩ := hsrc
  refine looks_pv h hd (fun w' _ => ?_) (.int _ _)
  simp [execOp, ho, r1, convert, run_underlying hq, run_underlying hdst, Conv.intToInt]

theorem Sim.ptrMem (h : Sim L σ T st a w) {r : Root} {sz : Nat} {es : List PV} (hr : st.row r = some (sz, es)) {i : Nat} {e : PV} (he : es[i]? = some e) {j : Nat} {v : Value} (hv : PelRep (hdr σ a w r) i j sz v) :
    ∃ b, v = .pointer (some ⟨b, i * sz + j, none⟩) ∧ T b = .row r ∧ Cellish w b ∧ Mem (fun b => T b = .ro) w b (i * sz) e.cells := by
  obtain ⟨b, n, c, h1, rfl⟩ := hv
  obtain ⟨u, h2, h3⟩ := h.rowHdr hr
  rw [h2] at h1; cases h1
  obtain ⟨x, c', e1, _, _, h4⟩ := h3.slice
  have hl : 0 < es.length := by have := (List.getElem?_eq_some_iff.1 he).1; omega
  obtain ⟨b', e2, h5, h6, _, h7⟩ := h4 hl
  cases e1
  cases e2
  exact ⟨b, rfl, h5, h6, h7 i e he⟩
theorem BRep.prep {T T' : Tags} {w : World} {o j : Nat} {x : BV} {u : Value} (h : BRep T w o j x u) (hr : ∀ b, T b = .row (.cell o j) → T' b = .ro) (hw : ∀ b, T b = .ro → T' b = .ro) : PRep (fun b => T' b = .ro) w x.val u := by
  cases x with
  | pv v => exact PRep.frame (fun b e _ => ⟨hw b e, rfl⟩) h
  | row sz es => exact RowRep.list hr hw h
theorem BoxRep.mem {b o : Nat} {bx : Box} (h : BoxRep T w b o bx) (hr : ∀ j b, T b = .row (.cell o j) → T' b = .ro) (hw : ∀ b, T b = .ro → T' b = .ro) : Mem (fun b => T' b = .ro) w b 0 (bx.cs.map BV.val) := by
  obtain ⟨arr, E, h1, h2, h3, h4, h5⟩ := h
  intro k x hx
  rw [List.getElem?_map] at hx
  cases e : bx.cs[k]? with
  | none => rw [e] at hx; cases hx
  | some bv =>
    rw [e] at hx; cases hx
    have hk : k < arr.size := by rw [h2]; exact (List.getElem?_eq_some_iff.1 e).1
    have g : arr[k]? = some arr[k] := Array.getElem?_eq_getElem hk
    obtain ⟨g1, g2⟩ := h5 k bv _ e g
    exact ⟨arr[k], by rw [cell_of_row w b _ arr E (0, 0) h1, Nat.zero_add, g], g1, g2.prep (hr k) hw⟩

def frozC (T : Tags) (o : Nat) : Tags := fun b => match T b with
  | .row (.cell p j) => if p = o then .ro else .row (.cell p j)
  | q => q
theorem Still.frozC (T : Tags) (o : Nat) : Still T (frozC T o) := ⟨fun b e => by simp [Go.Proofs.Ytldnpgbacakfeaa.frozC, e], fun b e => by simp [Go.Proofs.Ytldnpgbacakfeaa.frozC, e]⟩
theorem frozC_row {o : Nat} {r : Root} {b : Nat} (hr : ∀ j, r ≠ .cell o j) (h : T b = .row r) : frozC T o b = .row r := by
  unfold frozC; rw [h]
  split
  · rename_i p j e
    cases e
    rw [if_neg (fun e => hr j (by rw [e]))]
  · rfl
theorem frozC_box {o p b : Nat} (h : T b = .box p) : frozC T o b = .box p := by simp [frozC, h]
theorem frozC_src {o j b : Nat} (h : T b = .row (.cell o j)) : frozC T o b = .ro := by simp [frozC, h]
theorem frozen_get {cs : List BV} {j : Nat} {bv : BV} (h : (cs.map BV.frozen)[j]? = some bv) : ∃ x, cs[j]? = some x ∧ bv = .pv x.val := by
  rw [List.getElem?_map] at h
  cases e : cs[j]? with
  | none => rw [e] at h; cases h
  | some x => rw [e] at h; cases h; exact ⟨x, rfl, by cases x <;> rfl⟩
theorem Sim.freezeRows (h : Sim L σ T st a w) (p : Nat) : ∃ T', Sim L σ T' (st.freezeRows p) a w ∧ Still T T' ∧ (∀ b r, (∀ j, r ≠ .cell p j) → T b = .row r → T' b = .row r) ∧ ((st.boxes[p]?).isSome = true → ∀ b j, T b = .row (.cell p j) → T' b = .ro) := by
  unfold St.freezeRows
  cases hp : st.boxes[p]? with
  | none => exact ⟨T, h, Still.refl T, fun _ _ _ e => e, fun e => by cases e⟩
  | some bx0 =>
    refine ⟨frozC T p, ?_, Still.frozC T p, fun b r hr e => frozC_row hr e, fun _ b j e => frozC_src e⟩
    have hpl : p < st.boxes.length := (List.getElem?_eq_some_iff.1 hp).1
    have hw : ∀ b, T b = .ro → b < w.heap.size → frozC T p b = .ro ∧ w.heap[b]? = w.heap[b]? := fun b e _ => ⟨(Still.frozC T p).ro b e, rfl⟩
    refine ⟨h.size, fun t x u hx hu => ?_, fun o bx ho => ?_, fun b hb => (Still.frozC T p).other b (h.fresh b hb)⟩
    · refine (h.slots t x u hx hu).keep hw (fun s l e b hb _ => ⟨frozC_row (by simp) hb, rfl⟩) (fun l e i _ b hb _ => ⟨frozC_row (by simp) hb, rfl⟩) (fun r' hr' _ s l e => ?_) (by simp) (fun _ _ => rfl)
      refine ⟨?_, rfl⟩
      cases r' with
      | slot t' => exact ⟨l, e⟩
      | part t' i => exact ⟨l, e⟩
      | cell o j =>
        simp only [St.row, List.getElem?_set] at e ⊢
        by_cases hop : p = o
        · subst hop
          simp only [if_true, if_pos hpl] at e
          split at e
          · cases e
          · split at e
            · rename_i hh
              obtain ⟨x, _, hx⟩ := frozen_get hh
              cases hx
            · cases e
        · simp only [if_neg hop] at e; exact ⟨l, e⟩
    · rw [List.getElem?_set] at ho
      by_cases hop : p = o
      · subst hop
        simp only [if_true, if_pos hpl, Option.some.injEq] at ho
        subst ho
        obtain ⟨arr, E, h1, h2, h3, h4, h5⟩ := h.boxes p bx0 hp
        have k3 : frozC T p (σ p) = (if bx0.fz then .ro else .box p) := by
          rw [show frozC T p (σ p) = T (σ p) from ?_, h3]
          rw [h3]; split
          · rename_i hf; exact (Still.frozC T p).ro _ (by rw [h3, if_pos hf])
          · rename_i hf; exact frozC_box (by rw [h3, if_neg hf])
        refine ⟨arr, E, h1, by simpa using h2, k3, ?_, ?_⟩
        · intro _ j sz es e
          obtain ⟨x, _, hx⟩ := frozen_get e
          cases hx
        · intro j bv u hj hu
          obtain ⟨x, hx, rfl⟩ := frozen_get hj
          obtain ⟨g1, g2⟩ := h5 j x u hx hu
          exact ⟨g1, g2.prep (fun b e => frozC_src e) (fun b e => (Still.frozC T p).ro b e)⟩
      · rw [if_neg hop] at ho
        have hb := h.boxes o bx ho
        have hT : frozC T p (σ o) = T (σ o) := by
          obtain ⟨_, _, _, _, h3, _⟩ := hb
          rw [h3]; split
          · rename_i hf; exact (Still.frozC T p).ro _ (by rw [h3, if_pos hf])
          · rename_i hf; exact frozC_box (by rw [h3, if_neg hf])
        exact hb.frame ⟨hT, rfl⟩ (fun j b e _ => ⟨frozC_row (by intro q e; cases e; exact hop rfl) e, rfl⟩) hw

theorem run_load {ρ : Operand → Value} {T0 : TypeId} {ad : Addr} {u : Value} (ho : o.op = .load T0 y) (hy : ρ y = .pointer (some ad)) {w' : World} (hl : (loadVar T0 ad).run P w' = .ok u w') : (execOp ρ o).run P w' = .ok (.value u) w' := by
  simp [execOp, ho, hy, Instr.loadAt, Instr.sureAddr, hl]
theorem Sees.blk {w' : World} (hs : Sees T w w') {b : Nat} (hb : T b ≠ .other) (hl : b < w.heap.size) : w'.heap[b]? = w.heap[b]? := hs.2 b hb hl

theorem PRep.iptr_inv {ok : Nat → Prop} {cs : List PV} {j : Nat} {u : Value} (h : PRep ok w (.iptr cs j) u) : ∃ b off, u = .pointer (some ⟨b, off + j, none⟩) ∧ ok b ∧ Cellish w b ∧ Mem ok w b off cs := by
  cases h with
  | iptr cs j b off cv h1 h2 h3 h4 => exact ⟨b, off, rfl, h1, h2, fun k x hk => ⟨cv k, (h3 k x hk).1, (h3 k x hk).2, h4 k x hk⟩⟩
theorem PRep.iptr_mk {ok : Nat → Prop} {cs : List PV} {b off : Nat} (j : Nat) (h1 : ok b) (h2 : Cellish w b) (hm : Mem ok w b off cs) : PRep ok w (.iptr cs j) (.pointer (some ⟨b, off + j, none⟩)) :=
  .iptr cs j b off (fun k => (w.cell? ⟨b, off + k, none⟩).getD undef) h1 h2 (fun k x hk => by obtain ⟨u, g1, g2, g3⟩ := hm k x hk; rw [g1]; exact ⟨rfl, g2⟩) (fun k x hk => by obtain ⟨u, g1, g2, g3⟩ := hm k x hk; rw [g1]; exact g3)
theorem Mem.mono {ok ok' : Nat → Prop} {b off : Nat} {cs : List PV} (h : Mem ok w b off cs) (hk : ∀ b, ok b → ok' b) : Mem ok' w b off cs := fun k x hk' => by
  obtain ⟨u, g1, g2, g3⟩ := h k x hk'
  exact ⟨u, g1, g2, g3.frame fun b hb _ => ⟨hk b hb, rfl⟩⟩

theorem looks_load {T0 : TypeId} {n : Option Nat} (h : Sim L σ T st a w) (hd : o.dst = some d) (ho : o.op = .load T0 y) (hm : mOpd y x = true) (hc : cellN P T0 = some n) (hp : plain (.load d n x) st = some st') : Looks P L σ T st' a w o := by
  simp only [plain] at hp
  split at hp
  case h_1 cs j e =>
    obtain ⟨v, h1, hp⟩ := bind_some hp
    have hp := Option.some.inj hp
    subst hp
    have r := h.pv hm (show st.pvOf x = some (.iptr cs j) by simp [St.pvOf, e])
    obtain ⟨b, off, e1, h2, h3, h4⟩ := r.iptr_inv
    obtain ⟨u, h5, h6, _⟩ := part_mem (P := P) h4 hc h1
    exact looks_pv h hd (fun w' hw' => run_load ho e1 (h5 w' (hw'.blk (by rw [h2]; simp) h3.lt))) h6
  case h_2 r i j e =>
    obtain ⟨⟨sz, es⟩, h1, hp⟩ := bind_some hp
    obtain ⟨el, h2, hp⟩ := bind_some hp
    obtain ⟨v, h3, hp⟩ := bind_some hp
    have hp := Option.some.inj hp
    subst hp
    rcases h.get hm with ⟨t, rfl, (⟨_, g⟩ | g)⟩ | ⟨v', rfl, g⟩ | ⟨s, rfl, g⟩
    · rw [e] at g
      obtain ⟨b, e1, h4, h5, h6⟩ := h.ptrMem h1 h2 (g.2 sz es h1)
      obtain ⟨u, h7, h8, _⟩ := part_mem (P := P) h6 hc h3
      exact looks_pv h hd (fun w' hw' => run_load ho e1 (h7 w' (hw'.blk (by rw [h4]; simp) h5.lt))) h8
    · rw [g] at e; cases e
    · cases e
    · cases e
  case h_3 p j e =>
    obtain ⟨bx, h1, hp⟩ := bind_some hp
    have hgp : a.eval y = .pointer (some ⟨σ p, j, none⟩) := by
      rcases h.get hm with ⟨t, rfl, (⟨_, g⟩ | g)⟩ | ⟨v', rfl, g⟩ | ⟨s, rfl, g⟩
      · rw [e] at g; exact g.2
      · rw [g] at e; cases e
      · cases e
      · cases e
    have hbox := h.boxes p bx h1
    have hlt := hbox.lt
    have htag : T (σ p) ≠ .other := by
      obtain ⟨_, _, _, _, h3, _⟩ := hbox
      rw [h3]; split <;> simp
    cases n with
    | none =>
      simp only at hp
      obtain ⟨arr, E, g1, g2, g3, g4, g5⟩ := hbox
      split at hp
      · rename_i v hv
        have hp := Option.some.inj hp
        subst hp
        have hj : j < arr.size := by rw [g2]; exact (List.getElem?_eq_some_iff.1 hv).1
        obtain ⟨k1, k2⟩ := g5 j _ arr[j] hv (Array.getElem?_eq_getElem hj)
        refine looks_pv h hd (u := arr[j]) (fun w' hw' => run_load ho hgp ?_) k2
        have hb := hw'.blk htag hlt
        unfold loadVar
        simp only [Sem.run_bind, run_isAgg_no hc, Result.andThen_ok, Bool.false_eq_true, if_false]
        unfold load
        simp only [Sem.run, World.cell?_of_block (w := w) (a := ⟨σ p, j, none⟩) hb, cell_of_row w _ _ arr E (0, 0) g1, Array.getElem?_eq_getElem hj]
      · rename_i sz es hv
        split at hp
        · cases hp
        · rename_i hfz
          have hp := Option.some.inj hp
          subst hp
          have hj : j < arr.size := by rw [g2]; exact (List.getElem?_eq_some_iff.1 hv).1
          obtain ⟨k1, k2⟩ := g5 j _ arr[j] hv (Array.getElem?_eq_getElem hj)
          have hce : w.cell? ⟨σ p, j, none⟩ = some arr[j] := by rw [cell_of_row w _ _ arr E (0, 0) g1, Array.getElem?_eq_getElem hj]
          refine ⟨arr[j], T, fun w' hw' => run_load ho hgp ?_, ?_, Still.refl _⟩
          · have hb := hw'.blk htag hlt
            unfold loadVar
            simp only [Sem.run_bind, run_isAgg_no hc, Result.andThen_ok, Bool.false_eq_true, if_false]
            unfold load
            simp only [Sem.run, World.cell?_of_block (w := w) (a := ⟨σ p, j, none⟩) hb, hce]
          · rw [hd]
            refine h.put (fun _ _ e => by cases e) ⟨(List.getElem?_eq_some_iff.1 h1).1, ?_⟩
            intro s l hl
            have hl2 : st.row (.cell p j) = some (s, l) := hl
            have hs : st.row (.cell p j) = some (sz, es) := by simp [St.row, h1, hfz, hv]
            rw [hs] at hl2; cases hl2
            obtain ⟨xa, c, e2, _, _, _⟩ := RowRep.slice k2
            exact ⟨xa, es.length, c, xa, by show w.cell? _ = _; rw [hce, e2], by rw [e2]; simp, fun _ => rfl, fun _ => by cases xa <;> simp [Addr.add], fun b o e => ⟨o, e⟩⟩
      · cases hp
    | some n =>
      obtain ⟨v, h2, hp⟩ := bind_some hp
      have hp := Option.some.inj hp
      subst hp
      obtain ⟨T1, k1, k2, k3, k4⟩ := h.freezeRows p
      have hmem := hbox.mem (T' := T1) (fun j b e => k4 (by rw [h1]; rfl) b j e) k2.ro
      obtain ⟨u, h7, h8, _⟩ := part_mem (P := P) hmem hc h2
      rw [Nat.zero_add] at h7
      exact ⟨u, T1, fun w' hw' => run_load ho hgp (h7 w' (hw'.blk htag hlt)), by rw [hd]; exact k1.putPv h8, k2⟩
  case h_4 => cases hp
end
end Go.Proofs.Ytldnpgbacakfeaa

namespace Go.Proofs.Ytldnpgbacakfeaa
open Go.RowKit

section
variable {P : Program} {L : Nat} {σ : Nat → Nat} {T T' : Tags} {st st' st1 : St} {a : Act} {w : World} {o : Oper} {d n : Nat} {x x2 : Opd} {y y2 : Operand}

theorem Sim.at (h : Sim L σ T st a w) (hm : mOpd y x = true) {av : AV} (e : st.get x = av) (hne : ∀ v, av ≠ .pv v) (hnr : ∀ sz es, av ≠ .row sz es) (ha : av ≠ .any) : ∃ t, x = .t t ∧ st.slots[t]? = some av ∧ a.tmps[t]? = some (a.eval y) ∧ ARep L σ T st a w t av (a.eval y) := by
  rcases h.get hm with ⟨t, rfl, (⟨g1, g⟩ | g)⟩ | ⟨v', rfl, g⟩ | ⟨s, rfl, g⟩
  · rw [e] at g
    exact ⟨t, rfl, slots_get e ha, g1, g⟩
  · rw [g] at e; exact absurd e.symm ha
  · exact absurd e.symm (hne _)
  · exact absurd e.symm (hnr _ _)
theorem Sim.pbox (h : Sim L σ T st a w) (hm : mOpd y x = true) {p j : Nat} (e : st.get x = .pbox p j) : p < st.boxes.length ∧ a.eval y = .pointer (some ⟨σ p, j, none⟩) := by
  obtain ⟨t, _, _, _, g⟩ := h.at hm e (by simp) (by simp) (by simp)
  exact g
theorem Sim.pelR (h : Sim L σ T st a w) (hm : mOpd y x = true) {r : Root} {i j : Nat} (e : st.get x = .pel r i j) : ∀ sz es, st.row r = some (sz, es) → PelRep (hdr σ a w r) i j sz (a.eval y) := by
  obtain ⟨t, _, _, _, g⟩ := h.at hm e (by simp) (by simp) (by simp)
  exact g.2
theorem Sim.pelLow (h : Sim L σ T st a w) (hm : mOpd y x = true) {r : Root} {i j : Nat} (e : st.get x = .pel r i j) : r.low st.boxes.length := by
  obtain ⟨t, _, _, _, g⟩ := h.at hm e (by simp) (by simp) (by simp)
  exact g.1
theorem Sim.refLow (h : Sim L σ T st a w) (hm : mOpd y x = true) {r : Root} {i j : Nat} (e : st.get x = .ref r i j) : r.low st.boxes.length := by
  obtain ⟨t, _, _, _, g⟩ := h.at hm e (by simp) (by simp) (by simp)
  exact g.1
theorem Sim.refR (h : Sim L σ T st a w) (hm : mOpd y x = true) {r : Root} {i j : Nat} (e : st.get x = .ref r i j) : ∀ sz es, st.row r = some (sz, es) → RefRep (hdr σ a w r) i j sz (a.eval y) := by
  obtain ⟨t, _, _, _, g⟩ := h.at hm e (by simp) (by simp) (by simp)
  exact g.2
theorem Sim.rowR (h : Sim L σ T st a w) (hm : mOpd y (.t n) = true) {sz : Nat} {es : List PV} (e : st.get (.t n) = .row sz es) : st.slots[n]? = some (.row sz es) ∧ a.tmps[n]? = some (a.eval y) ∧ RowRep T w (.slot n) sz es (a.eval y) := by
  rcases h.get hm with ⟨t, e1, (⟨g1, g⟩ | g)⟩ | ⟨v', e1, g⟩ | ⟨s, e1, g⟩
  · cases e1
    rw [e] at g
    exact ⟨slots_get e (by simp), g1, g⟩
  · cases e1
    rw [g] at e; cases e
  · cases e1
  · cases e1

theorem ARep.putRoot {av : AV} {v : Value} {r : Root} (hr : av.root? = some r) (h : ARep L σ T st a w d av v) (hnr : ∀ sz es, av ≠ .row sz es) : ARep L σ T (st.put d av) (a.put (some d) v) w d av v := by
  refine h.keep (fun b e _ => ⟨e, rfl⟩) (fun _ _ e => absurd e (hnr _ _)) (fun _ e => by rw [e] at hr; cases hr) (fun q hq _ sz es e => ?_) (Nat.le_refl _) (fun _ _ => rfl)
  by_cases hrd : q = .slot d
  · subst hrd; rw [row_put_nil hnr] at e; cases e
  · rw [row_put_ne hrd] at e; exact ⟨⟨es, e⟩, hdr_put_ne hrd⟩
theorem looks_root (h : Sim L σ T st a w) (hd : o.dst = some d) {av : AV} {v : Value} {r : Root} (hr : av.root? = some r) (hrun : ∀ w', Sees T w w' → (execOp a.eval o).run P w' = .ok (.value v) w') (hav : ARep L σ T st a w d av v) (hnr : ∀ sz es, av ≠ .row sz es) : Looks P L σ T (st.put d av) a w o :=
  ⟨v, T, hrun, by rw [hd]; exact h.put hnr (hav.putRoot hr hnr), Still.refl _⟩
theorem looks_pbox (h : Sim L σ T st a w) (hd : o.dst = some d) {p j : Nat} {v : Value} (hp : p < st.boxes.length) (hv : v = .pointer (some ⟨σ p, j, none⟩)) (hrun : ∀ w', Sees T w w' → (execOp a.eval o).run P w' = .ok (.value v) w') : Looks P L σ T (st.put d (.pbox p j)) a w o :=
  ⟨v, T, hrun, by rw [hd]; exact h.put (by simp) ⟨hp, hv⟩, Still.refl _⟩

theorem run_fieldAt {S f : Nat} {fd : Field} {k : Nat} (hf : fieldOf P S f = some fd) (hk : szOf P fd.type = some (k + 1)) (b off : Nat) (w : World) : (Instr.fieldAt S (.pointer (some ⟨b, off, none⟩)) f).run P w = .ok (.pointer (some ⟨b, off + fd.offset, none⟩)) w := by
  obtain ⟨fs, h1, h2⟩ := fieldOf_eq hf
  simp [Instr.fieldAt, run_underlying h1, h2, Instr.sureAddr, fieldPlace, run_szOf hk, Addr.add_lit]
theorem looks_fadr {S f k : Nat} {fd : Field} (h : Sim L σ T st a w) (hd : o.dst = some d) (ho : o.op = .fieldAddr S y f) (hm : mOpd y x = true) (hf : fieldOf P S f = some fd) (hk : szOf P fd.type = some (k + 1)) (hp : plain (.fadr d x fd.offset) st = some st') : Looks P L σ T st' a w o := by
  have hrun : ∀ b off, a.eval y = .pointer (some ⟨b, off, none⟩) → ∀ w', Sees T w w' → (execOp a.eval o).run P w' = .ok (.value (.pointer (some ⟨b, off + fd.offset, none⟩))) w' := fun b off e w' _ => by
    simp [execOp, ho, e, run_fieldAt hf hk]
  simp only [plain] at hp
  split at hp
  case h_1 cs j e =>
    have hp := Option.some.inj hp
    subst hp
    have r := h.pv hm (show st.pvOf x = some (.iptr cs j) by simp [St.pvOf, e])
    obtain ⟨b, off, e1, h2, h3, h4⟩ := r.iptr_inv
    exact looks_pv h hd (hrun b _ e1) (by rw [Nat.add_assoc]; exact PRep.iptr_mk _ h2 h3 h4)
  case h_2 r i j e =>
    have g := h.pelR hm e
    split at hp
    · rename_i p hr
      have hp := Option.some.inj hp
      subst hp
      obtain ⟨sz, es⟩ := p
      obtain ⟨b, n, c, h2, h3⟩ := g sz es hr
      refine looks_root h hd (r := r) rfl (hrun b _ h3) ⟨h.pelLow hm (by assumption), fun s l e => ?_⟩ (by simp)
      rw [hr] at e; cases e
      exact ⟨b, n, c, h2, by rw [Nat.add_assoc]⟩
    · cases hp
  case h_3 p j e =>
    have hp := Option.some.inj hp
    subst hp
    obtain ⟨g1, g2⟩ := h.pbox hm e
    exact looks_pbox h hd g1 rfl (hrun _ _ g2)
  case h_4 => cases hp

theorem index_eq {i : PV} {len k : Nat} (h : index i len = some k) : ∃ q, i = .int q (k : Int) ∧ k < len := by
  unfold index at h
  split at h
  · split at h
    · rename_i q n hn
      have h := Option.some.inj h
      subst h
      exact ⟨q, by rw [Int.toNat_of_nonneg hn.1], by omega⟩
    · cases h
  · cases h
theorem run_indexAt_arr {T0 e len sz k : Nat} {q : IntKind} (ht : arrE P T0 = some (len, e)) (hs : szOf P e = some sz) (hk : k < len) (b off : Nat) (w : World) :
    (Instr.indexAt T0 (.pointer (some ⟨b, off, none⟩)) (.int q (k : Int))).run P w = .ok (.pointer (some ⟨b, off + k * sz, none⟩)) w := by
  simp [Instr.indexAt, asIntOf, run_underlying (arrE_eq ht), Instr.sureAddr, hk, run_szOf hs, Addr.add_lit]
theorem run_indexAt_sl {T0 e sz k n c : Nat} {q : IntKind} (ht : sliceE P T0 = some e) (hs : szOf P e = some sz) (hk : k < n) (b off : Nat) (w : World) :
    (Instr.indexAt T0 (.slice (some ⟨b, off, none⟩) n c) (.int q (k : Int))).run P w = .ok (.pointer (some ⟨b, off + k * sz, none⟩)) w := by
  simp [Instr.indexAt, asIntOf, run_underlying (sliceE_eq ht), hk, run_szOf hs, Addr.add_lit]

theorem looks_aadr {T0 e len sz : Nat} (h : Sim L σ T st a w) (hd : o.dst = some d) (ho : o.op = .indexAddr T0 y y2) (hm : mOpd y x = true) (hm2 : mOpd y2 x2 = true) (ht : arrE P T0 = some (len, e)) (hs : szOf P e = some sz) (hp : plain (.aadr d x x2 len sz) st = some st') : Looks P L σ T st' a w o := by
  simp only [plain] at hp
  obtain ⟨iv, h1, hp1⟩ := bind_some hp
  clear hp
  obtain ⟨k, h2, hp⟩ := bind_some hp1
  clear hp1
  obtain ⟨q, rfl, hk⟩ := index_eq h2
  have hi := (h.pv hm2 h1).int_inv
  have hrun : ∀ b off, a.eval y = .pointer (some ⟨b, off, none⟩) → ∀ w', Sees T w w' → (execOp a.eval o).run P w' = .ok (.value (.pointer (some ⟨b, off + k * sz, none⟩))) w' := fun b off e w' _ => by
    simp [execOp, ho, e, hi, run_indexAt_arr ht hs hk]
  split at hp
  case h_1 cs j e =>
    have hp := Option.some.inj hp
    subst hp
    have r := h.pv hm (show st.pvOf x = some (.iptr cs j) by simp [St.pvOf, e])
    obtain ⟨b, off, e1, h2, h3, h4⟩ := r.iptr_inv
    exact looks_pv h hd (hrun b _ e1) (by rw [Nat.add_assoc]; exact PRep.iptr_mk _ h2 h3 h4)
  case h_2 r i j e =>
    have g := h.pelR hm e
    split at hp
    · rename_i p hr
      have hp := Option.some.inj hp
      subst hp
      obtain ⟨sz, es⟩ := p
      obtain ⟨b, n, c, h2, h3⟩ := g sz es hr
      refine looks_root h hd (r := r) rfl (hrun b _ h3) ⟨h.pelLow hm (by assumption), fun s l e => ?_⟩ (by simp)
      rw [hr] at e; cases e
      exact ⟨b, n, c, h2, by rw [Nat.add_assoc]⟩
    · cases hp
  case h_3 p j e =>
    have hp := Option.some.inj hp
    subst hp
    obtain ⟨g1, g2⟩ := h.pbox hm e
    exact looks_pbox h hd g1 rfl (hrun _ _ g2)
  case h_4 => cases hp

theorem PRep.list_inv {ok : Nat → Prop} {sz : Nat} {es : List PV} {u : Value} (h : PRep ok w (.list sz es) u) : ∃ x c, u = .slice x es.length c ∧ es.length ≤ c ∧ c ≤ maxLen ∧ (0 < es.length → ∃ b off, x = some ⟨b, off, none⟩ ∧ ok b ∧ Cellish w b ∧ (∀ e ∈ es, e.cells.length = sz) ∧ ∀ i e, es[i]? = some e → Mem ok w b (off + i * sz) e.cells) := by
  cases h with
  | nil sz x => exact ⟨x, 0, rfl, Nat.le_refl _, Nat.zero_le _, fun h => by simp at h⟩
  | list sz es b off c cv h1 h2 h3 h4 h6 h7 h8 => exact ⟨_, c, rfl, h3, h4, fun _ => ⟨b, off, rfl, h1, h2, h6, fun i e hi k x hk => ⟨cv i k, (h7 i e k x hi hk).1, (h7 i e k x hi hk).2, h8 i e k x hi hk⟩⟩⟩
theorem PRep.list_mk {ok : Nat → Prop} {sz : Nat} {es : List PV} {x : Option Addr} {c : Nat} (h1 : es.length ≤ c) (h2 : c ≤ maxLen) (h0 : es = [] → c = 0 ∨ ∃ b off, x = some ⟨b, off, none⟩ ∧ ok b ∧ Cellish w b)
    (h : 0 < es.length → ∃ b off, x = some ⟨b, off, none⟩ ∧ ok b ∧ Cellish w b ∧ (∀ e ∈ es, e.cells.length = sz) ∧ ∀ i e, es[i]? = some e → Mem ok w b (off + i * sz) e.cells) : PRep ok w (.list sz es) (.slice x es.length c) := by
  cases es with
  | nil =>
    rcases h0 rfl with rfl | ⟨b, off, rfl, g1, g2⟩
    · exact .nil sz x
    · exact .list sz [] b off c (fun _ _ => undef) g1 g2 h1 h2 (fun e he => by cases he) (fun i e j x hi => by simp at hi) (fun i e j x hi => by simp at hi)
  | cons e0 es =>
    obtain ⟨b, off, rfl, g1, g2, g3, g4⟩ := h (by simp)
    refine .list sz _ b off c (fun i j => (w.cell? ⟨b, off + i * sz + j, none⟩).getD undef) g1 g2 h1 h2 g3 (fun i e j x hi hj => ?_) (fun i e j x hi hj => ?_)
    · obtain ⟨u, k1, k2, k3⟩ := g4 i e hi j x hj
      rw [k1]; exact ⟨rfl, k2⟩
    · obtain ⟨u, k1, k2, k3⟩ := g4 i e hi j x hj
      rw [k1]; exact k3

theorem PRep.list_room {ok : Nat → Prop} {sz : Nat} {es : List PV} {x : Option Addr} {m c : Nat} {u : Value} (h : PRep ok w (.list sz es) u) (e : u = .slice x m c) : c = 0 ∨ ∃ b off, x = some ⟨b, off, none⟩ ∧ ok b ∧ Cellish w b := by
  cases h with
  | nil sz x => cases e; exact .inl rfl
  | list sz es b off c cv h1 h2 h3 h4 h6 h7 h8 => cases e; exact .inr ⟨b, off, rfl, h1, h2⟩

theorem looks_iadr {T0 e sz : Nat} (h : Sim L σ T st a w) (hd : o.dst = some d) (ho : o.op = .indexAddr T0 y y2) (hm : mOpd y x = true) (hm2 : mOpd y2 x2 = true) (ht : sliceE P T0 = some e) (hs : szOf P e = some sz) (hp : plain (.iadr d sz x x2) st = some st') : Looks P L σ T st' a w o := by
  simp only [plain] at hp
  obtain ⟨iv, h1, hp1⟩ := bind_some hp
  clear hp
  have hp := hp1
  clear hp1
  have hi := h.pv hm2 h1
  have hrun : ∀ (b off n c k : Nat) (q : IntKind), iv = .int q (k : Int) → k < n → a.eval y = .slice (some ⟨b, off, none⟩) n c → ∀ w', Sees T w w' → (execOp a.eval o).run P w' = .ok (.value (.pointer (some ⟨b, off + k * sz, none⟩))) w' := fun b off n c k q e1 hk e w' _ => by
    rw [e1] at hi
    simp [execOp, ho, e, hi.int_inv, run_indexAt_sl ht hs hk]
  split at hp
  case h_1 s es e =>
    obtain ⟨k, h2, hp⟩ := bind_some hp
    obtain ⟨el, h3, hp⟩ := bind_some hp
    split at hp
    case isFalse => cases hp
    rename_i hsz
    have hp := Option.some.inj hp
    subst hp
    subst hsz
    obtain ⟨q, e2, hk⟩ := index_eq h2
    have r := h.pv hm (show st.pvOf x = some (.list s es) by simp [St.pvOf, e])
    obtain ⟨xa, c, e1, _, _, h4⟩ := r.list_inv
    obtain ⟨b, off, rfl, g1, g2, g3, g4⟩ := h4 (by omega)
    exact looks_pv h hd (hrun b off _ c k q e2 hk e1) (PRep.iptr_mk (off := off + k * s) 0 g1 g2 (g4 k el h3))
  case h_2 r off len e =>
    obtain ⟨⟨s, es⟩, h2, hp⟩ := bind_some hp
    simp only at hp
    split at hp
    case isFalse => cases hp
    rename_i hc
    obtain ⟨k, h3, hp⟩ := bind_some hp
    have hp := Option.some.inj hp
    subst hp
    obtain ⟨h4, rfl⟩ := hc
    obtain ⟨q, e2, hk⟩ := index_eq h3
    obtain ⟨xa, n, c, x', g1, g2, g3, g4, _⟩ := h.refR hm e s es h2
    obtain ⟨u, g5, g6⟩ := h.rowHdr h2
    rw [g5] at g1; cases g1
    obtain ⟨xb, c', e3, g7, g8, g9⟩ := g6.slice
    cases e3
    obtain ⟨b, rfl, g10, g11, g12, g13⟩ := g9 (by omega)
    have e4 := g4 (by omega)
    simp only [Option.map_some, Addr.add_lit, Nat.zero_add] at e4
    subst e4
    refine looks_root h hd (r := r) rfl (hrun b (off * s) len (c - off) k q e2 hk g2) ⟨h.refLow hm (by assumption), fun s' l e => ?_⟩ (by simp)
    rw [h2] at e; cases e
    exact ⟨b, _, c, g5, by rw [Nat.add_mul, Nat.add_zero]⟩
  case h_3 s es e =>
    split at hp
    case h_2 => cases hp
    rename_i n
    obtain ⟨k, h3, hp⟩ := bind_some hp
    split at hp
    case isFalse => cases hp
    rename_i hsz
    have hp := Option.some.inj hp
    subst hp
    subst hsz
    obtain ⟨q, e2, hk⟩ := index_eq h3
    obtain ⟨g1, g2, g3⟩ := h.rowR hm e
    obtain ⟨xb, c', e3, g7, g8, g9⟩ := g3.slice
    obtain ⟨b, rfl, g10, g11, g12, g13⟩ := g9 (by omega)
    refine looks_root h hd (r := .slot n) rfl (hrun b 0 _ c' k q e2 hk e3) ⟨trivial, fun s' l e => ?_⟩ (by simp)
    have := slot_of_row e
    rw [g1] at this; cases this
    exact ⟨b, _, c', by rw [← e3]; exact g2, by rw [Nat.add_zero, Nat.zero_add]⟩
  case h_4 => cases hp

end
end Go.Proofs.Ytldnpgbacakfeaa

namespace Go.Proofs.Ytldnpgbacakfeaa
open Go.RowKit

structure Cells (ok : Nat → Prop) (w : World) (cs : List PV) (arr : Array Value) : Prop where
  size : arr.size = cs.length
  one : ∀ (j : Nat) (v : Value), arr[j]? = some v → v.oneCell' = true
  rep : ∀ (j : Nat) (x : PV) (v : Value), cs[j]? = some x → arr[j]? = some v → PRep ok w x v

section
variable {P : Program} {L : Nat} {σ : Nat → Nat} {T T' : Tags} {st st' st1 : St} {a : Act} {w : World} {o : Oper} {d n : Nat} {x x2 : Opd} {y y2 : Operand} {ok : Nat → Prop}

theorem PRep.one {v : PV} {u : Value} (h : PRep ok w v u) (hv : ∀ cs, v ≠ .agg cs) : u.oneCell' = true ∧ u.cells = #[u] ∧ v.cells = [v] := by
  cases h <;> first | exact ⟨rfl, rfl, rfl⟩ | exact absurd rfl (hv _) | skip
  rename_i hu
  cases u <;> first | exact ⟨rfl, rfl, rfl⟩ | (simp [Value.oneCell'] at hu)
theorem PRep.cells {v : PV} {u : Value} (h : PRep ok w v u) : Cells ok w v.cells u.cells := by
  by_cases hv : ∃ cs, v = .agg cs
  · obtain ⟨cs, rfl⟩ := hv
    obtain ⟨arr, rfl, h1, h2, h3⟩ := h.agg_inv
    exact ⟨h1, h2, h3⟩
  · obtain ⟨h1, h2, h3⟩ := h.one (fun cs e => hv ⟨cs, e⟩)
    rw [h2, h3]
    refine ⟨rfl, fun j v hj => ?_, fun j x v hx hj => ?_⟩
    · cases j with
      | zero => simp at hj; subst hj; exact h1
      | succ j => simp at hj
    · cases j with
      | zero => simp at hj hx; subst hj; subst hx; exact h
      | succ j => simp at hj
theorem Cells.agg {cs : List PV} {arr : Array Value} (h : Cells ok w cs arr) : PRep ok w (.agg cs) (.agg arr) := .agg cs arr h.size h.one h.rep

theorem run_part {T0 : TypeId} {n : Option Nat} {cs : List PV} {arr : Array Value} {off : Nat} {v : PV} (h : Cells ok w cs arr) (hc : cellN P T0 = some n) (hp : part cs off n = some v) : ∃ u, (∀ w', (Go.part T0 arr off).run P w' = .ok u w') ∧ PRep ok w v u := by
  cases n with
  | none =>
    have hj : off < arr.size := by rw [h.size]; exact (List.getElem?_eq_some_iff.1 hp).1
    refine ⟨arr[off], fun w' => ?_, h.rep off v _ hp (Array.getElem?_eq_getElem hj)⟩
    unfold Go.part
    simp only [Sem.run_bind, run_isAgg_no hc, Result.andThen_ok, Bool.false_eq_true, if_false, Array.getElem?_eq_getElem hj, Sem.run_pure]
  | some n =>
    have hs := (run_isAgg_yes (w := w) hc).2
    simp only [part] at hp
    split at hp
    case isFalse => cases hp
    rename_i hl
    have hp := Option.some.inj hp
    subst hp
    have hsz := h.size
    refine ⟨.agg (arr.extract off (off + n)), fun w' => ?_, .agg _ _ ?_ (fun j v hv => ?_) (fun j x v hx hv => ?_)⟩
    · unfold Go.part
      simp only [Sem.run_bind, (run_isAgg_yes (w := w') hc).1, Result.andThen_ok, if_true, run_szOf hs, Sem.run_pure]
    · simp; omega
    · rw [Array.getElem?_extract] at hv
      split at hv
      · exact h.one _ _ hv
      · cases hv
    · rw [Array.getElem?_extract] at hv
      split at hv
      · rw [List.getElem?_take] at hx
        split at hx
        · rw [List.getElem?_drop] at hx; exact h.rep _ _ _ hx hv
        · cases hx
      · cases hv

theorem looks_fld {S f : Nat} {fd : Field} {n : Option Nat} (h : Sim L σ T st a w) (hd : o.dst = some d) (ho : o.op = .field S y f) (hm : mOpd y x = true) (hf : fieldOf P S f = some fd) (hc : cellN P fd.type = some n) (hp : plain (.fld d x fd.offset n) st = some st') : Looks P L σ T st' a w o := by
  simp only [plain] at hp
  obtain ⟨iv, h1, hp⟩ := bind_some hp
  cases iv <;> simp only [reduceCtorEq] at hp
  rename_i cs
  obtain ⟨v, h2, hp⟩ := bind_some hp
  have hp := Option.some.inj hp
  subst hp
  obtain ⟨arr, e1, g⟩ := (h.pv hm h1).agg_inv
  obtain ⟨u, h3, h4⟩ := run_part (P := P) ⟨g.1, g.2.1, g.2.2⟩ hc h2
  obtain ⟨fs, k1, k2⟩ := fieldOf_eq hf
  refine looks_pv h hd (fun w' _ => ?_) h4
  simp [execOp, ho, e1, Instr.field, run_underlying k1, k2, asAgg, h3]

theorem looks_idx {T0 e len sz : Nat} {n : Option Nat} (h : Sim L σ T st a w) (hd : o.dst = some d) (ho : o.op = .index T0 y y2) (hm : mOpd y x = true) (hm2 : mOpd y2 x2 = true) (ht : arrE P T0 = some (len, e)) (hs : szOf P e = some sz) (hc : cellN P e = some n) (hp : plain (.idx d x x2 len sz n) st = some st') : Looks P L σ T st' a w o := by
  simp only [plain] at hp
  obtain ⟨iv, h1, hp⟩ := bind_some hp
  cases iv <;> simp only [reduceCtorEq] at hp
  rename_i cs
  obtain ⟨jv, h5, hp⟩ := bind_some hp
  obtain ⟨k, h6, hp⟩ := bind_some hp
  obtain ⟨v, h2, hp⟩ := bind_some hp
  have hp := Option.some.inj hp
  subst hp
  obtain ⟨q, rfl, hk⟩ := index_eq h6
  obtain ⟨arr, e1, g⟩ := (h.pv hm h1).agg_inv
  obtain ⟨u, h3, h4⟩ := run_part (P := P) ⟨g.1, g.2.1, g.2.2⟩ hc h2
  have hi := (h.pv hm2 h5).int_inv
  refine looks_pv h hd (fun w' _ => ?_) h4
  simp [execOp, ho, e1, hi, Instr.index, asIntOf, run_underlying (arrE_eq ht), hk, run_szOf hs, h3]

theorem run_len {ρ : Operand → Value} {T0 : TypeId} {e : Nat} {xa : Option Addr} {m c : Nat} (ho : o.op = .call { callee := .builtin .len, args := #[y], argTypes := #[T0] }) (ht : sliceE P T0 = some e) (hy : ρ y = .slice xa m c) (w' : World) : (execOp ρ o).run P w' = .ok (.value (.int .i64 m)) w' := by
  simp [execOp, ho, resolve, invoke, builtin, hy, Builtin.len_, run_underlying (sliceE_eq ht), goInt]
theorem looks_len {T0 : TypeId} {e : Nat} (h : Sim L σ T st a w) (hd : o.dst = some d) (ho : o.op = .call { callee := .builtin .len, args := #[y], argTypes := #[T0] }) (hm : mOpd y x = true) (ht : sliceE P T0 = some e) (hp : plain (.len d x) st = some st') : Looks P L σ T st' a w o := by
  simp only [plain] at hp
  split at hp
  case h_1 sz es e =>
    have hp := Option.some.inj hp
    subst hp
    obtain ⟨xa, c, e1, _⟩ := (h.pv hm (show st.pvOf x = some (.list sz es) by simp [St.pvOf, e])).list_inv
    exact looks_pv h hd (fun w' _ => run_len ho ht e1 w') (.int _ _)
  case h_2 sz es e =>
    have hp := Option.some.inj hp
    subst hp
    cases x with
    | t t =>
      obtain ⟨g1, g2, g3⟩ := h.rowR hm e
      obtain ⟨xa, c, e1, _⟩ := g3.slice
      exact looks_pv h hd (fun w' _ => run_len ho ht e1 w') (.int _ _)
    | c v => simp [St.get] at e
    | nil s =>
      simp only [St.get, AV.row.injEq] at e
      obtain ⟨rfl, rfl⟩ := e
      have e1 : a.eval y = .slice none 0 0 := by
        rcases h.get hm with ⟨t, e1, _⟩ | ⟨v', e1, g⟩ | ⟨s, e1, g⟩
        · cases e1
        · cases e1
        · exact g
      exact looks_pv h hd (fun w' _ => run_len ho ht e1 w') (.int _ _)
  case h_3 r off len e =>
    split at hp
    · rename_i p hr
      have hp := Option.some.inj hp
      subst hp
      obtain ⟨xa, n, c, x', g1, g2, g3, g4⟩ := h.refR hm e p.1 p.2 hr
      exact looks_pv h hd (fun w' _ => run_len ho ht g2 w') (.int _ _)
    · cases hp
  case h_4 => cases hp
theorem looks_lens {T0 : TypeId} (h : Sim L σ T st a w) (hd : o.dst = some d) (ho : o.op = .call { callee := .builtin .len, args := #[y], argTypes := #[T0] }) (hm : mOpd y x = true) (ht : P.underlying T0 = some .string) (hp : plain (.lens d x) st = some st') : Looks P L σ T st' a w o := by
  simp only [plain] at hp
  split at hp
  case h_1 s e =>
    have hp := Option.some.inj hp
    subst hp
    have e1 := (h.pv hm (show st.pvOf x = some (.str s) by simp [St.pvOf, e])).str_inv
    refine looks_pv h hd (fun w' _ => ?_) (.int _ _)
    simp [execOp, ho, resolve, invoke, builtin, e1, Builtin.len_, run_underlying ht, goInt]
  case h_2 => cases hp

theorem PRep.some_slice {ok : Nat → Prop} {sz : Nat} {e : PV} {es : List PV} {u : Value} (h : PRep ok w (.list sz (e :: es)) u) : ∃ ad n c, u = .slice (some ad) n c ∧ n ≤ c := by
  obtain ⟨l, hl⟩ : ∃ l, l = e :: es := ⟨_, rfl⟩
  rw [← hl] at h
  cases h with
  | nil => cases hl
  | list _ _ b off c cv h1 h2 h3 h4 h6 h7 h8 => exact ⟨_, _, _, rfl, h3⟩
theorem looks_isn {b : BinOp} {T0 T1 : TypeId} {e : Nat} {neg : Bool} (h : Sim L σ T st a w) (hd : o.dst = some d) (ho : o.op = .binOp b T0 y (.const (.slice none 0 0)) T1) (hb : b = if neg then .neq else .eql) (hm : mOpd y x = true) (ht : sliceE P T0 = some e) (hp : plain (.isn d neg x) st = some st') : Looks P L σ T st' a w o := by
  simp only [plain] at hp
  split at hp
  case h_2 => cases hp
  rename_i sz p es hx
  have hp := Option.some.inj hp
  subst hp
  obtain ⟨ad, n, c, e1, _⟩ := (h.pv hm (show st.pvOf x = some (.list sz (p :: es)) by simp [St.pvOf, hx])).some_slice
  have hc : a.eval (.const (.slice none 0 0)) = .slice none 0 0 := rfl
  refine looks_pv h hd (fun w' _ => run_binop ho ?_ ?_) (.bool _)
  · rw [e1, hc]
    subst hb
    cases neg <;> simp [eqGuard]
  · rw [e1, hc]
    subst hb
    cases neg
    · exact Go.run_eql_slice_nil w' T0 e (some ad) n c (sliceE_eq ht)
    · exact Go.run_neq_slice_nil w' T0 e (some ad) n c (sliceE_eq ht)

theorem looks_ext {i : Nat} (h : Sim L σ T st a w) (hd : o.dst = some d) (ho : o.op = .extract y i) (hm : mOpd y x = true) (hp : plain (.ext d x i) st = some st') : Looks P L σ T st' a w o := by
  cases x with
  | c v => simp [plain] at hp
  | nil s => simp [plain] at hp
  | t n =>
    simp only [plain] at hp
    split at hp
    case h_2 => cases hp
    rename_i l e
    have e0 : st.get (.t n) = .tup l := e
    obtain ⟨t, e1, h1, h2, arr, h3, h4, h5⟩ := h.at hm e0 (by simp) (by simp) (by simp)
    cases e1
    have hx : ∀ av, l[i]? = some av → ∃ u, arr[i]? = some u ∧ PartRep T w n i av u ∧ ∀ w', (execOp a.eval o).run P w' = .ok (.value u) w' := fun av hav => by
      have hi : i < arr.size := by rw [h4]; exact (List.getElem?_eq_some_iff.1 hav).1
      refine ⟨arr[i], Array.getElem?_eq_getElem hi, h5 i av _ hav (Array.getElem?_eq_getElem hi), fun w' => ?_⟩
      simp [execOp, ho, h3, Instr.extract, hi]
    split at hp
    case h_1 v hv =>
      have hp := Option.some.inj hp
      subst hp
      obtain ⟨u, _, g2, g3⟩ := hx _ hv
      exact looks_pv h hd (fun w' _ => g3 w') g2
    case h_2 sz es hv =>
      have hp := Option.some.inj hp
      subst hp
      obtain ⟨u, g1, g2, g3⟩ := hx _ hv
      -- the part leaves the tuple
      have hS : Sim L σ T (st.put n (.tup (l.set i .any))) a w := h.turn (by simp) (fun v hv => by
        rw [h2] at hv; cases hv
        refine ⟨arr, h3, by simpa using h4, fun k x u hk hu => ?_⟩
        rw [List.getElem?_set] at hk
        split at hk
        · split at hk
          · cases hk; trivial
          · cases hk
        · exact h5 k x u hk hu)
      refine ⟨u, moved T (.part n i) (.slot d), fun w' _ => g3 w', ?_, Still.moved _ _ _⟩
      rw [hd]
      refine hS.putRow (RowRep.frame (fun b e _ => ⟨moved_src e, rfl⟩) (fun b e _ => ⟨moved_ro e, rfl⟩) g2) (fun b e => moved_ro e) (fun b o e => moved_box e) (fun b hb => moved_other (h.fresh b hb)) (fun t s l ht hs b e => moved_row (by simp) (by simpa using ht) e) (fun t j l' ht hs hj b e => ?_) (fun o j b e => moved_row (by simp) (by simp) e)
      by_cases hti : t = n ∧ j = i
      · obtain ⟨rfl, rfl⟩ := hti
        obtain ⟨s, es', hj⟩ := hj
        have hs' : (st.put t (.tup (l.set j .any))).slots[t]? = some (.tup (l.set j .any)) := by
          simp only [St.put, List.getElem?_set, if_true]
          rw [if_pos (List.getElem?_eq_some_iff.1 (slots_get e0 (by simp))).1]
        rw [hs'] at hs
        cases hs
        rw [List.getElem?_set, if_pos rfl] at hj
        split at hj <;> cases hj
      · exact moved_row (by intro e; cases e; exact hti ⟨rfl, rfl⟩) (by simp) e
    case h_3 => cases hp
end
end Go.Proofs.Ytldnpgbacakfeaa

namespace Go.Proofs.Ytldnpgbacakfeaa
open Go.RowKit

section
variable {P : Program} {L : Nat} {σ : Nat → Nat} {T T' : Tags} {st st' st1 : St} {a : Act} {w : World} {o : Oper} {d n : Nat} {x x2 : Opd} {y y2 : Operand} {ok : Nat → Prop}

theorem bound_eq {v : Option PV} {dflt lim k : Nat} (h : bound v dflt lim = some k) : (v = none ∧ k = dflt) ∨ ∃ q, v = some (.int q (k : Int)) ∧ k ≤ lim := by
  unfold bound at h
  split at h
  · exact .inl ⟨rfl, (Option.some.inj h).symm⟩
  · split at h
    · rename_i q n hn
      have h := Option.some.inj h
      subst h
      exact .inr ⟨q, by rw [Int.toNat_of_nonneg hn.1], by omega⟩
    · cases h
  · cases h
def mOpt : Option Operand → Option Opd → Bool
  | none, none => true
  | some y, some x => mOpd y x
  | _, _ => false
theorem Sim.optPv (h : Sim L σ T st a w) {y : Option Operand} {x : Option Opd} (hm : mOpt y x = true) {v : Option PV} (hv : st.optPv x = some v) : (y = none ∧ v = none) ∨ ∃ y0 x0 v0, y = some y0 ∧ v = some v0 ∧ x = some x0 ∧ PRep (fun b => T b = .ro) w v0 (a.eval y0) := by
  cases y <;> cases x <;> simp only [mOpt, reduceCtorEq] at hm
  · simp only [St.optPv, Option.some.injEq] at hv; exact .inl ⟨rfl, hv.symm⟩
  · rename_i y0 x0
    simp only [St.optPv] at hv
    obtain ⟨v0, h1, rfl⟩ := Option.map_eq_some_iff.1 hv
    exact .inr ⟨y0, x0, v0, rfl, rfl, rfl, h.pv hm h1⟩
theorem run_sliceBound {q : IntKind} {k lim : Nat} (code : BoundsCode) (h : k ≤ lim) (w : World) : (Instr.sliceBound (.int q (k : Int)) lim code).run P w = .ok k w := by
  have : (k : Int) ≤ (lim : Int) := by omega
  simp [Instr.sliceBound, asIntOf, h]
theorem run_sliceAt {T0 e sz n c l k : Nat} {xa : Option Addr} {lo hi : Option Value} (ht : sliceE P T0 = some e) (hs : szOf P e = some sz) (hnc : n ≤ c) (hkn : k ≤ n) (hlk : l ≤ k) (hlo : (lo = none ∧ l = 0) ∨ ∃ q, lo = some (.int q (l : Int))) (hhi : (hi = none ∧ k = n) ∨ ∃ q, hi = some (.int q (k : Int))) (w : World) :
    (Instr.sliceAt T0 (.slice xa n c) lo hi none).run P w = .ok (.slice (if c = l then xa else xa.map (·.add (l * sz))) (k - l) (c - l)) w := by
  have h1 : (Instr.sliceBounds true n c lo hi none).run P w = .ok (l, k, c) w := by
    unfold Instr.sliceBounds
    rcases hhi with ⟨rfl, rfl⟩ | ⟨q, rfl⟩ <;> rcases hlo with ⟨rfl, rfl⟩ | ⟨q', rfl⟩
    · simp
    · simp [run_sliceBound _ hlk]
    · simp [run_sliceBound _ (show k ≤ c by omega)]
    · simp [run_sliceBound _ (show k ≤ c by omega), run_sliceBound _ hlk]
  simp [Instr.sliceAt, run_underlying (sliceE_eq ht), Instr.slice, h1, run_szOf hs]

theorem run_cutAt {T0 e sz n c : Nat} {xa : Option Addr} {q q' : IntKind} (ht : sliceE P T0 = some e) (hs : szOf P e = some sz) (hnc : n ≤ c) :
    ∃ xa', ∀ w : World, (Instr.sliceAt T0 (.slice xa n c) none (some (.int q 0)) (some (.int q' 0))).run P w = .ok (.slice xa' 0 0) w := by
  have h0 : ∀ (q : IntKind) (code : BoundsCode) (m : Nat) (w : World), (Instr.sliceBound (.int q 0) m code).run P w = .ok 0 w := fun q code m w => run_sliceBound (q := q) (k := 0) code (Nat.zero_le m) w
  have h1 : ∀ w, (Instr.sliceBounds true n c none (some (.int q 0)) (some (.int q' 0))).run P w = .ok (0, 0, 0) w := fun w => by
    unfold Instr.sliceBounds
    simp [h0]
  refine ⟨xa, fun w => ?_⟩
  simp [Instr.sliceAt, run_underlying (sliceE_eq ht), Instr.slice, h1, run_szOf hs]
def isZero : Operand → Bool
  | .const (.int _ 0) => true
  | _ => false
theorem isZero_eq {y : Operand} (h : isZero y = true) : ∃ q, y = .const (.int q 0) := by
  unfold isZero at h
  split at h
  · exact ⟨_, rfl⟩
  · cases h
theorem looks_cut {T0 e sz : Nat} {hi mx : Operand} (h : Sim L σ T st a w) (hd : o.dst = some d) (ho : o.op = .slice T0 y none (some hi) (some mx)) (hm : mOpd y x = true) (hh : isZero hi = true) (hx : isZero mx = true) (ht : sliceE P T0 = some e) (hs : szOf P e = some sz) (hp : plain (.cut d sz x) st = some st') : Looks P L σ T st' a w o := by
  simp only [plain] at hp
  split at hp
  case h_2 => cases hp
  rename_i sz' p es hx'
  have hp := Option.some.inj hp
  subst hp
  obtain ⟨ad, n, c, e1, hnc⟩ := (h.pv hm (show st.pvOf x = some (.list sz' (p :: es)) by simp [St.pvOf, hx'])).some_slice
  obtain ⟨q, rfl⟩ := isZero_eq hh
  obtain ⟨q', rfl⟩ := isZero_eq hx
  obtain ⟨xa', hr⟩ := run_cutAt (P := P) (xa := some ad) (q := q) (q' := q') ht hs hnc
  refine ⟨.slice xa' 0 0, T, fun w' _ => ?_, by rw [hd]; exact h.newRow, Still.refl T⟩
  have c1 : a.eval (.const (.int q 0)) = .int q 0 := rfl
  have c2 : a.eval (.const (.int q' 0)) = .int q' 0 := rfl
  simp [execOp, ho, e1, c1, c2, hr]

theorem bounds_eq {lo hi : Option PV} {n l k : Nat} (h1 : bound hi n n = some k) (h2 : bound lo 0 k = some l) : k ≤ n ∧ l ≤ k := by
  rcases bound_eq h1 with ⟨_, rfl⟩ | ⟨q, _, h3⟩ <;> rcases bound_eq h2 with ⟨_, rfl⟩ | ⟨q', _, h4⟩ <;> omega
theorem Sim.bnd (h : Sim L σ T st a w) {y : Option Operand} {x : Option Opd} (hm : mOpt y x = true) {v : Option PV} (hv : st.optPv x = some v) {dflt lim k : Nat} (hb : bound v dflt lim = some k) : (y.map a.eval = none ∧ k = dflt) ∨ ∃ q, y.map a.eval = some (.int q (k : Int)) := by
  rcases h.optPv hm hv with ⟨rfl, rfl⟩ | ⟨y0, x0, v0, rfl, rfl, rfl, g⟩
  · rcases bound_eq hb with ⟨_, rfl⟩ | ⟨q, e, _⟩
    · exact .inl ⟨rfl, rfl⟩
    · cases e
  · rcases bound_eq hb with ⟨e, _⟩ | ⟨q, e, _⟩
    · cases e
    · cases e
      exact .inr ⟨q, by rw [Option.map_some, g.int_inv]⟩

theorem looks_sli {T0 e sz : Nat} {lo hi : Option Operand} {lo' hi' : Option Opd} (h : Sim L σ T st a w) (hd : o.dst = some d) (ho : o.op = .slice T0 y lo hi none) (hm : mOpd y x = true) (hml : mOpt lo lo' = true) (hmh : mOpt hi hi' = true) (ht : sliceE P T0 = some e) (hs : szOf P e = some sz)
    (hp : plain (.sli d sz x lo' hi') st = some st') : Looks P L σ T st' a w o := by
  simp only [plain] at hp
  obtain ⟨lv, h1, hp1⟩ := bind_some hp
  clear hp
  obtain ⟨hv, h2, hp⟩ := bind_some hp1
  clear hp1
  have hrun : ∀ {xa n c k l}, a.eval y = .slice xa n c → n ≤ c → bound hv n n = some k → bound lv 0 k = some l → ∀ w', Sees T w w' → (execOp a.eval o).run P w' = .ok (.value (.slice (if c = l then xa else xa.map (·.add (l * sz))) (k - l) (c - l))) w' := fun {xa n c k l} e1 hnc hk hl w' _ => by
    obtain ⟨g1, g2⟩ := bounds_eq hk hl
    have := run_sliceAt (P := P) (xa := xa) ht hs hnc g1 g2 (h.bnd hml h1 hl) (h.bnd hmh h2 hk) w'
    simp [execOp, ho, e1, this]
  split at hp
  case h_1 s es e =>
    obtain ⟨k, h3, hp⟩ := bind_some hp
    obtain ⟨l, h4, hp⟩ := bind_some hp
    split at hp
    case isFalse => cases hp
    rename_i hsz
    have hp := Option.some.inj hp
    subst hp
    subst hsz
    obtain ⟨g1, g2⟩ := bounds_eq h3 h4
    have r := h.pv hm (show st.pvOf x = some (.list s es) by simp [St.pvOf, e])
    obtain ⟨xa, c, e1, k1, k2, k3⟩ := r.list_inv
    refine looks_pv h hd (hrun e1 k1 h3 h4) ?_
    have hlen : ((es.drop l).take (k - l)).length = k - l := by simp; omega
    suffices g : PRep (fun b => T b = .ro) w (.list s ((es.drop l).take (k - l))) (.slice (if c = l then xa else xa.map (·.add (l * s))) ((es.drop l).take (k - l)).length (c - l)) by
      rw [hlen] at g; exact g
    refine PRep.list_mk (by rw [hlen]; omega) (Nat.le_trans (Nat.sub_le _ _) k2) (fun e0 => ?_) (fun hpos => ?_)
    · by_cases hcl : c = l
      · exact .inl (by omega)
      · rw [if_neg hcl]
        rcases r.list_room e1 with rfl | ⟨b, off, hx, m1, m2⟩
        · omega
        · exact .inr ⟨b, off + l * s, by rw [hx]; simp [Addr.add_lit], m1, m2⟩
    · rw [hlen] at hpos
      obtain ⟨b, off, hx, m1, m2, m3, m4⟩ := k3 (by omega)
      refine ⟨b, off + l * s, by rw [if_neg (by omega), hx]; simp [Addr.add_lit], m1, m2, fun el he => m3 el (List.mem_of_mem_drop (List.mem_of_mem_take he)), fun i el hi => ?_⟩
      rw [List.getElem?_take] at hi
      split at hi
      · rw [List.getElem?_drop] at hi
        have := m4 _ _ hi
        rwa [show off + l * s + i * s = off + (l + i) * s by rw [Nat.add_mul]; omega]
      · cases hi
  case h_2 s es e =>
    split at hp
    case h_2 => cases hp
    rename_i n
    obtain ⟨k, h3, hp⟩ := bind_some hp
    obtain ⟨l, h4, hp⟩ := bind_some hp
    split at hp
    case isFalse => cases hp
    rename_i hsz
    have hp := Option.some.inj hp
    subst hp
    subst hsz
    obtain ⟨g1, g2⟩ := bounds_eq h3 h4
    obtain ⟨q1, q2, q3⟩ := h.rowR hm e
    obtain ⟨xa, c, e1, k1, k2, k3⟩ := q3.slice
    refine looks_root h hd (r := .slot n) rfl (hrun e1 k1 h3 h4) ⟨trivial, fun s' l' e => ?_⟩ (by simp)
    have := slot_of_row e
    rw [q1] at this; cases this
    refine ⟨xa, _, c, _, by rw [← e1]; exact q2, rfl, fun e0 => ?_, fun hpos => ?_, fun b o e => ?_⟩
    · subst e0
      split
      · rfl
      · cases xa <;> simp [Addr.add]
    · rw [if_neg (by omega)]
    · subst e
      split
      · exact ⟨o, rfl⟩
      · exact ⟨_, by simp [Addr.add_lit]; rfl⟩
  case h_3 r off len e =>
    obtain ⟨⟨s, es⟩, h5, hp5⟩ := bind_some hp
    clear hp
    simp only at hp5
    split at hp5
    case isFalse => cases hp5
    rename_i hc
    obtain ⟨h6, rfl⟩ := hc
    obtain ⟨k, h3, hp6⟩ := bind_some hp5
    obtain ⟨l, h4, hp⟩ := bind_some hp6
    have hp := Option.some.inj hp
    subst hp
    obtain ⟨g1, g2⟩ := bounds_eq h3 h4
    obtain ⟨xa, n, c, x', m1, m2, m3, m4, m0⟩ := h.refR hm e s es h5
    obtain ⟨u, m5, m6⟩ := h.rowHdr h5
    rw [m5] at m1; cases m1
    obtain ⟨xb, c', e3, m7, m8, m9⟩ := m6.slice
    cases e3
    refine looks_root h hd (r := r) rfl (hrun m2 (by omega) h3 h4) ⟨h.refLow hm (by assumption), fun s' l' e => ?_⟩ (by simp)
    rw [h5] at e; cases e
    refine ⟨xa, _, c, _, m5, by rw [Nat.sub_sub], fun e0 => ?_, fun hpos => ?_, fun b o e => ?_⟩
    · obtain ⟨rfl, rfl⟩ : off = 0 ∧ l = 0 := by omega
      rw [m3 rfl]
      split
      · rfl
      · cases xa <;> simp [Addr.add]
    · rw [if_neg (by omega), m4 (by omega)]
      cases xa with
      | none => rfl
      | some ad =>
        obtain ⟨b, hb, _⟩ := m9 (by omega)
        cases hb
        simp [Addr.add_lit, Nat.add_mul]
    · obtain ⟨o', e'⟩ := m0 b o e
      rw [e']
      split
      · exact ⟨o', rfl⟩
      · exact ⟨_, by simp [Addr.add_lit]; rfl⟩
  case h_4 => cases hp
end
end Go.Proofs.Ytldnpgbacakfeaa
