/-
  Layer 7: the patch from one image to another.
-/
import Derived.Test.YtldnpgbacakfeaaImg14
namespace Go.Proofs.Ytldnpgbacakfeaa
open Go.RowKit

theorem diffs_lt {a b : List Sec} {k i : Nat} (h : i ∈ diffs a b k) : i < k := by
  unfold diffs at h; have := (List.mem_filter.1 h).1; simpa using this
theorem runs_within {n : Nat} {ks : List Nat} (h : ∀ i ∈ ks, i < n) : Within n (runs ks) := by
  have : ∀ (ks : List Nat) (l : List Ext), (∀ i ∈ ks, i < n) → Within n l → Within n (ks.foldl bump l) := by
    intro ks
    induction ks with
    | nil => intro l _ hl; exact hl
    | cons k ks ih => intro l hk hl; exact ih _ (fun i hi => hk i (List.mem_cons_of_mem _ hi)) (hl.bump (hk k List.mem_cons_self))
  exact this ks [] h (Within.nil n)
theorem extents_within (a b : List Sec) : Within a.length (extents a b) := runs_within fun _ hi => diffs_lt hi
theorem extents_length (a b : List Sec) : (extents a b).length ≤ a.length := Nat.le_trans (runs_length _) (diffs_length _ _ _)

/-- The writes for the first k volumes. -/
def patchTo (b : List (List Sec)) (d : List (List Ext)) (k : Nat) : List Wr := (List.range k).flatMap fun i => (d.getD i []).map (wrOf i (b.getD i []))
theorem patchTo_succ {b : List (List Sec)} {d : List (List Ext)} {k : Nat} {v : List Sec} {e : List Ext} (hv : b[k]? = some v) (he : d[k]? = some e) : patchTo b d (k + 1) = patchTo b d k ++ e.map (wrOf k v) := by
  unfold patchTo
  rw [List.range_succ, List.flatMap_append]
  simp [List.getD, hv, he]
/-- The patch from a to b. -/
def patchImgs (a b : List (List Sec)) : List Wr := patchTo b (diffImgs a b) (diffImgs a b).length

set_option maxRecDepth 100000 in
set_option maxHeartbeats 2000000 in
theorem patchI_any {a1 a2 : Option Addr} {n1 c1 n2 c2 : Nat} {l1 l2 : List (List Sec)} {ok1 ok2 : Nat → Prop} {w : World} (h1 : Sl secsR ok1 w a1 n1 c1 l1) (h2 : Sl secsR ok2 w a2 n2 c2 l2) (hn1 : n1 ≤ 1000000) (hn2 : n2 ≤ 1000000)
    (hv1 : ∀ v ∈ l1, v.length ≤ 1000000) (hv2 : ∀ v ∈ l2, v.length ≤ 1000000) : Calls Try.prog 32 #[.slice a1 n1 c1, .slice a2 n2 c2] w (RetSlE wrR (w.heap.size ≤ ·) w (orNil (pairErr l1 l2) (patchImgs l1 l2)) (pairErr l1 l2)) := by
  have hB0 : Below w.heap.size w (w.alloc (.cells #[.slice a2 n2 c2] 24)) := (Below.refl _ w).alloc (Nat.le_refl _) _
  have hbx : (w.alloc (.cells #[.slice a2 n2 c2] 24)).cell? ⟨w.heap.size, 0, none⟩ = some (.slice a2 n2 c2) := (Boxed.new w _ _).cell
  by_cases he : pairErr l1 l2 = 0
  rotate_left
  · have hb : (pairErr l1 l2 != 0) = true := by simp [he]
    have HE := Lib.hid he; clear he
    go_enter Try.func32, Try.ntmps32
    go_wp2_with fail
    refine (differI_any (h1.below hB0) (h2.below hB0) hn1 hn2 hv1).mono ?_
    rintro e w1 ⟨da, dn, dc, rfl, hd, hB1⟩
    go_wp2
    go_ret2
    exact RetSlE.mk rfl (by rw [orNil_bad HE.out]; exact Sl.nil0 _ _ _) (hB0.trans (hB1.mono hB0.size))
  have hb : (pairErr l1 l2 != 0) = false := by simp [he]
  obtain ⟨_, _, hle⟩ := pairErr_ok he
  obtain rfl : n1 = n2 := by
    have := congrArg List.length hle
    simp [lens, h1.len, h2.len] at this; exact this
  have HE := Lib.hid he; clear he
  have HLE := Lib.hid hle; clear hle
  have hlz : (diffImgs l1 l2).length = n1 := by simp [diffImgs, h1.len, h2.len]
  have HZ := Lib.hid hlz; clear hlz
  go_enter Try.func32, Try.ntmps32
  go_wp2_with fail
  refine (differI_any (h1.below hB0) (h2.below hB0) hn1 hn2 hv1).mono ?_
  rintro e w1 ⟨da, dn, dc, rfl, hd, hB1⟩
  rw [orNil_ok HE.out] at hd
  obtain rfl : dn = n1 := by have := hd.len; have := HZ.out; omega
  have hB2 : Below w.heap.size w w1 := hB0.trans (hB1.mono hB0.size)
  have hbx1 : w1.cell? ⟨w.heap.size, 0, none⟩ = some (.slice a2 dn c2) := boxCell hB1 (j := 0) rfl
  go_wp2
  go_loopw [8, 22] (fun v i wr => ∃ k : Nat, k ≤ dn ∧ i = .int .i64 k ∧ Own wrR w1.heap.size 42 (w1.heap.size ≤ ·) wr v (patchTo l2 (diffImgs l1 l2) k) ∧ (patchTo l2 (diffImgs l1 l2) k).length ≤ k * 1000000 ∧ Below w1.heap.size w1 wr) (fun _ i _ => dn - (intOf i).toNat)
  case atStart => exact ⟨0, Nat.zero_le _, rfl, Own.nil _ _ _ _ _, by simp [patchTo], Below.refl _ _⟩
  case round =>
    obtain ⟨k, hk, rfl, hown, hlen, hB⟩ := hrel
    have hB3 : Below w.heap.size w wr := hB2.trans (hB.mono hB2.size)
    by_cases hlt : k < dn
    · obtain ⟨b, off, rfl, _, hbd⟩ := hd.addr hlt
      obtain ⟨x, hx⟩ := h1.get hlt
      obtain ⟨y, hy⟩ := h2.get hlt
      have hxy : x.length = y.length := by
        have := congrArg (fun l : List Int => l[k]?) HLE.out
        simp [lens, hx, hy] at this; omega
      have hdk : (diffImgs l1 l2)[k]? = some (extents x y) := diffImgs_get hx hy
      obtain ⟨a', n', c', hc, hdx⟩ := (hd.below hB).slice hdk
      have hx6 := hv1 x (List.mem_of_getElem? hx)
      have hy6 := hv2 y (List.mem_of_getElem? hy)
      have hn' : n' ≤ 1000000 := by have := extents_length x y; rw [← hdx.len]; omega
      have hwin : Within y.length (extents x y) := by rw [← hxy]; exact extents_within x y
      have HP : Hid (patchTo l2 (diffImgs l1 l2) (k + 1) = patchTo l2 (diffImgs l1 l2) k ++ (extents x y).map (wrOf k y)) := patchTo_succ hy hdk
      have HY := Lib.hid hy
      have hbr : wr.cell? ⟨w.heap.size, 0, none⟩ = some (.slice a2 dn c2) := (hB.cell (p := ⟨w.heap.size, 0, none⟩) (World.block_lt_of_cell? w1 _ hbx1)).trans hbx1
      clear hx hy hdk
      have hBa : Below wr.heap.size wr (wr.alloc (.cells #[.int .i64 k] 3)) := (Below.refl _ _).alloc (Nat.le_refl _) _
      have hBw : Below w.heap.size w (wr.alloc (.cells #[.int .i64 k] 3)) := hB3.trans (hBa.mono hB3.size)
      have hbr2 : (wr.alloc (.cells #[.int .i64 k] 3)).cell? ⟨w.heap.size, 0, none⟩ = some (.slice a2 dn c2) := (hBa.cell (p := ⟨w.heap.size, 0, none⟩) (World.block_lt_of_cell? wr _ hbr)).trans hbr
      have hbk : (wr.alloc (.cells #[.int .i64 k] 3)).cell? ⟨wr.heap.size, 0, none⟩ = some (.int .i64 k) := (Boxed.new wr _ _).cell
      have hz := hB.size
      have hz2 := hB2.size
      go_wp2_with fail
      refine (mapped_patch (hdx.below hBa) hn' hbk hbr2 (h2.below hBw) HY.out hy6 (by omega) hwin).mono ?_
      rintro e w2 ⟨v2, rfl, hown2, hB4⟩
      have hB5 : Below wr.heap.size wr w2 := hBa.trans (hB4.mono hBa.size)
      obtain ⟨a4, n4, c4, rfl, hs4⟩ := hown2.sl
      obtain rfl : n4 = n' := by rw [← hs4.len, List.length_map, hdx.len]
      have hm6 : n4 ≤ 1000000 := by omega
      have hlt8 := hown.lt
      have hsrc : Src wrR (fun b => w1.heap.size ≤ b ∧ Option.some b ≠ u8.ownBlock) w2 a4 n4 c4 ((extents x y).map (wrOf k y)) := Src.of_sl (hs4.mono fun b hb => by
        rw [World.size_alloc] at hb
        exact ⟨by omega, fun e => by have := (hlt8 b e.symm).2; omega⟩)
      go_wp2_with (at_builtin; refine wpList_app (v := u8) Try.slWr rfl _ _ rfl rfl (hown.below hB5) rfl hsrc ?c1 ?c2 ?c3 ?_)
      case c1 => unfold maxLen; omega
      case c2 => omega
      case c3 => have := hB5.size; omega
      intro v' w3 hown' hgrow hblk
      go_wp2
      go_roundw
      case rel => exact ⟨k + 1, by omega, by go_num, by rw [HP.out]; exact hown', by rw [HP.out, List.length_append, hs4.len]; omega, (hB.trans (hB5.mono hz)).grown hgrow (by have := hB5.size; omega) (fun b hb => (hlt8 b hb).1)⟩
      case measure => simp [intOf]; omega
    · obtain rfl : k = dn := by omega
      obtain ⟨a3, n3, c3, rfl, h3⟩ := hown.sl
      go_wp2
      go_ret2
      exact RetSlE.mk HE.out.symm (by rw [orNil_ok HE.out, patchImgs, HZ.out]; exact h3.mono fun b hb => Nat.le_trans hB2.size (hb.elim id id)) hB3
end Go.Proofs.Ytldnpgbacakfeaa
