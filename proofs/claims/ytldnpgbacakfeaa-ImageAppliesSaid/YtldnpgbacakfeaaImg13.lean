/-
  Layer 7: what one extent writes.
-/
import Derived.Test.YtldnpgbacakfeaaImg12
namespace Go.Proofs.Ytldnpgbacakfeaa
open Go.RowKit

/-- The sectors from s on, m of them. -/
def cut (v : List Sec) (s m : Int) : List Sec := (v.drop s.toNat).take m.toNat

set_option maxRecDepth 100000 in
set_option maxHeartbeats 2000000 in
theorem patch1_any {Bi Bt : Nat} {k : Nat} {a : Option Addr} {n c : Nat} {im : List (List Sec)} {ok : Nat → Prop} {w : World} (hi : w.cell? ⟨Bi, 0, none⟩ = some (.int .i64 k)) (ht : w.cell? ⟨Bt, 0, none⟩ = some (.slice a n c))
    (h : Sl secsR ok w a n c im) {v : List Sec} (hv : im[k]? = some v) (hv6 : v.length ≤ 1000000) {s m : Nat} (hsm : s + m ≤ v.length) (hk : k ≤ 1000000) :
    Calls Try.prog 62 #[.agg #[.int .i64 s, .int .i64 m], .pointer (some ⟨Bi, 0, none⟩), .pointer (some ⟨Bt, 0, none⟩)] w fun e w' => ∃ a' n' c', e = .returned (.agg #[.int .i64 k, .int .i64 s, .slice a' n' c']) ∧
      wrR.rd (w.heap.size ≤ ·) w' [.int .i64 k, .int .i64 s, .slice a' n' c'] ((k : Int), (s : Int), cut v s m) ∧ Below w.heap.size w w' := by
  have hkn : k < n := by rw [← h.len]; exact (List.getElem?_eq_some_iff.1 hv).1
  obtain ⟨b, off, rfl, _, hb⟩ := h.addr hkn
  obtain ⟨a', n', c', hc, hx⟩ := h.slice hv
  have hbi := World.block_lt_of_cell? w _ hi
  have hbt := World.block_lt_of_cell? w _ ht
  have HV := Lib.hid hv; clear hv
  obtain ⟨W, hW⟩ : ∃ W, (w.alloc (.cells #[.int .i64 s, .int .i64 m] 59)).alloc (.cells #[.int .i64 0, .int .i64 0, .slice none 0 0] 42) = W := ⟨_, rfl⟩
  have hB : Below w.heap.size w W := by rw [← hW]; exact ((Below.refl _ w).alloc (Nat.le_refl _) _).alloc (by simp) _
  have hsz : W.heap.size = w.heap.size + 2 := by rw [← hW]; simp
  have hbox : ∀ j, W.cell? ⟨w.heap.size, j, none⟩ = #[Value.int .i64 s, .int .i64 m][j]? := fun j => by
    rw [← hW, ((Below.refl _ _).alloc (Nat.le_refl _) _).cell (p := ⟨w.heap.size, j, none⟩) (by simp), World.cell?_alloc_mark w _ _ (0, 0) j]
  have hl0 := cellLaterB (g := w.heap.size + 1) ((hB.cell (p := ⟨Bi, 0, none⟩) hbi).trans hi) (by show Bi ≠ _; have : Bi < w.heap.size := hbi; omega)
  have hl1 := cellLaterB (g := w.heap.size + 1) ((hB.cell (p := ⟨Bt, 0, none⟩) hbt).trans ht) (by show Bt ≠ _; have : Bt < w.heap.size := hbt; omega)
  have hl2 := cellLaterB (g := w.heap.size + 1) (hbox 0) (by simp)
  have hl3 := cellLaterB (g := w.heap.size + 1) (hbox 1) (by simp)
  have hl4 := cellLaterB (g := w.heap.size + 1) ((hB.cell (p := ⟨b, off + k, none⟩) hb).trans hc) (by show b ≠ _; omega)
  have hsl := fun w => run_sub Try.underlying40 Try.szSec a' n' c' s m (by have := hx.len; have := hx.cap; omega) w
  have hs := hx.small
  have hsm2 : s + m ≤ 1000000 := by omega
  go_enter Try.func62, Try.ntmps62
  go_wp2_with fail
  try rw [hW]
  refine wp_region_acts (fun w' => ∃ x : LaterB (W) (w.heap.size + 1), w' = x.w) [([0, 1, 2, 3, 4, 5, 6, 7, 8, 9, 10, 11, 12, 13, 14], 15), ([16], 17)] [] Try.mixed (by kernel_rfl) (LaterB.drew _ _) ?_
  refine wpActs_act ?_
  simp only [pick, List.filterMap_cons, List.filterMap_nil, List.getElem?_toArray, List.getElem?_cons_succ, List.getElem?_cons_zero]
  change wpQuiet _ _ _ _ [_, _, _, _, _, _, _, _, _, _, _, _, _, _, _] _
  repeat (go_big_quiet_step (fail))
  refine wpQuiet_nil ?_
  change wpList _ _ _ [_] _ _
  go_wp2_with fail
  have hlen : ((v.drop s).take m).length = m := by simp; omega
  refine (clone_sec (((hx.below hB).below ((Below.refl _ _).drew)).sub (s := s) (k := m) (by rw [← hx.len]; exact hsm)) (by omega)).mono ?_
  rintro e w2 ⟨a2, n2, c2, rfl, hr, hB2⟩
  have hB3 : Below W.heap.size W w2 := ((Below.refl _ _).drew).trans hB2
  have hfz : w2.heap[w.heap.size + 1]? = some (.cells #[.int .i64 0, .int .i64 0, .slice none 0 0] 42) := by
    rw [hB3.block _ (by omega), ← hW]
    have := World.alloc_heap_new (w.alloc (.cells #[.int .i64 s, .int .i64 m] 59)) (.cells #[.int .i64 0, .int .i64 0, .slice none 0 0] 42)
    rwa [World.size_alloc] at this
  go_wp2_with fail
  refine ⟨LaterB.of (grown_row (below_grown hB3)), ?_⟩
  refine wpActs_act ?_
  simp only [pick, List.filterMap_cons, List.filterMap_nil, List.getElem?_toArray, List.getElem?_cons_succ, List.getElem?_cons_zero]
  change wpQuiet _ _ _ _ [_] _
  repeat (go_big_quiet_step (fail))
  refine wpQuiet_nil ?_
  change wpList _ _ _ [_] _ _
  refine wpList_store_row rfl 42 _ _ rfl (w.heap.size + 1) #[.int .i64 k, .int .i64 s, .slice a2 n2 c2] rfl rfl 42 _ hfz (by kernel_rfl) rfl (by simp [Value.oneCell']) ?_
  have hgr : W.grownBy (w2.setRow (w.heap.size + 1) #[.int .i64 k, .int .i64 s, .slice a2 n2 c2]) (some (w.heap.size + 1)) :=
    grown_trans (grown_row (below_grown hB3)) ⟨rfl, rfl, rfl, by simp, fun j _ hj => setRow_other w2 (w.heap.size + 1) j _ (fun e => hj (by rw [e]))⟩
  go_wp2_with fail
  refine ⟨LaterB.of hgr, ?_⟩
  refine wpActs_last ?_
  simp only [pick, List.filterMap_cons, List.filterMap_nil, List.getElem?_toArray, List.getElem?_cons_succ, List.getElem?_cons_zero]
  change wpQuiet _ _ _ _ [] _
  repeat (go_big_quiet_step (fail))
  refine wpQuiet_nil ?_
  go_wp2
  obtain ⟨_, _, _, e, hs2⟩ := ownRowR.sl Flat.sec hr
  cases e
  have hlt : ∀ b, W.drew.heap.size ≤ b → w.heap.size + 2 ≤ b := fun b hb => by rw [← hsz]; exact hb
  refine bodyPost_ret (results_cell_row rfl _ _ (w.heap.size + 1) 42 #[.int .i64 k, .int .i64 s, .slice a2 n2 c2] (0, 0) _ rfl (setRow_heap _ _ _ _ _ _ hfz) Try.underlying42 rfl (by kernel_rfl)) rfl ?_
  refine ⟨_, _, _, rfl, ⟨[_], [_, _], rfl, ⟨rfl, i64ok_nat (by unfold maxLen; omega)⟩, [_], [_], rfl, ⟨rfl, i64ok_nat (by unfold maxLen; omega)⟩, _, _, _, rfl, ?_⟩, hB.grown hgr (by omega) (fun j hj => by cases hj; omega)⟩
  rw [cut, Int.toNat_natCast, Int.toNat_natCast]
  exact (hs2.frame fun b hb => setRow_other w2 (w.heap.size + 1) b _ (fun e => by have := hlt b hb; omega)).mono fun b hb => by have := hlt b hb; omega

end Go.Proofs.Ytldnpgbacakfeaa
