/-
  Layer 7's laws: what they use: a sector; New of the reference.
-/
import Derived.Test.YtldnpgbacakfeaaImg15
namespace Go.Proofs.Ytldnpgbacakfeaa
open Go.RowKit

def secOf (b : UInt8) : Sec := #v[b, 0, 0, 0, 0, 0, 0, 0]

set_option maxRecDepth 100000 in
set_option maxHeartbeats 1000000 in
theorem sector_any (b : UInt8) (w : World) :
    Calls Try.prog 41 #[.int .u8 (b.toNat : Int)] w fun e w' => e = .returned (.agg (secCells (secOf b)).toArray) ∧ Below w.heap.size w w' := by
  have hfz : (w.alloc (.cells #[.int .u8 0, .int .u8 0, .int .u8 0, .int .u8 0, .int .u8 0, .int .u8 0, .int .u8 0, .int .u8 0] 52)).heap[w.heap.size]? = _ := World.alloc_heap_new w _
  go_enter Try.func41, Try.ntmps41
  go_wp2_with (refine wpList_store_row rfl 52 _ _ rfl w.heap.size (secCells (secOf b)).toArray rfl rfl 52 _ hfz (by kernel_rfl) rfl (by simp [secCells, secOf, Value.oneCell']) ?_)
  refine bodyPost_ret (results_cell_row rfl _ _ w.heap.size 52 (secCells (secOf b)).toArray (0, 0) _ rfl (setRow_heap _ _ _ _ _ _ hfz) Try.underlying52 rfl (by kernel_rfl)) rfl ?_
  exact ⟨rfl, ((Below.refl _ w).alloc (Nat.le_refl _) _).grown ⟨rfl, rfl, rfl, by simp, fun j _ hj => setRow_other _ w.heap.size j _ (fun e => hj (by rw [e]))⟩ (by simp) (fun j hj => by cases hj; exact Nat.le_refl _)⟩

set_option maxRecDepth 100000 in
set_option maxHeartbeats 2000000 in
theorem newR_any {a : Option Addr} {n c : Nat} {l : List Int} {ok : Nat → Prop} {w : World} (h : Sl intR ok w a n c l) (hn : n ≤ 1000000) :
    Calls Try.prog 16 #[.slice a n c] w (RetSlE secsR (w.heap.size ≤ ·) w (orNil (sizesErr l) (newImg l)) (sizesErr l)) := by
  have hs := h.small
  by_cases he : sizesErr l = 0
  rotate_left
  · have hb : (sizesErr l != 0) = true := by simp [he]
    have HE := Lib.hid he; clear he
    go_enter Try.func16, Try.ntmps16
    go_wp2_with fail
    refine (sizes_any h).mono ?_
    rintro e w1 ⟨rfl, rfl⟩
    go_wp2
    go_ret2
    exact RetSlE.mk rfl (by rw [orNil_bad HE.out]; exact Sl.nil0 _ _ _) (Below.refl _ _)
  have hb : (sizesErr l != 0) = false := by simp [he]
  have hl : ∀ x ∈ l, 0 ≤ x ∧ x ≤ 4096 := fun x hx => by
    unfold sizesErr at he
    split at he
    · omega
    · split at he
      · omega
      · rename_i h2
        have := List.any_eq_false.1 (by simpa using h2) x hx
        simp [badSize] at this
        omega
  have HE := Lib.hid he; clear he
  go_enter Try.func16, Try.ntmps16
  go_wp2_with fail
  refine (sizes_any h).mono ?_
  rintro e w1 ⟨rfl, rfl⟩
  go_wp2
  go_loopw [5, 6] (fun v i wr => ∃ k : Nat, k ≤ n ∧ i = .int .i64 k ∧ OwnD ownSecs w.heap.size wr.heap.size 40 wr v ((newImg l).take k) ∧ Below w.heap.size w wr) (fun _ i _ => n - (intOf i).toNat)
  case atStart => exact ⟨0, Nat.zero_le _, rfl, OwnD.nil _ _ _ _ _, Below.refl _ _⟩
  case round =>
    obtain ⟨k, hk, rfl, hown, hB⟩ := hrel
    by_cases hlt : k < n
    · obtain ⟨b, off, rfl, _, _⟩ := h.addr hlt
      obtain ⟨x, hx⟩ := h.get hlt
      obtain ⟨m, rfl⟩ := Int.eq_ofNat_of_zero_le (hl x (List.mem_of_getElem? hx)).1
      have hm : m ≤ 4096 := by have := (hl _ (List.mem_of_getElem? hx)).2; omega
      obtain ⟨hc, _⟩ := (h.below hB).int hx
      have HX := Lib.hid hx; clear hx
      have hlen : ((newImg l).take k).length = k := by have := h.len; simp [newImg]; omega
      have HL := Lib.hid hlen; clear hlen
      go_wp2_with (at_make; refine wpList_makeN (r := secR) (B := wr.heap.size) Try.slSec rfl _ _ rfl (z0 := zeroSec) secR_zero (n := m) rfl rfl ?b2 ?b3 ?b4 ?_)
      case b2 => omega
      case b3 => unfold maxLen; omega
      case b4 => exact Nat.le_refl _
      intro w2 hown2 hB2
      have hrd : ownSecs.rd (wr.heap.size ≤ ·) w2 [.slice (some ⟨wr.heap.size, 0, none⟩) m m] (zeros m) := by
        rw [zeros, Int.toNat_natCast]; exact ownRowR.mk hown2 (fun e => .inr ⟨_, _, by
          have := congrArg List.length e; simp at this; subst this; rfl⟩)
      have hownl := hown.lt
      have hz := hB.size
      have hz2 := hB2.size
      have hB4 : Below wr.heap.size wr (w2.alloc (.cells #[.slice (some ⟨wr.heap.size, 0, none⟩) m m] 40)) := hB2.trans ((Below.refl _ _).alloc hz2 _)
      go_wp2_with (at_builtin; refine wpList_appD Try.slImg rfl _ _ rfl rfl (hown.below hB4) rfl (news_new w2 40 #[.slice (some ⟨wr.heap.size, 0, none⟩) m m]) (rd_alloc hrd) (fun k hk => (hownl k hk).2) ?c1 ?c2 ?c3 ?c4 ?_)
      case c1 => rw [HL.out]; unfold maxLen; omega
      case c2 => rw [HL.out]; omega
      case c3 => exact hz
      case c4 => simp; omega
      intro v' w3 hown3 hgrow _
      go_wp2
      go_roundw
      case rel => exact ⟨k + 1, by omega, by go_num, by
        have e : (newImg l).take (k + 1) = (newImg l).take k ++ [zeros m] := take_succ_get (by rw [newImg, List.getElem?_map, HX.out]; rfl)
        rw [e]; exact hown3, (hB.trans (hB4.mono hB.size)).grown hgrow (by simp; omega) (fun k hk => (hownl k hk).1)⟩
      case measure => simp [intOf]; omega
    · obtain rfl : k = n := by omega
      rw [take_all (by rw [newImg, List.length_map]; exact h.len)] at hown
      obtain ⟨a3, n3, c3, rfl, h3⟩ := hown.img
      go_wp2
      go_ret2
      exact RetSlE.mk HE.out.symm (by rw [orNil_ok HE.out]; exact h3) hB

end Go.Proofs.Ytldnpgbacakfeaa
