/-
  Layer 7: what it makes.
-/
import Derived.Test.YtldnpgbacakfeaaImg1
namespace Go.Proofs.Ytldnpgbacakfeaa
open Go.RowKit

theorem len1_any {a : Option Addr} {n c : Nat} {l : List Sec} {ok : Nat → Prop} {w : World} (h : Sl secR ok w a n c l) :
    Calls Try.prog 71 #[.slice a n c] w fun e w' => ∃ z : Int, e = .returned (.int .i64 z) ∧ intR.rd (w.heap.size ≤ ·) w' [.int .i64 z] (l.length : Int) ∧ Below w.heap.size w w' := by
  have hs := h.small
  go_enter Try.func71, Try.ntmps71
  go_wp2
  go_ret
  exact ⟨_, rfl, ⟨by rw [h.len], by rw [h.len]; exact h.i64⟩, Below.refl _ _⟩

set_option maxHeartbeats 1000000 in
/-- mapped, with standby/image.sizes$1. -/
theorem mapped_len {a : Option Addr} {n c : Nat} {l : List (List Sec)} {ok : Nat → Prop} {w : World} (h : Sl secsR ok w a n c l) (hn : n ≤ 1000000) :
    Calls Try.prog 70 #[.slice a n c, .func (.func 71) #[] #[]] w fun e w' => ∃ v, e = .returned v ∧ OwnD intR w.heap.size w'.heap.size 3 w' v (l.map (fun v : List Sec => (v.length : Int))) ∧ Below w.heap.size w w' := by
  go_enter Try.func70, Try.ntmps70
  go_wp2_with (at_make; refine wpList_make0 (r := intR) (B := w.heap.size) Try.slInt rfl _ _ rfl rfl rfl ?b2 ?b3 ?b4 ?_)
  case b2 => omega
  case b3 => unfold maxLen; omega
  case b4 => exact Nat.le_refl _
  intro w0 hown0 hB0
  have hs := h.small
  go_wp2
  go_loopw [5, 13] (fun v i wr => ∃ k : Nat, k ≤ n ∧ i = .int .i64 k ∧ OwnD intR w.heap.size wr.heap.size 3 wr v ((l.map (fun v : List Sec => (v.length : Int))).take k) ∧ Below w.heap.size w wr) (fun _ i _ => n - (intOf i).toNat)
  case atStart => exact ⟨0, Nat.zero_le _, rfl, hown0 _, hB0⟩
  case round =>
    obtain ⟨k, hk, rfl, hown, hB⟩ := hrel
    by_cases hlt : k < n
    · obtain ⟨b, off, rfl, _, _⟩ := h.addr hlt
      obtain ⟨x, hx⟩ := h.get hlt
      obtain ⟨a', n', c', hcell, hx'⟩ := (h.below hB).slice hx
      have hlen : ((l.map (fun v : List Sec => (v.length : Int))).take k).length = k := by have := h.len; simp; omega
      have HL := Lib.hid hlen; clear hlen
      have HX := Lib.hid hx; clear hx
      go_wp2_with (fail)
      refine (len1_any hx').mono ?_
      rintro e w1 ⟨z, rfl, hrd, hB1⟩
      have hownl := hown.lt
      have hz1 := hB1.size
      have hz := hB.size
      go_wp2_with (at_builtin; refine wpList_appD Try.slInt rfl _ _ rfl rfl ((hown.below hB1).below ((Below.refl _ _).alloc (Nat.le_refl _) _)) rfl (news_new w1 3 #[.int .i64 z]) (rd_alloc hrd) (fun k hk => (hownl k hk).2) ?c1 ?c2 ?c3 ?c4 ?_)
      case c1 => rw [HL.out]; unfold maxLen; omega
      case c2 => rw [HL.out]; omega
      case c3 => omega
      case c4 => simp; omega
      intro v' w2 hown1 hgrow _
      go_wp2
      go_roundw
      case rel => exact ⟨k + 1, by omega, by go_num, by
        have e : (l.map (fun v : List Sec => (v.length : Int))).take (k + 1) = (l.map (fun v : List Sec => (v.length : Int))).take k ++ [(fun v : List Sec => (v.length : Int)) x] := take_succ_get (by rw [List.getElem?_map, HX.out]; rfl)
        rw [e]; exact hown1, ((hB.trans (hB1.mono hB.size)).alloc (by omega) _).grown hgrow (by simp; omega) (fun k hk => (hownl k hk).1)⟩
      case measure => simp [intOf]; omega
    · go_wp2
      go_ret
      obtain rfl : k = n := by omega
      rw [take_all (by rw [List.length_map]; exact h.len)] at hown
      exact ⟨_, rfl, hown, hB⟩


theorem sizesI_any {a : Option Addr} {n c : Nat} {im : List (List Sec)} {ok : Nat → Prop} {w : World} (h : Sl secsR ok w a n c im) (hn : n ≤ 1000000) :
    Calls Try.prog 48 #[.slice a n c] w fun e w' => ∃ a' n' c', e = .returned (.slice a' n' c') ∧ Sl intR (w.heap.size ≤ ·) w' a' n' c' (lens im) ∧ Below w.heap.size w w' := by
  go_enter Try.func48, Try.ntmps48
  go_wp2_with fail
  refine (mapped_len h hn).mono ?_
  rintro e w1 ⟨v, rfl, hown, hB⟩
  obtain ⟨a', n', c', rfl, h1⟩ := hown.sl
  go_wp2
  go_ret
  exact ⟨_, _, _, rfl, h1, hB⟩

theorem checkI_any {a : Option Addr} {n c : Nat} {im : List (List Sec)} {ok : Nat → Prop} {w : World} (h : Sl secsR ok w a n c im) (hn : n ≤ 1000000) :
    Calls Try.prog 18 #[.slice a n c] w fun e w' => e = .returned (.int .i64 (imgErr im)) ∧ Below w.heap.size w w' := by
  go_enter Try.func18, Try.ntmps18
  go_wp2_with fail
  refine (sizesI_any h hn).mono ?_
  rintro e w1 ⟨a', n', c', rfl, h1, hB⟩
  go_wp2_with fail
  refine (checkSizes_any h1).mono ?_
  rintro e w2 ⟨rfl, hB2⟩
  go_wp2
  go_ret
  exact ⟨rfl, hB.trans (hB2.mono hB.size)⟩

end Go.Proofs.Ytldnpgbacakfeaa
