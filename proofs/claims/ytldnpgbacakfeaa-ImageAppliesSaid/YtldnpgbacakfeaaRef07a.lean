/-
  The reference of layer 7: the functions that only look.
-/
import Derived.Test.YtldnpgbacakfeaaTypes
namespace Go.Proofs.Ytldnpgbacakfeaa
open Go.RowKit

def fewB (im : List (List Sec)) : Bool := decide (im.length ≤ 9) && im.all fun v => decide (v.length ≤ 24)

theorem few_any {a : Option Addr} {n c : Nat} {im : List (List Sec)} {ok : Nat → Prop} {w : World} (h : Sl secsR ok w a n c im) :
    Calls Try.prog 11 #[.slice a n c] w fun e w' => e = .returned (.bool (fewB im)) ∧ w = w' := by
  have hs := h.small
  by_cases hn : 9 < n
  · go_enter Try.func11, Try.ntmps11
    go_wp2
    go_ret
    exact ⟨by simp [fewB, h.len]; omega, rfl⟩
  · go_enter Try.func11, Try.ntmps11
    go_wp2
    go_loop [3] (fun i => ∃ k : Nat, k ≤ n ∧ i = .int .i64 k ∧ Hid ((im.take k).all (fun v => decide (v.length ≤ 24)) = true)) (fun i => n - (intOf i).toNat)
    case atStart => exact ⟨0, Nat.zero_le _, rfl, rfl⟩
    case round =>
      obtain ⟨k, hk, rfl, hbad⟩ := hrel
      by_cases hlt : k < n
      · obtain ⟨b, off, rfl, _, _⟩ := h.addr hlt
        obtain ⟨x, hx⟩ := h.get hlt
        obtain ⟨a', n', c', hcell, hx'⟩ := h.slice hx
        have hs' := hx'.small
        have HX := Lib.hid hx; clear hx
        by_cases hx1 : 24 < n'
        · go_wp2
          go_ret
          exact ⟨by simp [fewB, all_false HX.out (p := fun v => decide (v.length ≤ 24)) (by have := hx'.len; simp; omega)], rfl⟩
        · go_wp2
          go_round
          case rel => exact ⟨k + 1, by omega, by go_num, by have := hx'.len; show _ = true; rw [take_all_succ HX.out, hbad.out]; simp; omega⟩
          case measure => simp [intOf]; omega
      · go_wp2
        go_ret
        obtain rfl : k = n := by omega
        have hl := h.len
        have := hbad.out
        rw [take_all hl] at this
        exact ⟨by simp only [fewB, this, hl]; simp; omega, rfl⟩

def badSize (n : Int) : Bool := decide (n < 1) || decide (4096 < n)
def sizesErr (l : List Int) : Int := if l.length < 1 ∨ 8 < l.length then 6 else if l.any badSize then 2 else 0

theorem sizes_any {a : Option Addr} {n c : Nat} {l : List Int} {ok : Nat → Prop} {w : World} (h : Sl intR ok w a n c l) :
    Calls Try.prog 46 #[.slice a n c] w fun e w' => e = .returned (.int .i64 (sizesErr l)) ∧ w = w' := by
  have hs := h.small
  by_cases hn1 : n < 1
  · obtain rfl : n = 0 := by omega
    go_enter Try.func46, Try.ntmps46
    go_wp2
    go_ret
    exact ⟨by simp [sizesErr, h.len], rfl⟩
  by_cases hn8 : 8 < n
  · go_enter Try.func46, Try.ntmps46
    go_wp2
    go_ret
    exact ⟨ret_int (by rw [sizesErr, if_pos (by rw [h.len]; exact .inr hn8)]), rfl⟩
  go_enter Try.func46, Try.ntmps46
  go_wp2
  go_loop [3] (fun i => ∃ k : Nat, k ≤ n ∧ i = .int .i64 k ∧ Hid ((l.take k).any badSize = false)) (fun i => n - (intOf i).toNat)
  case atStart => exact ⟨0, Nat.zero_le _, rfl, rfl⟩
  case round =>
    obtain ⟨k, hk, rfl, HB⟩ := hrel
    by_cases hlt : k < n
    · obtain ⟨b, off, rfl, _, _⟩ := h.addr hlt
      obtain ⟨x, hx⟩ := h.get hlt
      obtain ⟨hcell, hi⟩ := h.int hx
      unfold i64ok at hi
      have HX := Lib.hid hx; clear hx
      by_cases hx1 : x < 1
      · go_wp2
        go_ret
        exact ⟨ret_int (by rw [sizesErr, if_neg (by rw [h.len]; omega), if_pos (any_true HX.out (by simp [badSize, hx1]))]), rfl⟩
      · by_cases hx2 : 4096 < x
        · go_wp2
          go_ret
          exact ⟨ret_int (by rw [sizesErr, if_neg (by rw [h.len]; omega), if_pos (any_true HX.out (by simp [badSize, hx2]))]), rfl⟩
        · go_wp2
          go_round
          case rel => exact ⟨k + 1, by omega, by go_num, by show _ = false; rw [take_any_succ HX.out, HB.out]; simp [badSize]; omega⟩
          case measure => simp [intOf]; omega
    · go_wp2
      go_ret
      obtain rfl : k = n := by omega
      have := HB.out
      rw [take_all h.len] at this
      exact ⟨ret_int (by rw [sizesErr, if_neg (by rw [h.len]; omega), this]; rfl), rfl⟩

def lens (im : List (List Sec)) : List Int := im.map fun v => (v.length : Int)

set_option maxHeartbeats 1000000 in
theorem sizesOf_any {a : Option Addr} {n c : Nat} {im : List (List Sec)} {ok : Nat → Prop} {w : World} (h : Sl secsR ok w a n c im) (hn : n ≤ 1000000) :
    Calls Try.prog 37 #[.slice a n c] w fun e w' => ∃ a' n' c', e = .returned (.slice a' n' c') ∧ Sl intR (w.heap.size ≤ ·) w' a' n' c' (lens im) ∧ Below w.heap.size w w' := by
  go_enter Try.func37, Try.ntmps37
  go_wp2
  go_loopw [3, 4] (fun v i wr => ∃ k : Nat, k ≤ n ∧ i = .int .i64 k ∧ Own intR w.heap.size 3 (fun _ => False) wr v (lens (im.take k)) ∧ Below w.heap.size w wr) (fun _ i _ => n - (intOf i).toNat)
  case atStart => exact ⟨0, Nat.zero_le _, rfl, Own.nil _ _ _ _ _, Below.refl _ _⟩
  case round =>
    obtain ⟨k, hk, rfl, hown, hB⟩ := hrel
    by_cases hlt : k < n
    · obtain ⟨b, off, rfl, _, _⟩ := h.addr hlt
      obtain ⟨x, hx⟩ := h.get hlt
      obtain ⟨a', n', c', hcell, hx'⟩ := (h.below hB).slice hx
      have hi := hx'.i64
      have hlen : (lens (im.take k)).length = k := by have := h.len; simp [lens]; omega
      have HL := Lib.hid hlen; clear hlen
      have HX := Lib.hid hx; clear hx
      go_wp2_with (at_builtin; refine wpList_app Try.slInt rfl _ _ rfl rfl (hown.below ((Below.refl _ _).alloc (Nat.le_refl _) _)) rfl (Src.new1 (r := intR) ⟨rfl, hi⟩) ?c1 ?c2 ?c3 ?_)
      case c1 => rw [HL.out]; unfold maxLen; omega
      case c2 => rw [HL.out]; omega
      case c3 => have := hB.size; simp; omega
      intro v' w1 hown1 hgrow _
      go_wp2
      go_roundw
      case rel => exact ⟨k + 1, by omega, by go_num, by
        have e : lens (im.take (k + 1)) = lens (im.take k) ++ [(n' : Int)] := by
          simp only [lens]; rw [take_succ_get HX.out]; simp [hx'.len]
        rw [e]; exact hown1, (hB.alloc (Below.size hB) _).grown hgrow (by have := hB.size; simp; omega) (fun k hk => (hown.lt k hk).1)⟩
      case measure => simp [intOf]; omega
    · go_wp2
      go_ret
      obtain rfl : k = n := by omega
      rw [take_all h.len] at hown
      obtain ⟨a', n', c', rfl, h2⟩ := hown.sl
      exact ⟨_, _, _, rfl, h2.mono (fun b hb => hb.elim (fun h => h.elim) id), hB⟩

def imgErr (im : List (List Sec)) : Int := sizesErr (lens im)

theorem check_any {a : Option Addr} {n c : Nat} {im : List (List Sec)} {ok : Nat → Prop} {w : World} (h : Sl secsR ok w a n c im) (hn : n ≤ 1000000) :
    Calls Try.prog 19 #[.slice a n c] w fun e w' => e = .returned (.int .i64 (imgErr im)) ∧ Below w.heap.size w w' := by
  go_enter Try.func19, Try.ntmps19
  go_wp2_with fail
  refine (sizesOf_any h hn).mono ?_
  rintro e w1 ⟨a', n', c', rfl, h1, hB⟩
  go_wp2_with fail
  refine (sizes_any h1).mono ?_
  rintro e w2 ⟨rfl, rfl⟩
  go_wp2
  go_ret
  exact ⟨rfl, hB⟩

end Go.Proofs.Ytldnpgbacakfeaa
