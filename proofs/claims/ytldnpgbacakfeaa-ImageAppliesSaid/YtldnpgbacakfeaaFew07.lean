/-
  Layer 7's laws: few writes.
-/
import Derived.Test.YtldnpgbacakfeaaLaw07c
namespace Go.Proofs.Ytldnpgbacakfeaa
open Go.RowKit

/-- A write with many sectors. -/
def longW (x : Wr) : Bool := decide (30 < x.2.2.length)
def fewW (l : List Wr) : Bool := decide (l.length ≤ 40) && !(l.any longW)
theorem long_any {v s : Int} {da : Option Addr} {dn dc : Nat} {d : List Sec} {ok : Nat → Prop} {w0 w : World} (hd : Sl secR ok w0 da dn dc d) :
    Calls Try.prog 50 #[.agg #[.int .i64 v, .int .i64 s, .slice da dn dc]] w fun e w' => e = .returned (.bool (longW (v, s, d))) ∧ Below w.heap.size w w' := by
  have hs := hd.small
  have hB0 : Below w.heap.size w (w.alloc (.cells #[.int .i64 v, .int .i64 s, .slice da dn dc] 42)) := (Below.refl _ _).alloc (Nat.le_refl _) _
  by_cases h : 30 < dn
  · go_enter Try.func50, Try.ntmps50
    go_wp2
    go_ret
    exact ⟨ret_bool (by rw [longW, hd.len, decide_eq_true h]; exact decide_eq_true (by omega)), hB0⟩
  · go_enter Try.func50, Try.ntmps50
    go_wp2
    go_ret
    exact ⟨ret_bool (by rw [longW, hd.len, decide_eq_false h, decide_eq_false (by omega)]), hB0⟩

set_option maxHeartbeats 1000000 in
/-- slices.IndexFunc with standby/standbylaw07.few$1. -/
theorem contains_long_idx {a : Option Addr} {n c : Nat} {l : List Wr} {ok : Nat → Prop} {w : World} (h : Sl wrR ok w a n c l) :
    Calls Try.prog 72 #[.slice a n c, .func (.func 50) #[] #[]] w fun e w' => ∃ z : Int, e = .returned (.int .i64 z) ∧ (0 ≤ z ↔ l.any longW = true) ∧ i64ok z ∧ Below w.heap.size w w' := by
  have hs := h.small
  go_enter Try.func72, Try.ntmps72
  go_wp2
  go_loopw [5, 8] (fun _ i wr => ∃ k : Nat, k ≤ n ∧ i = .int .i64 k ∧ Hid ((l.take k).any longW = false) ∧ Below w.heap.size w wr) (fun _ i _ => n - (intOf i).toNat)
  case atStart => exact ⟨0, Nat.zero_le _, rfl, rfl, Below.refl _ _⟩
  case round =>
    obtain ⟨k, hk, rfl, HT, hB⟩ := hrel
    by_cases hlt : k < n
    · obtain ⟨b, off, rfl, _, _⟩ := h.addr hlt
      obtain ⟨x, hx⟩ := h.get hlt
      obtain ⟨v, s, d⟩ := x; obtain ⟨da, dn, dc, hc0, hc1, hc2, hv, hs2, hd⟩ := (h.below hB).wr hx; have hds := hd.small
      have HX := Lib.hid hx
      clear hx
      cases hp : longW (v, s, d) with
      | true =>
        have HP := Lib.hid hp
        have hcall := long_any (v := v) (s := s) (w := wr) hd
        rw [hp] at hcall
        clear hp
        go_wp2_with (fail)
        refine hcall.mono ?_
        rintro e w1 ⟨rfl, hB1⟩
        go_wp2
        go_ret
        exact ⟨k, rfl, by rw [any_true HX.out HP.out]; simp, by unfold i64ok; omega, hB.trans (hB1.mono hB.size)⟩
      | false =>
        have HP := Lib.hid hp
        have hcall := long_any (v := v) (s := s) (w := wr) hd
        rw [hp] at hcall
        clear hp
        go_wp2_with (fail)
        refine hcall.mono ?_
        rintro e w1 ⟨rfl, hB1⟩
        go_wp2
        go_roundw
        case rel => exact ⟨k + 1, by omega, by go_num, by show _ = false; rw [take_any_succ HX.out, HT.out, HP.out]; rfl, hB.trans (hB1.mono hB.size)⟩
        case measure => simp [intOf]; omega
    · go_wp2
      go_ret
      obtain rfl : k = n := by omega
      have e := HT.out
      rw [take_all h.len] at e
      exact ⟨-1, rfl, by rw [e]; simp, by unfold i64ok; omega, hB⟩

theorem contains_long {a : Option Addr} {n c : Nat} {l : List Wr} {ok : Nat → Prop} {w : World} (h : Sl wrR ok w a n c l) :
    Calls Try.prog 49 #[.slice a n c, .func (.func 50) #[] #[]] w fun e w' => e = .returned (.bool (l.any longW)) ∧ Below w.heap.size w w' := by
  go_enter Try.func49, Try.ntmps49
  go_wp2_with fail
  refine (contains_long_idx h).mono ?_
  rintro e w1 ⟨z, rfl, hz, hi, hB⟩
  unfold i64ok at hi
  cases hp : l.any longW with
  | true =>
    have hz0 : 0 ≤ z := hz.2 hp
    have HP := Lib.hid hp
    clear hz hp
    go_wp2
    go_ret
    exact ⟨ret_bool HP.out.symm, hB⟩
  | false =>
    have hz0 : z < 0 := by rw [hp] at hz; simp at hz; omega
    have HP := Lib.hid hp
    clear hz hp
    go_wp2
    go_ret
    exact ⟨ret_bool (by rw [HP.out]; simp; omega), hB⟩


theorem fewW_any {a : Option Addr} {n c : Nat} {l : List Wr} {ok : Nat → Prop} {w : World} (h : Sl wrR ok w a n c l) :
    Calls Try.prog 20 #[.slice a n c] w fun e w' => e = .returned (.bool (fewW l)) ∧ Below w.heap.size w w' := by
  have hs := h.small
  by_cases hn : n ≤ 40
  · cases hc : l.any longW with
    | true =>
      go_enter Try.func20, Try.ntmps20
      go_wp2_with fail
      refine (contains_long h).mono ?_
      rintro e w1 ⟨rfl, hB1⟩
      rw [hc]
      go_wp2
      go_ret
      exact ⟨ret_bool (by rw [fewW, hc]; simp), hB1⟩
    | false =>
      go_enter Try.func20, Try.ntmps20
      go_wp2_with fail
      refine (contains_long h).mono ?_
      rintro e w1 ⟨rfl, hB1⟩
      rw [hc]
      go_wp2
      go_ret
      exact ⟨ret_bool (by rw [fewW, hc, h.len]; simp; omega), hB1⟩
  · go_enter Try.func20, Try.ntmps20
    go_wp2
    go_ret
    exact ⟨ret_bool (by rw [fewW, h.len, decide_eq_false hn]; rfl), Below.refl _ _⟩
theorem fewW_len {l : List Wr} (h : fewW l = true) : l.length ≤ 40 := by
  unfold fewW at h; simp at h; exact h.1
theorem fewW_each {l : List Wr} (h : fewW l = true) : ∀ x ∈ l, x.2.2.length ≤ 30 := by
  unfold fewW at h; simp [longW] at h; exact fun x hx => h.2 x.1 x.2.1 x.2.2 hx

end Go.Proofs.Ytldnpgbacakfeaa
