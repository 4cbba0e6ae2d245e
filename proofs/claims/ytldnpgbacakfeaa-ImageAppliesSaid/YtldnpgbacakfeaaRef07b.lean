/-
  The reference of layer 7: writes that fit; images that are the same; two images that are compared.
-/
import Derived.Test.YtldnpgbacakfeaaRef07a
import Derived.WalkSmall
namespace Go.Proofs.Ytldnpgbacakfeaa
open Go.RowKit

def fitErr (sizes : List Int) (vol start : Int) (len : Nat) : Int :=
  if vol < 0 ∨ (sizes.length : Int) ≤ vol then 7 else if len = 0 then 1
  else if start < 0 ∨ sizes.getD vol.toNat 0 ≤ start ∨ sizes.getD vol.toNat 0 - start < len then 2 else 0

theorem getD_of {α : Type} {l : List α} {k : Nat} {x d : α} (h : l[k]? = some x) : l.getD k d = x := by simp [List.getD, h]

set_option maxHeartbeats 2000000 in
theorem fitsSizes_any {a : Option Addr} {n c : Nat} {l : List Int} {ok : Nat → Prop} {w : World} (h : Sl intR ok w a n c l) {vol start : Int} (hv : i64ok vol) (hst : i64ok start)
    {da : Option Addr} {dn dc : Nat} (hd : dn ≤ 9223372036854775807) (hsz : ∀ x ∈ l, 0 ≤ x) :
    Calls Try.prog 52 #[.slice a n c, .agg #[.int .i64 vol, .int .i64 start, .slice da dn dc]] w fun e w' => e = .returned (.int .i64 (fitErr l vol start dn)) ∧ Below w.heap.size w w' := by
  have hs := h.small
  unfold i64ok at hv hst
  have hlen := h.len
  have HL := Lib.hid hlen; clear hlen
  by_cases h1 : vol < 0
  · go_enter Try.func52, Try.ntmps52
    go_wp2
    go_ret
    exact ⟨ret_int (by rw [fitErr, if_pos (.inl h1)]), (Below.refl _ _).alloc (Nat.le_refl _) _⟩
  obtain ⟨k, rfl⟩ := Int.eq_ofNat_of_zero_le (Int.not_lt.1 h1)
  by_cases h2 : n ≤ k
  · go_enter Try.func52, Try.ntmps52
    go_wp2
    go_ret
    exact ⟨ret_int (by rw [fitErr, if_pos (.inr (by rw [HL.out]; omega))]), (Below.refl _ _).alloc (Nat.le_refl _) _⟩
  have hlt : k < n := by omega
  obtain ⟨b, off, rfl, _, _⟩ := h.addr hlt
  obtain ⟨x, hx⟩ := h.get hlt
  have HX := Lib.hid hx
  have hx0 := hsz x (List.mem_of_getElem? hx)
  obtain ⟨hcell, hi⟩ := ((h.below ((Below.refl _ _).alloc (Nat.le_refl _) (.cells #[.int .i64 k, .int .i64 start, .slice da dn dc] 42))).int hx)
  unfold i64ok at hi
  clear hx hsz
  by_cases h3 : dn = 0
  · subst h3
    go_enter Try.func52, Try.ntmps52
    go_wp2
    go_ret
    exact ⟨ret_int (by rw [fitErr, if_neg (by rw [HL.out]; omega), if_pos rfl]), (Below.refl _ _).alloc (Nat.le_refl _) _⟩
  have h3' : 0 < dn := by omega
  clear h3
  by_cases h4 : start < 0
  · have d1 : decide (start < 0) = true := by simp; omega
    go_enter Try.func52, Try.ntmps52
    go_wp2_with fail
    refine wp_region_quiet_lit (by kernel_rfl) (by kernel_rfl) ?_
    repeat (go_big_quiet_step (fail))
    refine wpQuiet_nil ?_
    rintro _ ⟨nq, rfl⟩
    go_wp2
    go_ret
    exact ⟨ret_int (by rw [fitErr, if_neg (by rw [HL.out]; omega), if_neg (by omega), if_pos (.inl h4)]), below_drewN ((Below.refl _ _).alloc (Nat.le_refl _) _) _⟩
  by_cases h5 : x ≤ start
  · have d1 : decide (start < 0) = false := by simp; omega
    have d2 : decide (x ≤ start) = true := by simp; omega
    go_enter Try.func52, Try.ntmps52
    go_wp2_with fail
    refine wp_region_quiet_lit (by kernel_rfl) (by kernel_rfl) ?_
    repeat (go_big_quiet_step (fail))
    refine wpQuiet_nil ?_
    rintro _ ⟨nq, rfl⟩
    go_wp2
    go_ret
    exact ⟨ret_int (by rw [fitErr, if_neg (by rw [HL.out]; omega), if_neg (by omega), if_pos (.inr (.inl (by rw [Int.toNat_natCast, getD_of HX.out]; exact h5)))]), below_drewN ((Below.refl _ _).alloc (Nat.le_refl _) _) _⟩
  have h4' : 0 ≤ start := by omega
  have h5' : start < x := by omega
  have d1 : decide (start < 0) = false := by simp; omega
  have d2 : decide (x ≤ start) = false := by simp; omega
  by_cases h6 : x - start < dn
  · have d3 : decide (x - start < (dn : Int)) = true := by simp; omega
    go_enter Try.func52, Try.ntmps52
    go_wp2_with fail
    refine wp_region_quiet_lit (by kernel_rfl) (by kernel_rfl) ?_
    repeat (go_big_quiet_step (fail))
    refine wpQuiet_nil ?_
    rintro _ ⟨nq, rfl⟩
    go_wp2
    go_ret
    exact ⟨ret_int (by rw [fitErr, if_neg (by rw [HL.out]; omega), if_neg (by omega), if_pos (.inr (.inr (by rw [Int.toNat_natCast, getD_of HX.out]; exact h6)))]), below_drewN ((Below.refl _ _).alloc (Nat.le_refl _) _) _⟩
  · have h6' : (dn : Int) ≤ x - start := by omega
    have d3 : decide (x - start < (dn : Int)) = false := by simp; omega
    go_enter Try.func52, Try.ntmps52
    go_wp2_with fail
    refine wp_region_quiet_lit (by kernel_rfl) (by kernel_rfl) ?_
    repeat (go_big_quiet_step (fail))
    refine wpQuiet_nil ?_
    rintro _ ⟨nq, rfl⟩
    go_wp2
    go_ret
    exact ⟨ret_int (by rw [fitErr, if_neg (by rw [HL.out]; omega), if_neg (by omega), if_neg (by rw [Int.toNat_natCast, getD_of HX.out]; omega)]), below_drewN ((Below.refl _ _).alloc (Nat.le_refl _) _) _⟩

end Go.Proofs.Ytldnpgbacakfeaa
