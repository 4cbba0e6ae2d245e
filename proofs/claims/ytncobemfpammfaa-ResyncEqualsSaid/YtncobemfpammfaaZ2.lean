/-
  Part 2 of the texts that the statement stands on.
-/
import Derived.Test.YtncobemfpammfaaZ1
import Derived.WalkSpells
set_option linter.all false
namespace Go.Proofs.Ytncobemfpammfaa
open Go.RowKit

theorem bad_any {x : Int} {w : World} (_hx : i64ok x) : Calls Try.prog 80 #[.int .i64 x] w fun e w' => e = .returned (.bool (badSize x)) ∧ Below w.heap.size w w' := by
  by_cases h1 : x < 1
  · go_enter Try.func80, Try.ntmps80
    go_wp2
    go_ret
    exact ⟨ret_bool (by simp [badSize, h1]), Below.refl _ _⟩
  · by_cases h2 : 4096 < x
    · go_enter Try.func80, Try.ntmps80
      go_wp2
      go_ret
      exact ⟨ret_bool (by simp [badSize, h2]), Below.refl _ _⟩
    · go_enter Try.func80, Try.ntmps80
      go_wp2
      go_ret
      exact ⟨ret_bool (by simp [badSize]; omega), Below.refl _ _⟩

set_option maxHeartbeats 1000000 in
theorem contains_bad_idx {a : Option Addr} {n c : Nat} {l : List Int} {ok : Nat → Prop} {w : World} (h : Sl intR ok w a n c l) :
    Calls Try.prog 90 #[.slice a n c, .func (.func 80) #[] #[]] w fun e w' => ∃ z : Int, e = .returned (.int .i64 z) ∧ (0 ≤ z ↔ l.any badSize = true) ∧ i64ok z ∧ Below w.heap.size w w' := by
  have hs := h.small
  go_enter Try.func90, Try.ntmps90
  go_wp2
  go_loopw [5, 8] (fun _ i wr => ∃ k : Nat, k ≤ n ∧ i = .int .i64 k ∧ Hid ((l.take k).any badSize = false) ∧ Below w.heap.size w wr) (fun _ i _ => n - (intOf i).toNat)
  case atStart => exact ⟨0, Nat.zero_le _, rfl, rfl, Below.refl _ _⟩
  case round =>
    obtain ⟨k, hk, rfl, HT, hB⟩ := hrel
    by_cases hlt : k < n
    · obtain ⟨b, off, rfl, _, _⟩ := h.addr hlt
      obtain ⟨x, hx⟩ := h.get hlt
      obtain ⟨hcell, hi⟩ := (h.below hB).int hx
      have HX := Lib.hid hx
      clear hx
      cases hp : badSize x with
      | true =>
        have HP := Lib.hid hp
        have hcall := bad_any (w := wr) hi
        rw [hp] at hcall
        clear hp
        go_wp2_with (fail)
        refine hcall.mono ?_
        rintro e w1 ⟨rfl, hB1⟩
        go_wp2
        go_ret
        exact ⟨k, rfl, by rw [any_true HX.out HP.out]; simp, by unfold i64ok; omega, hB.trans (hB1.mono hB.size)⟩
      | false =>
        have HP := Lib.hid hp
        have hcall := bad_any (w := wr) hi
        rw [hp] at hcall
        clear hp
        go_wp2_with (fail)
        refine hcall.mono ?_
        rintro e w1 ⟨rfl, hB1⟩
        go_wp2
        go_roundw
        case rel => exact ⟨k + 1, by omega, by go_num, by show _ = false; rw [take_any_succ HX.out, HT.out, HP.out]; rfl, hB.trans (hB1.mono hB.size)⟩
        case measure => simp [intOf]; omega
    · go_wp2
      go_ret
      obtain rfl : k = n := by omega
      have e := HT.out
      rw [take_all h.len] at e
      exact ⟨-1, rfl, by rw [e]; simp, by unfold i64ok; omega, hB⟩

theorem contains_bad {a : Option Addr} {n c : Nat} {l : List Int} {ok : Nat → Prop} {w : World} (h : Sl intR ok w a n c l) :
    Calls Try.prog 79 #[.slice a n c, .func (.func 80) #[] #[]] w fun e w' => e = .returned (.bool (l.any badSize)) ∧ Below w.heap.size w w' := by
  go_enter Try.func79, Try.ntmps79
  go_wp2_with fail
  refine (contains_bad_idx h).mono ?_
  rintro e w1 ⟨z, rfl, hz, hi, hB⟩
  unfold i64ok at hi
  cases hp : l.any badSize with
  | true =>
    have hz0 : 0 ≤ z := hz.2 hp
    have HP := Lib.hid hp
    clear hz hp
    go_wp2
    go_ret
    exact ⟨ret_bool HP.out.symm, hB⟩
  | false =>
    have hz0 : z < 0 := by rw [hp] at hz; simp at hz; omega
    have HP := Lib.hid hp
    clear hz hp
    go_wp2
    go_ret
    exact ⟨ret_bool (by rw [HP.out]; simp; omega), hB⟩


theorem checkSizes_any {a : Option Addr} {n c : Nat} {l : List Int} {ok : Nat → Prop} {w : World} (h : Sl intR ok w a n c l) :
    Calls Try.prog 61 #[.slice a n c] w fun e w' => e = .returned (.int .i64 (sizesErr l)) ∧ Below w.heap.size w w' := by
  have hs := h.small
  by_cases hn1 : n < 1
  · obtain rfl : n = 0 := by omega
    go_enter Try.func61, Try.ntmps61
    go_wp2
    go_ret
    exact ⟨by simp [sizesErr, h.len], Below.refl _ _⟩
  by_cases hn8 : 8 < n
  · go_enter Try.func61, Try.ntmps61
    go_wp2
    go_ret
    exact ⟨ret_int (by rw [sizesErr, if_pos (by rw [h.len]; exact .inr hn8)]), Below.refl _ _⟩
  go_enter Try.func61, Try.ntmps61
  go_wp2_with fail
  refine (contains_bad h).mono ?_
  rintro e w1 ⟨rfl, hB⟩
  cases hp : l.any badSize with
  | true =>
    have HP := Lib.hid hp; clear hp
    go_wp2
    go_ret
    exact ⟨ret_int (by rw [sizesErr, if_neg (by rw [h.len]; omega), if_pos HP.out]), hB⟩
  | false =>
    have HP := Lib.hid hp; clear hp
    go_wp2
    go_ret
    exact ⟨ret_int (by rw [sizesErr, if_neg (by rw [h.len]; omega), HP.out]; rfl), hB⟩

end Go.Proofs.Ytncobemfpammfaa

namespace Go.Proofs.Ytncobemfpammfaa
open Go.RowKit

theorem len1_any {a : Option Addr} {n c : Nat} {l : List Sec} {ok : Nat → Prop} {w : World} (h : Sl secR ok w a n c l) :
    Calls Try.prog 82 #[.slice a n c] w fun e w' => ∃ z : Int, e = .returned (.int .i64 z) ∧ intR.rd (w.heap.size ≤ ·) w' [.int .i64 z] (l.length : Int) ∧ Below w.heap.size w w' := by
  have hs := h.small
  go_enter Try.func82, Try.ntmps82
  go_wp2
  go_ret
  exact ⟨_, rfl, ⟨by rw [h.len], by rw [h.len]; exact h.i64⟩, Below.refl _ _⟩

set_option maxHeartbeats 1000000 in
theorem mapped_len {a : Option Addr} {n c : Nat} {l : List (List Sec)} {ok : Nat → Prop} {w : World} (h : Sl secsR ok w a n c l) (hn : n ≤ 1000000) :
    Calls Try.prog 81 #[.slice a n c, .func (.func 82) #[] #[]] w fun e w' => ∃ v, e = .returned v ∧ OwnD intR w.heap.size w'.heap.size 3 w' v (l.map (fun v : List Sec => (v.length : Int))) ∧ Below w.heap.size w w' := by
  go_enter Try.func81, Try.ntmps81
  go_wp2_with (at_make; refine wpList_make0 (r := intR) (B := w.heap.size) Try.slInt rfl _ _ rfl rfl rfl ?b2 ?b3 ?b4 ?_)
  case b2 => omega
  case b3 => unfold maxLen; omega
  case b4 => exact Nat.le_refl _
  intro w0 hown0 hB0
  have hs := h.small
  go_wp2
  go_loopw [5, 13] (fun v i wr => ∃ k : Nat, k ≤ n ∧ i = .int .i64 k ∧ OwnD intR w.heap.size wr.heap.size 3 wr v ((l.map (fun v : List Sec => (v.length : Int))).take k) ∧ Below w.heap.size w wr) (fun _ i _ => n - (intOf i).toNat)
  case atStart => exact ⟨0, Nat.zero_le _, rfl, hown0 _, hB0⟩
  case round =>
    obtain ⟨k, hk, rfl, hown, hB⟩ := hrel
    by_cases hlt : k < n
    · obtain ⟨b, off, rfl, _, _⟩ := h.addr hlt
      obtain ⟨x, hx⟩ := h.get hlt
      obtain ⟨a', n', c', hcell, hx'⟩ := (h.below hB).slice hx
      have hlen : ((l.map (fun v : List Sec => (v.length : Int))).take k).length = k := by have := h.len; simp; omega
      have HL := Lib.hid hlen; clear hlen
      have HX := Lib.hid hx; clear hx
      go_wp2_with (fail)
      refine (len1_any hx').mono ?_
      rintro e w1 ⟨z, rfl, hrd, hB1⟩
      have hownl := hown.lt
      have hz1 := hB1.size
      have hz := hB.size
      go_wp2_with (at_builtin; refine wpList_appD Try.slInt rfl _ _ rfl rfl ((hown.below hB1).below ((Below.refl _ _).alloc (Nat.le_refl _) _)) rfl (news_new w1 3 #[.int .i64 z]) (rd_alloc hrd) (fun k hk => (hownl k hk).2) ?c1 ?c2 ?c3 ?c4 ?_)
      case c1 => rw [HL.out]; unfold maxLen; omega
      case c2 => rw [HL.out]; omega
      case c3 => omega
      case c4 => simp; omega
      intro v' w2 hown1 hgrow _
      go_wp2
      go_roundw
      case rel => exact ⟨k + 1, by omega, by go_num, by
        have e : (l.map (fun v : List Sec => (v.length : Int))).take (k + 1) = (l.map (fun v : List Sec => (v.length : Int))).take k ++ [(fun v : List Sec => (v.length : Int)) x] := take_succ_get (by rw [List.getElem?_map, HX.out]; rfl)
        rw [e]; exact hown1, ((hB.trans (hB1.mono hB.size)).alloc (by omega) _).grown hgrow (by simp; omega) (fun k hk => (hownl k hk).1)⟩
      case measure => simp [intOf]; omega
    · go_wp2
      go_ret
      obtain rfl : k = n := by omega
      rw [take_all (by rw [List.length_map]; exact h.len)] at hown
      exact ⟨_, rfl, hown, hB⟩


theorem sizesI_any {a : Option Addr} {n c : Nat} {im : List (List Sec)} {ok : Nat → Prop} {w : World} (h : Sl secsR ok w a n c im) (hn : n ≤ 1000000) :
    Calls Try.prog 62 #[.slice a n c] w fun e w' => ∃ a' n' c', e = .returned (.slice a' n' c') ∧ Sl intR (w.heap.size ≤ ·) w' a' n' c' (lens im) ∧ Below w.heap.size w w' := by
  go_enter Try.func62, Try.ntmps62
  go_wp2_with fail
  refine (mapped_len h hn).mono ?_
  rintro e w1 ⟨v, rfl, hown, hB⟩
  obtain ⟨a', n', c', rfl, h1⟩ := hown.sl
  go_wp2
  go_ret
  exact ⟨_, _, _, rfl, h1, hB⟩

theorem checkI_any {a : Option Addr} {n c : Nat} {im : List (List Sec)} {ok : Nat → Prop} {w : World} (h : Sl secsR ok w a n c im) (hn : n ≤ 1000000) :
    Calls Try.prog 38 #[.slice a n c] w fun e w' => e = .returned (.int .i64 (imgErr im)) ∧ Below w.heap.size w w' := by
  go_enter Try.func38, Try.ntmps38
  go_wp2_with fail
  refine (sizesI_any h hn).mono ?_
  rintro e w1 ⟨a', n', c', rfl, h1, hB⟩
  go_wp2_with fail
  refine (checkSizes_any h1).mono ?_
  rintro e w2 ⟨rfl, hB2⟩
  go_wp2
  go_ret
  exact ⟨rfl, hB.trans (hB2.mono hB.size)⟩

end Go.Proofs.Ytncobemfpammfaa

namespace Go.Proofs.Ytncobemfpammfaa
open Go.RowKit

def orNil {α : Type} (e : Int) (l : List α) : List α := if e = 0 then l else []
theorem orNil_ok {α : Type} {e : Int} {l : List α} (h : e = 0) : orNil e l = l := if_pos h
theorem orNil_bad {α : Type} {e : Int} {l : List α} (h : ¬ e = 0) : orNil e l = [] := if_neg h

set_option maxHeartbeats 1000000 in
theorem clone_sec {a : Option Addr} {n c : Nat} {l : List Sec} {ok : Nat → Prop} {w : World} (h : Sl secR ok w a n c l) (hn : n ≤ 1000000) :
    Calls Try.prog 40 #[.slice a n c] w fun e w' => ∃ a' n' c', e = .returned (.slice a' n' c') ∧ (ownRowR secR 52).rd (w.heap.size ≤ ·) w' [.slice a' n' c'] l ∧ Below w.heap.size w w' := by
  have heq := fun (a : Option Addr) (n c : Nat) (w : World) => Lib.run_eql_slice_nil (P := Try.prog) w 49 52 a n c 0 0 Try.underlying49
  cases a with
  | none =>
    have h0 : l = [] := List.eq_nil_of_length_eq_zero (by rw [h.len]; have := h.nil rfl; have := h.cap; omega)
    have H0 := Lib.hid h0; clear h0
    go_enter Try.func40, Try.ntmps40
    go_wp2
    go_ret
    refine ⟨_, _, _, rfl, ?_, Below.refl _ _⟩
    rw [H0.out]
    exact ownRowR.mk (Own.nil _ _ _ _ _) (fun _ => .inl rfl)
  | some ad =>
    have hs := h.small
    go_enter Try.func40, Try.ntmps40
    go_wp2_with (at_builtin; refine wpList_app Try.slSec rfl _ _ rfl rfl (Own.lit0 secR (ok := fun _ => False) (Nat.le_refl _)) rfl ((Src.of_sl (h.below ((Below.refl _ _).alloc (Nat.le_refl _) _))).flat Flat.sec) ?c1 ?c2 ?c3 ?_)
    case c1 => simp; unfold maxLen; omega
    case c2 => simp; omega
    case c3 => simp
    intro v' w1 hown hgrow hat
    obtain ⟨a', n', c', rfl, _⟩ := hown.sl
    go_wp2
    go_ret
    refine ⟨_, _, _, rfl, ownRowR.mk (by simpa using hown) (fun e => ?_), ((Below.refl _ _).alloc (Nat.le_refl _) _).grown hgrow (by simp) (fun k hk => by cases hk; exact Nat.le_refl _)⟩
    subst e
    obtain ⟨xs, h1, _⟩ := hown
    rcases h1.2 with ⟨hv, _⟩ | ⟨g, cap, cur, hv, _⟩
    · exact .inl hv
    · exact .inr ⟨g, cap, by simpa using hv⟩


end Go.Proofs.Ytncobemfpammfaa
