/-
  Layer 7: new images; copies.
-/
import Derived.Test.YtldnpgbacakfeaaImg2
import Derived.WalkSpells
namespace Go.Proofs.Ytldnpgbacakfeaa
open Go.RowKit

/-- The list, where there is no error. -/
def orNil {α : Type} (e : Int) (l : List α) : List α := if e = 0 then l else []
theorem orNil_ok {α : Type} {e : Int} {l : List α} (h : e = 0) : orNil e l = l := if_pos h
theorem orNil_bad {α : Type} {e : Int} {l : List α} (h : ¬ e = 0) : orNil e l = [] := if_neg h

def zeros (n : Int) : List Sec := List.replicate n.toNat zeroSec
def newImg (l : List Int) : List (List Sec) := l.map zeros
theorem secR_zero (w : World) : secR.rd (fun _ => False) w (Value.agg #[.int .u8 0, .int .u8 0, .int .u8 0, .int .u8 0, .int .u8 0, .int .u8 0, .int .u8 0, .int .u8 0]).cells.toList zeroSec := by
  show _ = secCells zeroSec
  rfl

theorem make1_any {m : Nat} (hm : m ≤ 4096) {w : World} :
    Calls Try.prog 45 #[.int .i64 m] w fun e w' => ∃ a n c, e = .returned (.slice a n c) ∧ secsR.rd (w.heap.size ≤ ·) w' [.slice a n c] (zeros m) ∧ Below w.heap.size w w' := by
  go_enter Try.func45, Try.ntmps45
  go_wp2_with (at_make; refine wpList_makeN (B := w.heap.size) Try.slSec rfl _ _ rfl secR_zero rfl rfl ?b2 ?b3 ?b4 ?_)
  case b2 => omega
  case b3 => unfold maxLen; omega
  case b4 => exact Nat.le_refl _
  intro w1 hown hB
  go_wp2
  go_ret
  obtain ⟨a, n, c, e, h1⟩ := hown.sl
  cases e
  exact ⟨_, _, _, rfl, ⟨_, _, _, rfl, by rw [zeros, Int.toNat_natCast]; exact h1.mono fun b hb => hb.elim (fun h => h.elim) id⟩, hB⟩

set_option maxHeartbeats 1000000 in
/-- mapped, with standby/image.New$1. -/
theorem mapped_new {a : Option Addr} {n c : Nat} {l : List Int} {ok : Nat → Prop} {w : World} (h : Sl intR ok w a n c l) (hn : n ≤ 1000000)(hl : ∀ x ∈ l, 0 ≤ x ∧ x ≤ 4096) :
    Calls Try.prog 44 #[.slice a n c, .func (.func 45) #[] #[]] w fun e w' => ∃ v, e = .returned v ∧ OwnD secsR w.heap.size w'.heap.size 40 w' v (l.map zeros) ∧ Below w.heap.size w w' := by
  go_enter Try.func44, Try.ntmps44
  go_wp2_with (at_make; refine wpList_make0 (r := secsR) (B := w.heap.size) Try.slSecs rfl _ _ rfl rfl rfl ?b2 ?b3 ?b4 ?_)
  case b2 => omega
  case b3 => unfold maxLen; omega
  case b4 => exact Nat.le_refl _
  intro w0 hown0 hB0
  have hs := h.small
  go_wp2
  go_loopw [5, 13] (fun v i wr => ∃ k : Nat, k ≤ n ∧ i = .int .i64 k ∧ OwnD secsR w.heap.size wr.heap.size 40 wr v ((l.map zeros).take k) ∧ Below w.heap.size w wr) (fun _ i _ => n - (intOf i).toNat)
  case atStart => exact ⟨0, Nat.zero_le _, rfl, hown0 _, hB0⟩
  case round =>
    obtain ⟨k, hk, rfl, hown, hB⟩ := hrel
    by_cases hlt : k < n
    · obtain ⟨b, off, rfl, _, _⟩ := h.addr hlt
      obtain ⟨x, hx⟩ := h.get hlt
      obtain ⟨hcell, hi⟩ := (h.below hB).int hx; obtain ⟨hx0, hx1⟩ := hl x (List.mem_of_getElem? hx); obtain ⟨m, rfl⟩ := Int.eq_ofNat_of_zero_le hx0
      have hlen : ((l.map zeros).take k).length = k := by have := h.len; simp; omega
      have HL := Lib.hid hlen; clear hlen
      have HX := Lib.hid hx; clear hx
      go_wp2_with (fail)
      refine (make1_any (m := m) (by omega)).mono ?_
      rintro e w1 ⟨a', n', c', rfl, hrd, hB1⟩
      have hownl := hown.lt
      have hz1 := hB1.size
      have hz := hB.size
      go_wp2_with (at_builtin; refine wpList_appD Try.slSecs rfl _ _ rfl rfl ((hown.below hB1).below ((Below.refl _ _).alloc (Nat.le_refl _) _)) rfl (news_new w1 40 #[.slice a' n' c']) (rd_alloc hrd) (fun k hk => (hownl k hk).2) ?c1 ?c2 ?c3 ?c4 ?_)
      case c1 => rw [HL.out]; unfold maxLen; omega
      case c2 => rw [HL.out]; omega
      case c3 => omega
      case c4 => simp; omega
      intro v' w2 hown1 hgrow _
      go_wp2
      go_roundw
      case rel => exact ⟨k + 1, by omega, by go_num, by
        have e : (l.map zeros).take (k + 1) = (l.map zeros).take k ++ [zeros m] := take_succ_get (by rw [List.getElem?_map, HX.out]; rfl)
        rw [e]; exact hown1, ((hB.trans (hB1.mono hB.size)).alloc (by omega) _).grown hgrow (by simp; omega) (fun k hk => (hownl k hk).1)⟩
      case measure => simp [intOf]; omega
    · go_wp2
      go_ret
      obtain rfl : k = n := by omega
      rw [take_all (by rw [List.length_map]; exact h.len)] at hown
      exact ⟨_, rfl, hown, hB⟩


set_option maxHeartbeats 1000000 in
theorem newI_any {a : Option Addr} {n c : Nat} {l : List Int} {ok : Nat → Prop} {w : World} (h : Sl intR ok w a n c l) (hn : n ≤ 1000000) :
    Calls Try.prog 15 #[.slice a n c] w (RetSlE secsR (w.heap.size ≤ ·) w (orNil (sizesErr l) (newImg l)) (sizesErr l)) := by
  by_cases he : sizesErr l = 0
  · have hb : (sizesErr l != 0) = false := by simp [he]
    have hl : ∀ x ∈ l, 0 ≤ x ∧ x ≤ 4096 := fun x hx => by
      unfold sizesErr at he
      split at he
      · omega
      · split at he
        · omega
        · rename_i h2
          have := List.any_eq_false.1 (by simpa using h2) x hx
          simp [badSize] at this
          omega
    have HE := Lib.hid he; clear he
    go_enter Try.func15, Try.ntmps15
    go_wp2_with fail
    refine (checkSizes_any h).mono ?_
    rintro e w1 ⟨rfl, hB⟩
    go_wp2_with fail
    refine (mapped_new (h.below hB) hn hl).mono ?_
    rintro e w2 ⟨v, rfl, hown, hB2⟩
    obtain ⟨a', n', c', rfl, h1⟩ := hown.sl
    go_wp2
    go_ret2
    exact RetSlE.mk HE.out.symm (by rw [orNil_ok HE.out]; exact h1.mono (fun b hb => Nat.le_trans hB.size hb)) (hB.trans (hB2.mono hB.size))
  · have hb : (sizesErr l != 0) = true := by simp [he]
    have HE := Lib.hid he; clear he
    go_enter Try.func15, Try.ntmps15
    go_wp2_with fail
    refine (checkSizes_any h).mono ?_
    rintro e w1 ⟨rfl, hB⟩
    go_wp2
    go_ret2
    exact RetSlE.mk rfl (by rw [orNil_bad HE.out]; exact Sl.nil0 _ _ _) hB

set_option maxHeartbeats 1000000 in
/-- slices.Clone at sectors. -/
theorem clone_sec {a : Option Addr} {n c : Nat} {l : List Sec} {ok : Nat → Prop} {w : World} (h : Sl secR ok w a n c l) (hn : n ≤ 1000000) :
    Calls Try.prog 58 #[.slice a n c] w fun e w' => ∃ a' n' c', e = .returned (.slice a' n' c') ∧ (ownRowR secR 52).rd (w.heap.size ≤ ·) w' [.slice a' n' c'] l ∧ Below w.heap.size w w' := by
  have heq := fun (a : Option Addr) (n c : Nat) (w : World) => Lib.run_eql_slice_nil (P := Try.prog) w 40 52 a n c 0 0 Try.underlying40
  cases a with
  | none =>
    have h0 : l = [] := List.eq_nil_of_length_eq_zero (by rw [h.len]; have := h.nil rfl; have := h.cap; omega)
    have H0 := Lib.hid h0; clear h0
    go_enter Try.func58, Try.ntmps58
    go_wp2
    go_ret
    refine ⟨_, _, _, rfl, ?_, Below.refl _ _⟩
    rw [H0.out]
    exact ownRowR.mk (Own.nil _ _ _ _ _) (fun _ => .inl rfl)
  | some ad =>
    have hs := h.small
    go_enter Try.func58, Try.ntmps58
    go_wp2_with (at_builtin; refine wpList_app Try.slSec rfl _ _ rfl rfl (Own.lit0 secR (ok := fun _ => False) (Nat.le_refl _)) rfl ((Src.of_sl (h.below ((Below.refl _ _).alloc (Nat.le_refl _) _))).flat Flat.sec) ?c1 ?c2 ?c3 ?_)
    case c1 => simp; unfold maxLen; omega
    case c2 => simp; omega
    case c3 => simp
    intro v' w1 hown hgrow hat
    obtain ⟨a', n', c', rfl, _⟩ := hown.sl
    go_wp2
    go_ret
    refine ⟨_, _, _, rfl, ownRowR.mk (by simpa using hown) (fun e => ?_), ((Below.refl _ _).alloc (Nat.le_refl _) _).grown hgrow (by simp) (fun k hk => by cases hk; exact Nat.le_refl _)⟩
    subst e
    obtain ⟨xs, h1, _⟩ := hown
    rcases h1.2 with ⟨hv, _⟩ | ⟨g, cap, cur, hv, _⟩
    · exact .inl hv
    · exact .inr ⟨g, cap, by simpa using hv⟩


end Go.Proofs.Ytldnpgbacakfeaa
