/-
  Layer 7: the writes of the extents of one volume.
-/
import Derived.Test.YtldnpgbacakfeaaImg13
namespace Go.Proofs.Ytldnpgbacakfeaa
open Go.RowKit

/-- What an extent of volume k writes. -/
def wrOf (k : Nat) (v : List Sec) (p : Ext) : Wr := ((k : Int), p.1, cut v p.1 p.2)
theorem lt_alloc {w : World} {o : Obj} {k : Nat} (h : k < w.heap.size) : k < (w.alloc o).heap.size := by rw [World.size_alloc]; omega

set_option maxRecDepth 100000 in
set_option maxHeartbeats 2000000 in
/-- mapped, with standby/image.Patch$1. -/
theorem mapped_patch {a : Option Addr} {n c : Nat} {l : List Ext} {ok : Nat → Prop} {w : World} (h : Sl extR ok w a n c l) (hn : n ≤ 1000000) {Bi Bt : Nat} {kk : Nat} {ai : Option Addr} {ni ci : Nat} {im : List (List Sec)} {oki : Nat → Prop} (hi : w.cell? ⟨Bi, 0, none⟩ = some (.int .i64 kk)) (ht : w.cell? ⟨Bt, 0, none⟩ = some (.slice ai ni ci)) (him : Sl secsR oki w ai ni ci im) {vv : List Sec} (hvv : im[kk]? = some vv) (hv6 : vv.length ≤ 1000000) (hkk : kk ≤ 1000000) (hwin : Within vv.length l) :
    Calls Try.prog 61 #[.slice a n c, .func (.func 62) #[] #[.pointer (some ⟨Bi, 0, none⟩), .pointer (some ⟨Bt, 0, none⟩)]] w fun e w' => ∃ v, e = .returned v ∧ OwnD wrR w.heap.size w'.heap.size 42 w' v (l.map (wrOf kk vv)) ∧ Below w.heap.size w w' := by
  go_enter Try.func61, Try.ntmps61
  go_wp2_with (at_make; refine wpList_make0 (r := wrR) (B := w.heap.size) Try.slWr rfl _ _ rfl rfl rfl ?b2 ?b3 ?b4 ?_)
  case b2 => omega
  case b3 => unfold maxLen; omega
  case b4 => exact Nat.le_refl _
  intro w0 hown0 hB0
  have hs := h.small
  go_wp2
  go_loopw [5, 13] (fun v i wr => ∃ k : Nat, k ≤ n ∧ i = .int .i64 k ∧ OwnD wrR w.heap.size wr.heap.size 42 wr v ((l.map (wrOf kk vv)).take k) ∧ Below w.heap.size w wr) (fun _ i _ => n - (intOf i).toNat)
  case atStart => exact ⟨0, Nat.zero_le _, rfl, hown0 _, hB0⟩
  case round =>
    obtain ⟨k, hk, rfl, hown, hB⟩ := hrel
    by_cases hlt : k < n
    · obtain ⟨b, off, rfl, _, _⟩ := h.addr hlt
      obtain ⟨x, hx⟩ := h.get hlt
      obtain ⟨s, m⟩ := x
      have hw := hwin _ (List.mem_of_getElem? hx)
      obtain ⟨s, rfl⟩ := Int.eq_ofNat_of_zero_le hw.1
      obtain ⟨m, rfl⟩ := Int.eq_ofNat_of_zero_le (Int.le_trans (by decide) hw.2.1)
      obtain ⟨hc0, hc1, i0, i1⟩ := (h.below hB).ext hx
      have hw3 : s + m ≤ vv.length := by have := hw.2.2; simp only at this; omega
      have hBa : Below w.heap.size w (wr.alloc (.cells #[.int .i64 s, .int .i64 m] 59)) := hB.alloc hB.size _
      have hci := (hBa.cell (p := ⟨Bi, 0, none⟩) (World.block_lt_of_cell? w _ hi)).trans hi
      have hct := (hBa.cell (p := ⟨Bt, 0, none⟩) (World.block_lt_of_cell? w _ ht)).trans ht
      have hlen : ((l.map (wrOf kk vv)).take k).length = k := by have := h.len; simp; omega
      have HL := Lib.hid hlen; clear hlen
      have HX := Lib.hid hx; clear hx
      go_wp2_with (fail)
      refine (patch1_any hci hct (him.below hBa) hvv hv6 hw3 hkk).mono ?_
      rintro e w1 ⟨a2, n2, c2, rfl, hrd, hB1⟩
      have hownl := hown.lt
      have hB2 : Below wr.heap.size wr w1 := ((Below.refl _ _).alloc (Nat.le_refl _) _).trans (hB1.mono (by simp))
      have hz2 := hB2.size
      have hrd2 := wrR.mono (ok' := (wr.heap.size ≤ ·)) (fun b hb => by rw [World.size_alloc] at hb; omega) hrd
      have hz1 := hB1.size
      have hz := hB.size
      go_wp2_with (at_builtin; refine wpList_appD Try.slWr rfl _ _ rfl rfl ((hown.below hB2).below ((Below.refl _ _).alloc (Nat.le_refl _) _)) rfl (news_new w1 42 #[.int .i64 kk, .int .i64 s, .slice a2 n2 c2]) (rd_alloc hrd2) (fun k hk => (hownl k hk).2) ?c1 ?c2 ?c3 ?c4 ?_)
      case c1 => rw [HL.out]; unfold maxLen; omega
      case c2 => rw [HL.out]; omega
      case c3 => omega
      case c4 => simp; omega
      intro v' w2 hown1 hgrow _
      go_wp2
      go_roundw
      case rel => exact ⟨k + 1, by omega, by go_num, by
        have e : (l.map (wrOf kk vv)).take (k + 1) = (l.map (wrOf kk vv)).take k ++ [(wrOf kk vv) ((s : Int), (m : Int))] := take_succ_get (by rw [List.getElem?_map, HX.out]; rfl)
        rw [e]; exact hown1, ((hB.trans (hB2.mono hB.size)).alloc (by omega) _).grown hgrow (by simp; omega) (fun k hk => (hownl k hk).1)⟩
      case measure => simp [intOf]; omega
    · go_wp2
      go_ret
      obtain rfl : k = n := by omega
      rw [take_all (by rw [List.length_map]; exact h.len)] at hown
      exact ⟨_, rfl, hown, hB⟩


end Go.Proofs.Ytldnpgbacakfeaa
