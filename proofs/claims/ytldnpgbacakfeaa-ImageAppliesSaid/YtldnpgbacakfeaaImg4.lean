/-
  Layer 7: copies; writes that fit; reads.
-/
import Derived.Test.YtldnpgbacakfeaaImg3
namespace Go.Proofs.Ytldnpgbacakfeaa
open Go.RowKit

def sameSecs (v : List Sec) : List Sec := v
theorem map_same (l : List (List Sec)) : l.map sameSecs = l := List.map_id l
abbrev ownSecs : Rep (List Sec) := ownRowR secR 52

set_option maxHeartbeats 1000000 in
/-- mapped, with slices.Clone[[]standby/api.Sector,standby/api.Sector]. -/
theorem mapped_clone {a : Option Addr} {n c : Nat} {l : List (List Sec)} {ok : Nat → Prop} {w : World} (h : Sl secsR ok w a n c l) (hn : n ≤ 1000000)(hv : ∀ v ∈ l, v.length ≤ 1000000) :
    Calls Try.prog 73 #[.slice a n c, .func (.func 58) #[] #[]] w fun e w' => ∃ v, e = .returned v ∧ OwnD ownSecs w.heap.size w'.heap.size 40 w' v (l.map sameSecs) ∧ Below w.heap.size w w' := by
  go_enter Try.func73, Try.ntmps73
  go_wp2_with (at_make; refine wpList_make0 (r := ownSecs) (B := w.heap.size) Try.slSecs rfl _ _ rfl rfl rfl ?b2 ?b3 ?b4 ?_)
  case b2 => omega
  case b3 => unfold maxLen; omega
  case b4 => exact Nat.le_refl _
  intro w0 hown0 hB0
  have hs := h.small
  go_wp2
  go_loopw [5, 13] (fun v i wr => ∃ k : Nat, k ≤ n ∧ i = .int .i64 k ∧ OwnD ownSecs w.heap.size wr.heap.size 40 wr v ((l.map sameSecs).take k) ∧ Below w.heap.size w wr) (fun _ i _ => n - (intOf i).toNat)
  case atStart => exact ⟨0, Nat.zero_le _, rfl, hown0 _, hB0⟩
  case round =>
    obtain ⟨k, hk, rfl, hown, hB⟩ := hrel
    by_cases hlt : k < n
    · obtain ⟨b, off, rfl, _, _⟩ := h.addr hlt
      obtain ⟨x, hx⟩ := h.get hlt
      obtain ⟨a', n', c', hcell, hx'⟩ := (h.below hB).slice hx; have hv' := hv x (List.mem_of_getElem? hx)
      have hlen : ((l.map sameSecs).take k).length = k := by have := h.len; simp; omega
      have HL := Lib.hid hlen; clear hlen
      have HX := Lib.hid hx; clear hx
      go_wp2_with (fail)
      refine (clone_sec hx' (by rw [← hx'.len]; exact hv')).mono ?_
      rintro e w1 ⟨a2, n2, c2, rfl, hrd, hB1⟩
      have hownl := hown.lt
      have hz1 := hB1.size
      have hz := hB.size
      go_wp2_with (at_builtin; refine wpList_appD Try.slSecs rfl _ _ rfl rfl ((hown.below hB1).below ((Below.refl _ _).alloc (Nat.le_refl _) _)) rfl (news_new w1 40 #[.slice a2 n2 c2]) (rd_alloc hrd) (fun k hk => (hownl k hk).2) ?c1 ?c2 ?c3 ?c4 ?_)
      case c1 => rw [HL.out]; unfold maxLen; omega
      case c2 => rw [HL.out]; omega
      case c3 => omega
      case c4 => simp; omega
      intro v' w2 hown1 hgrow _
      go_wp2
      go_roundw
      case rel => exact ⟨k + 1, by omega, by go_num, by
        have e : (l.map sameSecs).take (k + 1) = (l.map sameSecs).take k ++ [sameSecs x] := take_succ_get (by rw [List.getElem?_map, HX.out]; rfl)
        rw [e]; exact hown1, ((hB.trans (hB1.mono hB.size)).alloc (by omega) _).grown hgrow (by simp; omega) (fun k hk => (hownl k hk).1)⟩
      case measure => simp [intOf]; omega
    · go_wp2
      go_ret
      obtain rfl : k = n := by omega
      rw [take_all (by rw [List.length_map]; exact h.len)] at hown
      exact ⟨_, rfl, hown, hB⟩


theorem copied_any {a : Option Addr} {n c : Nat} {im : List (List Sec)} {ok : Nat → Prop} {w : World} (h : Sl secsR ok w a n c im) (hn : n ≤ 1000000) (hv : ∀ v ∈ im, v.length ≤ 1000000) :
    Calls Try.prog 53 #[.slice a n c] w fun e w' => ∃ v, e = .returned v ∧ OwnD ownSecs w.heap.size w'.heap.size 40 w' v im ∧ Below w.heap.size w w' := by
  go_enter Try.func53, Try.ntmps53
  go_wp2_with fail
  refine (mapped_clone h hn hv).mono ?_
  rintro e w1 ⟨v, rfl, hown, hB⟩
  go_wp2
  go_ret
  exact ⟨_, rfl, by rw [map_same] at hown; exact hown, hB⟩

/-- An owned image reads as an image. -/
theorem Sl.imp {α : Type} {r s : Rep α} {ok : Nat → Prop} {w : World} {a : Option Addr} {n c : Nat} {l : List α} (hz : s.sz = r.sz) (hi : ∀ cs x, r.rd ok w cs x → s.rd ok w cs x) (h : Sl r ok w a n c l) : Sl s ok w a n c l :=
  ⟨h.len, h.cap, h.bnd, h.nil, h.cells.imp id fun ⟨b, off, e, hb, hl, hc⟩ => ⟨b, off, e, hb, hl, fun i x hx => let ⟨cs, g1, g2⟩ := hc i x hx; ⟨cs, by rw [hz]; exact g1, hi cs x g2⟩⟩⟩
theorem ownSecs_secs {ok : Nat → Prop} {w : World} {cs : List Value} {x : List Sec} (h : ownSecs.rd ok w cs x) : secsR.rd ok w cs x := by
  obtain ⟨v, rfl, h1⟩ := h
  obtain ⟨a, n, c, rfl, h2⟩ := ownRowR.sl Flat.sec (v := v) ⟨v, rfl, h1⟩
  exact ⟨a, n, c, rfl, h2⟩
theorem OwnD.img {B F : Nat} {E : TypeId} {w : World} {v : Value} {im : List (List Sec)} (h : OwnD ownSecs B F E w v im) : ∃ a n c, v = .slice a n c ∧ Sl secsR (B ≤ ·) w a n c im :=
  let ⟨a, n, c, e, h⟩ := h.sl; ⟨a, n, c, e, Sl.imp (r := ownSecs) (s := secsR) rfl (fun _ _ g => ownSecs_secs g) h⟩

set_option maxHeartbeats 2000000 in
theorem fits1_any {a : Option Addr} {n c : Nat} {im : List (List Sec)} {ok : Nat → Prop} {w : World} (h : Sl secsR ok w a n c im) {vol start : Int} (hv : i64ok vol) (hst : i64ok start)
    {da : Option Addr} {dn dc : Nat} (hd : dn ≤ 9223372036854775807) :
    Calls Try.prog 51 #[.slice a n c, .agg #[.int .i64 vol, .int .i64 start, .slice da dn dc]] w fun e w' => e = .returned (.int .i64 (fitErr (lens im) vol start dn)) ∧ Below w.heap.size w w' := by
  have hs := h.small
  unfold i64ok at hv hst
  have hlen : (lens im).length = n := by simp [lens, h.len]
  have HL := Lib.hid hlen; clear hlen
  have hB0 : Below w.heap.size w (w.alloc (.cells #[.int .i64 vol, .int .i64 start, .slice da dn dc] 42)) := (Below.refl _ _).alloc (Nat.le_refl _) _
  by_cases h1 : vol < 0
  · go_enter Try.func51, Try.ntmps51
    go_wp2
    go_ret
    exact ⟨ret_int (by rw [fitErr, if_pos (.inl h1)]), hB0⟩
  obtain ⟨k, rfl⟩ := Int.eq_ofNat_of_zero_le (Int.not_lt.1 h1)
  by_cases h2 : n ≤ k
  · go_enter Try.func51, Try.ntmps51
    go_wp2
    go_ret
    exact ⟨ret_int (by rw [fitErr, if_pos (.inr (by rw [HL.out]; omega))]), hB0⟩
  have hlt : k < n := by omega
  obtain ⟨b, off, rfl, _, _⟩ := h.addr hlt
  obtain ⟨x, hx⟩ := h.get hlt
  have HX : Hid ((lens im)[k]? = some (x.length : Int)) := by show _ = _; rw [lens, List.getElem?_map, hx]; rfl
  obtain ⟨a', n', c', hcell, hx'⟩ := (h.below hB0).slice hx
  have hs' := hx'.small
  have hn' := hx'.len
  have HN := Lib.hid hn'; clear hn'
  clear hx
  by_cases h3 : dn = 0
  · subst h3
    go_enter Try.func51, Try.ntmps51
    go_wp2
    go_ret
    exact ⟨ret_int (by rw [fitErr, if_neg (by rw [HL.out]; omega), if_pos rfl]), hB0⟩
  have h3' : 0 < dn := by omega
  clear h3
  by_cases h4 : start < 0
  · have d1 : decide (start < 0) = true := by simp; omega
    go_enter Try.func51, Try.ntmps51
    go_wp2_with fail
    refine wp_region_quiet_lit (by kernel_rfl) (by kernel_rfl) ?_
    repeat (go_big_quiet_step (fail))
    refine wpQuiet_nil ?_
    rintro _ ⟨nq, rfl⟩
    go_wp2
    go_ret
    exact ⟨ret_int (by rw [fitErr, if_neg (by rw [HL.out]; omega), if_neg (by omega), if_pos (.inl h4)]), below_drewN hB0 _⟩
  have h4' : 0 ≤ start := by omega
  have d1 : decide (start < 0) = false := by simp; omega
  by_cases h5 : (n' : Int) - dn < start
  · have d2 : decide ((n' : Int) - dn < start) = true := by simp; omega
    go_enter Try.func51, Try.ntmps51
    go_wp2_with fail
    refine wp_region_quiet_lit (by kernel_rfl) (by kernel_rfl) ?_
    repeat (go_big_quiet_step (fail))
    refine wpQuiet_nil ?_
    rintro _ ⟨nq, rfl⟩
    go_wp2
    go_ret
    exact ⟨ret_int (by rw [fitErr, if_neg (by rw [HL.out]; omega), if_neg (by omega), if_pos (by rw [Int.toNat_natCast, getD_of HX.out, HN.out]; omega)]), below_drewN hB0 _⟩
  · have h5' : start ≤ (n' : Int) - dn := by omega
    have d2 : decide ((n' : Int) - dn < start) = false := by simp; omega
    go_enter Try.func51, Try.ntmps51
    go_wp2_with fail
    refine wp_region_quiet_lit (by kernel_rfl) (by kernel_rfl) ?_
    repeat (go_big_quiet_step (fail))
    refine wpQuiet_nil ?_
    rintro _ ⟨nq, rfl⟩
    go_wp2
    go_ret
    exact ⟨ret_int (by rw [fitErr, if_neg (by rw [HL.out]; omega), if_neg (by omega), if_neg (by rw [Int.toNat_natCast, getD_of HX.out, HN.out]; omega)]), below_drewN hB0 _⟩

theorem fitsI_any {a : Option Addr} {n c : Nat} {im : List (List Sec)} {ok : Nat → Prop} {w : World} (h : Sl secsR ok w a n c im) (hn : n ≤ 1000000) {vol start : Int} (hv : i64ok vol) (hst : i64ok start)
    {da : Option Addr} {dn dc : Nat} (hd : dn ≤ 9223372036854775807) :
    Calls Try.prog 21 #[.slice a n c, .agg #[.int .i64 vol, .int .i64 start, .slice da dn dc]] w fun e w' => e = .returned (.int .i64 (fitsErr im vol start dn)) ∧ Below w.heap.size w w' := by
  have hB0 : Below w.heap.size w (w.alloc (.cells #[.int .i64 vol, .int .i64 start, .slice da dn dc] 42)) := (Below.refl _ _).alloc (Nat.le_refl _) _
  go_enter Try.func21, Try.ntmps21
  go_wp2_with fail
  refine (checkI_any (h.below hB0) hn).mono ?_
  rintro e w1 ⟨rfl, hB1⟩
  have hB2 := hB0.trans (hB1.mono hB0.size)
  by_cases he : imgErr im = 0
  · have hb : (imgErr im != 0) = false := by simp [he]
    have HE := Lib.hid he; clear he
    have hld := loadNewAgg (P := Try.prog) Try.underlying42 rfl (by kernel_rfl) rfl rfl hB1 w1 ⟨⟨w1, Below.refl _ _⟩, rfl⟩
    go_wp2_with (refine wpList_load rfl 42 _ rfl ⟨w.heap.size, 0, none⟩ rfl _ hld ?_)
    refine (fits1_any (h.below hB2) hv hst hd).mono ?_
    rintro e w2 ⟨rfl, hB3⟩
    go_wp2
    go_ret
    exact ⟨ret_int (by rw [fitsErr, if_neg (by simp [HE.out])]), hB2.trans (hB3.mono hB2.size)⟩
  · have hb : (imgErr im != 0) = true := by simp [he]
    have HE := Lib.hid he; clear he
    go_wp2
    go_ret
    exact ⟨ret_int (by rw [fitsErr, if_pos HE.out]), hB2⟩

end Go.Proofs.Ytldnpgbacakfeaa
