/-
  Layer 7: reads, by the program and by the reference.
-/
import Derived.Test.YtldnpgbacakfeaaImg4
namespace Go.Proofs.Ytldnpgbacakfeaa
open Go.RowKit

def readErr (im : List (List Sec)) (vol s cnt : Int) : Int :=
  if imgErr im ≠ 0 then imgErr im else if vol < 0 ∨ (im.length : Int) ≤ vol then 7
  else if s < 0 ∨ cnt < 0 ∨ ((im.getD vol.toNat []).length : Int) < s ∨ ((im.getD vol.toNat []).length : Int) - s < cnt then 2 else 0
def readRes (im : List (List Sec)) (vol s cnt : Int) : List Sec := orNil (readErr im vol s cnt) (((im.getD vol.toNat []).drop s.toNat).take cnt.toNat)

theorem Try.szSec : (Try.prog.info? 52).map (·.size) = some 8 := by kernel_rfl

set_option maxHeartbeats 4000000 in
theorem readI_any {a : Option Addr} {n c : Nat} {im : List (List Sec)} {ok : Nat → Prop} {w : World} (h : Sl secsR ok w a n c im) (hn : n ≤ 1000000) (hvs : ∀ v ∈ im, v.length ≤ 1000000) {vol s cnt : Int} (hv : i64ok vol) (hst : i64ok s) (hct : i64ok cnt) :
    Calls Try.prog 28 #[.slice a n c, .int .i64 vol, .agg #[.int .i64 s, .int .i64 cnt]] w (RetSlE secR (w.heap.size ≤ ·) w (readRes im vol s cnt) (readErr im vol s cnt)) := by
  have hB0 : Below w.heap.size w (w.alloc (.cells #[.int .i64 s, .int .i64 cnt] 59)) := (Below.refl _ _).alloc (Nat.le_refl _) _
  have hs := h.small
  unfold i64ok at hv hst hct
  have hlen := h.len
  have HL := Lib.hid hlen; clear hlen
  by_cases he : imgErr im = 0
  rotate_left
  · have hb : (imgErr im != 0) = true := by simp [he]
    have HE := Lib.hid he; clear he
    go_enter Try.func28, Try.ntmps28
    go_wp2_with fail
    refine (checkI_any (h.below hB0) hn).mono ?_
    rintro e w1 ⟨rfl, hB1⟩
    have hB2 := hB0.trans (hB1.mono hB0.size)
    go_wp2
    go_ret2
    exact RetSlE.mk (by rw [readErr, if_pos HE.out]) (by rw [readRes, orNil_bad (by rw [readErr, if_pos HE.out]; exact HE.out)]; exact Sl.nil0 _ _ _) hB2
  have hb : (imgErr im != 0) = false := by simp [he]
  have HE := Lib.hid he; clear he
  by_cases h1 : vol < 0
  · go_enter Try.func28, Try.ntmps28
    go_wp2_with fail
    refine (checkI_any (h.below hB0) hn).mono ?_
    rintro e w1 ⟨rfl, hB1⟩
    have hB2 := hB0.trans (hB1.mono hB0.size)
    go_wp2
    go_ret2
    have e7 : readErr im vol s cnt = 7 := by rw [readErr, if_neg (by simp [HE.out]), if_pos (.inl h1)]
    exact RetSlE.mk e7.symm (by rw [readRes, orNil_bad (by rw [e7]; decide)]; exact Sl.nil0 _ _ _) hB2
  obtain ⟨k, rfl⟩ := Int.eq_ofNat_of_zero_le (Int.not_lt.1 h1)
  by_cases h2 : n ≤ k
  · go_enter Try.func28, Try.ntmps28
    go_wp2_with fail
    refine (checkI_any (h.below hB0) hn).mono ?_
    rintro e w1 ⟨rfl, hB1⟩
    have hB2 := hB0.trans (hB1.mono hB0.size)
    go_wp2
    go_ret2
    have e7 : readErr im k s cnt = 7 := by rw [readErr, if_neg (by simp [HE.out]), if_pos (.inr (by rw [HL.out]; omega))]
    exact RetSlE.mk e7.symm (by rw [readRes, orNil_bad (by rw [e7]; decide)]; exact Sl.nil0 _ _ _) hB2
  have hlt : k < n := by omega
  obtain ⟨b, off, rfl, _, _⟩ := h.addr hlt
  obtain ⟨x, hx⟩ := h.get hlt
  have HX := Lib.hid hx
  obtain ⟨a', n', c', hcell0, hx0⟩ := h.slice hx
  have hs' := hx0.small
  have hc'' := hx0.cap
  have hcl := cellLater hcell0
  have hn' := hx0.len
  have HN := Lib.hid hn'; clear hn'
  clear hx
  by_cases h3 : s < 0 ∨ cnt < 0 ∨ (n' : Int) < s ∨ (n' : Int) - s < cnt
  · have e2 : readErr im k s cnt = 2 := by rw [readErr, if_neg (by simp [HE.out]), if_neg (by rw [HL.out]; omega), if_pos (by rw [Int.toNat_natCast, getD_of HX.out, HN.out]; exact h3)]
    have H2 := Lib.hid e2; clear e2
    rcases (show s < 0 ∨ (0 ≤ s ∧ cnt < 0) ∨ (0 ≤ s ∧ 0 ≤ cnt ∧ (n' : Int) < s) ∨ (0 ≤ s ∧ 0 ≤ cnt ∧ s ≤ n' ∧ (n' : Int) - s < cnt) by omega) with h4 | ⟨h4, h5⟩ | ⟨h4, h5, h6⟩ | ⟨h4, h5, h6, h7⟩
    all_goals
      clear h3
      go_enter Try.func28, Try.ntmps28
      go_wp2_with fail
      refine (checkI_any (h.below hB0) hn).mono ?_
      rintro e w1 ⟨rfl, hB1⟩
      have hB2 := hB0.trans (hB1.mono hB0.size)
      have hc0 := boxCell hB1 (j := 0) rfl
      have hc1 := boxCell hB1 (j := 1) rfl
      have hcc := hcl ⟨w1, hB2⟩
      go_wp2
      go_ret2
      exact RetSlE.mk H2.out.symm (by rw [readRes, orNil_bad (by rw [H2.out]; decide)]; exact Sl.nil0 _ _ _) hB2
  obtain ⟨s, rfl⟩ := Int.eq_ofNat_of_zero_le (show 0 ≤ s by omega)
  obtain ⟨m, rfl⟩ := Int.eq_ofNat_of_zero_le (show 0 ≤ cnt by omega)
  have e0 : readErr im k s m = 0 := by rw [readErr, if_neg (by simp [HE.out]), if_neg (by rw [HL.out]; omega), if_neg (by rw [Int.toNat_natCast, getD_of HX.out, HN.out]; exact h3)]
  have er : readRes im k s m = (x.drop s).take m := by rw [readRes, orNil_ok e0, Int.toNat_natCast, Int.toNat_natCast, Int.toNat_natCast, getD_of HX.out]
  have H0 := Lib.hid e0; clear e0
  have HR := Lib.hid er; clear er
  have h4 : s + m ≤ n' := by omega
  have h5 : s ≤ n' := by omega
  have h6 : (m : Int) ≤ (n' : Int) - s := by omega
  clear h3
  have hsl := fun w => run_sub Try.underlying40 Try.szSec a' n' c' s m (by omega) w
  go_enter Try.func28, Try.ntmps28
  go_wp2_with fail
  refine (checkI_any (h.below hB0) hn).mono ?_
  rintro e w1 ⟨rfl, hB1⟩
  have hB2 := hB0.trans (hB1.mono hB0.size)
  have hc0 := boxCell hB1 (j := 0) rfl
  have hc1 := boxCell hB1 (j := 1) rfl
  have hcc := hcl ⟨w1, hB2⟩
  go_wp2_with fail
  refine (clone_sec ((hx0.below hB2).sub h4) (by have := hvs x (List.mem_of_getElem? HX.out); have := HN.out; omega)).mono ?_
  rintro e w2 ⟨a2, n2, c2, rfl, hr, hB3⟩
  obtain ⟨_, _, _, e, hr2⟩ := ownRowR.sl Flat.sec hr
  cases e
  go_wp2
  go_ret2
  exact RetSlE.mk H0.out.symm (by rw [HR.out]; exact hr2.mono (fun b hb => Nat.le_trans hB2.size hb)) (hB2.trans (hB3.mono hB2.size))


set_option maxHeartbeats 4000000 in
theorem readR_any {a : Option Addr} {n c : Nat} {im : List (List Sec)} {ok : Nat → Prop} {w : World} (h : Sl secsR ok w a n c im) (hn : n ≤ 1000000) (hvs : ∀ v ∈ im, v.length ≤ 1000000) {vol s cnt : Int} (hv : i64ok vol) (hst : i64ok s) (hct : i64ok cnt) :
    Calls Try.prog 29 #[.slice a n c, .int .i64 vol, .agg #[.int .i64 s, .int .i64 cnt]] w (RetSlE secR (w.heap.size ≤ ·) w (readRes im vol s cnt) (readErr im vol s cnt)) := by
  have hB0 : Below w.heap.size w (w.alloc (.cells #[.int .i64 s, .int .i64 cnt] 59)) := (Below.refl _ _).alloc (Nat.le_refl _) _
  have hs := h.small
  unfold i64ok at hv hst hct
  have hlen := h.len
  have HL := Lib.hid hlen; clear hlen
  by_cases he : imgErr im = 0
  rotate_left
  · have hb : (imgErr im != 0) = true := by simp [he]
    have HE := Lib.hid he; clear he
    go_enter Try.func29, Try.ntmps29
    go_wp2_with fail
    refine (check_any (h.below hB0) hn).mono ?_
    rintro e w1 ⟨rfl, hB1⟩
    have hB2 := hB0.trans (hB1.mono hB0.size)
    go_wp2
    go_ret2
    exact RetSlE.mk (by rw [readErr, if_pos HE.out]) (by rw [readRes, orNil_bad (by rw [readErr, if_pos HE.out]; exact HE.out)]; exact Sl.nil0 _ _ _) hB2
  have hb : (imgErr im != 0) = false := by simp [he]
  have HE := Lib.hid he; clear he
  by_cases h1 : vol < 0
  · go_enter Try.func29, Try.ntmps29
    go_wp2_with fail
    refine (check_any (h.below hB0) hn).mono ?_
    rintro e w1 ⟨rfl, hB1⟩
    have hB2 := hB0.trans (hB1.mono hB0.size)
    go_wp2
    go_ret2
    have e7 : readErr im vol s cnt = 7 := by rw [readErr, if_neg (by simp [HE.out]), if_pos (.inl h1)]
    exact RetSlE.mk e7.symm (by rw [readRes, orNil_bad (by rw [e7]; decide)]; exact Sl.nil0 _ _ _) hB2
  obtain ⟨k, rfl⟩ := Int.eq_ofNat_of_zero_le (Int.not_lt.1 h1)
  by_cases h2 : n ≤ k
  · go_enter Try.func29, Try.ntmps29
    go_wp2_with fail
    refine (check_any (h.below hB0) hn).mono ?_
    rintro e w1 ⟨rfl, hB1⟩
    have hB2 := hB0.trans (hB1.mono hB0.size)
    go_wp2
    go_ret2
    have e7 : readErr im k s cnt = 7 := by rw [readErr, if_neg (by simp [HE.out]), if_pos (.inr (by rw [HL.out]; omega))]
    exact RetSlE.mk e7.symm (by rw [readRes, orNil_bad (by rw [e7]; decide)]; exact Sl.nil0 _ _ _) hB2
  have hlt : k < n := by omega
  obtain ⟨b, off, rfl, _, _⟩ := h.addr hlt
  obtain ⟨x, hx⟩ := h.get hlt
  have HX := Lib.hid hx
  obtain ⟨a', n', c', hcell0, hx0⟩ := h.slice hx
  have hs' := hx0.small
  have hc'' := hx0.cap
  have hcl := cellLater hcell0
  have hn' := hx0.len
  have HN := Lib.hid hn'; clear hn'
  clear hx
  by_cases h3 : s < 0 ∨ cnt < 0 ∨ (n' : Int) < s ∨ (n' : Int) - s < cnt
  · have e2 : readErr im k s cnt = 2 := by rw [readErr, if_neg (by simp [HE.out]), if_neg (by rw [HL.out]; omega), if_pos (by rw [Int.toNat_natCast, getD_of HX.out, HN.out]; exact h3)]
    have H2 := Lib.hid e2; clear e2
    rcases (show s < 0 ∨ (0 ≤ s ∧ cnt < 0) ∨ (0 ≤ s ∧ 0 ≤ cnt ∧ (n' : Int) < s) ∨ (0 ≤ s ∧ 0 ≤ cnt ∧ s ≤ n' ∧ (n' : Int) - s < cnt) by omega) with h4 | ⟨h4, h5⟩ | ⟨h4, h5, h6⟩ | ⟨h4, h5, h6, h7⟩
    all_goals
      clear h3
      go_enter Try.func29, Try.ntmps29
      go_wp2_with fail
      refine (check_any (h.below hB0) hn).mono ?_
      rintro e w1 ⟨rfl, hB1⟩
      have hB2 := hB0.trans (hB1.mono hB0.size)
      have hc0 := boxCell hB1 (j := 0) rfl
      have hc1 := boxCell hB1 (j := 1) rfl
      have hcc := hcl ⟨w1, hB2⟩
      go_wp2
      go_ret2
      exact RetSlE.mk H2.out.symm (by rw [readRes, orNil_bad (by rw [H2.out]; decide)]; exact Sl.nil0 _ _ _) hB2
  obtain ⟨s, rfl⟩ := Int.eq_ofNat_of_zero_le (show 0 ≤ s by omega)
  obtain ⟨m, rfl⟩ := Int.eq_ofNat_of_zero_le (show 0 ≤ cnt by omega)
  have e0 : readErr im k s m = 0 := by rw [readErr, if_neg (by simp [HE.out]), if_neg (by rw [HL.out]; omega), if_neg (by rw [Int.toNat_natCast, getD_of HX.out, HN.out]; exact h3)]
  have er : readRes im k s m = (x.drop s).take m := by rw [readRes, orNil_ok e0, Int.toNat_natCast, Int.toNat_natCast, Int.toNat_natCast, getD_of HX.out]
  have H0 := Lib.hid e0; clear e0
  have HR := Lib.hid er; clear er
  have h4 : s + m ≤ n' := by omega
  have h5 : s ≤ n' := by omega
  have h6 : (m : Int) ≤ (n' : Int) - s := by omega
  clear h3
  have hsl := fun w => run_sub Try.underlying40 Try.szSec a' n' c' s m (by omega) w
  go_enter Try.func29, Try.ntmps29
  go_wp2_with fail
  refine (check_any (h.below hB0) hn).mono ?_
  rintro e w1 ⟨rfl, hB1⟩
  have hB2 := hB0.trans (hB1.mono hB0.size)
  have hc0 := boxCell hB1 (j := 0) rfl
  have hc1 := boxCell hB1 (j := 1) rfl
  have hcc := hcl ⟨w1, hB2⟩
  have hl0 := cellLater hc0
  have hl1 := cellLater hc1
  have hl2 := cellLater hcc
  go_wp2_with fail
  refine wp_region_acts (fun w' => ∃ x : Later (w1), w' = x.w) [([0, 1, 2, 3, 4, 5, 6, 7, 8, 9, 10, 11, 12], 13)] [14, 15] Try.mixed (by kernel_rfl) (LaterS.drew _) ?_
  refine wpActs_act ?_
  simp only [pick, List.filterMap_cons, List.filterMap_nil, List.getElem?_toArray, List.getElem?_cons_succ, List.getElem?_cons_zero]
  change wpQuiet _ _ _ _ [_, _, _, _, _, _, _, _, _, _, _, _, _] _
  repeat (go_big_quiet_step (fail))
  refine wpQuiet_nil ?_
  change wpList _ _ _ [_] _ _
  refine wpList_app Try.slSec rfl _ _ rfl rfl (Own.nil secR w.heap.size _ (fun _ => False) _) rfl ((Src.of_sl (((hx0.below hB2).below ((Below.refl _ _).drew)).sub h4)).flat Flat.sec) ?c1 ?c2 ?c3 ?_
  case c1 => simp; unfold maxLen; omega
  case c2 => have := hvs x (List.mem_of_getElem? HX.out); have := HN.out; simp; omega
  case c3 => have := hB2.size; simp; omega
  intro v' w2 hown hgrow _
  have hB3 : Below w1.heap.size w1 w2 := ((Below.refl _ _).drew).trans (grown_below hgrow (Nat.le_refl _) (fun k hk => by cases hk))
  obtain ⟨a2, n2, c2, rfl, hr2⟩ := hown.sl
  go_wp2_with fail
  refine ⟨LaterS.of hB3, ?_⟩
  refine wpActs_last ?_
  simp only [pick, List.filterMap_cons, List.filterMap_nil, List.getElem?_toArray, List.getElem?_cons_succ, List.getElem?_cons_zero]
  change wpQuiet _ _ _ _ [_, _] _
  repeat (go_big_quiet_step (fail))
  refine wpQuiet_nil ?_
  go_wp2
  go_ret2
  exact RetSlE.mk H0.out.symm (by rw [HR.out]; exact hr2.mono (fun b hb => hb.elim (fun h => h.elim) id)) (hB2.trans (hB3.mono hB2.size))

set_option maxHeartbeats 1000000 in
theorem copyR_any {a : Option Addr} {n c : Nat} {im : List (List Sec)} {ok : Nat → Prop} {w : World} (h : Sl secsR ok w a n c im) (hn : n ≤ 1000000) (hvs : ∀ v ∈ im, v.length ≤ 1000000) :
    Calls Try.prog 25 #[.slice a n c] w fun e w' => ∃ v, e = .returned v ∧ OwnD ownSecs w.heap.size w'.heap.size 40 w' v im ∧ Below w.heap.size w w' := by
  have hs := h.small
  go_enter Try.func25, Try.ntmps25
  go_wp2
  go_loopw [3, 4] (fun v i wr => ∃ k : Nat, k ≤ n ∧ i = .int .i64 k ∧ OwnD ownSecs w.heap.size wr.heap.size 40 wr v (im.take k) ∧ Below w.heap.size w wr) (fun _ i _ => n - (intOf i).toNat)
  case atStart => exact ⟨0, Nat.zero_le _, rfl, OwnD.nil _ _ _ _ _, Below.refl _ _⟩
  case round =>
    obtain ⟨k, hk, rfl, hown, hB⟩ := hrel
    by_cases hlt : k < n
    · obtain ⟨b, off, rfl, _, _⟩ := h.addr hlt
      obtain ⟨x, hx⟩ := h.get hlt
      obtain ⟨a', n', c', hcell, hx'⟩ := (h.below hB).slice hx
      have hv' := hvs x (List.mem_of_getElem? hx)
      have hn' := hx'.len
      have HN := Lib.hid hn'; clear hn'
      have hlen : (im.take k).length = k := by have := h.len; simp; omega
      have HL := Lib.hid hlen; clear hlen
      have HX := Lib.hid hx; clear hx
      go_wp2_with (at_builtin; refine wpList_app (o := ⟨some 18, _, _, _, _, _⟩) Try.slSec rfl _ _ rfl rfl (Own.nil secR wr.heap.size _ (fun _ => False) _) rfl ((Src.of_sl hx').flat Flat.sec) ?c1 ?c2 ?c3 ?_)
      case c1 => simp; unfold maxLen; have := HN.out; omega
      case c2 => simp; have := HN.out; omega
      case c3 => exact Nat.le_refl _
      intro v' w1 hown1 hgrow _
      have hB1 : Below wr.heap.size wr w1 := grown_below hgrow (Nat.le_refl _) (fun k hk => by cases hk)
      obtain ⟨a2, n2, c2, rfl, hr2⟩ := hown1.sl
      have hrd : ownSecs.rd (wr.heap.size ≤ ·) w1 [.slice a2 n2 c2] x := ownRowR.mk (by simpa using hown1) (fun e => by
        obtain ⟨xs, h1, _⟩ := hown1
        rcases h1.2 with ⟨hv, _⟩ | ⟨g, cap, cur, hv, _⟩
        · exact .inl hv
        · exact .inr ⟨g, cap, by rw [hv, e]; rfl⟩)
      have hownl := hown.lt
      have hz1 := hB1.size
      have hz := hB.size
      go_wp2_with (at_builtin; refine wpList_appD Try.slImg rfl _ _ rfl rfl ((hown.below hB1).below ((Below.refl _ _).alloc (Nat.le_refl _) _)) rfl (news_new w1 40 #[.slice a2 n2 c2]) (rd_alloc hrd) (fun k hk => (hownl k hk).2) ?d1 ?d2 ?d3 ?d4 ?_)
      case d1 => rw [HL.out]; unfold maxLen; omega
      case d2 => rw [HL.out]; omega
      case d3 => omega
      case d4 => simp; omega
      intro v' w2 hown2 hgrow2 _
      go_wp2
      go_roundw
      case rel => exact ⟨k + 1, by omega, by go_num, by rw [take_succ_get HX.out]; exact hown2, ((hB.trans (hB1.mono hB.size)).alloc (by omega) _).grown hgrow2 (by simp; omega) (fun k hk => (hownl k hk).1)⟩
      case measure => simp [intOf]; omega
    · go_wp2
      go_ret
      obtain rfl : k = n := by omega
      rw [take_all h.len] at hown
      exact ⟨_, rfl, hown, hB⟩

end Go.Proofs.Ytldnpgbacakfeaa
