/-
  Layer 7: Apply.
-/
import Derived.Test.YtldnpgbacakfeaaImg5
namespace Go.Proofs.Ytldnpgbacakfeaa
open Go.RowKit

def writeAt (l : List Sec) (s : Nat) (d : List Sec) : List Sec := l.take s ++ d ++ l.drop (s + d.length)
def putW (im : List (List Sec)) (x : Wr) : List (List Sec) := im.set x.1.toNat (writeAt (im.getD x.1.toNat []) x.2.1.toNat x.2.2)
def fitW (sz : List Int) (x : Wr) : Int := fitErr sz x.1 x.2.1 x.2.2.length
/-- The index and the number of the first error. -/
def applyErr (sz : List Int) : List Wr → Nat → Int × Int
  | [], _ => (0, 0)
  | x :: l, i => if fitW sz x ≠ 0 then (i, fitW sz x) else applyErr sz l (i + 1)
def applyImg (im : List (List Sec)) (l : List Wr) : List (List Sec) := if imgErr im ≠ 0 then [] else orNil (applyErr (lens im) l 0).2 (l.foldl putW im)
def applyIdx (im : List (List Sec)) (l : List Wr) : Int := if imgErr im ≠ 0 then 0 else (applyErr (lens im) l 0).1
def applyE (im : List (List Sec)) (l : List Wr) : Int := if imgErr im ≠ 0 then imgErr im else (applyErr (lens im) l 0).2

/-- What Apply returns. -/
def RetApply (w : World) (im : List (List Sec)) (l : List Wr) : Ending → World → Prop := fun e w' =>
  ∃ a n c, e = .returned (.tuple #[.slice a n c, .int .i64 (applyIdx im l), .int .i64 (applyE im l)]) ∧ Sl secsR (w.heap.size ≤ ·) w' a n c (applyImg im l) ∧ Below w.heap.size w w'
theorem RetApply.mk {w w' : World} {im : List (List Sec)} {l : List Wr} {a : Option Addr} {n c : Nat} {i e : Int} (hi : i = applyIdx im l) (he : e = applyE im l) (h : Sl secsR (w.heap.size ≤ ·) w' a n c (applyImg im l)) (hB : Below w.heap.size w w') :
    RetApply w im l (.returned (.tuple #[.slice a n c, .int .i64 i, .int .i64 e])) w' := ⟨a, n, c, by rw [hi, he], h, hB⟩

theorem applyErr_step {sz : List Int} {l : List Wr} {k : Nat} {x : Wr} (hx : l[k]? = some x) (h : applyErr sz l 0 = applyErr sz (l.drop k) k) (hf : fitW sz x = 0) : applyErr sz l 0 = applyErr sz (l.drop (k + 1)) (k + 1) := by
  obtain ⟨hk, rfl⟩ := List.getElem?_eq_some_iff.1 hx
  rw [h, List.drop_eq_getElem_cons hk, applyErr, if_neg (by rw [hf]; decide)]
theorem applyErr_hit {sz : List Int} {l : List Wr} {k : Nat} {x : Wr} (hx : l[k]? = some x) (h : applyErr sz l 0 = applyErr sz (l.drop k) k) (hf : fitW sz x ≠ 0) : applyErr sz l 0 = ((k : Int), fitW sz x) := by
  obtain ⟨hk, rfl⟩ := List.getElem?_eq_some_iff.1 hx
  rw [h, List.drop_eq_getElem_cons hk, applyErr, if_pos hf]
theorem applyErr_end {sz : List Int} {l : List Wr} {k : Nat} (hk : l.length ≤ k) (h : applyErr sz l 0 = applyErr sz (l.drop k) k) : applyErr sz l 0 = (0, 0) := by
  rw [h, List.drop_eq_nil_of_le hk, applyErr]

theorem writeAt_length {l d : List Sec} {s : Nat} (h : s + d.length ≤ l.length) : (writeAt l s d).length = l.length := by
  unfold writeAt; simp; omega
/-- What fits. -/
theorem fitW_ok {im : List (List Sec)} {v s : Int} {d : List Sec} (h : fitW (lens im) (v, s, d) = 0) : 0 ≤ v ∧ v < im.length ∧ 0 < d.length ∧ 0 ≤ s ∧ ∃ x, im[v.toNat]? = some x ∧ s + d.length ≤ x.length := by
  unfold fitW fitErr at h
  simp only at h
  split at h
  · omega
  · rename_i h1
    split at h
    · omega
    · rename_i h2
      split at h
      · omega
      · rename_i h3
        have h4 : v.toNat < im.length := by simp [lens] at h1; omega
        have e : (lens im).getD v.toNat 0 = ((im[v.toNat]'h4).length : Int) := by simp [lens, List.getD, h4]
        rw [e] at h3
        simp [lens] at h1
        exact ⟨by omega, by omega, by omega, by omega, _, List.getElem?_eq_getElem h4, by omega⟩
theorem lens_put {im : List (List Sec)} {x : Wr} (h : fitW (lens im) x = 0) : lens (putW im x) = lens im := by
  obtain ⟨v, s, d⟩ := x
  obtain ⟨h1, h2, h3, h4, y, hy, h5⟩ := fitW_ok h
  unfold lens putW
  rw [List.map_set]
  apply List.ext_getElem?
  intro i
  rw [List.getElem?_set]
  by_cases hi : v.toNat = i
  · subst hi
    have hl := (List.getElem?_eq_some_iff.1 hy).1
    simp only [List.length_map, if_true, if_pos hl, List.getElem?_map, hy, Option.map_some]
    rw [getD_of hy, writeAt_length (by omega)]
  · rw [if_neg hi]

set_option maxHeartbeats 4000000 in
theorem applyI_any {a : Option Addr} {n c : Nat} {im : List (List Sec)} {ok ok2 : Nat → Prop} {w : World} (h : Sl secsR ok w a n c im) (hn : n ≤ 1000000) (hvs : ∀ v ∈ im, v.length ≤ 1000000)
    {la : Option Addr} {ln lc : Nat} {l : List Wr} (hl : Sl wrR ok2 w la ln lc l) :
    Calls Try.prog 23 #[.slice a n c, .slice la ln lc] w (RetApply w im l) := by
  by_cases he : imgErr im = 0
  rotate_left
  · have hb : (imgErr im != 0) = true := by simp [he]
    have HE := Lib.hid he; clear he
    go_enter Try.func23, Try.ntmps23
    go_wp2_with fail
    refine (checkI_any h hn).mono ?_
    rintro e w1 ⟨rfl, hB1⟩
    go_wp2
    go_ret3
    exact RetApply.mk (by rw [applyIdx, if_pos HE.out]) (by rw [applyE, if_pos HE.out]) (by rw [applyImg, if_pos HE.out]; exact Sl.nil0 _ _ _) hB1
  have hb : (imgErr im != 0) = false := by simp [he]
  have HE := Lib.hid he; clear he
  have hls := hl.small
  go_enter Try.func23, Try.ntmps23
  go_wp2_with fail
  refine (checkI_any h hn).mono ?_
  rintro e w1 ⟨rfl, hB1⟩
  go_wp2_with fail
  refine (copied_any (h.below hB1) hn hvs).mono ?_
  rintro e w2 ⟨v0, rfl, hown0, hB2⟩
  have hB3 := hB1.trans (hB2.mono hB1.size)
  go_wp2
  go_loopw [21] (fun i wr => ∃ k : Nat, k ≤ ln ∧ i = .int .i64 k ∧ Hid (applyErr (lens im) l 0 = applyErr (lens im) (l.drop k) k ∧ lens ((l.take k).foldl putW im) = lens im) ∧ OwnD ownSecs w1.heap.size wr.heap.size 40 wr v0 ((l.take k).foldl putW im) ∧ Below w1.heap.size w1 wr) (fun i _ => ln - (intOf i).toNat)
  case atStart => exact ⟨0, Nat.zero_le _, rfl, ⟨rfl, rfl⟩, hown0, hB2⟩
  case round =>
    obtain ⟨k, hk, rfl, HK, hown, hB⟩ := hrel
    by_cases hlt : k < ln
    · obtain ⟨b, off, rfl, _, _⟩ := hl.addr hlt
      obtain ⟨⟨v, s, d⟩, hx⟩ := hl.get hlt
      obtain ⟨da, dn, dc, hc0, hc1, hc2, hv, hs, hd⟩ := (hl.below (hB1.trans (hB.mono hB1.size))).wr hx
      have HX := Lib.hid hx; clear hx
      obtain ⟨a2, n2, c2, rfl, himg⟩ := hown.img
      generalize hcur : (l.take k).foldl putW im = cur at *
      have HC := Lib.hid hcur; clear hcur
      have hds := hd.small
      by_cases hf : fitErr (lens cur) v s dn = 0
      rotate_left
      · have hfb : (fitErr (lens cur) v s dn != 0) = true := by simp [hf]
        have HF := Lib.hid hf; clear hf
        go_wp2_with fail
        refine (fits1_any (himg.below ((Below.refl _ _).alloc (Nat.le_refl _) _)) hv hs hds).mono ?_
        rintro e w3 ⟨rfl, hB4⟩
        go_wp2
        go_ret3
        have e0 : applyErr (lens im) l 0 = ((k : Int), fitErr (lens cur) v s dn) := by
          have e1 : fitW (lens im) (v, s, d) = fitErr (lens cur) v s dn := by unfold fitW; rw [HK.out.2, hd.len]
          rw [← e1]
          exact applyErr_hit HX.out HK.out.1 (by rw [e1]; exact HF.out)
        exact RetApply.mk (by rw [applyIdx, if_neg (by simp [HE.out]), e0]) (by rw [applyE, if_neg (by simp [HE.out]), e0]) (by rw [applyImg, if_neg (by simp [HE.out]), e0, orNil_bad HF.out]; exact Sl.nil0 _ _ _)
          ((hB1.trans (hB.mono hB1.size)).trans (((Below.refl _ _).alloc (Nat.le_refl _) _).trans (hB4.mono (by simp)) |>.mono (Nat.le_trans hB1.size hB.size)))
      · have hfb : (fitErr (lens cur) v s dn != 0) = false := by simp [hf]
        have hfw : fitW (lens cur) (v, s, d) = 0 := by unfold fitW; rw [hd.len]; exact hf
        obtain ⟨h1, h2, h3, h4, x, hx, h5⟩ := fitW_ok hfw
        obtain ⟨v, rfl⟩ := Int.eq_ofNat_of_zero_le h1
        obtain ⟨s, rfl⟩ := Int.eq_ofNat_of_zero_le h4
        rw [Int.toNat_natCast] at hx
        have HFW := Lib.hid hfw; clear hfw
        have HF := Lib.hid hf; clear hf
        have hdn : 0 < dn := by rw [← hd.len]; exact h3
        have h5' : s + dn ≤ x.length := by rw [hd.len] at h5; omega
        have h2' : v < n2 := by rw [← himg.len]; omega
        go_wp2_with fail
        refine (fits1_any (himg.below ((Below.refl _ _).alloc (Nat.le_refl _) _)) hv hs hds).mono ?_
        rintro e w3 ⟨rfl, hB4⟩
        have hB5 : Below wr.heap.size wr w3 := ((Below.refl _ _).alloc (Nat.le_refl _) _).trans (hB4.mono (by simp))
        -- the row that is written
        obtain ⟨g, cap, cc, okk, hvv, hBg, hg, hcc, ⟨u, rfl, hub, hu, _⟩, hokk, hput⟩ := ((hown.below hB5).below ((Below.refl _ _).drew)).at hx
        cases hvv
        have hu' := hu
        obtain ⟨xs, hrow, _⟩ := hu
        obtain ⟨gi, capi, rfl⟩ : ∃ gi capi, u = .slice (some ⟨gi, 0, none⟩) x.length capi := by
          rcases hrow.2 with ⟨_, h0⟩ | ⟨gi, capi, cur', hvu, _⟩
          · omega
          · exact ⟨gi, capi, hvu⟩
        have hcap : x.length ≤ capi := by obtain ⟨_, _, _, e, q⟩ := hu'.sl; cases e; exact q.cap
        have hcell : w3.cell? ⟨g, v, none⟩ = some (.slice (some ⟨gi, 0, none⟩) x.length capi) := by have := hcc 0 Nat.zero_lt_one; simpa [ownSecs, ownRowR] using this
        have hgi := hokk gi (hub gi rfl)
        have hw3 := hB5.size
        have hl0 := cellLaterB (g := gi) (boxCell hB4 (j := 0) rfl) (by show wr.heap.size ≠ gi; omega)
        have hl1 := cellLaterB (g := gi) (boxCell hB4 (j := 1) rfl) (by show wr.heap.size ≠ gi; omega)
        have hl2 := cellLaterB (g := gi) (boxCell hB4 (j := 2) rfl) (by show wr.heap.size ≠ gi; omega)
        have hl3 := cellLaterB (g := gi) hcell (fun e => hgi.2.2 e.symm)
        have hsl := fun w => run_subFrom Try.underlying40 Try.szSec (some ⟨gi, 0, none⟩) x.length capi s (by omega) w
        have hsub : subAddr (some ⟨gi, 0, none⟩) capi s 8 = some ⟨gi, s * 8, none⟩ := by unfold subAddr; rw [if_neg (by omega)]; simp [Addr.add_lit]
        rw [hsub] at hsl
        have HS := Lib.hid hsub; clear hsub
        have hs64 : s ≤ x.length := by omega
        clear h5 hcc
        go_wp2_with fail
        refine wp_region_acts (fun w' => ∃ x : LaterB (w3) (gi), w' = x.w) [([0, 1, 2, 3, 4, 5, 6, 7, 8, 9], 10)] [] Try.mixed (by kernel_rfl) (LaterB.drew _ _) ?_
        refine wpActs_act ?_
        simp only [pick, List.filterMap_cons, List.filterMap_nil, List.getElem?_toArray, List.getElem?_cons_succ, List.getElem?_cons_zero]
        change wpQuiet _ _ _ _ [_, _, _, _, _, _, _, _, _, _] _
        repeat (go_big_quiet_step (fail))
        refine wpQuiet_nil ?_
        change wpList _ _ _ [_] _ _
        refine wpList_copyOwn Try.slSec Flat.sec rfl _ _ rfl (s := s) (r := secR) rfl rfl hu' (ys := d) (((hd.below hB5).below ((Below.refl _ _).drew))) (by omega) hdn (by omega) ?_
        intro w4 hrow4 hgr4 hsz4
        have hgr : w3.grownBy w4 (some gi) := grown_trans (grown_drew _ _) hgr4
        have hown4 := hput w4 (writeAt x s d) (fun b hb hne => hgr4.block b hb (fun e => hne (by rw [Option.some.inj e]; exact hub gi rfl))) hgr4.os hgr4.tape hgr4.output hgr4.size ⟨_, rfl, hub, hrow4, fun e => by
          have := writeAt_length (l := x) (d := d) (s := s) (by rw [hd.len]; omega)
          rw [e] at this; simp at this; omega⟩
        have e1 : putW cur ((v : Int), (s : Int), d) = cur.set v (writeAt x s d) := by
          unfold putW; rw [Int.toNat_natCast, Int.toNat_natCast, getD_of hx]
        have H1 := Lib.hid e1; clear e1
        have HXX := Lib.hid hx; clear hx
        go_wp2_with fail
        refine ⟨LaterB.of hgr, ?_⟩
        refine wpActs_last ?_
        simp only [pick, List.filterMap_cons, List.filterMap_nil, List.getElem?_toArray, List.getElem?_cons_succ, List.getElem?_cons_zero]
        change wpQuiet _ _ _ _ [] _
        repeat (go_big_quiet_step (fail))
        refine wpQuiet_nil ?_
        go_wp2
        go_roundw
        case rel =>
          refine ⟨k + 1, by omega, by go_num, ?_, ?_, (hB.trans (hB5.mono hB.size)).grown hgr (by have := hB.size; omega) (fun j hj => by cases hj; omega)⟩
          · show _ ∧ _
            have hfw : fitW (lens im) ((v : Int), (s : Int), d) = 0 := by rw [← HK.out.2]; exact HFW.out
            refine ⟨applyErr_step HX.out HK.out.1 hfw, ?_⟩
            rw [take_succ_get HX.out, List.foldl_append, HC.out]
            show lens (putW cur _) = _
            rw [lens_put HFW.out, HK.out.2]
          · rw [take_succ_get HX.out, List.foldl_append, HC.out]
            show OwnD _ _ _ _ _ _ (putW cur _)
            rw [H1.out]
            exact hown4.up (by have := hgr.size; omega)
        case measure => simp [intOf]; omega
    · obtain rfl : k = ln := by omega
      obtain ⟨a2, n2, c2, rfl, himg⟩ := hown.img
      go_wp2
      go_ret3
      have e0 := applyErr_end (Nat.le_of_eq hl.len) HK.out.1
      rw [take_all hl.len] at himg
      exact RetApply.mk (by rw [applyIdx, if_neg (by simp [HE.out]), e0]) (by rw [applyE, if_neg (by simp [HE.out]), e0]) (by rw [applyImg, if_neg (by simp [HE.out]), e0, orNil_ok rfl]; exact himg.mono fun b hb => Nat.le_trans hB1.size hb)
        (hB1.trans (hB.mono hB1.size))

end Go.Proofs.Ytldnpgbacakfeaa
