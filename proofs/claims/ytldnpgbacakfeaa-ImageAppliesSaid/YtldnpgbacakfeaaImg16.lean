/-
  Layer 7: Apply of the reference.
-/
import Derived.Test.YtldnpgbacakfeaaImg15
namespace Go.Proofs.Ytldnpgbacakfeaa
open Go.RowKit

theorem writeAt_nil (x : List Sec) (s : Nat) : writeAt x s [] = x := by simp [writeAt]
theorem writeAt_step {x d : List Sec} {s j : Nat} {y : Sec} (hy : d[j]? = some y) (h : s + d.length ≤ x.length) :
    (writeAt x s (d.take j)).take (s + j) ++ [y] ++ (writeAt x s (d.take j)).drop (s + j + 1) = writeAt x s (d.take (j + 1)) := by
  have hj := (List.getElem?_eq_some_iff.1 hy).1
  have e0 : (d.take j).length = j := by rw [List.length_take]; omega
  have e1 : (x.take s ++ d.take j).length = s + j := by rw [List.length_append, List.length_take, e0]; omega
  have e2 : (d.take (j + 1)).length = j + 1 := by rw [List.length_take]; omega
  unfold writeAt
  rw [e0, e2, take_succ_get hy, List.take_left' e1, ← List.drop_drop, List.drop_left' e1, List.drop_drop]
  simp [List.append_assoc, Nat.add_assoc]
theorem set_self {α : Type} {l : List α} {k : Nat} {x : α} (h : l[k]? = some x) : l.set k x = l := by
  obtain ⟨hk, rfl⟩ := List.getElem?_eq_some_iff.1 h
  exact List.set_getElem_self hk
theorem set_set {α : Type} (l : List α) (k : Nat) (x y : α) : (l.set k x).set k y = l.set k y := by simp
/-- A sector of a slice, in whatever world that has kept all but one block. -/
theorem Try.secB {ok : Nat → Prop} {w : World} {b off n c k g : Nat} {l : List Sec} {x : Sec} (h : Sl secR ok w (some ⟨b, off, none⟩) n c l) (hx : l[k]? = some x) (hb : b < w.heap.size) (hne : b ≠ g) :
    ∀ w', (∃ y : LaterB w g, w' = y.w) → (loadVar 52 ⟨b, off + k * 8, none⟩).run Try.prog w' = .ok (.agg (secCells x).toArray) w' := by
  rintro _ ⟨y, rfl⟩
  refine Try.loadSec fun j hj => ?_
  rw [← h.sec hx j hj]
  exact World.cell?_of_block (y.grown.block b hb fun e => hne (Option.some.inj e))

set_option maxRecDepth 100000 in
set_option maxHeartbeats 4000000 in
theorem applyR_any {a : Option Addr} {n c : Nat} {im : List (List Sec)} {ok ok2 : Nat → Prop} {w : World} (h : Sl secsR ok w a n c im) (hn : n ≤ 1000000) (hvs : ∀ v ∈ im, v.length ≤ 1000000)
    {la : Option Addr} {ln lc : Nat} {l : List Wr} (hl : Sl wrR ok2 w la ln lc l) :
    Calls Try.prog 24 #[.slice a n c, .slice la ln lc] w (RetApply w im l) := by
  by_cases he : imgErr im = 0
  rotate_left
  · have hb : (imgErr im != 0) = true := by simp [he]
    have HE := Lib.hid he; clear he
    go_enter Try.func24, Try.ntmps24
    go_wp2_with fail
    refine (check_any h hn).mono ?_
    rintro e w1 ⟨rfl, hB1⟩
    go_wp2
    go_ret3
    exact RetApply.mk (by rw [applyIdx, if_pos HE.out]) (by rw [applyE, if_pos HE.out]) (by rw [applyImg, if_pos HE.out]; exact Sl.nil0 _ _ _) hB1
  have hb : (imgErr im != 0) = false := by simp [he]
  have hfe : ∀ v s m, fitsErr im v s m = fitErr (lens im) v s m := fun v s m => by unfold fitsErr; rw [if_neg (by simp [he])]
  have HE := Lib.hid he; clear he
  have hls := hl.small
  go_enter Try.func24, Try.ntmps24
  go_wp2_with fail
  refine (check_any h hn).mono ?_
  rintro e w1 ⟨rfl, hB1⟩
  go_wp2_with fail
  refine (copyR_any (h.below hB1) hn hvs).mono ?_
  rintro e w2 ⟨v0, rfl, hown0, hB2⟩
  have hB3 := hB1.trans (hB2.mono hB1.size)
  go_wp2
  go_loopw [9, 10, 11] (fun i _ _ wr => ∃ k : Nat, k ≤ ln ∧ i = .int .i64 k ∧ Hid (applyErr (lens im) l 0 = applyErr (lens im) (l.drop k) k ∧ lens ((l.take k).foldl putW im) = lens im) ∧ OwnD ownSecs w1.heap.size wr.heap.size 40 wr v0 ((l.take k).foldl putW im) ∧ Below w1.heap.size w1 wr) (fun i _ _ _ => ln - (intOf i).toNat)
  case atStart => exact ⟨0, Nat.zero_le _, rfl, ⟨rfl, rfl⟩, hown0, hB2⟩
  case round =>
    obtain ⟨k, hk, rfl, HK, hown, hB⟩ := hrel
    have hBw : Below w.heap.size w wr := hB1.trans (hB.mono hB1.size)
    by_cases hlt : k < ln
    · obtain ⟨b, off, rfl, _, hbl⟩ := hl.addr hlt
      obtain ⟨⟨v, s, d⟩, hx⟩ := hl.get hlt
      obtain ⟨da, dn, dc, hw0, hw1, hw2, hv, hs, hd⟩ := hl.wr hx
      have hat : ∀ {ad : Addr} {u : Value} {W : World}, w.cell? ad = some u → Below w.heap.size w W → W.cell? ad = some u := fun hc hb => (hb.cell (World.block_lt_of_cell? w _ hc)).trans hc
      have hc0 := hat hw0 hBw
      have hc1 := hat hw1 hBw
      have hc2 := hat hw2 hBw
      have HX := Lib.hid hx; clear hx
      generalize hcur : (l.take k).foldl putW im = cur at *
      have HC := Lib.hid hcur; clear hcur
      have hds := hd.small
      by_cases hf : fitErr (lens im) v s dn = 0
      rotate_left
      · have hfb : (fitErr (lens im) v s dn != 0) = true := by simp [hf]
        have HF := Lib.hid hf; clear hf
        go_wp2_with fail
        refine (fits_any (h.below hBw) hn hv hs hds).mono ?_
        rintro e w3 ⟨rfl, hB4⟩
        rw [hfe]
        go_wp2
        go_ret3
        have e0 : applyErr (lens im) l 0 = ((k : Int), fitErr (lens im) v s dn) := by
          have e1 : fitW (lens im) (v, s, d) = fitErr (lens im) v s dn := by unfold fitW; rw [hd.len]
          rw [← e1]
          exact applyErr_hit HX.out HK.out.1 (by rw [e1]; exact HF.out)
        exact RetApply.mk (by rw [applyIdx, if_neg (by simp [HE.out]), e0]) (by rw [applyE, if_neg (by simp [HE.out]), e0]) (by rw [applyImg, if_neg (by simp [HE.out]), e0, orNil_bad HF.out]; exact Sl.nil0 _ _ _)
          (hBw.trans (hB4.mono hBw.size))
      · have hfb : (fitErr (lens im) v s dn != 0) = false := by simp [hf]
        have hfw : fitW (lens cur) (v, s, d) = 0 := by rw [HK.out.2]; unfold fitW; rw [hd.len]; exact hf
        obtain ⟨h1, h2, h3, h4, x, hx, h5⟩ := fitW_ok hfw
        obtain ⟨v, rfl⟩ := Int.eq_ofNat_of_zero_le h1
        obtain ⟨s, rfl⟩ := Int.eq_ofNat_of_zero_le h4
        rw [Int.toNat_natCast] at hx
        have HFW := Lib.hid hfw; clear hfw
        have HF := Lib.hid hf; clear hf
        have hdn : 0 < dn := by rw [← hd.len]; exact h3
        have h5' : s + dn ≤ x.length := by rw [hd.len] at h5; omega
        obtain ⟨db, doff, rfl, _, hdb⟩ := hd.addr hdn
        have HXX := Lib.hid hx; clear hx
        go_wp2_with fail
        refine (fits_any (h.below hBw) hn hv hs hds).mono ?_
        rintro e w3 ⟨rfl, hB4⟩
        rw [hfe, HF.out]
        have hB5 : Below w1.heap.size w1 w3 := hB.trans (hB4.mono hB.size)
        go_wp2
        go_loopw [11] (fun i wr2 => ∃ j : Nat, j ≤ dn ∧ i = .int .i64 j ∧ OwnD ownSecs w1.heap.size wr2.heap.size 40 wr2 v0 (cur.set v (writeAt x s (d.take j))) ∧ Below w1.heap.size w1 wr2) (fun i _ => dn - (intOf i).toNat)
        case atStart => exact ⟨0, Nat.zero_le _, rfl, by rw [List.take_zero, writeAt_nil, set_self HXX.out]; exact (hown.below hB4).up hB4.size, hB5⟩
        case round =>
          obtain ⟨j, hj, rfl, hown2, hB6⟩ := hrel
          have hB6w := hB1.trans (hB6.mono hB1.size)
          have hc0' := hat hw0 hB6w
          have hc1' := hat hw1 hB6w
          have hc2' := hat hw2 hB6w
          by_cases hlt2 : j < dn
          · obtain ⟨y, hy⟩ := hd.get hlt2
            have hdlen : d.length = dn := hd.len
            have hxj : (cur.set v (writeAt x s (d.take j)))[v]? = some (writeAt x s (d.take j)) := List.getElem?_set_self (List.getElem?_eq_some_iff.1 HXX.out).1
            have hlj : (writeAt x s (d.take j)).length = x.length := writeAt_length (by simp; omega)
            obtain ⟨g, cap, cc, okk, hvv, hBg, hg, hcc, ⟨u, rfl, hub, hu, _⟩, hokk, hput⟩ := (hown2.below ((Below.refl _ _).drew)).at hxj
            rw [List.length_set] at hvv
            subst hvv
            have hu' := hu
            obtain ⟨xs, hrow, _⟩ := hu
            obtain ⟨gi, capi, rfl⟩ : ∃ gi capi, u = .slice (some ⟨gi, 0, none⟩) (writeAt x s (d.take j)).length capi := by
              rcases hrow.2 with ⟨_, h0⟩ | ⟨gi, capi, cur', hvu, _⟩
              · omega
              · exact ⟨gi, capi, hvu⟩
            have hgi := hokk gi (hub gi rfl)
            have hgiw : w.heap.size ≤ gi := Nat.le_trans hB1.size hgi.1
            have hne : ∀ {ad : Addr} {u : Value}, w.cell? ad = some u → ad.block ≠ gi := fun hc e => by have := World.block_lt_of_cell? w _ hc; omega
            have hl0 := cellLaterB (g := gi) hc0' (hne hw0)
            have hl1 := cellLaterB (g := gi) hc1' (hne hw1)
            have hl2 := cellLaterB (g := gi) hc2' (hne hw2)
            have hcell : wr.cell? ⟨g, v, none⟩ = some (.slice (some ⟨gi, 0, none⟩) (writeAt x s (d.take j)).length capi) := by have := hcc 0 Nat.zero_lt_one; simpa [ownSecs, ownRowR] using this
            have hl3 := cellLaterB (g := gi) hcell (fun e => hgi.2.2 e.symm)
            have hL := Try.secB (g := gi) (hd.below hB6w) hy (Nat.lt_of_lt_of_le hdb hB6w.size) (by omega)
            have hvlt : v < (cur.set v (writeAt x s (d.take j))).length := (List.getElem?_eq_some_iff.1 hxj).1
            have hsj : s + j < (writeAt x s (d.take j)).length := by rw [hlj]; omega
            have hsjx : s + j ≤ 9223372036854775807 := by
              obtain ⟨_, _, _, e, q⟩ := hu'.sl
              cases e
              have := q.small
              omega
            have HSTEP : Hid ((writeAt x s (d.take j)).take (s + j) ++ [y] ++ (writeAt x s (d.take j)).drop (s + j + 1) = writeAt x s (d.take (j + 1))) := writeAt_step hy (by omega)
            have HLJ := Lib.hid hlj; clear hlj
            clear hcc hy
            go_wp2_with fail
            refine wp_region_acts (fun w' => ∃ x : LaterB (wr) (gi), w' = x.w) [([0, 1, 2, 3, 4, 5, 6, 7, 8, 9, 10, 11, 12, 13, 14, 15, 16, 17, 18, 19, 20, 21, 22, 23], 24)] [] Try.mixed (by kernel_rfl) (LaterB.drew _ _) ?_
            refine wpActs_act ?_
            simp only [pick, List.filterMap_cons, List.filterMap_nil, List.getElem?_toArray, List.getElem?_cons_succ, List.getElem?_cons_zero]
            change wpQuiet _ _ _ _ (_ :: _ :: _ :: _ :: _ :: _ :: _ :: _ :: _ :: _ :: _ :: _ :: _ :: _ :: _ :: _ :: _ :: _ :: _ :: _ :: _ :: _ :: _ :: _ :: []) _
            repeat (first | (go_big_quiet_want; refine quiet_load _ (.tmp 66) rfl _ rfl _ hL ?_; go_big_quiet_on; simp only [Act.put, List.setIfInBounds_toArray, List.set_cons_zero, List.set_cons_succ]) | go_big_quiet_step (fail))
            refine wpQuiet_nil ?_
            change wpList _ _ _ [_] _ _
            refine wpList_storeOwn rfl _ _ rfl Try.szSec (s := s + j) (r := secR) rfl rfl hu' (y := y) rfl hsj ?_
            intro w4 hrow4 hgr4 hsz4
            rw [HSTEP.out] at hrow4
            have hgr : wr.grownBy w4 (some gi) := grown_trans (grown_drew _ _) hgr4
            go_wp2_with fail
            refine ⟨LaterB.of hgr, ?_⟩
            refine wpActs_last ?_
            simp only [pick, List.filterMap_cons, List.filterMap_nil, List.getElem?_toArray, List.getElem?_cons_succ, List.getElem?_cons_zero]
            change wpQuiet _ _ _ _ ([]) _
            repeat (go_big_quiet_step (fail))
            refine wpQuiet_nil ?_
            go_wp2
            go_roundw
            case rel =>
              refine ⟨j + 1, by omega, by go_num, ?_, hB6.grown hgr (by have := hB6.size; omega) (fun b hb => by cases hb; omega)⟩
              have := hput w4 (writeAt x s (d.take (j + 1))) (fun b hb hne => hgr4.block b hb (fun e => hne (by rw [Option.some.inj e]; exact hub gi rfl))) hgr4.os hgr4.tape hgr4.output hgr4.size ⟨_, rfl, hub, by
                rw [show (writeAt x s (d.take j)).length = (writeAt x s (d.take (j + 1))).length by rw [HLJ.out, writeAt_length (by simp; omega)]] at hrow4 ⊢; exact hrow4, fun e => by
                have := writeAt_length (l := x) (d := d.take (j + 1)) (s := s) (by simp; omega)
                rw [e] at this; simp at this; omega⟩
              rw [set_set] at this
              exact this.up (by have := hgr.size; omega)
            case measure => simp [intOf]; omega
          · obtain rfl : j = dn := by omega
            go_wp2
            go_roundw
            case rel =>
              refine ⟨k + 1, by omega, by go_num, ?_, ?_, hB6⟩
              · show _ ∧ _
                have hfw : fitW (lens im) ((v : Int), (s : Int), d) = 0 := by rw [← HK.out.2]; exact HFW.out
                refine ⟨applyErr_step HX.out HK.out.1 hfw, ?_⟩
                rw [take_succ_get HX.out, List.foldl_append, HC.out]
                show lens (putW cur _) = _
                rw [lens_put HFW.out, HK.out.2]
              · rw [take_succ_get HX.out, List.foldl_append, HC.out]
                show OwnD _ _ _ _ _ _ (putW cur _)
                rw [take_all hd.len] at hown2
                have e1 : putW cur ((v : Int), (s : Int), d) = cur.set v (writeAt x s d) := by
                  unfold putW; rw [Int.toNat_natCast, Int.toNat_natCast, getD_of HXX.out]
                rw [e1]
                exact hown2
            case measure => simp [intOf]; omega
    · obtain rfl : k = ln := by omega
      obtain ⟨a2, n2, c2, rfl, himg⟩ := hown.img
      go_wp2
      go_ret3
      have e0 := applyErr_end (Nat.le_of_eq hl.len) HK.out.1
      rw [take_all hl.len] at himg
      exact RetApply.mk (by rw [applyIdx, if_neg (by simp [HE.out]), e0]) (by rw [applyE, if_neg (by simp [HE.out]), e0]) (by rw [applyImg, if_neg (by simp [HE.out]), e0, orNil_ok rfl]; exact himg.mono fun b hb => Nat.le_trans hB1.size hb)
        (hB1.trans (hB.mono hB1.size))

end Go.Proofs.Ytldnpgbacakfeaa
