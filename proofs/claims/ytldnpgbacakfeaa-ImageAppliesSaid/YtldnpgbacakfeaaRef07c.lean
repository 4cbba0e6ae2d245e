/-
  The reference of layer 7: writes that fit; images that are the same; two images that are compared.
-/
import Derived.Test.YtldnpgbacakfeaaRef07b
namespace Go.Proofs.Ytldnpgbacakfeaa
open Go.RowKit

def fitsErr (im : List (List Sec)) (vol start : Int) (len : Nat) : Int := if imgErr im ≠ 0 then imgErr im else fitErr (lens im) vol start len

theorem lens_nonneg (im : List (List Sec)) : ∀ x ∈ lens im, 0 ≤ x := by
  intro x hx; obtain ⟨v, _, rfl⟩ := List.mem_map.1 hx; omega

theorem loadNewAgg {P : Program} {T : TypeId} {d : TypeDesc} {W w : World} {cs : Array Value} {B n : Nat} (hu : P.underlying T = some d) (hd : (match d with | .struct _ | .array _ _ => true | _ => false) = true)
    (hi : (P.info? T).map (·.size) = some n) (hn : cs.size = n) (hB : B = W.heap.size) (hb : Below (W.alloc (.cells cs T)).heap.size (W.alloc (.cells cs T)) w) :
    ∀ w', (∃ x : Later w, w' = x.w) → (loadVar T ⟨B, 0, none⟩).run P w' = .ok (.agg cs) w' := by
  rintro _ ⟨x, rfl⟩
  subst hB
  refine run_loadAgg (cs := cs.toList) hu hd (by rw [hi, Array.length_toList, hn]) fun j hj => ?_
  have h1 : W.heap.size < (W.alloc (.cells cs T)).heap.size := by simp
  have h2 : W.heap.size < w.heap.size := Nat.lt_of_lt_of_le h1 hb.size
  rw [Addr.add_lit, Nat.zero_add, x.below.cell (p := ⟨W.heap.size, j, none⟩) h2, hb.cell (p := ⟨W.heap.size, j, none⟩) h1, World.cell?_alloc_mark W cs T (0, 0) j]
  simp

set_option maxHeartbeats 1000000 in
theorem fits_any {a : Option Addr} {n c : Nat} {im : List (List Sec)} {ok : Nat → Prop} {w : World} (h : Sl secsR ok w a n c im) (hn : n ≤ 1000000) {vol start : Int} (hv : i64ok vol) (hst : i64ok start)
    {da : Option Addr} {dn dc : Nat} (hd : dn ≤ 9223372036854775807) :
    Calls Try.prog 22 #[.slice a n c, .agg #[.int .i64 vol, .int .i64 start, .slice da dn dc]] w fun e w' => e = .returned (.int .i64 (fitsErr im vol start dn)) ∧ Below w.heap.size w w' := by
  have hB0 : Below w.heap.size w (w.alloc (.cells #[.int .i64 vol, .int .i64 start, .slice da dn dc] 42)) := (Below.refl _ _).alloc (Nat.le_refl _) _
  go_enter Try.func22, Try.ntmps22
  go_wp2_with fail
  refine (check_any (h.below hB0) hn).mono ?_
  rintro e w1 ⟨rfl, hB1⟩
  have hB2 := hB0.trans (hB1.mono hB0.size)
  by_cases he : imgErr im = 0
  · have hb : (imgErr im != 0) = false := by simp [he]
    have HE := Lib.hid he; clear he
    have hld := loadNewAgg (P := Try.prog) Try.underlying42 rfl (by kernel_rfl) rfl rfl hB1
    go_wp2_with fail
    refine wp_region_acts (fun w' => ∃ x : Later (w1), w' = x.w) [([0, 2], 1), ([], 3)] [4] Try.mixed (by kernel_rfl) (LaterS.drew _) ?_
    refine wpActs_act ?_
    simp only [pick, List.filterMap_cons, List.filterMap_nil, List.getElem?_toArray, List.getElem?_cons_succ, List.getElem?_cons_zero]
    change wpQuiet _ _ _ _ [_, _] _
    repeat (first | (go_big_quiet_want; refine quiet_load _ (.tmp 3) rfl _ rfl _ hld ?_; go_big_quiet_on; simp only [Act.put, List.setIfInBounds_toArray, List.set_cons_zero, List.set_cons_succ]) | go_big_quiet_step (fail))
    refine wpQuiet_nil ?_
    change wpList _ _ _ [_] _ _
    go_wp2_with fail
    refine (sizesOf_any (h.below (hB2.drew)) hn).mono ?_
    rintro e w2 ⟨a', n', c', rfl, h2, hB3⟩
    have hB4 : Below w1.heap.size w1 w2 := ((Below.refl _ _).drew).trans hB3
    go_wp2_with fail
    refine ⟨LaterS.of hB4, ?_⟩
    refine wpActs_act ?_
    simp only [pick, List.filterMap_cons, List.filterMap_nil, List.getElem?_toArray, List.getElem?_cons_succ, List.getElem?_cons_zero]
    change wpQuiet _ _ _ _ [] _
    repeat (go_big_quiet_step (fail))
    refine wpQuiet_nil ?_
    change wpList _ _ _ [_] _ _
    go_wp2_with fail
    refine (fitsSizes_any h2 hv hst hd (lens_nonneg im)).mono ?_
    rintro e w3 ⟨rfl, hB5⟩
    have hB6 := hB4.trans (hB5.mono hB4.size)
    go_wp2_with fail
    refine ⟨LaterS.of hB6, ?_⟩
    refine wpActs_last ?_
    simp only [pick, List.filterMap_cons, List.filterMap_nil, List.getElem?_toArray, List.getElem?_cons_succ, List.getElem?_cons_zero]
    change wpQuiet _ _ _ _ [_] _
    repeat (go_big_quiet_step (fail))
    refine wpQuiet_nil ?_
    go_wp2
    go_ret
    exact ⟨ret_int (by rw [fitsErr, if_neg (by simp [HE.out])]), hB2.trans (hB6.mono hB2.size)⟩
  · have hb : (imgErr im != 0) = true := by simp [he]
    have HE := Lib.hid he; clear he
    go_wp2
    go_ret
    exact ⟨ret_int (by rw [fitsErr, if_pos HE.out]), hB2⟩

end Go.Proofs.Ytldnpgbacakfeaa
