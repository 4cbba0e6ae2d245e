/-
  Layer 7: the sectors at which two volumes differ, one after the other.
-/
import Derived.Test.YtldnpgbacakfeaaImg6
import Derived.Test.YtldnpgbacakfeaaRngBase
namespace Go.Proofs.Ytldnpgbacakfeaa
open Go.RowKit Go.Shelf

attribute [local go_sem] Oper.semAt_some

/-- The indices below k at which two lists differ. -/
def diffs (a b : List Sec) (k : Nat) : List Nat := (List.range k).filter fun i => a[i]? != b[i]?
theorem diffs_hit {a b : List Sec} {k : Nat} (h : a[k]? ≠ b[k]?) : diffs a b (k + 1) = diffs a b k ++ [k] := by
  unfold diffs; rw [List.range_succ, List.filter_append]; simp [h]
theorem diffs_miss {a b : List Sec} {k : Nat} (h : a[k]? = b[k]?) : diffs a b (k + 1) = diffs a b k := by
  unfold diffs; rw [List.range_succ, List.filter_append]; simp [h]
theorem diffs_length (a b : List Sec) (k : Nat) : (diffs a b k).length ≤ k := by
  unfold diffs; exact Nat.le_trans (List.length_filter_le _ _) (by simp)
theorem diffs_prefix {a b : List Sec} {j k : Nat} (h : j ≤ k) : diffs a b j <+: diffs a b k := by
  obtain ⟨d, rfl⟩ := Nat.exists_eq_add_of_le h
  induction d with
  | zero => exact List.prefix_refl _
  | succ d ih =>
    refine (ih (by omega)).trans ?_
    by_cases hd : a[j + d]? = b[j + d]?
    · rw [show j + (d + 1) = j + d + 1 by omega, diffs_miss hd]; exact List.prefix_refl _
    · rw [show j + (d + 1) = j + d + 1 by omega, diffs_hit hd]; exact List.prefix_append _ _

theorem differing_any (a1 a2 : Option Addr) (n1 c1 n2 c2 : Nat) (w : World) :
    Calls Try.prog 74 #[.slice a1 n1 c1, .slice a2 n2 c2] w fun e w' => e = .returned (.func (.func 80) #[] #[.pointer (some ⟨w.heap.size, 0, none⟩), .pointer (some ⟨w.heap.size + 1, 0, none⟩)]) ∧
      (w.alloc (.cells #[.slice a1 n1 c1] 40)).alloc (.cells #[.slice a2 n2 c2] 40) = w' := by
  have hmf : ∀ (fn : Fn) (first cap : Array Value) (w : World), (Instr.makeFunc fn first cap).run Try.prog w = .ok (.func fn first cap) w := fun _ _ _ _ => rfl
  go_enter Try.func74, Try.ntmps74
  go_wp2
  go_ret
  exact ⟨rfl, rfl⟩

theorem Try.secX {ok X : Nat → Prop} {w : World} {b off n c k : Nat} {l : List Sec} {x : Sec} (h : Sl secR ok w (some ⟨b, off, none⟩) n c l) (hx : l[k]? = some x) (hX : ∀ b, ok b → X b) :
    ∀ w', (∃ y : LaterX w X, w' = y.w) → (loadVar 52 ⟨b, off + k * 8, none⟩).run Try.prog w' = .ok (.agg (secCells x).toArray) w' := by
  rintro _ ⟨y, rfl⟩
  exact Try.loadSec ((h.keep y.keep hX).sec hx)

set_option maxRecDepth 100000 in
set_option maxHeartbeats 4000000 in
theorem differing_stops {X : Nat → Prop} {a1 a2 : Option Addr} {n c1 c2 : Nat} {l1 l2 : List Sec} {w : World} (h1 : Sl secR X w a1 n c1 l1) (h2 : Sl secR X w a2 n c2 l2) {Ba Bb : Nat} (hXa : X Ba) (hXb : X Bb) (hlt : ∀ b, X b → b < w.heap.size)
    (hca : w.cell? ⟨Ba, 0, none⟩ = some (.slice a1 n c1)) (hcb : w.cell? ⟨Bb, 0, none⟩ = some (.slice a2 n c2)) {m : Nat} (hm : 1 ≤ m) :
    SeqStopsK Fence.wide m Try.prog 80 #[.pointer (some ⟨Ba, 0, none⟩), .pointer (some ⟨Bb, 0, none⟩)] (fun x : Fin n => #[Value.int .i64 x.val]) (Keep X) (fun ys => ys.map Fin.val = diffs l1 l2 n) (fun pre => pre.map Fin.val <+: diffs l1 l2 n) n w := by
  intro l J Jx W hW hJa hJxa hY h0
  have hK0 : Keep X w W := Keep.below hW hlt
  have g1 := h1.keep hK0 (fun b hb => hb)
  have g2 := h2.keep hK0 (fun b hb => hb)
  have ca := hK0.cell (a := ⟨Ba, 0, none⟩) hXa hca
  have cb := hK0.cell (a := ⟨Bb, 0, none⟩) hXb hcb
  have hs := g1.small
  refine callsIn_of_wp Try.func80 rfl (by first | exact trivial | assumption) ?_ rfl
  simp only [Try.ntmps80, List.size_toArray, List.length_cons, List.length_nil, Nat.reduceAdd, Nat.reduceSub, Array.replicate_succ, Array.replicate_zero, List.push_toArray, List.append_toArray, List.nil_append, List.cons_append]
  gi_wp2
  gi_loopw [7] (fun i wr => ∃ k : Nat, k ≤ n ∧ i = .int .i64 k ∧ ∃ ks : List (Fin n), ks.map Fin.val = diffs l1 l2 k ∧ J ks wr ∧ Keep X W wr) (fun i _ => n - (intOf i).toNat)
  case atStart => exact ⟨0, Nat.zero_le _, rfl, [], rfl, h0, Keep.refl _ _⟩
  case round =>
    obtain ⟨k, hk, rfl, ks, hks, hJ, hK⟩ := hrel
    by_cases hkn : k < n
    · obtain ⟨b1, o1, rfl, hb1, _⟩ := h1.addr hkn
      obtain ⟨b2, o2, rfl, hb2, _⟩ := h2.addr hkn
      obtain ⟨x, hx⟩ := h1.get hkn
      obtain ⟨y, hy⟩ := h2.get hkn
      have k1 := cellLaterX (hK.cell (a := ⟨Ba, 0, none⟩) hXa ca) hXa
      have k2 := cellLaterX (hK.cell (a := ⟨Bb, 0, none⟩) hXb cb) hXb
      have hL1 := Try.secX (g1.keep hK (fun b hb => hb)) hx (fun b hb => hb)
      have hL2 := Try.secX (g2.keep hK (fun b hb => hb)) hy (fun b hb => hb)
      have hE := Try.eqSec x y
      have HX := Lib.hid hx
      have HY := Lib.hid hy
      clear hx hy
      have hlen : ks.length < n := by rw [← List.length_map (f := Fin.val), hks]; exact Nat.lt_of_le_of_lt (diffs_length l1 l2 k) hkn
      cases hxy : x == y with
      | true =>
        rw [hxy] at hE
        have HE : Hid (diffs l1 l2 (k + 1) = diffs l1 l2 k) := diffs_miss (by rw [HX.out, HY.out, eq_of_beq hxy])
        clear hxy
        gi_wp2
        refine wpIn_region_fin (fun w' => ∃ x : LaterX (wr) (X), w' = x.w) [] [0, 1, 2, 3, 4, 5, 6, 7, 8, 9, 10, 11] 12 [13, 14] (fun _ => trivial) Try.mixed (by kernel_rfl) (by kernel_rfl) (LaterX.drew _ _) ?_
        refine wpFin_last ?_
        simp only [pick, List.filterMap_cons, List.filterMap_nil, List.getElem?_toArray, List.getElem?_cons_succ, List.getElem?_cons_zero]
        change wpQuiet _ _ _ _ [_, _, _, _, _, _, _, _, _, _, _, _] _
        repeat (first | (go_big_quiet_want; refine quiet_load _ (.tmp 12) rfl _ rfl _ hL1 ?_; go_big_quiet_on; simp only [Act.put, List.setIfInBounds_toArray, List.set_cons_zero, List.set_cons_succ]) | (go_big_quiet_want; refine quiet_load _ (.tmp 16) rfl _ rfl _ hL2 ?_; go_big_quiet_on; simp only [Act.put, List.setIfInBounds_toArray, List.set_cons_zero, List.set_cons_succ]) | go_big_quiet_step (fail))
        refine wpQuiet_nil ?_
        change wpListIn _ _ _ _ _ [_] _ _
        refine wpListIn_skip1 rfl (fun _ => trivial) ?_
        simp only [Act.put, List.setIfInBounds_toArray, List.set_cons_zero, List.set_cons_succ]
        refine ⟨trivial, ?_⟩
        try simp only [pick, List.filterMap_cons, List.filterMap_nil, List.getElem?_toArray, List.getElem?_cons_succ, List.getElem?_cons_zero]
        change wpQuiet _ _ _ _ [_, _] _
        repeat (go_big_quiet_step (fail))
        refine wpQuiet_nil ?_
        gi_wp2
        go_roundw
        case rel => exact ⟨k + 1, by omega, by go_num, ks, by rw [HE.out, hks], hJa _ wr _ none hJ (grown_drew _ _) (fun r e => by cases e), hK.drew⟩
        case measure => simp [intOf]; omega
      | false =>
        rw [hxy] at hE
        have HE : Hid (diffs l1 l2 (k + 1) = diffs l1 l2 k ++ [k]) := diffs_hit (by rw [HX.out, HY.out]; intro e; rw [Option.some.inj e] at hxy; simp at hxy)
        clear hxy
        obtain ⟨fn, tmps, assign, body, hy, hR⟩ := hY _ ⟨k, hkn⟩ wr.drew (hJa _ wr _ none hJ (grown_drew _ _) (fun r e => by cases e)) hlen
        gi_wp2
        refine wpIn_region_fin (fun w' => ∃ x : LaterX (wr) (X), w' = x.w) [] [0, 1, 2, 3, 4, 5, 6, 7, 8, 9, 10, 11] 12 [13, 14] (fun _ => trivial) Try.mixed (by kernel_rfl) (by kernel_rfl) (LaterX.drew _ _) ?_
        refine wpFin_last ?_
        simp only [pick, List.filterMap_cons, List.filterMap_nil, List.getElem?_toArray, List.getElem?_cons_succ, List.getElem?_cons_zero]
        change wpQuiet _ _ _ _ [_, _, _, _, _, _, _, _, _, _, _, _] _
        repeat (first | (go_big_quiet_want; refine quiet_load _ (.tmp 12) rfl _ rfl _ hL1 ?_; go_big_quiet_on; simp only [Act.put, List.setIfInBounds_toArray, List.set_cons_zero, List.set_cons_succ]) | (go_big_quiet_want; refine quiet_load _ (.tmp 16) rfl _ rfl _ hL2 ?_; go_big_quiet_on; simp only [Act.put, List.setIfInBounds_toArray, List.set_cons_zero, List.set_cons_succ]) | go_big_quiet_step (fail))
        refine wpQuiet_nil ?_
        change wpListIn _ _ _ _ _ [_] _ _
        gi_wp2
        refine hR.mono ?_
        rintro e W3 (⟨rfl, hJ3, hk3⟩ | ⟨rfl, hJx3⟩)
        · gi_wp2
          try simp only [pick, List.filterMap_cons, List.filterMap_nil, List.getElem?_toArray, List.getElem?_cons_succ, List.getElem?_cons_zero]
          change wpQuiet _ _ _ _ [_, _] _
          repeat (go_big_quiet_step (fail))
          refine wpQuiet_nil ?_
          gi_wp2
          go_roundw
          case rel => exact ⟨k + 1, by omega, by go_num, ks ++ [⟨k, hkn⟩], by rw [HE.out, List.map_append, hks]; rfl, hJ3, hK.trans hk3⟩
          case measure => simp [intOf]; omega
        · gi_wp2
          try simp only [pick, List.filterMap_cons, List.filterMap_nil, List.getElem?_toArray, List.getElem?_cons_succ, List.getElem?_cons_zero]
          change wpQuiet _ _ _ _ [_, _] _
          repeat (go_big_quiet_step (fail))
          refine wpQuiet_nil ?_
          gi_wp2
          refine bodyPost_ret (results_none rfl _ _ _) rfl ?_
          exact ⟨⟨_, rfl⟩, .inr ⟨_, by rw [List.map_append, hks]; show diffs l1 l2 k ++ [k] <+: _; rw [← HE.out]; exact diffs_prefix (show k + 1 ≤ n by omega), hJx3⟩⟩
    · obtain rfl : k = n := by omega
      gi_wp2
      go_end0
      exact ⟨⟨_, rfl⟩, .inl ⟨_, hks, hJ⟩⟩

end Go.Proofs.Ytldnpgbacakfeaa
