/-
  Layer 7: where two volumes differ, by the reference.
-/
import Derived.Test.YtldnpgbacakfeaaImg10
namespace Go.Proofs.Ytldnpgbacakfeaa
open Go.RowKit

set_option maxRecDepth 100000 in
set_option maxHeartbeats 4000000 in
theorem volumeDiffer_any {a1 a2 : Option Addr} {n c1 c2 : Nat} {l1 l2 : List Sec} {ok1 ok2 : Nat → Prop} {w : World} (h1 : Sl secR ok1 w a1 n c1 l1) (h2 : Sl secR ok2 w a2 n c2 l2) (hn : n ≤ 1000000) :
    Calls Try.prog 60 #[.slice a1 n c1, .slice a2 n c2] w fun e w' => ∃ v, e = .returned v ∧ ownExts.rd (w.heap.size ≤ ·) w' [v] (extents l1 l2) ∧ Below w.heap.size w w' := by
  have hs := h1.small
  go_enter Try.func60, Try.ntmps60
  go_wp2
  go_loopw [5, 6] (fun v i wr => ∃ k : Nat, k ≤ n ∧ i = .int .i64 k ∧ Own extR w.heap.size 59 (fun _ => False) wr v (runs (diffs l1 l2 k)) ∧ (runs (diffs l1 l2 k) = [] → v = .slice none 0 0) ∧ Within n (runs (diffs l1 l2 k)) ∧ Below w.heap.size w wr) (fun _ i _ => n - (intOf i).toNat)
  case atStart => exact ⟨0, Nat.zero_le _, rfl, Own.nil _ _ _ _ _, fun _ => rfl, Within.nil _, Below.refl _ _⟩
  case round =>
    obtain ⟨k, hk, rfl, hown, hnil, hW, hB⟩ := hrel
    have hz := hB.size
    by_cases hlt : k < n
    · obtain ⟨b1, o1, rfl, _, _⟩ := h1.addr hlt
      obtain ⟨b2, o2, rfl, _, _⟩ := h2.addr hlt
      obtain ⟨x, hx⟩ := h1.get hlt
      obtain ⟨y, hy⟩ := h2.get hlt
      have hL1 := Try.secLater (h1.below hB) hx
      have hL2 := Try.secLater (h2.below hB) hy
      have hE := Try.eqSec x y
      have hlen : (runs (diffs l1 l2 k)).length ≤ k := Nat.le_trans (runs_length _) (diffs_length _ _ _)
      have hown2 := hown.below (((Below.refl wr.heap.size wr).drew.drew).alloc (Nat.le_refl wr.heap.size) (.cells #[.int .i64 k, .int .i64 1] 59))
      have hsrc2 : Src extR (fun b => False ∧ Option.some b ≠ u5.ownBlock) (wr.drew.drew.alloc (.cells #[.int .i64 k, .int .i64 1] 59)) (some ⟨wr.drew.drew.heap.size, 0, none⟩) 1 1 [((k : Int), (1 : Int))] :=
        Src.flat (Flat.pair Flat.int Flat.int) (ok := fun _ => True) (Src.new1 (r := extR) (x := ((k : Int), (1 : Int))) (show extR.rd _ _ [.int .i64 k, .int .i64 1] ((k : Int), (1 : Int)) from ⟨[_], [_], rfl, ⟨rfl, i64ok_nat (by unfold maxLen; omega)⟩, ⟨rfl, by unfold i64ok; omega⟩⟩))
      cases hxy : x == y with
      | true =>
        rw [hxy] at hE
        have HE : Hid (diffs l1 l2 (k + 1) = diffs l1 l2 k) := diffs_miss (by rw [hx, hy, eq_of_beq hxy])
        clear hxy hx hy hlen
        go_wp2_with fail
        refine wp_region_acts (fun w' => ∃ x : Later (wr), w' = x.w) [] [0, 1, 2, 3, 4, 5, 6, 7, 8] Try.mixed (by kernel_rfl) (LaterS.drew _) ?_
        refine wpActs_last ?_
        simp only [pick, List.filterMap_cons, List.filterMap_nil, List.getElem?_toArray, List.getElem?_cons_succ, List.getElem?_cons_zero]
        change wpQuiet _ _ _ _ [_, _, _, _, _, _, _, _, _] _
        repeat (first | (go_big_quiet_want; refine quiet_load _ (.tmp 16) rfl _ rfl _ hL1 ?_; go_big_quiet_on; simp only [Act.put, List.setIfInBounds_toArray, List.set_cons_zero, List.set_cons_succ]) | (go_big_quiet_want; refine quiet_load _ (.tmp 20) rfl _ rfl _ hL2 ?_; go_big_quiet_on; simp only [Act.put, List.setIfInBounds_toArray, List.set_cons_zero, List.set_cons_succ]) | go_big_quiet_step (fail))
        refine wpQuiet_nil ?_
        go_wp2
        go_roundw
        case rel => exact ⟨k + 1, by omega, by go_num, by rw [HE.out]; exact hown.below (Below.refl _ _).drew, by rw [HE.out]; exact hnil, by rw [HE.out]; exact hW, hB.drew⟩
        case measure => simp [intOf]; omega
      | false =>
        rw [hxy] at hE
        have HE : Hid (diffs l1 l2 (k + 1) = diffs l1 l2 k ++ [k]) := diffs_hit (by rw [hx, hy]; intro e; rw [Option.some.inj e] at hxy; simp at hxy)
        clear hxy hx hy
        generalize hR : runs (diffs l1 l2 k) = R at *
        have HR := Lib.hid hR; clear hR
        by_cases hR0 : R = []
        · obtain rfl := hnil hR0
          subst hR0
          go_wp2_with fail
          refine wp_region_acts (fun w' => ∃ x : Later (wr), w' = x.w) [] [0, 1, 2, 3, 4, 5, 6, 7, 8] Try.mixed (by kernel_rfl) (LaterS.drew _) ?_
          refine wpActs_last ?_
          simp only [pick, List.filterMap_cons, List.filterMap_nil, List.getElem?_toArray, List.getElem?_cons_succ, List.getElem?_cons_zero]
          change wpQuiet _ _ _ _ [_, _, _, _, _, _, _, _, _] _
          repeat (first | (go_big_quiet_want; refine quiet_load _ (.tmp 16) rfl _ rfl _ hL1 ?_; go_big_quiet_on; simp only [Act.put, List.setIfInBounds_toArray, List.set_cons_zero, List.set_cons_succ]) | (go_big_quiet_want; refine quiet_load _ (.tmp 20) rfl _ rfl _ hL2 ?_; go_big_quiet_on; simp only [Act.put, List.setIfInBounds_toArray, List.set_cons_zero, List.set_cons_succ]) | go_big_quiet_step (fail))
          refine wpQuiet_nil ?_
          go_wp2_with fail
          refine wp_region_acts (fun w' => ∃ x : Later (wr.drew), w' = x.w) [] [0, 1, 2, 3, 4, 5, 6, 7, 8, 9, 10, 11, 12, 13, 14, 15, 16, 17, 18] Try.mixed (by kernel_rfl) (LaterS.drew _) ?_
          refine wpActs_last ?_
          simp only [pick, List.filterMap_cons, List.filterMap_nil, List.getElem?_toArray, List.getElem?_cons_succ, List.getElem?_cons_zero]
          change wpQuiet _ _ _ _ [_, _, _, _, _, _, _, _, _, _, _, _, _, _, _, _, _, _, _] _
          repeat (go_big_quiet_step (fail))
          refine wpQuiet_nil ?_
          go_wp2_with (at_builtin; refine wpList_app Try.slExt rfl _ _ rfl rfl hown2 rfl hsrc2 ?c1 ?c2 ?c3 ?_)
          case c1 => decide
          case c2 => decide
          case c3 => simp; omega
          intro v' w1 hown' hgrow hblk
          have hb1 : Below w.heap.size wr w1 := ((((Below.refl _ wr).drew).drew).alloc hB.size _).grown hgrow (by simp; omega) (fun b hb => (hown.lt b hb).1)
          go_wp2
          go_roundw
          case rel => exact ⟨k + 1, by omega, by go_num, by rw [HE.out, runs_snoc, HR.out, bump_new (by simp [endOf])]; exact hown', by rw [HE.out, runs_snoc, HR.out, bump_new (by simp [endOf])]; simp, by rw [HE.out, runs_snoc, HR.out]; exact hW.bump hlt, hB.trans hb1⟩
          case measure => simp [intOf]; omega
        · obtain ⟨g, cap, rfl, hg, hgs⟩ := hown.row hR0
          obtain ⟨j, hj⟩ : ∃ j, R.length = j + 1 := ⟨R.length - 1, by have : R.length ≠ 0 := fun e => hR0 (List.eq_nil_of_length_eq_zero e); omega⟩
          obtain ⟨p, hp⟩ : ∃ p, R[j]? = some p := ⟨_, List.getElem?_eq_getElem (by omega)⟩
          have hend : endOf R = p.1 + p.2 := by rw [endOf, hj, Nat.add_sub_cancel, hp]
          have hwp := hW p (List.mem_of_getElem? hp)
          obtain ⟨_, cs, hcs, a, b, rfl, ⟨rfl, ha⟩, ⟨rfl, hb⟩⟩ := hown.elem hp
          have hc0 : wr.drew.cell? ⟨g, j * 2, none⟩ = some (.int .i64 p.1) := hcs 0 (by decide)
          have hc1 : wr.drew.cell? ⟨g, j * 2 + 1, none⟩ = some (.int .i64 p.2) := hcs 1 (by decide)
          have hl0 := cellLater hc0
          have hl1 := cellLater hc1
          have hjk : j < 1000000 := by omega
          have hd : decide ((0 : Int) < (j : Int) + 1) = true := decide_eq_true (by omega)
          have hfr := hown.frozen (j * 2 + 1)
          have HJ := Lib.hid hj
          rw [hj] at hown2
          have HEND := Lib.hid hend; clear hend
          have HP := Lib.hid hp; clear hp
          by_cases he : p.1 + p.2 = (k : Int)
          · have heb : (p.1 + p.2 == (k : Int)) = true := by simp [he]
            have HK := Lib.hid he; clear he
            go_wp2_with fail
            refine wp_region_acts (fun w' => ∃ x : Later (wr), w' = x.w) [] [0, 1, 2, 3, 4, 5, 6, 7, 8] Try.mixed (by kernel_rfl) (LaterS.drew _) ?_
            refine wpActs_last ?_
            simp only [pick, List.filterMap_cons, List.filterMap_nil, List.getElem?_toArray, List.getElem?_cons_succ, List.getElem?_cons_zero]
            change wpQuiet _ _ _ _ [_, _, _, _, _, _, _, _, _] _
            repeat (first | (go_big_quiet_want; refine quiet_load _ (.tmp 16) rfl _ rfl _ hL1 ?_; go_big_quiet_on; simp only [Act.put, List.setIfInBounds_toArray, List.set_cons_zero, List.set_cons_succ]) | (go_big_quiet_want; refine quiet_load _ (.tmp 20) rfl _ rfl _ hL2 ?_; go_big_quiet_on; simp only [Act.put, List.setIfInBounds_toArray, List.set_cons_zero, List.set_cons_succ]) | go_big_quiet_step (fail))
            refine wpQuiet_nil ?_
            go_wp2_with fail
            refine wp_region_acts (fun w' => ∃ x : Later (wr.drew), w' = x.w) [] [0, 1, 2, 3, 4, 5, 6, 7, 8, 9, 10, 11, 12, 13, 14, 15, 16, 17, 18] Try.mixed (by kernel_rfl) (LaterS.drew _) ?_
            refine wpActs_last ?_
            simp only [pick, List.filterMap_cons, List.filterMap_nil, List.getElem?_toArray, List.getElem?_cons_succ, List.getElem?_cons_zero]
            change wpQuiet _ _ _ _ [_, _, _, _, _, _, _, _, _, _, _, _, _, _, _, _, _, _, _] _
            repeat (go_big_quiet_step (fail))
            refine wpQuiet_nil ?_
            have hc1' : wr.drew.drew.cell? ⟨g, j * 2 + 1, none⟩ = some (.int .i64 p.2) := hc1
            have hf1' : wr.drew.drew.frozen? ⟨g, j * 2 + 1, none⟩ = false := hfr
            go_wp2
            go_roundw
            case rel =>
              have hst := hown.stored (Flat.pair Flat.int Flat.int) (k := j) (j := 1) (u := .int .i64 (p.2 + 1)) (x' := (p.1, p.2 + 1)) HP.out (by decide) (by
                rintro c ⟨a, b, rfl, ⟨rfl, h1⟩, ⟨rfl, h2⟩⟩
                exact ⟨[_], [_], rfl, ⟨rfl, h1⟩, ⟨rfl, by unfold i64ok; omega⟩⟩)
              have hb1 : Below w.heap.size wr (wr.setCell ⟨g, j * 2 + 1, none⟩ (.int .i64 (p.2 + 1))) := below_set _ _ _ hg hz
              have hbump : bump R k = R.set j (p.1, p.2 + 1) := by
                obtain ⟨j', p', g1, g2, _, g4⟩ := endOf_some (HEND.out.trans HK.out)
                obtain rfl : j' = j := by have := HJ.out; omega
                obtain rfl : p' = p := by have := g2.symm.trans HP.out; exact Option.some.inj this
                exact g4
              rw [hj] at hst
              exact ⟨k + 1, by omega, by go_num, by rw [HE.out, runs_snoc, HR.out, hbump]; exact hst.below ((Below.refl _ _).drew).drew, (by rw [HE.out, runs_snoc, HR.out, hbump]; intro e; have := congrArg List.length e; rw [List.length_set, hj] at this; cases this),
                by rw [HE.out, runs_snoc, HR.out]; exact hW.bump hlt, (hB.trans hb1).drew.drew⟩
            case measure => simp [intOf]; omega
          · have heb : (p.1 + p.2 == (k : Int)) = false := by simp [he]
            have HK := Lib.hid he; clear he
            go_wp2_with fail
            refine wp_region_acts (fun w' => ∃ x : Later (wr), w' = x.w) [] [0, 1, 2, 3, 4, 5, 6, 7, 8] Try.mixed (by kernel_rfl) (LaterS.drew _) ?_
            refine wpActs_last ?_
            simp only [pick, List.filterMap_cons, List.filterMap_nil, List.getElem?_toArray, List.getElem?_cons_succ, List.getElem?_cons_zero]
            change wpQuiet _ _ _ _ [_, _, _, _, _, _, _, _, _] _
            repeat (first | (go_big_quiet_want; refine quiet_load _ (.tmp 16) rfl _ rfl _ hL1 ?_; go_big_quiet_on; simp only [Act.put, List.setIfInBounds_toArray, List.set_cons_zero, List.set_cons_succ]) | (go_big_quiet_want; refine quiet_load _ (.tmp 20) rfl _ rfl _ hL2 ?_; go_big_quiet_on; simp only [Act.put, List.setIfInBounds_toArray, List.set_cons_zero, List.set_cons_succ]) | go_big_quiet_step (fail))
            refine wpQuiet_nil ?_
            go_wp2_with fail
            refine wp_region_acts (fun w' => ∃ x : Later (wr.drew), w' = x.w) [] [0, 1, 2, 3, 4, 5, 6, 7, 8, 9, 10, 11, 12, 13, 14, 15, 16, 17, 18] Try.mixed (by kernel_rfl) (LaterS.drew _) ?_
            refine wpActs_last ?_
            simp only [pick, List.filterMap_cons, List.filterMap_nil, List.getElem?_toArray, List.getElem?_cons_succ, List.getElem?_cons_zero]
            change wpQuiet _ _ _ _ [_, _, _, _, _, _, _, _, _, _, _, _, _, _, _, _, _, _, _] _
            repeat (go_big_quiet_step (fail))
            refine wpQuiet_nil ?_
            go_wp2_with (at_builtin; refine wpList_app Try.slExt rfl _ _ rfl rfl hown2 rfl hsrc2 ?c1 ?c2 ?c3 ?_)
            case c1 => rw [HJ.out]; unfold maxLen; omega
            case c2 => rw [HJ.out]; omega
            case c3 => simp; omega
            intro v' w1 hown' hgrow hblk
            have hb1 : Below w.heap.size wr w1 := ((((Below.refl _ wr).drew).drew).alloc hB.size _).grown hgrow (by simp; omega) (fun b hb => (hown.lt b hb).1)
            go_wp2
            go_roundw
            case rel => exact ⟨k + 1, by omega, by go_num, by rw [HE.out, runs_snoc, HR.out, bump_new (by rw [HEND.out]; exact HK.out)]; exact hown', by rw [HE.out, runs_snoc, HR.out, bump_new (by rw [HEND.out]; exact HK.out)]; simp, by rw [HE.out, runs_snoc, HR.out]; exact hW.bump hlt, hB.trans hb1⟩
            case measure => simp [intOf]; omega
    · obtain rfl : k = n := by omega
      go_wp2
      go_ret
      rw [extents, h1.len]
      exact ⟨_, rfl, ownRowR.mk hown (fun e => .inl (hnil e)), hB⟩

end Go.Proofs.Ytldnpgbacakfeaa
