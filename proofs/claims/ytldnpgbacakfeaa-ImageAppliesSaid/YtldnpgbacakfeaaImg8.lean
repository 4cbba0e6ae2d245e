/-
  Layer 7: the extents of the sectors at which two volumes differ.
-/
import Derived.Test.YtldnpgbacakfeaaImg7
import Derived.Test.YtldnpgbacakfeaaOwnIn
namespace Go.Proofs.Ytldnpgbacakfeaa
open Go.RowKit Go.Shelf

attribute [local go_sem] Oper.semAt_some

/-- Where the last extent ends; -1 where there is none. -/
def endOf (l : List Ext) : Int := match l[l.length - 1]? with
  | some p => p.1 + p.2
  | none => -1
/-- One more sector: it makes the last extent longer, or begins another one. -/
def bump (l : List Ext) (i : Nat) : List Ext := if endOf l = (i : Int) then (match l[l.length - 1]? with
  | some p => l.set (l.length - 1) (p.1, p.2 + 1)
  | none => l) else l ++ [((i : Int), 1)]
def runs (ks : List Nat) : List Ext := ks.foldl bump []
theorem runs_snoc (ks : List Nat) (i : Nat) : runs (ks ++ [i]) = bump (runs ks) i := by simp [runs]
theorem endOf_snoc (l : List Ext) (p : Ext) : endOf (l ++ [p]) = p.1 + p.2 := by simp [endOf]
theorem endOf_some {l : List Ext} {i : Nat} (h : endOf l = (i : Int)) : ∃ k p, l.length = k + 1 ∧ l[k]? = some p ∧ p.1 + p.2 = i ∧ bump l i = l.set k (p.1, p.2 + 1) := by
  cases hl : l[l.length - 1]? with
  | none => rw [endOf, hl] at h; simp only at h; omega
  | some p =>
    have hk := (List.getElem?_eq_some_iff.1 hl).1
    refine ⟨l.length - 1, p, by omega, hl, by rw [endOf, hl] at h; exact h, ?_⟩
    rw [bump, if_pos h, hl]
theorem bump_new {l : List Ext} {i : Nat} (h : endOf l ≠ (i : Int)) : bump l i = l ++ [((i : Int), 1)] := by rw [bump, if_neg h]
theorem endOf_bump (l : List Ext) (i : Nat) : endOf (bump l i) = (i : Int) + 1 := by
  by_cases h : endOf l = (i : Int)
  · obtain ⟨k, p, h1, h2, h3, h4⟩ := endOf_some h
    rw [h4, endOf, List.length_set, h1, Nat.add_sub_cancel, List.getElem?_set]
    simp only [if_true, if_pos (show k < l.length by omega)]
    omega
  · rw [bump_new h, endOf_snoc]
theorem bump_length (l : List Ext) (i : Nat) : (bump l i).length ≤ l.length + 1 := by
  by_cases h : endOf l = (i : Int)
  · obtain ⟨k, p, h1, h2, h3, h4⟩ := endOf_some h
    rw [h4]; simp
  · rw [bump_new h]; simp
/-- All extents lie within n. -/
def Within (n : Nat) (l : List Ext) : Prop := ∀ p ∈ l, 0 ≤ p.1 ∧ 1 ≤ p.2 ∧ p.1 + p.2 ≤ (n : Int)
theorem Within.nil (n : Nat) : Within n [] := fun p hp => by cases hp
theorem Within.bump {n i : Nat} {l : List Ext} (h : Within n l) (hi : i < n) : Within n (bump l i) := by
  by_cases he : endOf l = (i : Int)
  · obtain ⟨k, p, h1, h2, h3, h4⟩ := endOf_some he
    rw [h4]
    intro q hq
    rcases List.mem_or_eq_of_mem_set hq with hq | rfl
    · exact h q hq
    · have := h p (List.mem_of_getElem? h2)
      exact ⟨this.1, by simp only; omega, by simp only; omega⟩
  · rw [bump_new he]
    intro q hq
    rcases List.mem_append.1 hq with hq | hq
    · exact h q hq
    · cases List.mem_singleton.1 hq
      exact ⟨by simp, by simp, by simp only; omega⟩
theorem runs_length (ks : List Nat) : (runs ks).length ≤ ks.length := by
  have : ∀ (ks : List Nat) (l : List Ext), (ks.foldl bump l).length ≤ l.length + ks.length := by
    intro ks
    induction ks with
    | nil => intro l; simp
    | cons k ks ih => intro l; have := ih (bump l k); have := bump_length l k; simp only [List.foldl_cons, List.length_cons]; omega
  simpa [runs] using this ks []

/-- What two volumes differ in. -/
def extents (a b : List Sec) : List Ext := runs (diffs a b a.length)
abbrev ownExts : Rep (List Ext) := ownRowR extR 59

/-- The loop's invariant: the slice in its box, the end of its last extent in its own, and all else as it was. -/
def ExtI (n : Nat) (w : World) (pre : List (Fin n)) (W : World) : Prop :=
  (∃ v, Boxed W w.heap.size 80 v ∧ Own extR (w.heap.size + 4) 59 (fun _ => False) W v (runs (pre.map Fin.val)) ∧ (runs (pre.map Fin.val) = [] → v = .slice none 0 0)) ∧
  Boxed W (w.heap.size + 1) 3 (.int .i64 (endOf (runs (pre.map Fin.val)))) ∧ Within n (runs (pre.map Fin.val)) ∧ Below w.heap.size w W ∧ w.heap.size + 4 ≤ W.heap.size

theorem ExtI.from (n : Nat) (w : World) : OwnFrom (w.heap.size + 4) (ExtI n w) := by
  rintro s X Y row ⟨⟨v, hv, ho, hn⟩, hb, hW, hB, hS⟩ hg hrow
  have hr : ∀ r, row = some r → ∃ o : Obj, X.heap[r]? = some o ∧ o.isCells = false := fun r e => (hrow r e).2
  refine ⟨⟨v, CellsOnly.box _ _ _ X Y row hv hg hr, CellsOnly.own _ _ _ _ _ X Y row ho hg hr, hn⟩, CellsOnly.box _ _ _ X Y row hb hg hr, hW, hB.trans ((Below.refl _ X).grown hg (by omega) (fun k e => ?_)), Nat.le_trans hS hg.size⟩
  have := (hrow k e).1; omega

set_option maxRecDepth 100000 in
set_option maxHeartbeats 4000000 in
theorem extents_any {a1 a2 : Option Addr} {n c1 c2 : Nat} {l1 l2 : List Sec} {ok1 ok2 : Nat → Prop} {w : World} (h1 : Sl secR ok1 w a1 n c1 l1) (h2 : Sl secR ok2 w a2 n c2 l2) (hn : n ≤ 1000000) :
    Calls Try.prog 55 #[.slice a1 n c1, .slice a2 n c2] w fun e w' => ∃ v, e = .returned v ∧ ownExts.rd (w.heap.size ≤ ·) w' [v] (extents l1 l2) ∧ Below w.heap.size w w' := by
  refine (callsIn_wide (n := 5)).1 ?_
  have hL := h1.len
  have hF1 : Fence.wide.fn 74 := trivial
  refine callsIn_of_wp_marks Try.func55 rfl (by first | exact trivial | assumption) ?_ rfl
  simp only [Try.ntmps55, List.size_toArray, List.length_cons, List.length_nil, Nat.reduceAdd, Nat.reduceSub, Array.replicate_succ, Array.replicate_zero, List.push_toArray, List.append_toArray, List.nil_append, List.cons_append]
  gi_wp2_with (gi_at_call 74; refine (callsIn_wide.2 (differing_any a1 a2 n c1 n c2 _)).mono ?_; rintro e w' ⟨rfl, rfl⟩)
  obtain ⟨W2, hW2⟩ : ∃ W2, (((w.alloc (.cells #[.slice none 0 0] 80)).alloc (.cells #[.int .i64 (-1)] 3)).alloc (.cells #[.slice a1 n c1] 40)).alloc (.cells #[.slice a2 n c2] 40) = W2 := ⟨_, rfl⟩
  have hsz : W2.heap.size = w.heap.size + 4 := by rw [← hW2]; simp
  have hB0 : Below w.heap.size w W2 := by
    rw [← hW2]
    exact ((((Below.refl _ w).alloc (Nat.le_refl _) _).alloc (by simp) _).alloc (by simp; omega) _).alloc (by simp; omega) _
  have bO : Boxed W2 w.heap.size 80 (.slice none 0 0) := by
    rw [← hW2]; exact (((Boxed.new _ _ _).alloc _).alloc _).alloc _
  have bE : Boxed W2 (w.heap.size + 1) 3 (.int .i64 (-1)) := by
    have := Boxed.new (w.alloc (.cells #[.slice none 0 0] 80)) 3 (.int .i64 (-1))
    rw [World.size_alloc] at this
    rw [← hW2]; exact (this.alloc _).alloc _
  have bA : Boxed W2 (w.heap.size + 2) 40 (.slice a1 n c1) := by
    have := Boxed.new ((w.alloc (.cells #[.slice none 0 0] 80)).alloc (.cells #[.int .i64 (-1)] 3)) 40 (.slice a1 n c1)
    rw [World.size_alloc, World.size_alloc] at this
    rw [← hW2]; exact this.alloc _
  have bB : Boxed W2 (w.heap.size + 3) 40 (.slice a2 n c2) := by
    have := Boxed.new (((w.alloc (.cells #[.slice none 0 0] 80)).alloc (.cells #[.int .i64 (-1)] 3)).alloc (.cells #[.slice a1 n c1] 40)) 40 (.slice a2 n c2)
    rw [World.size_alloc, World.size_alloc, World.size_alloc] at this
    rw [← hW2]; exact this
  rw [hW2]
  have hX : ∀ b, (b < w.heap.size ∨ b = w.heap.size + 2 ∨ b = w.heap.size + 3) → b < W2.heap.size := fun b hb => by rw [hsz]; omega
  refine wpIn_rangeFunc_ownG (α := Fin n) rfl (by decide) (gf := 80) rfl trivial (enters_of Try.func80 (by kernel_rfl) rfl)
    (differing_stops (X := fun b => b < w.heap.size ∨ b = w.heap.size + 2 ∨ b = w.heap.size + 3) (m := 4) ((h1.live.mono fun b hb => .inl hb.2).below hB0) ((h2.live.mono fun b hb => .inl hb.2).below hB0) (.inr (.inl rfl)) (.inr (.inr rfl)) hX bA.cell bB.cell (by decide))
    Keep.trans (keep_b hX) (Below.refl _ _) (fun _ => rfl) (ExtI n w) (fun _ _ _ => False) (by rw [hsz]; exact ExtI.from n w) (fun _ _ _ _ _ hs _ _ => hs)
    ⟨⟨_, bO, Own.nil _ _ _ _ _, fun _ => rfl⟩, bE, Within.nil _, hB0, by rw [hsz]; exact Nat.le_refl _⟩
    (fun x => { tmps := #[.slice a1 n c1, .slice a2 n c2, undef, undef, .slice none 0 0, .pointer (some ⟨w.heap.size, 0, none⟩), .pointer (some ⟨w.heap.size + 1, 0, none⟩), .int .i64 x.val, .slice a1 n c1, .slice a2 n c2, .func (.func 80) #[] #[.pointer (some ⟨w.heap.size + 2, 0, none⟩), .pointer (some ⟨w.heap.size + 3, 0, none⟩)], .int .i64 x.val, undef, undef, undef, undef, undef, undef, undef, undef, undef, undef, undef, undef, undef, undef, undef, undef, undef, undef, undef, undef, undef], defers := [] }) ?assign ?body ?done ?stop
  case assign =>
    intro l x W K hK
    gi_wp2
    exact hK
  case body =>
    rintro l pre x W ⟨⟨v, hv, hrow, hnil⟩, hE, hWi, hB, hS⟩ hlt
    have hc := hv.cell
    have he := hE.cell
    have hfe := hE.frozen
    have hfo := hv.frozen
    have hlen : (runs (pre.map Fin.val)).length ≤ n := Nat.le_trans (runs_length _) (by simp; omega)
    have hx := x.2
    by_cases hend : endOf (runs (pre.map Fin.val)) = (x.val : Int)
    · obtain ⟨k, p, g1, g2, g3, g4⟩ := endOf_some hend
      rw [hend] at he
      have HE := Lib.hid hend; clear hend
      obtain ⟨g, cap, rfl, hg, hgs⟩ := hrow.row (by intro e; rw [e] at g1; cases g1)
      rw [g1] at hc
      obtain ⟨_, cs, hcs, a, b, rfl, ⟨rfl, ha⟩, ⟨rfl, hb⟩⟩ := hrow.elem g2
      have hc1 : W.cell? ⟨g, k * 2 + 1, none⟩ = some (.int .i64 p.2) := hcs 1 (by decide)
      have hf1 := hrow.frozen (k * 2 + 1)
      obtain ⟨w1, hw1⟩ : ∃ w1, W.setCell ⟨g, k * 2 + 1, none⟩ (.int .i64 (p.2 + 1)) = w1 := ⟨_, rfl⟩
      have hE1 : Boxed w1 (w.heap.size + 1) 3 (.int .i64 (endOf (runs (pre.map Fin.val)))) := by rw [← hw1]; exact boxed_afar hE (by simp; omega) _
      have hv1 : Boxed w1 w.heap.size 80 (.slice (some ⟨g, 0, none⟩) (runs (pre.map Fin.val)).length cap) := by rw [← hw1]; exact boxed_afar hv (by simp; omega) _
      have hp := hWi p (List.mem_of_getElem? g2)
      have hp2 : p.2 + 1 ≤ 1000000 := by omega
      have he1 := hE1.cell
      have hfe1 := hE1.frozen
      gi_wp2
      have hown := hrow.stored (Flat.pair Flat.int Flat.int) (k := k) (j := 1) (u := .int .i64 (p.2 + 1)) (x' := (p.1, p.2 + 1)) g2 (by decide) (by
        rintro c ⟨a, b, rfl, ⟨rfl, h1⟩, ⟨rfl, h2⟩⟩
        exact ⟨[_], [_], rfl, ⟨rfl, h1⟩, ⟨rfl, by unfold i64ok; omega⟩⟩)
      rw [show k * extR.sz + 1 = k * 2 + 1 from rfl, hw1, ← g4] at hown
      have hbl : w1.heap.size = W.heap.size := by rw [← hw1]; simp
      have hk1 : Keep (fun b => b < w.heap.size ∨ b = w.heap.size + 2 ∨ b = w.heap.size + 3) W w1 := by rw [← hw1]; exact Keep.set _ _ _ (by first | (simp; done) | (simp; omega))
      have hb1 : Below w.heap.size W w1 := by rw [← hw1]; exact below_set _ _ _ (by first | (simp; done) | (simp; omega)) (by omega)
      have hk0 : KeepsOthers W w1 := by rw [← hw1]; exact KeepsOthers.setCell _ _ _
      have e1 : (pre ++ [x]).map Fin.val = pre.map Fin.val ++ [x.val] := by simp
      refine ⟨(hk0.trans (KeepsOthers.setCell _ _ _)).from _, hk1.trans (Keep.set _ _ _ (by first | (simp; done) | (simp; omega))), ⟨_, boxed_afar hv1 (by simp) _, ?_, ?_⟩, ?_, ?_, ?_, ?_⟩
      · rw [e1, runs_snoc]
        exact hown.kept (row := some (w.heap.size + 1)) (grownBy_setCell' _ _ _) (.inr (by simp [Value.ownBlock]; omega)) (fun b _ h => h)
      · rw [e1, runs_snoc, g4]; intro e; have := congrArg List.length e; simp [g1] at this
      · rw [e1, runs_snoc, endOf_bump]; exact hE1.set _
      · rw [e1, runs_snoc]; exact hWi.bump hx
      · exact (hB.trans hb1).trans (below_set _ _ _ (by simp) (by omega))
      · simp; omega
    · have hne : (Int.ofNat x.val == endOf (runs (pre.map Fin.val))) = false := by simpa using Ne.symm hend
      gi_wp2_with (gi_at_builtin; refine wpListIn_app Try.slExt rfl _ _ rfl rfl (hrow.below ((Below.refl _ _).alloc (Nat.le_refl _) _)) rfl (Src.flat (Flat.pair Flat.int Flat.int) (ok := fun _ => True) (Src.new1 (x := ((x.val : Int), (1 : Int))) ⟨[_], [_], rfl, ⟨rfl, i64ok_nat (by unfold maxLen; omega)⟩, ⟨rfl, by unfold i64ok; omega⟩⟩)) (by unfold maxLen; omega) (by omega) (by simp; omega) ?_; intro v' w1 hown' hgrow hblk; obtain ⟨g', cap', e', hg', hgs'⟩ := hown'.row (by simp); rw [List.length_append, List.length_singleton] at e'; subst e'; have hv1 := (hv.alloc _).kept hgrow (hrow.fresh (by omega)); have hc1 := hv1.cell; have hfv1 := hv1.frozen; have hE0 := (hE.alloc _).kept hgrow (hrow.fresh (by omega)); have hE1 := boxed_afar hE0 (a := ⟨w.heap.size, 0, none⟩) (by simp) (.slice (some ⟨g', 0, none⟩) ((runs (pre.map Fin.val)).length + 1) cap'); have he1 := hE1.cell; have hfe1 := hE1.frozen)
      have e1 : (pre ++ [x]).map Fin.val = pre.map Fin.val ++ [x.val] := by simp
      have hg1 : W.grownBy w1 v.ownBlock := grown_trans (grown_row (World.grownBy_alloc _ _ _)) hgrow
      have hrX : ∀ b, v.ownBlock = some b → w.heap.size + 4 ≤ b := fun b hb => (hrow.lt b hb).1
      have hk1 : Keep (fun b => b < w.heap.size ∨ b = w.heap.size + 2 ∨ b = w.heap.size + 3) W w1 := Keep.grown hg1 fun b hb => ⟨by omega, fun e => by have := hrX b e.symm; omega⟩
      have hb1 : Below w.heap.size W w1 := (Below.refl _ _).grown hg1 (by omega) (fun k e => by have := hrX k e; omega)
      have hs1 := hg1.size
      refine ⟨(((hrow.others hg1).trans (KeepsOthers.setCell _ _ _)).trans (KeepsOthers.setCell _ _ _)).from _, (hk1.trans (Keep.set _ _ _ (by first | (simp; done) | (simp; omega)))).trans (Keep.set _ _ _ (by first | (simp; done) | (simp; omega))), ⟨.slice (some ⟨g', 0, none⟩) ((runs (pre.map Fin.val)).length + 1) cap', ?_, ?_, ?_⟩, ?_, ?_, ?_, ?_⟩
      · exact boxed_afar (hv1.set _) (by simp) _
      · rw [e1, runs_snoc, bump_new hend]
        have h5 := hown'.kept (row := some w.heap.size) (grownBy_setCell' _ _ (.slice (some ⟨g', 0, none⟩) ((runs (pre.map Fin.val)).length + 1) cap')) (.inr (by simp [Value.ownBlock]; omega)) (fun b _ h => h)
        exact h5.kept (row := some (w.heap.size + 1)) (grownBy_setCell' _ _ _) (.inr (by simp [Value.ownBlock]; omega)) (fun b _ h => h)
      · rw [e1, runs_snoc, bump_new hend]; simp
      · rw [e1, runs_snoc, endOf_bump]; exact hE1.set _
      · rw [e1, runs_snoc]; exact hWi.bump hx
      · exact ((hB.trans hb1).trans (below_set _ _ _ (by simp) (by omega))).trans (below_set _ _ _ (by simp) (by simp; omega))
      · simp; omega
  case done =>
    rintro D ys W hD hys ⟨⟨v, hv, hrow, hnil⟩, hE, hWi, hB, hS⟩ hK
    have hc := hv.cell
    gi_wp2
    refine ⟨by simp, .inl ⟨_, _, rfl, run_takeDeferred hK, ?_⟩⟩
    rw [hys] at hrow hnil
    refine ⟨_, results_tmp rfl _ _ _, v, rfl, ?_, hB.trans (belowK_b (w := w) (Nat.le_refl _) W D _ _ (by omega) hK rfl rfl)⟩
    have := CellsOnly.own _ _ _ _ _ W _ _ hrow (grownBy_putObj' W D (.deferred none)) (fun r e => by cases e; exact ⟨_, hK, rfl⟩)
    rw [extents, hL]
    exact ownRowR.mk (this.base (by omega)) (fun e => .inl (hnil e))
  case stop =>
    rintro D c pre W _ _ h _
    exact h.elim
end Go.Proofs.Ytldnpgbacakfeaa
