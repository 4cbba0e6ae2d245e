/-
  Part 4 of the texts that the statement stands on.
-/
import Derived.Test.YtncobemfpammfaaGreatDoorZ3
import Derived.RangeFuncRecord
import Derived.IntWalk
import Derived.Sort.Defs
import Derived.Lib.BitFns
import Derived.Shelf.Lays7
import Derived.Ground.Names7Prog
import Derived.Test.YtncobemfpammfaaGreatDoorProg
import Derived.Shelf.Spec.TrailingZeros
set_option linter.all false
namespace Go.Proofs.YtncobemfpammfaaGreatDoor
open Go.RowKit

section
variable {P : Program} {F : Fence} {C : Ctx} {n L nb : Nat} {σ σ' : Nat → Nat} {T T' T1 T2 : Tags} {st st' st1 : St} {a a1 : Act} {w w1 : World} {o : Oper} {vo : VOp} {y : Operand} {x : Opd} {d : Nat}
  {rec : VCode → St → Option (Ex × St)} {env : Env} {next : Act → World → Prop} {Q : Exit → Act → World → Prop} {opl : Array Oper} {ds : List Deferred} {e : Ex}

theorem map_some' {α β : Type} {x : Option α} {f : α → β} {y : β} (h : x.map f = some y) : ∃ z, x = some z ∧ f z = y := by
  cases x with
  | none => cases h
  | some z => exact ⟨z, rfl, Option.some.inj h⟩

theorem head_same {keep : List Nat} (h0 : st.head keep nb = some st1) : st1.boxes.length = nb ∧ st1.ys = st.ys ∧ st1.stop = st.stop := by
  unfold St.head at h0
  simp only at h0
  split at h0
  · rename_i hc
    simp only [Bool.and_eq_true, decide_eq_true_eq] at hc
    have h0 := Option.some.inj h0
    subst h0
    exact ⟨by simp; omega, rfl, rfl⟩
  · cases h0

theorem step_growR (hR : RecOk P rec) {c : Code} {keep : List Nat} {vc : VCode} (hm : mC P c vc = true) (h : step rec env (.round keep nb vc) st = some (e, st')) : Grow nb st st' := by
  simp only [step] at h
  replace h := bind_some h
  obtain ⟨st0, h0, h⟩ := h
  replace h := bind_some h
  obtain ⟨⟨e1, st1⟩, h1, h⟩ := h
  have hh : st0.boxes.length = nb ∧ st0.ys = st.ys ∧ st0.stop = st.stop := by
    unfold St.head at h0
    simp only at h0
    split at h0
    · rename_i hc
      simp only [Bool.and_eq_true, decide_eq_true_eq] at hc
      have h0 := Option.some.inj h0
      subst h0
      exact ⟨by simp; omega, rfl, rfl⟩
    · cases h0
  have g1 := hR.grow _ _ _ _ _ hm h1
  have g1' : Grow nb st st1 := by
    refine ⟨by rw [← hh.1]; exact g1.1, by rw [← hh.2.1]; exact g1.2.1, g1.2.2.trans hh.2.2⟩
  simp only at h
  split at h
  · exact g1'.trans (hR.growR _ _ _ _ _ _ _ hm h)
  · cases Option.some.inj h; exact g1'

theorem step_grow (hR : RecOk P rec) {c : Code} {vc : VCode} (hm : mC P c vc = true) (h : step rec env vc st = some (e, st')) : Grow st.boxes.length st st' := by
  cases vc with
  | skip => simp only [step, Option.some.injEq, Prod.mk.injEq] at h; rw [← h.2]; exact (Mono.refl _).grow
  | ops l =>
    simp only [step] at h
    obtain ⟨st1, h1, h2⟩ := map_some' h
    cases h2; exact ops_grow h1
  | drw fz acts fin last l =>
    simp only [step] at h
    obtain ⟨st1, h1, h2⟩ := map_some' h
    cases h2
    have gz := Mono.freezeAts fz (Mono.refl st)
    exact ((Mono.grow gz).trans (ops_grow h1)).mono gz.1
  | drs fz keep vo alts =>
    simp only [step] at h
    obtain ⟨st1, h1, h2⟩ := map_some' h
    cases h2
    have gz := Mono.freezeAts fz (Mono.refl st)
    have g := runAlts_facts h1
    exact ((Mono.grow gz).trans ⟨g.1, g.2.1, g.2.2⟩).mono gz.1
  | seq a b =>
    cases c <;> first | (simp [mC] at hm; done) | skip
    rename_i c1 c2
    simp only [mC, Bool.and_eq_true] at hm
    simp only [step] at h
    replace h := bind_some h
    obtain ⟨⟨e1, st1⟩, h1, h⟩ := h
    have g1 := hR.grow _ _ _ _ _ hm.1 h1
    simp only at h
    split at h
    · exact (g1.trans (hR.grow _ _ _ _ _ hm.2 h)).mono g1.1
    · cases Option.some.inj h; exact g1
  | cond y a b =>
    cases c <;> first | (simp [mC] at hm; done) | skip
    simp only [mC, Bool.and_eq_true] at hm
    simp only [step] at h
    replace h := bind_some h
    obtain ⟨v, h1, h⟩ := h
    split at h
    · split at h
      · exact hR.grow _ _ _ _ _ hm.1.2 h
      · exact hR.grow _ _ _ _ _ hm.2 h
    · cases h
  | block i a =>
    cases c <;> first | (simp [mC] at hm; done) | skip
    simp only [mC, Bool.and_eq_true] at hm
    simp only [step] at h
    replace h := bind_some h
    obtain ⟨⟨e1, st1⟩, h1, h⟩ := h
    have h := Option.some.inj h
    cases h
    exact hR.grow _ _ _ _ _ hm.2 h1
  | loop keep a =>
    cases c <;> first | (simp [mC] at hm; done) | skip
    simp only [mC] at hm
    simp only [step] at h
    exact hR.growR _ _ _ _ _ _ _ hm h
  | round keep nb a =>
    cases c <;> first | (simp [mC] at hm; done) | skip
  | rng g ps asn b =>
    cases c <;> first | (simp [mC] at hm; done) | skip
    rename_i g1 ps1 c1 c2
    simp only [mC, Bool.and_eq_true, beq_iff_eq] at hm
    obtain ⟨⟨⟨m1, m2⟩, m3⟩, m4⟩ := hm
    simp only [step] at h
    obtain ⟨f, caps, xs, stop, r, s1, q1, q2, q3, q4, rfl, rfl⟩ := ranged_eq h
    have := rounds_grow hR.grow m3 m4 xs 0 _ r s1 q3 (Nat.le_refl _)
    exact ⟨this.1, this.2.1, this.2.2⟩
  | clean pre post a =>
    replace hm : mC P c a = true := by cases c <;> simpa only [mC] using hm
    simp only [step] at h
    replace h := bind_some h
    obtain ⟨st1, h0, h⟩ := h
    replace h := bind_some h
    obtain ⟨⟨e1, st2⟩, h1, h⟩ := h
    replace h := bind_some h
    obtain ⟨st3, h2, h⟩ := h
    cases Option.some.inj h
    obtain ⟨k1, k2, k3⟩ := head_same h0
    obtain ⟨l1, l2, l3⟩ := head_same h2
    have g1 := hR.grow _ _ _ _ _ hm h1
    exact ⟨by omega, by rw [l2, ← k2]; exact g1.2.1, by rw [l3, g1.2.2, k3]⟩
  | exit i => simp only [step, Option.some.injEq, Prod.mk.injEq] at h; rw [← h.2]; exact (Mono.refl _).grow
  | ret => simp only [step, Option.some.injEq, Prod.mk.injEq] at h; rw [← h.2]; exact (Mono.refl _).grow

theorem Post.trans {nb1 : Nat} {σ1 : Nat → Nat} {ms : List Nat} (hs : Stays T T1 w w1) (hσ : ∀ k, k < nb → σ1 k = σ k) (hd : a1.defers = ms.map markOf ++ ds) (hms : Marks T1 w w1 ms) (hnb : nb ≤ nb1)
    {x : Exit} {a' : Act} {w' : World} (h : Post C L nb1 σ1 T1 w1 e st' a1.defers x a' w') : Post C L nb σ T w e st' ds x a' w' := ⟨h.1, After.trans hs hσ hd hms hnb h.2⟩

theorem step_wpR (hR : RecOk P rec) (hW : Wide F) (hN : C.Rec F) (hC : C.Ok P L) {c : Code} {keep : List Nat} {vc : VCode} (hm : mC P c vc = true) (h : step rec env (.round keep nb vc) st = some (e, st')) (hst : st.stop = C.stop) (hX : st'.ys <+: C.X)
    (hs : Sim L σ T st a w) (hJ : C.J st.ys.length T w) : wpLoop F n P c (Post C L nb σ T w e st' a.defers) a w := by
  simp only [step] at h
  replace h := bind_some h
  obtain ⟨st0, h0, h⟩ := h
  replace h := bind_some h
  obtain ⟨⟨e1, st1⟩, h1, h⟩ := h
  obtain ⟨q1, q2, q3, q4, q5⟩ := hs.head h0
  have g1 := hR.grow _ _ _ _ _ hm h1
  refine wpLoop_once ?_
  have hX1 : st1.ys <+: C.X := by
    simp only at h
    split at h
    · exact (hR.growR _ _ _ _ _ _ _ hm h).2.1.trans hX
    · cases Option.some.inj h; exact hX
  refine wpIn_mono (hR.wp hW hN hC c vc st0 e1 st1 hm h1 (q4.trans hst) hX1 σ T a w q1 (by rw [q3]; exact hJ)) ?_
  rintro x a1 w1 ⟨hx, hA⟩
  rw [q2] at hA
  simp only at h
  split at h
  · subst hx
    obtain ⟨σ1, T1, ms, k1, k2, k3, k4, k5, k6⟩ := hA
    exact wpLoop_mono (hR.wpR hW hN hC c keep nb vc st1 e st' hm h (g1.2.2.trans (q4.trans hst)) hX σ1 T1 a1 w1 k1 k2) fun x a' w' hP => Post.trans k4 k3 k5 k6 (Nat.le_refl _) hP
  · rename_i hne
    cases Option.some.inj h
    cases e with
    | normal => exact absurd rfl hne
    | exit i => subst hx; exact ⟨rfl, hA⟩
    | ret => subst hx; exact ⟨rfl, hA⟩

theorem step_wp (hR : RecOk P rec) (hI : ItersOk P env) (hcalls : CallsOk P rec env) (hW : Wide F) (hN : C.Rec F) (hC : C.Ok P L) {c : Code} {vc : VCode} (hm : mC P c vc = true) (h : step rec env vc st = some (e, st')) (hst : st.stop = C.stop) (hX : st'.ys <+: C.X)
    (hs : Sim L σ T st a w) (hJ : C.J st.ys.length T w) : c.wpIn F n P (Post C L st.boxes.length σ T w e st' a.defers) a w := by
  cases vc with
  | skip =>
    simp only [step, Option.some.injEq, Prod.mk.injEq] at h
    obtain ⟨rfl, rfl⟩ := h
    cases c <;> first | (simp [mC] at hm; done) | skip
    case skip => exact wpIn_skip ⟨rfl, After.refl hs hJ⟩
    case label l => exact wpIn_label ⟨rfl, After.refl hs hJ⟩
  | ops l =>
    simp only [step] at h
    obtain ⟨st1, h1, h2⟩ := map_some' h
    cases h2
    cases c <;> first | (simp [mC] at hm; done) | skip
    case region id ops dr =>
      cases dr <;> simp [mC] at hm
      exact wpIn_region_list (ops_wp hW hC hcalls hX hs hJ hst hm h1 fun a' w' hA => ⟨rfl, hA⟩)
  | drw fz acts fin last l =>
    simp only [step] at h
    obtain ⟨st1, h1, h2⟩ := map_some' h
    cases h2
    cases c <;> first | (simp [mC] at hm; done) | skip
    case region id ops dr =>
      cases dr <;> simp only [mC, Bool.and_eq_true, Bool.false_eq_true] at hm
      obtain ⟨⟨⟨m1, m2⟩, m3⟩, m4⟩ := hm
      obtain ⟨T1, q1, q2⟩ := hs.freezeAts fz
      have gz := Mono.freezeAts fz (Mono.refl st)
      have hJ1 : C.J (fz.foldl St.freezeAt st).ys.length T1 w := by rw [gz.2.1]; exact hC.keep _ _ _ _ _ (q2.chg w) hJ
      exact region_drw_wp hW hC hcalls q1 hJ1 (gz.2.2.trans hst) hX m1 m2 m3 m4 h1 fun a' w' hA => ⟨rfl, After.trans (ms := []) ((q2.chg w).stays) (fun _ _ => rfl) rfl Marks.nil gz.1 hA⟩
  | drs fz keep vo alts =>
    simp only [step] at h
    obtain ⟨st1, h1, h2⟩ := map_some' h
    cases h2
    cases c <;> first | (simp [mC] at hm; done) | skip
    case region id ops dr =>
      cases dr <;> simp only [mC, Bool.and_eq_true, Bool.false_eq_true] at hm
      obtain ⟨⟨m1, m2⟩, m3⟩ := hm
      obtain ⟨T1, q1, q2⟩ := hs.freezeAts fz
      have gz := Mono.freezeAts fz (Mono.refl st)
      have hJ1 : C.J (fz.foldl St.freezeAt st).ys.length T1 w := by rw [gz.2.1]; exact hC.keep _ _ _ _ _ (q2.chg w) hJ
      exact region_drs_wp hW hC hcalls q1 hJ1 (gz.2.2.trans hst) hX m1 m2 m3 h1 fun a' w' hA => ⟨rfl, After.trans (ms := []) ((q2.chg w).stays) (fun _ _ => rfl) rfl Marks.nil gz.1 hA⟩
  | seq a b =>
    cases c <;> first | (simp [mC] at hm; done) | skip
    rename_i c1 c2
    simp only [mC, Bool.and_eq_true] at hm
    simp only [step] at h
    replace h := bind_some h
    obtain ⟨⟨e1, st1⟩, h1, h⟩ := h
    have g1 := hR.grow _ _ _ _ _ hm.1 h1
    refine wpIn_seq ?_
    have hX1 : st1.ys <+: C.X := by
      simp only at h
      split at h
      · exact (hR.grow _ _ _ _ _ hm.2 h).2.1.trans hX
      · cases Option.some.inj h; exact hX
    refine wpIn_mono (hR.wp hW hN hC c1 _ st e1 st1 hm.1 h1 hst hX1 σ T _ w hs hJ) ?_
    rintro x a1 w1 ⟨hx, hA⟩
    simp only at h
    split at h
    · subst hx
      obtain ⟨σ1, T1, ms, k1, k2, k3, k4, k5, k6⟩ := hA
      exact wpIn_mono (hR.wp hW hN hC c2 _ st1 e st' hm.2 h (g1.2.2.trans hst) hX σ1 T1 a1 w1 k1 k2) fun x a' w' hP => Post.trans k4 k3 k5 k6 g1.1 hP
    · rename_i hne
      cases Option.some.inj h
      cases e with
      | normal => exact absurd rfl hne
      | exit i => subst hx; exact ⟨rfl, hA⟩
      | ret => subst hx; exact ⟨rfl, hA⟩
  | cond y a b =>
    cases c <;> first | (simp [mC] at hm; done) | skip
    rename_i x c1 c2
    simp only [mC, Bool.and_eq_true] at hm
    simp only [step] at h
    replace h := bind_some h
    obtain ⟨v, h1, h⟩ := h
    split at h
    case h_2 => cases h
    rename_i t
    refine wpIn_cond (t := t) (hs.pv hm.1.1 h1).bool_inv ?_
    cases t with
    | true => exact hR.wp hW hN hC c1 _ st e st' hm.1.2 (by simpa using h) hst hX σ T _ w hs hJ
    | false => exact hR.wp hW hN hC c2 _ st e st' hm.2 (by simpa using h) hst hX σ T _ w hs hJ
  | block i a =>
    cases c <;> first | (simp [mC] at hm; done) | skip
    rename_i j c1
    simp only [mC, Bool.and_eq_true, beq_iff_eq] at hm
    obtain ⟨rfl, hm⟩ := hm
    simp only [step] at h
    replace h := bind_some h
    obtain ⟨⟨e1, st1⟩, h1, h⟩ := h
    have h := Option.some.inj h
    cases h
    refine wpIn_block (wpIn_mono (hR.wp hW hN hC c1 _ st e1 st1 hm h1 hst hX σ T _ w hs hJ) ?_)
    rintro x a1 w1 ⟨rfl, hA⟩
    cases e1 with
    | normal => exact ⟨rfl, hA⟩
    | exit i =>
      by_cases hij : i = j
      · subst hij; simp only [toX, Exit.inBlock, ↓reduceIte]; exact ⟨rfl, hA⟩
      · have hne : (Ex.exit i = Ex.exit j) = False := by simpa using hij
        simp only [toX, Exit.inBlock, if_neg hij, hne, ↓reduceIte]; exact ⟨rfl, hA⟩
    | ret => exact ⟨rfl, hA⟩
  | loop keep a =>
    cases c <;> first | (simp [mC] at hm; done) | skip
    simp only [mC] at hm
    simp only [step] at h
    exact wpIn_of_loop (hR.wpR hW hN hC _ keep _ _ st e st' hm h hst hX σ T _ w hs hJ)
  | round keep nb a =>
    cases c <;> first | (simp [mC] at hm; done) | skip
  | rng g ps asn b =>
    cases c <;> first | (simp [mC] at hm; done) | skip
    rename_i g1 ps1 c1 c2
    simp only [mC, Bool.and_eq_true, beq_iff_eq] at hm
    obtain ⟨⟨⟨m1, m2⟩, m3⟩, m4⟩ := hm
    subst m2
    simp only [step] at h
    obtain ⟨f, caps, xs, stop, r, s1, q1, q2, q3, q4, rfl, rfl⟩ := ranged_eq h
    exact rng_core hR hI hW hN hC m3 m4 m1 q1 q2 q3 q4 hX hst hs hJ
  | clean pre post a =>
    replace hm : mC P c a = true := by cases c <;> simpa only [mC] using hm
    simp only [step] at h
    replace h := bind_some h
    obtain ⟨st1, h0, h⟩ := h
    replace h := bind_some h
    obtain ⟨⟨e1, st2⟩, h1, h⟩ := h
    replace h := bind_some h
    obtain ⟨st3, h2, h⟩ := h
    cases Option.some.inj h
    obtain ⟨q1, q2, q3, q4, q5⟩ := hs.head h0
    obtain ⟨l1, l2, l3⟩ := head_same h2
    refine wpIn_mono (hR.wp hW hN hC c a st1 _ st2 hm h1 (q4.trans hst) (by rw [← l2]; exact hX) σ T _ w q1 (by rw [q3]; exact hJ)) ?_
    rintro x a1 w1 ⟨hx, σ1, T1, ms, k1, k2, k3, k4, k5, k6⟩
    obtain ⟨r1, r2, r3, r4, r5⟩ := k1.head h2
    exact ⟨hx, σ1, T1, ms, r1, by rw [r3]; exact k2, by rw [← q2]; exact k3, k4, k5, k6⟩
  | exit i =>
    simp only [step, Option.some.injEq, Prod.mk.injEq] at h
    obtain ⟨rfl, rfl⟩ := h
    cases c <;> first | (simp [mC] at hm; done) | skip
    simp only [mC, beq_iff_eq] at hm
    subst hm
    exact wpIn_exit ⟨rfl, After.refl hs hJ⟩
  | ret =>
    simp only [step, Option.some.injEq, Prod.mk.injEq] at h
    obtain ⟨rfl, rfl⟩ := h
    cases c <;> first | (simp [mC] at hm; done) | skip
    exact wpIn_ret ⟨rfl, After.refl hs hJ⟩

theorem step_ok (hR : RecOk P rec) (hI : ItersOk P env) (hcalls : CallsOk P rec env) : RecOk P (step rec env) :=
  ⟨fun _ _ _ _ _ hm h => step_grow hR hm h, fun _ _ _ _ _ _ _ hm h => step_growR hR hm h,
   fun hW hN hC _ _ _ _ _ hm h hst hX _ _ _ _ hs hJ => step_wp hR hI hcalls hW hN hC hm h hst hX hs hJ,
   fun hW hN hC _ _ _ _ _ _ _ hm h hst hX _ _ _ _ hs hJ => step_wpR hR hW hN hC hm h hst hX hs hJ⟩
end
end Go.Proofs.YtncobemfpammfaaGreatDoor

namespace Go.Proofs.YtncobemfpammfaaGreatDoor
open Go.RowKit

section
variable {P : Program} {L K : Nat} {σ σ' : Nat → Nat} {T T' T1 T2 : Tags} {st st' st1 : St} {a a1 : Act} {w w1 : World} {r : Root}

theorem Sim.retagTo (h : Sim L σ T st a w) {i : Nat} (h1 : ∀ t s l, st.slots[t]? = some (.row s l) → r ≠ .slot t) (h2 : ∀ (t i : Nat), r ≠ .part t i) (h3 : ∀ p q bx s l, st.boxes[p]? = some bx → bx.cs[q]? = some (.row s l) → r ≠ .cell p q) (hK : st.slots.length ≤ K) :
    Sim L σ (moved T r (.part K i)) st a w := by
  have hw : ∀ b, T b = .ro → b < w.heap.size → moved T r (.part K i) b = .ro ∧ w.heap[b]? = w.heap[b]? := fun b e _ => ⟨moved_ro e, rfl⟩
  refine ⟨h.size, fun t x u hx hu => ?_, fun p bx ho => ?_, fun b hb => moved_other (h.fresh b hb)⟩
  · have ht : t < st.slots.length := (List.getElem?_eq_some_iff.1 hx).1
    refine (h.slots t x u hx hu).keep hw (fun s l e b hb _ => ⟨moved_row (fun e2 => h1 t s l (by rw [hx, e]) e2.symm) (by simp) hb, rfl⟩) (fun l e i' _ b hb _ => ⟨moved_row (fun e2 => h2 _ _ e2.symm) (fun e2 => ?_) hb, rfl⟩) (fun q hq _ s l e => ⟨⟨l, e⟩, rfl⟩) (Nat.le_refl _) (fun _ _ => rfl)
    cases e2; omega
  · obtain ⟨arr, E, g1, g2, g3, g4, g5⟩ := h.boxes p bx ho
    refine ⟨arr, E, g1, g2, ?_, g4, fun j bv u hj hu => ?_⟩
    · cases hf : bx.fz with
      | true => rw [hf] at g3; simpa using moved_ro g3
      | false => rw [hf] at g3; simpa using moved_box g3
    · obtain ⟨k1, k2⟩ := g5 j bv u hj hu
      refine ⟨k1, ?_⟩
      cases bv with
      | pv x => exact PRep.frame hw k2
      | row sz es => exact RowRep.frame (fun b e _ => ⟨moved_row (fun e2 => h3 p j bx sz es ho hj e2.symm) (by simp) e, rfl⟩) hw k2

theorem RowRep.takeTo {sz : Nat} {es : List PV} {xa : Option Addr} {c : Nat} (h : RowRep T w r sz es (.slice xa es.length c)) (k : Nat) : RowRep T w r sz (es.take k) (.slice xa (es.take k).length c) := by
  rcases h with ⟨rfl, a, e⟩ | ⟨b, c', arr, E, e, h2, h3, h4, h5, h6, h7, h8⟩
  · simp only [List.length_nil, Value.slice.injEq] at e
    obtain ⟨_, _, rfl⟩ := e
    exact .inl ⟨by simp, xa, by simp⟩
  · simp only [Value.slice.injEq] at e
    obtain ⟨rfl, _, rfl⟩ := e
    refine .inr ⟨b, c, arr, E, rfl, h2, h3, h4, ?_, h6, fun e he => h7 e (List.mem_of_mem_take he), fun i e j x hi hj => ?_⟩
    · simp; omega
    · rw [List.getElem?_take] at hi
      split at hi
      · exact h8 i e j x hi hj
      · cases hi

def RK (T : Tags) (w : World) (K i : Nat) : Res → Value → Prop
  | (.list sz es, true), u => RowRep T w (.part K i) sz es u
  | (.agg _, true), _ => False
  | (x, _), u => PRep (fun b => T b = .ro) w x u
theorem RK.pv {i : Nat} {x : PV} {u : Value} (h : PRep (fun b => T b = .ro) w x u) : RK T w K i (x, false) u := by
  cases x <;> exact h
def readOf (tmps : Array Value) : ResultVar → Sem Value
  | .tmp t => pure (tmps.getD t undef)
  | .cell a t => do loadVar t (← asAddr (tmps.getD a undef))
def mRes (P : Program) : ResultVar → VRes → Bool
  | .tmp t, .tmp s => t == s
  | .cell t T0, .cell s n => t == s && cellN P T0 == some n
  | .cell t T0, .own s n => t == s && cellN P T0 == some (some n)
  | _, _ => false

theorem result_one (h : Sim L σ T st a w) {g : ResultVar} {v : VRes} (hm : mRes P g v = true) {x : Res} (hp : resultOf st v = some (x, st1)) (hK : st.slots.length ≤ K) (i : Nat) :
    ∃ u T', (readOf a.tmps g).run P w = .ok u w ∧ Sim L σ T' st1 a w ∧ Still T T' ∧ RK T' w K i x u ∧ (∀ b k, k ≠ i → T b = .row (.part K k) → T' b = .row (.part K k)) ∧ st1.slots.length = st.slots.length := by
  cases g <;> cases v <;> simp only [mRes, Bool.false_eq_true] at hm
  case tmp.tmp t s =>
    simp only [beq_iff_eq] at hm
    subst hm
    have hev : a.tmps.getD t undef = a.eval (.tmp t) := rfl
    have hmo : mOpd (.tmp t) (.t t) = true := by simp [mOpd]
    simp only [resultOf] at hp
    split at hp
    · rename_i sz es st2 hg
      have hp := Option.some.inj hp
      cases hp
      obtain ⟨k1, k2, q, v, es0, c, xa, k3, k4, k5, k6, k7, k8, k9⟩ := h.grab hmo hg
      have hlen : st1.slots.length = st.slots.length := by rw [← k1.size, ← h.size]
      refine ⟨a.eval (.tmp t), moved T q (.part K i), by rw [readOf, hev]; rfl, k1.retagTo k7 k8 k9 (by omega), Still.moved _ _ _, ?_, fun b k hk e => moved_row (fun e2 => k8 _ _ e2.symm) (by simp [hk]) e, hlen⟩
      rw [k6]
      subst k5
      have := RowRep.takeTo k3 es.length
      rw [← k4] at this
      exact RowRep.frame (fun b e _ => ⟨moved_src e, rfl⟩) (fun b e _ => ⟨moved_ro e, rfl⟩) this
    · split at hp
      · rename_i v hv
        have hp := Option.some.inj hp
        cases hp
        have e2 : st.pvOf (.t t) = some v := by unfold St.pvOf; rw [show st.get (.t t) = .pv v from hv]
        exact ⟨a.eval (.tmp t), T, by rw [readOf, hev]; rfl, h, Still.refl T, RK.pv (h.pv hmo e2), fun _ _ _ e => e, rfl⟩
      · rename_i r off len hv
        split at hp
        case h_2 => cases hp
        rename_i sz es hr
        split at hp
        case isFalse => cases hp
        rename_i hl
        have hp := Option.some.inj hp
        cases hp
        obtain ⟨T1, k1, k2, k3, k4, _⟩ := h.freeze r
        refine ⟨a.eval (.tmp t), T1, by rw [readOf, hev]; rfl, k1, k2, RK.pv (h.refList hr (h.refR hmo hv sz es hr) hl (k4 sz es hr) k2.ro), fun b k _ e => k3 b _ (fun e2 => by subst e2; simp [St.row] at hr) e, by rw [← k1.size, ← h.size]⟩
      · cases hp
  case cell.cell t T0 s n =>
    simp only [Bool.and_eq_true, beq_iff_eq] at hm
    obtain ⟨rfl, hc⟩ := hm
    simp only [resultOf] at hp
    split at hp
    case h_2 => cases hp
    rename_i p j hv
    split at hp
    case h_2 => cases hp
    rename_i bx h1
    have hs : st.slots[t]? = some (.pbox p j) := slots_get (st := st) hv (by simp)
    have hlt : t < a.tmps.size := by rw [h.size]; exact (List.getElem?_eq_some_iff.1 hs).1
    have hgp : a.tmps.getD t undef = .pointer (some ⟨σ p, j, none⟩) := by
      have := (h.slots t _ _ hs (Array.getElem?_eq_getElem hlt)).2
      rw [Array.getD_eq_getD_getElem?, Array.getElem?_eq_getElem hlt, Option.getD_some, this]
    have hread : ∀ {u : Value}, (loadVar T0 ⟨σ p, j, none⟩).run P w = .ok u w → (readOf a.tmps (.cell t T0)).run P w = .ok u w := fun hu => by
      simp only [readOf, hgp, asAddr, Sem.run_bind, Sem.run_pure, Result.andThen_ok]
      exact hu
    have hbox := h.boxes p bx h1
    cases n with
    | none =>
      obtain ⟨arr, E, g1, g2, g3, g4, g5⟩ := hbox
      have hld : ∀ (bv : BV), bx.cs[j]? = some bv → ∃ u, (loadVar T0 ⟨σ p, j, none⟩).run P w = .ok u w ∧ BRep T w p j bv u := fun bv hbv => by
        have hj : j < arr.size := by rw [g2]; exact (List.getElem?_eq_some_iff.1 hbv).1
        obtain ⟨k1, k2⟩ := g5 j _ arr[j] hbv (Array.getElem?_eq_getElem hj)
        refine ⟨arr[j], ?_, k2⟩
        unfold loadVar
        simp only [Sem.run_bind, run_isAgg_no hc, Result.andThen_ok, Bool.false_eq_true, if_false]
        unfold load
        simp only [Sem.run, cell_of_row w _ _ arr E (0, 0) g1, Array.getElem?_eq_getElem hj]
      simp only at hp
      split at hp
      · rename_i sz es hbv
        split at hp
        · cases hp
        · rename_i hfz
          have hp := Option.some.inj hp
          cases hp
          obtain ⟨u, q1, q2⟩ := hld _ hbv
          have hr : st.row (.cell p j) = some (sz, es) := by simp [St.row, h1, hfz, hbv]
          obtain ⟨T1, k1, k2, k3, k4, _⟩ := h.freeze (.cell p j)
          exact ⟨u, T1, hread q1, k1, k2, RK.pv (RowRep.list (k4 sz es hr) k2.ro q2), fun b k _ e => k3 b _ (by simp) e, by rw [← k1.size, ← h.size]⟩
      · rename_i v hbv
        have hp := Option.some.inj hp
        cases hp
        obtain ⟨u, q1, q2⟩ := hld _ hbv
        exact ⟨u, T, hread q1, h, Still.refl T, RK.pv q2, fun _ _ _ e => e, rfl⟩
      · cases hp
    | some n =>
      simp only at hp
      obtain ⟨v, h2, hp⟩ := map_some' hp
      cases hp
      obtain ⟨T1, k1, k2, k3, k4⟩ := h.freezeRows p
      have hmem := hbox.mem (T' := T1) (fun j b e => k4 (by rw [h1]; rfl) b j e) k2.ro
      obtain ⟨u, h7, h8, _⟩ := part_mem (P := P) hmem hc h2
      rw [Nat.zero_add] at h7
      exact ⟨u, T1, hread (h7 w rfl), k1, k2, RK.pv h8, fun b k _ e => k3 b _ (by simp) e, by rw [← k1.size, ← h.size]⟩
  case cell.own t T0 s n => simp only [resultOf] at hp; cases hp

def RKo (T : Tags) (w : World) (K i : Nat) (x : Res) (u : Value) : Prop :=
  RK T w K i x u ∨ (i = 0 ∧ ∃ cs, x = (.agg cs, true) ∧ ∃ arr : Array Value, u = .agg arr ∧ arr.size = cs.length ∧ ∀ (k : Nat) x v, cs[k]? = some x → arr[k]? = some v → PartRep T w K k (ownP x) v)
def outO (T : Tags) (p j K : Nat) : Tags := fun b => match T b with
  | .ro => .ro
  | .row (.cell o q) => if o = p ∧ j ≤ q then .row (.part K (q - j)) else .other
  | _ => .other
theorem ownCells_get : ∀ {l : List BV} {cs : List PV}, ownCells l = some cs → l.length = cs.length ∧ ∀ (k : Nat) x, cs[k]? = some x → (∃ sz es, l[k]? = some (.row sz es) ∧ x = .list sz es) ∨ (l[k]? = some (.pv x) ∧ ∀ s es, x ≠ .list s es)
  | [], cs, h => by cases h; exact ⟨rfl, fun k x hk => by simp at hk⟩
  | .row sz es :: l, cs, h => by
    obtain ⟨c, h1, rfl⟩ := map_some' h
    obtain ⟨q1, q2⟩ := ownCells_get h1
    refine ⟨by simp [q1], fun k x hk => ?_⟩
    cases k with
    | zero => cases hk; exact .inl ⟨sz, es, rfl, rfl⟩
    | succ k => exact q2 k x hk
  | .pv v :: l, cs, h => by
    have hv : (∀ s es, v ≠ .list s es) ∧ ∃ c, ownCells l = some c ∧ cs = v :: c := by
      cases v <;> first | (simp [ownCells] at h; done) | (obtain ⟨c, h1, rfl⟩ := map_some' h; exact ⟨(fun _ _ e => by cases e), c, h1, rfl⟩)
    obtain ⟨hv, c, h1, rfl⟩ := hv
    obtain ⟨q1, q2⟩ := ownCells_get h1
    refine ⟨by simp [q1], fun k x hk => ?_⟩
    cases k with
    | zero => cases hk; exact .inr ⟨rfl, hv⟩
    | succ k => exact q2 k x hk
theorem load_cells {b j n T0 : Nat} {arr : Array Value} {E q} (hc : cellN P T0 = some (some n)) (hb : w.heap[b]? = some (.cells arr E (0, q))) (hn : j + n ≤ arr.size) :
    ∃ us : Array Value, (loadVar T0 ⟨b, j, none⟩).run P w = .ok (.agg us) w ∧ us.size = n ∧ ∀ k v, us[k]? = some v → arr[j + k]? = some v := by
  have hs := (run_isAgg_yes (w := w) hc).2
  let us : List Value := (List.range n).map fun k => arr.getD (j + k) undef
  have hus : ∀ k v, us[k]? = some v → arr[j + k]? = some v := fun k v hv => by
    have hk : k < n := by have := (List.getElem?_eq_some_iff.1 hv).1; simpa [us] using this
    simp only [us, List.getElem?_map, List.getElem?_range hk, Option.map_some, Option.some.injEq] at hv
    rw [Array.getElem?_eq_getElem (by omega : j + k < arr.size)]
    rw [Array.getD_eq_getD_getElem?, Array.getElem?_eq_getElem (by omega : j + k < arr.size)] at hv
    rw [← hv]; rfl
  have hlen : us.length = n := by simp [us]
  refine ⟨us.toArray, ?_, by simpa using hlen, fun k v hv => hus k v (by simpa using hv)⟩
  have hl2 := run_loadCells_list (P := P) (w := w) ⟨b, j, none⟩ us (fun k v hv => by
    rw [Addr.add_lit, cell_of_row w b _ arr E (0, q) hb]; exact hus k v hv)
  rw [hlen] at hl2
  unfold loadVar
  simp only [Sem.run_bind, (run_isAgg_yes (w := w) hc).1, Result.andThen_ok, if_true, run_szOf hs, hl2]
  rfl
theorem result_own (h : Sim L σ T st a w) {t T0 n p j : Nat} {bx : Box} {cs : List PV} (hc : cellN P T0 = some (some n)) (hv : st.slots.getD t .any = .pbox p j) (h1 : st.boxes[p]? = some bx) (hf : bx.fz = false) (hn : j + n ≤ bx.cs.length) (ho : ownCells ((bx.cs.drop j).take n) = some cs) :
    ∃ u T', (readOf a.tmps (.cell t T0)).run P w = .ok u w ∧ Still T T' ∧ (∀ b, w.heap.size ≤ b → T' b = .other) ∧ RKo T' w K 0 (.agg cs, true) u := by
  have hs : st.slots[t]? = some (.pbox p j) := slots_get (st := st) hv (by simp)
  have hlt : t < a.tmps.size := by rw [h.size]; exact (List.getElem?_eq_some_iff.1 hs).1
  have hgp : a.tmps.getD t undef = .pointer (some ⟨σ p, j, none⟩) := by
    have := (h.slots t _ _ hs (Array.getElem?_eq_getElem hlt)).2
    rw [Array.getD_eq_getD_getElem?, Array.getElem?_eq_getElem hlt, Option.getD_some, this]
  obtain ⟨arr, E, g1, g2, g3, g4, g5⟩ := h.boxes p bx h1
  obtain ⟨us, r1, r2, r3⟩ := load_cells (P := P) hc g1 (by omega : j + n ≤ arr.size)
  obtain ⟨q1, q2⟩ := ownCells_get ho
  have hro : ∀ b, T b = .ro → outO T p j K b = .ro := fun b e => by simp [outO, e]
  refine ⟨.agg us, outO T p j K, ?_, ⟨hro, fun b e => by simp [outO, e]⟩, fun b hb => by simp [outO, h.fresh b hb], .inr ⟨rfl, cs, rfl, us, rfl, ?_, fun k x v hx hu => ?_⟩⟩
  · simp only [readOf, hgp, asAddr, Sem.run_bind, Sem.run_pure, Result.andThen_ok]
    exact r1
  · rw [r2, ← q1]; simp; omega
  · have hk : k < n := by rw [← r2]; exact (Array.getElem?_eq_some_iff.1 hu).1
    have hget : ∀ bv, ((bx.cs.drop j).take n)[k]? = some bv → bx.cs[j + k]? = some bv := fun bv e => by
      rw [List.getElem?_take_of_lt hk, List.getElem?_drop] at e; exact e
    rcases q2 k x hx with ⟨sz, es, e1, rfl⟩ | ⟨e1, e2⟩
    · obtain ⟨_, k2⟩ := g5 (j + k) _ v (hget _ e1) (r3 k v hu)
      exact RowRep.frame (fun b e _ => ⟨by simp [outO, e], rfl⟩) (fun b e _ => ⟨hro b e, rfl⟩) k2
    · obtain ⟨_, k2⟩ := g5 (j + k) _ v (hget _ e1) (r3 k v hu)
      have : ownP x = .pv x := by cases x <;> first | rfl | exact absurd rfl (e2 _ _)
      rw [this]
      exact PRep.frame (fun b e _ => ⟨hro b e, rfl⟩) k2
end
end Go.Proofs.YtncobemfpammfaaGreatDoor

namespace Go.Proofs.YtncobemfpammfaaGreatDoor
open Go.RowKit

def mResL (P : Program) : List ResultVar → List VRes → Bool
  | [], [] => true
  | g :: gs, v :: vs => mRes P g v && mResL P gs vs
  | _, _ => false

section
variable {P : Program} {L K : Nat} {σ σ' : Nat → Nat} {T T' T1 T2 : Tags} {st st' st1 : St} {a a1 : Act} {w w1 : World} {r : Root}

theorem RK.frame {i : Nat} {x : Res} {u : Value} (hr : ∀ b, T b = .row (.part K i) → T' b = .row (.part K i)) (hw : ∀ b, T b = .ro → T' b = .ro) (h : RK T w K i x u) : RK T' w K i x u := by
  obtain ⟨v, own⟩ := x
  cases v <;> cases own <;> first | exact PRep.frame (fun b e _ => ⟨hw b e, rfl⟩) h | exact RowRep.frame (fun b e _ => ⟨hr b e, rfl⟩) (fun b e _ => ⟨hw b e, rfl⟩) h | exact False.elim h

theorem result_list : ∀ {gs : List ResultVar} {vs : List VRes} {st : St} {T : Tags} {xs : List Res} (i : Nat), Sim L σ T st a w → mResL P gs vs = true → resultList st vs = some xs → st.slots.length ≤ K →
    ∃ (us : List Value) (T' : Tags), (gs.mapM (readOf a.tmps)).run P w = .ok us w ∧ us.length = xs.length ∧ Still T T' ∧ (∀ b, w.heap.size ≤ b → T' b = .other) ∧ (∀ (j : Nat) x u, xs[j]? = some x → us[j]? = some u → RK T' w K (i + j) x u) ∧ ∀ b k, k < i → T b = .row (.part K k) → T' b = .row (.part K k)
  | [], [], st, T, xs, i, h, _, hp, hK => by
    simp only [resultList, Option.some.injEq] at hp
    subst hp
    exact ⟨[], T, by simp, rfl, Still.refl T, h.fresh, fun j x u hx => by simp at hx, fun _ _ _ e => e⟩
  | [], _ :: _, _, _, _, _, _, hm, _, _ => by simp [mResL] at hm
  | _ :: _, [], _, _, _, _, _, hm, _, _ => by simp [mResL] at hm
  | g :: gs, v :: vs, st, T, xs, i, h, hm, hp, hK => by
    simp only [mResL, Bool.and_eq_true] at hm
    simp only [resultList] at hp
    replace hp := bind_some hp
    obtain ⟨⟨x, st1⟩, h1, hp⟩ := hp
    replace hp := bind_some hp
    obtain ⟨l, h2, hp⟩ := hp
    have hp := Option.some.inj hp
    subst hp
    obtain ⟨u, T1, k1, k2, k3, k4, k5, k6⟩ := result_one h hm.1 h1 hK i
    obtain ⟨us, T2, q1, q2, q3, q4, q5, q6⟩ := result_list (i + 1) k2 hm.2 h2 (by omega)
    refine ⟨u :: us, T2, ?_, by simp [q2], k3.trans q3, q4, fun j x' u' hx hu => ?_, fun b k hk e => q6 b k (by omega) (k5 b k (by omega) e)⟩
    · rw [List.mapM_cons]
      simp only [Sem.run_bind, k1, Result.andThen_ok, q1, Sem.run_pure]
    · cases j with
      | zero =>
        simp only [List.getElem?_cons_zero, Option.some.injEq] at hx hu
        subst hx; subst hu
        exact RK.frame (fun b e => q6 b i (by omega) e) q3.ro k4
      | succ j =>
        have := q5 j x' u' (by simpa using hx) (by simpa using hu)
        rwa [show i + 1 + j = i + (j + 1) by omega] at this

theorem results_run {fn : Func} {us : List Value} (h : (fn.results.toList.mapM (readOf a.tmps)).run P w = .ok us w) : (results fn a.tmps).run P w = .ok (if us.toArray.size = 1 then us.toArray.getD 0 undef else .tuple us.toArray) w := by
  have e : results fn a.tmps = (do let vs ← fn.results.mapM (readOf a.tmps); pure (if h : vs.size = 1 then vs[0] else .tuple vs)) := by
    unfold results
    congr 1
  rw [e, Array.mapM_eq_mapM_toList]
  simp only [Sem.run_bind, Sem.run_map, h, Result.andThen_ok, Sem.run_pure]
  by_cases hs : us.toArray.size = 1
  · rw [dif_pos hs, if_pos hs, Array.getD_eq_getD_getElem?, Array.getElem?_eq_getElem (by omega), Option.getD_some]
  · rw [dif_neg hs, if_neg hs]

theorem leavesM_marks {fn : Func} {R : Ending → World → Prop} {B : Nat} : ∀ {ms : List Nat} {w : World}, ms.Nodup → (∀ r ∈ ms, B ≤ r ∧ w.heap[r]? = some (.deferred (some []))) →
    (∀ w', w'.os = w.os → w'.tape = w.tape → w'.output = w.output → w'.heap.size = w.heap.size → (∀ b, b ∉ ms → w'.heap[b]? = w.heap[b]?) → ∃ v, (results fn a.tmps).run P w' = .ok v w' ∧ R (.returned v) w') →
    LeavesInM Fence.wide 0 P fn a.tmps R (ms.map markOf) .returning w
  | [], w, _, _, h => by
    simp only [List.map_nil, LeavesInM, LeavesIn]
    exact h w rfl rfl rfl rfl fun _ _ => rfl
  | r :: ms, w, hnd, hms, h => by
    simp only [List.map_cons, LeavesInM]
    obtain ⟨hn1, hn2⟩ := List.nodup_cons.1 hnd
    obtain ⟨k1, k2⟩ := hms r (by simp)
    have hr : r < w.heap.size := (Array.getElem?_eq_some_iff.1 k2).1
    have hput : ∀ b, b ≠ r → (w.putObj r (.deferred none)).heap[b]? = w.heap[b]? := fun b hb => by simp [World.putObj, Array.getElem?_setIfInBounds, Ne.symm hb]
    refine ⟨by simp, .inl ⟨r, _, rfl, run_takeDeferred k2, leavesM_marks (B := B) hn2 (fun r' hr' => ?_) fun w' e1 e2 e3 e4 e5 => h w' e1 e2 e3 (by rw [e4]; simp [World.putObj]) fun b hb => ?_⟩⟩
    · obtain ⟨q1, q2⟩ := hms r' (by simp [hr'])
      exact ⟨q1, by rw [hput r' (fun e => hn1 (e ▸ hr'))]; exact q2⟩
    · simp only [List.mem_cons, not_or] at hb
      rw [e5 b hb.2, hput b hb.1]
end
end Go.Proofs.YtncobemfpammfaaGreatDoor

namespace Go.Proofs.YtncobemfpammfaaGreatDoor
open Go.RowKit

section
variable {P : Program} {L K : Nat} {σ σ' : Nat → Nat} {T T' T1 T2 : Tags} {st st' st1 : St} {a a1 : Act} {w w1 : World} {r : Root}
  {rec : VCode → St → Option (Ex × St)} {env : Env}

theorem results_ok {gs : List ResultVar} {vs : List VRes} {xs : List Res} (h : Sim L σ T st a w) (hm : mResL P gs vs = true) (hp : resultsOf st vs = some xs) :
    ∃ (us : List Value) (T' : Tags), (gs.mapM (readOf a.tmps)).run P w = .ok us w ∧ us.length = xs.length ∧ Still T T' ∧ (∀ b, w.heap.size ≤ b → T' b = .other) ∧ ∀ (j : Nat) x u, xs[j]? = some x → us[j]? = some u → RKo T' w st.slots.length j x u := by
  have gen : resultList st vs = some xs → ∃ (us : List Value) (T' : Tags), (gs.mapM (readOf a.tmps)).run P w = .ok us w ∧ us.length = xs.length ∧ Still T T' ∧ (∀ b, w.heap.size ≤ b → T' b = .other) ∧ ∀ (j : Nat) x u, xs[j]? = some x → us[j]? = some u → RKo T' w st.slots.length j x u := fun hl => by
    obtain ⟨us, T', k1, k2, k3, k4, k5, _⟩ := result_list 0 h hm hl (Nat.le_refl _)
    exact ⟨us, T', k1, k2, k3, k4, fun j x u hx hu => .inl (by simpa using k5 j x u hx hu)⟩
  unfold resultsOf at hp
  split at hp
  case h_3 => exact gen hp
  case h_2 =>
    rename_i t n
    split at hp
    case h_2 => cases hp
    rename_i p j hs
    split at hp
    case h_2 => cases hp
    rename_i bx h1
    split at hp
    · cases hp
    · rename_i hf
      simp only [Bool.or_eq_true, Bool.not_eq_true', decide_eq_false_iff_not, not_or, Bool.not_eq_true, Classical.not_not] at hf
      obtain ⟨cs, h2, rfl⟩ := map_some' hp
      obtain ⟨T0, hgs, hc⟩ : ∃ T0, gs = [.cell t T0] ∧ cellN P T0 = some (some n) := by
        match gs, hm with
        | [.tmp s], hm => simp [mResL, mRes] at hm
        | [.cell s T0], hm => simp [mResL, mRes] at hm; exact ⟨T0, by rw [hm.1], hm.2⟩
        | [], hm => simp [mResL] at hm
        | _ :: _ :: _, hm => simp [mResL] at hm
      subst hgs
      obtain ⟨u, T', r1, r2, r3, r4⟩ := result_own (P := P) (K := st.slots.length) h hc hs h1 hf.1 hf.2 h2
      refine ⟨[u], T', ?_, rfl, r2, r3, fun j x u' hx hu => ?_⟩
      · simp only [List.mapM_cons, List.mapM_nil, Sem.run_bind, r1, Result.andThen_ok, Sem.run_pure]
      · cases j with
        | zero =>
          simp only [List.getElem?_cons_zero, Option.some.injEq] at hx hu
          subst hx; subst hu; exact r4
        | succ j => simp at hx
  rename_i t
  split at hp
  case h_2 => exact gen hp
  rename_i f caps hs
  obtain ⟨⟨p, fl⟩, h1, h2⟩ := map_some' hp
  subst h2
  have hmo : mOpd (.tmp t) (.t t) = true := by simp [mOpd]
  have hg : st.get (.t t) = .fn f caps := hs
  have hsn : st.snapFn (st.get (.t t)) = some (p, fl) := by rw [hg]; exact h1
  obtain ⟨k1, _, k3⟩ := h.snapF hmo hsn
  obtain ⟨T1, q1, q2, q3, q4⟩ := Froz.args [.t t] (Froz.refl T st) h (fun x hx => by simp only [List.mem_singleton] at hx; subst hx; exact k1)
  have hgs : gs = [.tmp t] := by
    match gs, hm with
    | [.tmp s], hm => simp [mResL, mRes] at hm; rw [hm]
    | [.cell s T0], hm => simp [mResL, mRes] at hm
    | [], hm => simp [mResL] at hm
    | _ :: _ :: _, hm => simp [mResL] at hm
  subst hgs
  refine ⟨[a.eval (.tmp t)], T1, by simp [readOf, Act.eval], rfl, q3, q2.fresh, fun j x u hx hu => ?_⟩
  cases j with
  | zero =>
    simp only [List.getElem?_cons_zero, Option.some.injEq] at hx hu
    subst hx; subst hu
    exact .inl (RK.pv (k3 T1 q3 (q4 _ (by simp))))
  | succ j => simp at hx

theorem prep_avoid {ok good : Nat → Prop} (hg : ∀ b, Cellish w b → good b) {x : PV} {v : Value} (h : PRep ok w x v) : PRep (fun b => ok b ∧ good b) w x v := by
  induction h with
  | int k n => exact .int k n
  | bool b => exact .bool b
  | str s => exact .str s
  | nilf => exact .nilf
  | void v h => exact .void v h
  | nil sz a => exact .nil sz a
  | nils sz a => exact .nils sz a
  | list sz es b off c cv h1 h2 h3 h4 h6 h7 h8 ih => exact .list sz es b off c cv ⟨h1, hg b h2⟩ h2 h3 h4 h6 h7 ih
  | agg cs arr h1 h2 h3 ih => exact .agg cs arr h1 h2 ih
  | func f caps arr h1 h2 ih => exact .func f caps arr h1 ih
  | iptr cs j b off cv h1 h2 h3 h4 ih => exact .iptr cs j b off cv ⟨h1, hg b h2⟩ h2 h3 ih

def drop (T : Tags) (ms : List Nat) : Tags := fun b => if b ∈ ms then .other else T b
theorem Sim.drop (h : Sim L σ T st a w) {ms : List Nat} (hms : ∀ r ∈ ms, ¬ Cellish w r) (hw : ∀ b, b ∉ ms → w1.heap[b]? = w.heap[b]?) (hsz : w1.heap.size = w.heap.size) : Sim L σ (drop T ms) st a w1 := by
  have hg : ∀ b, Cellish w b → b ∉ ms := fun b hc hb => hms b hb hc
  have hp : ∀ {x v}, PRep (fun b => T b = .ro) w x v → PRep (fun b => Go.Proofs.YtncobemfpammfaaGreatDoor.drop T ms b = .ro) w1 x v := fun h =>
    (prep_avoid hg h).frame fun b hb _ => ⟨by simp [Go.Proofs.YtncobemfpammfaaGreatDoor.drop, hb.1, hb.2], hw b hb.2⟩
  have hrow : ∀ {r sz es v}, RowRep T w r sz es v → RowRep (Go.Proofs.YtncobemfpammfaaGreatDoor.drop T ms) w1 r sz es v := fun {r sz es v} h => by
    rcases h with h | ⟨b, c, arr, E, h1, h2, h3, h4, h5, h6, h7, h8⟩
    · exact .inl h
    · have hb : b ∉ ms := hg b ⟨_, _, _, h3⟩
      refine .inr ⟨b, c, arr, E, h1, by simp [Go.Proofs.YtncobemfpammfaaGreatDoor.drop, hb, h2], (hw b hb).trans h3, h4, h5, h6, h7, fun i e j x hi hj => ?_⟩
      obtain ⟨u, k1, k2, k3⟩ := h8 i e j x hi hj
      exact ⟨u, k1, k2, hp k3⟩
  have hbox : ∀ o, o < st.boxes.length → σ o ∉ ms := fun o ho => hg _ (h.boxes o _ (List.getElem?_eq_getElem ho)).cellish
  have hhdr : ∀ r : Root, r.low st.boxes.length → hdr σ a w1 r = hdr σ a w r := fun r hr => by
    cases r with
    | slot t => rfl
    | part t i => rfl
    | cell o j => exact World.cell?_of_block (w := w) (a := ⟨σ o, j, none⟩) (hw _ (hbox o hr))
  refine ⟨h.size, fun t av v ht hv => ?_, fun o bx ho => ?_, fun b hb => ?_⟩
  · have hA := h.slots t av v ht hv
    cases av with
    | pv x => exact hp hA
    | row sz es => exact hrow hA
    | ref r off len => exact ⟨hA.1, fun sz es hr => by rw [hhdr r hA.1]; exact hA.2 sz es hr⟩
    | pbox o j => exact hA
    | pel r i j => exact ⟨hA.1, fun sz es hr => by rw [hhdr r hA.1]; exact hA.2 sz es hr⟩
    | fn f caps =>
      obtain ⟨arr, e1, e2, e3⟩ := hA
      refine ⟨arr, e1, e2, fun k x u hx hu => ?_⟩
      have := e3 k x u hx hu
      cases x with
      | pv p => exact hp this
      | _ => exact this
    | tup k l =>
      obtain ⟨arr, e1, e2, e3⟩ := hA
      refine ⟨arr, e1, e2, fun k x u hx hu => ?_⟩
      have := e3 k x u hx hu
      cases x with
      | pv p => exact hp this
      | row sz es => exact hrow this
      | _ => exact this
    | yld => exact hA
    | any => trivial
  · have hb := hbox o (List.getElem?_eq_some_iff.1 ho).1
    obtain ⟨arr, E, g1, g2, g3, g4, g5⟩ := h.boxes o bx ho
    refine ⟨arr, E, (hw _ hb).trans g1, g2, by simp only [Go.Proofs.YtncobemfpammfaaGreatDoor.drop, if_neg hb]; exact g3, g4, fun j bv u hj hu => ?_⟩
    obtain ⟨k1, k2⟩ := g5 j bv u hj hu
    refine ⟨k1, ?_⟩
    cases bv with
    | pv x => exact hp k2
    | row sz es => exact hrow k2
  · unfold Go.Proofs.YtncobemfpammfaaGreatDoor.drop
    split
    · rfl
    · exact h.fresh b (by omega)

def outT (T : Tags) (K : Nat) : Tags := fun b => match T b with
  | .ro => .ro
  | .row (.part k i) => if k = K then .row (.part 0 i) else .other
  | _ => .other
theorem PartRep.frameTo {k : Nat} {x : AV} {v : Value} (h : PartRep T w K k x v) : PartRep (outT T K) w 0 k x v := by
  cases x with
  | pv p => exact PRep.frame (fun b e _ => ⟨by simp [outT, e], rfl⟩) h
  | row sz es => exact RowRep.frame (fun b e _ => ⟨by simp [outT, e], rfl⟩) (fun b e _ => ⟨by simp [outT, e], rfl⟩) h
  | any => trivial
  | _ => exact h
theorem RK.out0 {i : Nat} {x : Res} {u : Value} (h : RK T w K i x u) : R1 (outT T K) w i x u := by
  have hp : ∀ {x v}, PRep (fun b => T b = .ro) w x v → PRep (fun b => outT T K b = .ro) w x v := fun h => h.frame fun b hb _ => ⟨by simp [outT, hb], rfl⟩
  have hrow : ∀ {sz es}, RowRep T w (.part K i) sz es u → RowRep (outT T K) w (.part 0 i) sz es u := fun h => RowRep.frame (fun b e _ => ⟨by simp [outT, e], rfl⟩) (fun b e _ => ⟨by simp [outT, e], rfl⟩) h
  obtain ⟨v, own⟩ := x
  cases v <;> cases own <;> first | exact hrow h | exact hp h | exact False.elim h

theorem RK.out {i : Nat} {x : Res} {u : Value} (h : RKo T w K i x u) : R1 (outT T K) w i x u := by
  rcases h with h | ⟨_, cs, rfl, arr, rfl, h1, h2⟩
  · exact RK.out0 h
  · exact ⟨arr, rfl, h1, fun k x v hx hv => PartRep.frameTo (h2 k x v hx hv)⟩

def fnOk (P : Program) (f : Nat) (fn : VFn) : Bool :=
  match P.funcs[f]? with
  | some g => (match g.body with
    | some c => mC P c fn.body
    | none => false) && g.name != "runtime.NumGoroutine" && g.ntmps == fn.ntmps && decide (fn.nargs ≤ fn.ntmps) && mResL P g.results.toList fn.results
  | none => false
theorem fnOk_eq {f : Nat} {fn : VFn} (h : fnOk P f fn = true) : callable P f = true ∧ ∃ g c, P.funcs[f]? = some g ∧ g.body = some c ∧ mC P c fn.body = true ∧ g.ntmps = fn.ntmps ∧ fn.nargs ≤ fn.ntmps ∧ mResL P g.results.toList fn.results = true := by
  unfold fnOk at h
  split at h
  case h_2 => cases h
  rename_i g hf
  simp only [Bool.and_eq_true, beq_iff_eq, bne_iff_ne, decide_eq_true_eq] at h
  obtain ⟨⟨⟨⟨h1, h2⟩, h3⟩, h4⟩, h5⟩ := h
  split at h1
  case h_2 => cases h1
  rename_i c hb
  exact ⟨by simp [callable, hf, h2, hb], g, c, hf, hb, h1, h3, h4, h5⟩
def EnvOk (P : Program) (env : Env) : Prop := ∀ f d, env f = some d → match d with
  | .code fn => fnOk P f fn = true
  | .ext g => ∀ args rs, g args = some rs → callable P f = true ∧ CallOk P f args rs
  | .srt h => callable P f = true ∧ SortOk P f h

def plainJ (T0 : Tags) (w : World) : Nat → Tags → World → Prop := fun _ T w' => Below w.heap.size w w' ∧ ∀ b, b < w.heap.size → T b = T0 b
theorem plainJ_keep {T0 : Tags} (h0 : ∀ b, T0 b = .ro ∨ T0 b = .other) {k : Nat} {w w1 w2 : World} (hc : Chg T T' w1 w2) (h : plainJ T0 w k T w1) : plainJ T0 w k T' w2 := by
  obtain ⟨h1, h2⟩ := h
  refine ⟨h1.trans ⟨hc.os, hc.tape, hc.output, hc.size, fun b hb => hc.same b (Nat.lt_of_lt_of_le hb h1.size) ?_⟩, fun b hb => ?_⟩
  · rw [h2 b hb]; exact h0 b
  · rcases h0 b with e | e
    · rw [e]; exact hc.ro b (by rw [h2 b hb, e])
    · rw [e]; exact hc.other b (Nat.lt_of_lt_of_le hb h1.size) (by rw [h2 b hb, e])

theorem init_sim {T0 : Tags} {args : List PV} {vs : List Value} {n : Nat} (hf : ∀ b, w.heap.size ≤ b → T0 b = .other) (hl : vs.length = args.length) (hr : ∀ (i : Nat) x v, args[i]? = some x → vs[i]? = some v → PRep (fun b => T0 b = .ro) w x v) (ys : List (List PV)) (stop : Option (Option Nat)) :
    Sim L σ T0 ⟨args.map .pv ++ List.replicate (n - args.length) .any, [], ys, stop⟩ { tmps := vs.toArray ++ Array.replicate (n - vs.toArray.size) undef, defers := [] } w := by
  refine ⟨by simp [hl], fun t av v ht hv => ?_, fun o bx ho => by simp at ho, hf⟩
  simp only at ht hv
  rcases Nat.lt_or_ge t args.length with h | h
  · rw [List.getElem?_append_left (by simpa using h), List.getElem?_map, List.getElem?_eq_getElem h] at ht
    rw [Array.getElem?_append_left (by simpa [hl] using h)] at hv
    cases ht
    exact hr t _ v (List.getElem?_eq_getElem h) (by simpa using hv)
  · rw [List.getElem?_append_right (by simpa using h), List.getElem?_replicate] at ht
    split at ht
    · cases ht; trivial
    · cases ht

theorem code_call (hR : RecOk P rec) {f : Nat} {fn : VFn} {args : List PV} {rs : List Res} (hfn : fnOk P f fn = true) (hl : args.length = fn.nargs) {e : Ex} (he : ∀ i, e ≠ .exit i)
    (hb : rec fn.body ⟨args.map .pv ++ List.replicate (fn.ntmps - args.length) .any, [], [], none⟩ = some (e, st)) (hrs : resultsOf st fn.results = some rs) : CallOk P f args rs := by
  intro T0 w vs h0 hf hlen hr hG
  obtain ⟨_, g, c, k1, k2, k3, k4, k5, k6⟩ := fnOk_eq hfn
  refine (callsIn_wide (n := 0)).1 (callsIn_of_wp_marks k1 k2 trivial ?_)
  rw [k4]
  have hsim : Sim 0 (fun _ => 0) T0 ⟨args.map .pv ++ List.replicate (fn.ntmps - args.length) .any, [], [], none⟩ { tmps := vs.toArray ++ Array.replicate (fn.ntmps - vs.toArray.size) undef, defers := [] } w := init_sim hf hlen hr [] none
  have hC : Ctx.Ok ⟨st.ys, none, plainJ T0 w⟩ P 0 := ⟨fun k T T' w1 w2 hc h => plainJ_keep (k := k) h0 hc h, fun k T w1 h => hG.frame fun b e hb => ⟨(h.2 b hb).trans e, h.1.block b hb⟩, fun s k T w ps vs hs => by cases hs⟩
  have hJ : plainJ T0 w 0 T0 w := ⟨Below.refl _ _, fun _ _ => rfl⟩
  refine wpIn_mono (hR.wp (F := Fence.wide) (L := 0) (C := ⟨st.ys, none, plainJ T0 w⟩) (n := 0) (.inl rfl) (Ctx.rec_wide _) hC c fn.body _ e st k3 hb rfl (List.prefix_refl _) _ T0 _ w hsim hJ) ?_
  rintro x a' w' ⟨rfl, σ', T', ms, q1, q2, q3, q4, q5, q6⟩
  obtain ⟨p1, p2⟩ := q2
  have key : LeavesInM Fence.wide 0 P g a'.tmps (fun e w' => ∃ v T', e = .returned v ∧ Below w.heap.size w w' ∧ (∀ b, b < w.heap.size → T' b = T0 b) ∧ (∀ b, w'.heap.size ≤ b → T' b = .other) ∧ ResRep T' w' rs v) a'.defers .returning w' := by
    rw [q5, List.append_nil]
    refine leavesM_marks (B := w.heap.size) q6.2 (fun r hr => ⟨(q6.1 r hr).1, (q6.1 r hr).2.2⟩) fun w2 e1 e2 e3 e4 e5 => ?_
    have q1' := q1.drop (fun r hr ⟨arr, E, q, e⟩ => by rw [(q6.1 r hr).2.2] at e; cases e) e5 e4
    obtain ⟨us, T2, r1, r2, r3, r4, r5⟩ := results_ok q1' k6 hrs
    have hms : ∀ b, b < w.heap.size → b ∉ ms := fun b hb hm => by have := (q6.1 b hm).1; omega
    have hT2 : ∀ b, b < w.heap.size → T2 b = T0 b := fun b hb => by
      have e : drop T' ms b = T0 b := by simp only [drop, if_neg (hms b hb)]; exact p2 b hb
      rcases h0 b with e0 | e0
      · rw [e0]; exact r3.ro b (by rw [e, e0])
      · rw [e0]; exact r3.other b (by rw [e, e0])
    refine ⟨_, results_run r1, _, outT T2 st.slots.length, rfl, p1.trans ⟨e1, e2, e3, by omega, fun b hb => e5 b (hms b hb)⟩, fun b hb => ?_, fun b hb => ?_, us.toArray, by simpa using r2, rfl, fun i x u hx hu => RK.out (r5 i x u hx (by simpa using hu))⟩
    · simp only [outT, hT2 b hb]
      rcases h0 b with e0 | e0 <;> rw [e0]
    · simp only [outT, r4 b hb]
  cases e with
  | normal => exact key
  | ret => exact key
  | exit i => exact absurd rfl (he i)

theorem calls_ok (hR : RecOk P rec) (hE : EnvOk P env) : CallsOk P rec env := by
  refine ⟨?_, fun f h e => hE f _ e⟩
  intro f args rs h
  unfold callRes at h
  split at h
  · rename_i g hg
    exact hE f _ hg args rs h
  · rename_i fn hfn
    have hok : fnOk P f fn = true := hE f _ hfn
    split at h
    case isFalse => cases h
    rename_i hl
    replace h := bind_some h
    obtain ⟨⟨e, st⟩, h1, h⟩ := h
    simp only at h
    refine ⟨(fnOk_eq hok).1, ?_⟩
    split at h
    · cases h
    · rename_i hne
      exact code_call hR hok hl (fun i e => hne i e) h1 h
  · cases h
  · cases h
theorem iters_ok (hE : EnvOk P env) : ItersOk P env := fun f fn hfn => by
  have hok : fnOk P f fn = true := hE f _ hfn
  obtain ⟨k0, g, c, k1, k2, k3, k4, k5, k6⟩ := fnOk_eq hok
  refine ⟨k0, g, c, k1, k2, k3, k4, k5, fun he => ?_⟩
  have : fn.results = [] := by simpa using he
  rw [this] at k6
  have : g.results.toList = [] := by
    match h : g.results.toList, k6 with
    | [], _ => rfl
    | _ :: _, k6 => simp [mResL] at k6
  exact Array.toList_eq_nil_iff.1 this
theorem vm_ok (hE : EnvOk P env) : ∀ n, RecOk P (vm env n)
  | 0 => ⟨(fun _ _ _ _ _ _ h => by simp [vm] at h), (fun _ _ _ _ _ _ _ _ h => by simp [vm] at h), (fun _ _ _ _ _ _ _ _ _ h => by simp [vm] at h), (fun _ _ _ _ _ _ _ _ _ _ _ h => by simp [vm] at h)⟩
  | n + 1 => step_ok (vm_ok hE n) (iters_ok hE) (calls_ok (vm_ok hE n) hE)
theorem vmCall_ok (hE : EnvOk P env) {n f : Nat} {args : List PV} {rs : List Res} (h : vmCall env n f args = some rs) : callable P f = true ∧ CallOk P f args rs := (calls_ok (vm_ok hE n) hE).1 f args rs h
end
end Go.Proofs.YtncobemfpammfaaGreatDoor

namespace Go.Proofs.YtncobemfpammfaaGreatDoor

abbrev Rec := VCode → St → Option (Ex × St)
def RLe (f g : Rec) : Prop := ∀ c st r, f c st = some r → g c st = some r
open Classical in
noncomputable def den (env : Env) (c : VCode) (st : St) : Option (Ex × St) :=
  if h : ∃ n r, vm env n c st = some r then some (Classical.choose (Classical.choose_spec h)) else none

structure Good {α : Type} (env : Env) (F : Rec → Option α) : Prop where
  mono : ∀ f g, RLe f g → ∀ r, F f = some r → F g = some r
  cont : (∀ m n, m ≤ n → RLe (vm env m) (vm env n)) → ∀ r, F (den env) = some r → ∃ n, F (vm env n) = some r

section
variable {α β : Type} {env : Env}
theorem Good.const (x : Option α) : Good env (fun _ => x) := ⟨fun _ _ _ _ h => h, fun _ _ h => ⟨0, h⟩⟩
theorem Good.app (c : VCode) (st : St) : Good env (fun rec => rec c st) := ⟨fun _ _ h r => h c st r, fun _ r h => by
  unfold den at h
  split at h
  case isFalse => cases h
  rename_i hx
  cases h
  exact ⟨_, Classical.choose_spec (Classical.choose_spec hx)⟩⟩
theorem Good.bind {F : Rec → Option α} {G : α → Rec → Option β} (hF : Good env F) (hG : ∀ a, Good env (G a)) : Good env (fun rec => (F rec).bind fun a => G a rec) := ⟨fun f g h r e => by
  obtain ⟨a, h1, h2⟩ := Option.bind_eq_some_iff.1 e
  exact Option.bind_eq_some_iff.2 ⟨a, hF.mono f g h a h1, (hG a).mono f g h r h2⟩, fun hm r e => by
  obtain ⟨a, h1, h2⟩ := Option.bind_eq_some_iff.1 e
  obtain ⟨m, h3⟩ := hF.cont hm a h1
  obtain ⟨n, h4⟩ := (hG a).cont hm r h2
  exact ⟨max m n, Option.bind_eq_some_iff.2 ⟨a, hF.mono _ _ (hm m _ (Nat.le_max_left m n)) a h3, (hG a).mono _ _ (hm n _ (Nat.le_max_right m n)) r h4⟩⟩⟩
theorem Good.map {F : Rec → Option α} {g : α → β} (hF : Good env F) : Good env (fun rec => (F rec).map g) := by
  have := hF.bind (G := fun a _ => some (g a)) fun a => Good.const _
  refine ⟨fun f g' h r e => ?_, fun hm r e => ?_⟩
  · have := this.mono f g' h r (by simpa [Option.map_eq_bind, Function.comp_def] using e)
    simpa [Option.map_eq_bind, Function.comp_def] using this
  · obtain ⟨n, hn⟩ := this.cont hm r (by simpa [Option.map_eq_bind, Function.comp_def] using e)
    exact ⟨n, by simpa [Option.map_eq_bind, Function.comp_def] using hn⟩
theorem Good.callRes (f : Nat) (args : List PV) : Good env (fun rec => callRes rec env f args) := by
  unfold Go.Proofs.YtncobemfpammfaaGreatDoor.callRes
  split
  · exact Good.const _
  · split
    · refine (Good.app _ _).bind fun a => ?_
      obtain ⟨e, st⟩ := a
      cases e <;> exact Good.const _
    · exact Good.const _
  · exact Good.const _
  · exact Good.const _
theorem Good.iterRes (f : Nat) (args : List PV) (s : Option Nat) : Good env (fun rec => iterRes rec env f args s) := by
  unfold Go.Proofs.YtncobemfpammfaaGreatDoor.iterRes
  split
  · split
    · refine (Good.app _ _).bind fun a => ?_
      obtain ⟨e, st⟩ := a
      cases e <;> exact Good.const _
    · exact Good.const _
  · exact Good.const _
theorem Good.callOn (d f : Nat) (args : List Opd) (caps : List AV) (st : St) : Good env (fun rec => callOn rec env d f args caps st) := by
  unfold Go.Proofs.YtncobemfpammfaaGreatDoor.callOn
  exact (Good.const _).bind fun l => (Good.const _).bind fun k => (Good.callRes f _).bind fun rs => Good.const _
theorem Good.act (o : VOp) (st : St) : Good env (fun rec => act rec env o st) := by
  cases o
  case call d f args => exact Good.callOn d f args [] st
  case callv d x args =>
    unfold Go.Proofs.YtncobemfpammfaaGreatDoor.act
    simp only
    split
    · exact Good.callOn _ _ _ _ _
    · exact Good.callOn _ _ _ _ _
    · exact Good.const _
  all_goals exact Good.const _
theorem Good.op1 (o : VOp) (st : St) : Good env (fun rec => op1 rec env o st) := by
  unfold Go.Proofs.YtncobemfpammfaaGreatDoor.op1
  split
  · exact Good.act o st
  · exact Good.const _
theorem Good.op (o : VOp) (st : St) : Good env (fun rec => op rec env o st) := by
  unfold Go.Proofs.YtncobemfpammfaaGreatDoor.op
  split
  · split
    · split
      · exact Good.op1 _ _
      · exact Good.const _
    · exact Good.const _
    · exact Good.const _
  · exact Good.op1 _ _
theorem Good.ops : ∀ (l : List VOp) (st : St), Good env (fun rec => ops rec env l st)
  | [], st => Good.const _
  | o :: l, st => (Good.op o st).bind fun st => Good.ops l st
theorem Good.rounds (slots : List AV) (ps : List Nat) (assign body : VCode) (nb : Nat) : ∀ (xs : List (List PV)) (k : Nat) (st : St), Good env (fun rec => rounds rec slots ps assign body nb k xs st)
  | [], k, st => by unfold Go.Proofs.YtncobemfpammfaaGreatDoor.rounds; exact Good.const _
  | x :: xs, k, st => by
    unfold Go.Proofs.YtncobemfpammfaaGreatDoor.rounds
    refine (Good.const _).bind fun sl => (Good.app _ _).bind fun a => ?_
    obtain ⟨e, st⟩ := a
    cases e
    case normal =>
      refine (Good.app _ _).bind fun a => ?_
      obtain ⟨e, st⟩ := a
      cases e
      case normal =>
        simp only
        split
        · exact Good.rounds slots ps assign body nb xs (k + 1) _
        · exact Good.const _
      all_goals exact Good.const _
    all_goals exact Good.const _
theorem Good.ranged (g : Opd) (ps : List Nat) (assign body : VCode) (st : St) : Good env (fun rec => ranged rec env g ps assign body st) := by
  unfold Go.Proofs.YtncobemfpammfaaGreatDoor.ranged
  refine (Good.const _).bind fun v => ?_
  cases v <;> try exact Good.const _
  simp only
  refine (Good.iterRes _ _ _).bind fun xs => (Good.rounds _ _ _ _ _ _ _ _).bind fun r => ?_
  obtain ⟨r, st1⟩ := r
  cases r with
  | none => exact Good.const _
  | some p =>
    obtain ⟨e, k⟩ := p
    refine (Good.iterRes _ _ _).bind fun xs => (Good.rounds _ _ _ _ _ _ _ _).bind fun r => ?_
    obtain ⟨r, st1⟩ := r
    cases r <;> exact Good.const _
theorem Good.altRun (keep : List Nat) (vo : List VOp) (st : St) (x : DAlt) : Good env (fun rec => altRun rec env keep vo st x) := by
  unfold Go.Proofs.YtncobemfpammfaaGreatDoor.altRun
  exact (Good.ops _ _).bind fun s => Good.const _
theorem Good.agree (keep : List Nat) (vo : List VOp) (st s : St) : ∀ l : List DAlt, Good env (fun rec => agree s (l.map (Go.Proofs.YtncobemfpammfaaGreatDoor.altRun rec env keep vo st)))
  | [] => Good.const _
  | x :: xs => by
    simp only [List.map_cons, Go.Proofs.YtncobemfpammfaaGreatDoor.agree]
    refine (Good.altRun keep vo st x).bind fun s' => ?_
    split
    · exact Good.agree keep vo st s xs
    · exact Good.const _
theorem Good.runAlts (keep : List Nat) (vo : List VOp) (st : St) (l : List DAlt) : Good env (fun rec => runAlts rec env keep vo st l) := by
  cases l with
  | nil => exact Good.const _
  | cons x xs =>
    simp only [Go.Proofs.YtncobemfpammfaaGreatDoor.runAlts]
    exact (Good.altRun keep vo st x).bind fun s => Good.agree keep vo st s xs
theorem Good.step (c : VCode) (st : St) : Good env (fun rec => step rec env c st) := by
  cases c
  case ops l => exact (Good.ops l st).map
  case drw fz _ _ _ l => exact (Good.ops l (fz.foldl St.freezeAt st)).map
  case drs fz keep vo alts => exact (Good.runAlts keep vo (fz.foldl St.freezeAt st) alts).map
  case seq a b =>
    refine (Good.app _ _).bind fun x => ?_
    obtain ⟨e, st⟩ := x
    cases e
    case normal => exact Good.app _ _
    all_goals exact Good.const _
  case cond c a b =>
    refine (Good.const _).bind fun v => ?_
    cases v <;> try exact Good.const _
    simp only
    split
    · exact Good.app _ _
    · exact Good.app _ _
  case block i a =>
    refine (Good.app _ _).bind fun x => ?_
    obtain ⟨e, st⟩ := x
    exact Good.const _
  case loop => exact Good.app _ _
  case round keep nb a =>
    refine (Good.const _).bind fun s => (Good.app _ _).bind fun x => ?_
    obtain ⟨e, st⟩ := x
    cases e
    case normal => exact Good.app _ _
    all_goals exact Good.const _
  case rng g ps assign body => exact Good.ranged g ps assign body st
  case clean pre post a =>
    refine (Good.const _).bind fun s => (Good.app _ _).bind fun x => ?_
    obtain ⟨e, st⟩ := x
    exact Good.const _
  all_goals exact Good.const _

theorem vm_succ (env : Env) : ∀ n, RLe (vm env n) (vm env (n + 1))
  | 0, c, st, r, h => by simp [vm] at h
  | n + 1, c, st, r, h => (Good.step (env := env) c st).mono _ _ (vm_succ env n) r h
theorem vm_le (env : Env) (m n : Nat) (h : m ≤ n) : RLe (vm env m) (vm env n) := by
  induction h with
  | refl => exact fun _ _ _ h => h
  | step _ ih => exact fun c st r h => vm_succ env _ c st r (ih c st r h)
theorem den_of_vm {n : Nat} {c : VCode} {st : St} {r : Ex × St} (h : vm env n c st = some r) : den env c st = some r := by
  have hx : ∃ n r, vm env n c st = some r := ⟨n, r, h⟩
  unfold den
  rw [dif_pos hx]
  have h2 := Classical.choose_spec (Classical.choose_spec hx)
  have h3 := vm_le env _ _ (Nat.le_max_left n (Classical.choose hx)) c st r h
  have h4 := vm_le env _ _ (Nat.le_max_right n (Classical.choose hx)) c st _ h2
  rw [h3] at h4
  exact h4.symm
theorem vm_of_den {c : VCode} {st : St} {r : Ex × St} (h : den env c st = some r) : ∃ n, vm env n c st = some r :=
  (Good.app c st).cont (vm_le env) r h
theorem vm_den (env : Env) (n : Nat) : RLe (vm env n) (den env) := fun _ _ _ h => den_of_vm h
theorem den_eq (env : Env) (c : VCode) (st : St) : den env c st = step (den env) env c st := by
  apply Option.ext
  intro r
  constructor
  · intro h
    obtain ⟨n, hn⟩ := vm_of_den h
    cases n with
    | zero => simp [vm] at hn
    | succ n => exact (Good.step c st).mono _ _ (vm_den env n) r hn
  · intro h
    obtain ⟨n, hn⟩ := (Good.step c st).cont (vm_le env) r h
    exact den_of_vm (n := n + 1) hn
noncomputable def cal (env : Env) (f : Nat) (args : List PV) : Option (List Res) := callRes (den env) env f args
theorem vmCall_of_cal {f : Nat} {args : List PV} {rs : List Res} (h : cal env f args = some rs) : ∃ n, vmCall env n f args = some rs :=
  (Good.callRes (env := env) f args).cont (vm_le env) rs h
end
end Go.Proofs.YtncobemfpammfaaGreatDoor

namespace Go.Proofs.YtncobemfpammfaaGreatDoor

def bcase {α : Type} (b : Bool) (x y : α) : α := match b with
  | true => x
  | false => y
section
variable {env : Env} {α β : Type}
theorem bcase_true (x y : α) : bcase true x y = x := (rfl)
theorem bcase_false (x y : α) : bcase false x y = y := (rfl)
theorem bcase_bind (b : Bool) (x y : Option α) (f : α → Option β) : (bcase b x y).bind f = bcase b (x.bind f) (y.bind f) := by cases b <;> rfl
theorem bcase_map (b : Bool) (x y : Option α) (f : α → β) : (bcase b x y).map f = bcase b (x.map f) (y.map f) := by cases b <;> rfl
theorem bcase_not (b : Bool) (x y : α) : bcase (!b) x y = bcase b y x := by cases b <;> rfl
theorem bcase_bne {γ : Type} [BEq γ] (a b : γ) (x y : α) : bcase (a != b) x y = bcase (a == b) y x := by unfold bne; rw [bcase_not]
theorem beq_t (b : Bool) : (b == true) = b := by cases b <;> rfl
theorem beq_f (b : Bool) : (b == false) = !b := by cases b <;> rfl
theorem bcase_split {b : Bool} {x y r : α} (h1 : b = true → x = r) (h0 : b = false → y = r) : bcase b x y = r := by
  cases b
  · exact h0 rfl
  · exact h1 rfl

noncomputable def dops (env : Env) (l : List VOp) (st : St) : Option St := ops (den env) env l st
noncomputable def dop (env : Env) (o : VOp) (st : St) : Option St := op (den env) env o st
noncomputable def next (env : Env) (b : VCode) : Ex × St → Option (Ex × St)
  | (.normal, st) => den env b st
  | r => some r
def endBlock (id : Nat) : Ex × St → Ex × St
  | (.normal, st) => (.normal, st)
  | (.exit j, st) => (bcase (Nat.beq j id) .normal (.exit j), st)
  | (.ret, st) => (.ret, st)
def cleanEnd (post : List Nat) (nb : Nat) (p : Ex × St) : Option (Ex × St) := (p.2.head post nb).map fun st => (p.1, st)
def fin (rs : List VRes) : Ex × St → Option (List Res)
  | (.exit _, _) => none
  | (_, st) => resultsOf st rs
def start (n : Nat) (args : List PV) : St := ⟨args.map .pv ++ List.replicate (n - args.length) .any, [], [], none⟩

theorem den_skip (st : St) : den env .skip st = some (.normal, st) := by rw [den_eq]; rfl
theorem den_ops (l : List VOp) (st : St) : den env (.ops l) st = (dops env l st).map fun st => (.normal, st) := by rw [den_eq]; rfl
theorem den_drw (z a f q) (l : List VOp) (st : St) : den env (.drw z a f q l) st = (dops env l (z.foldl St.freezeAt st)).map fun st => (.normal, st) := by rw [den_eq]; rfl
noncomputable def dalts (env : Env) (keep : List Nat) (vo : List VOp) (st : St) (l : List DAlt) : Option St := runAlts (den env) env keep vo st l
noncomputable def dalt (env : Env) (keep : List Nat) (vo : List VOp) (st : St) (x : DAlt) : Option St := altRun (den env) env keep vo st x
noncomputable def dagree (env : Env) (keep : List Nat) (vo : List VOp) (st s : St) (l : List DAlt) : Option St := agree s (l.map (altRun (den env) env keep vo st))
def sameAs (s s' : St) (r : Option St) : Option St := if s'.same s then r else none
theorem den_drs (z k vo l) (st : St) : den env (.drs z k vo l) st = (dalts env k vo (z.foldl St.freezeAt st) l).map fun st => (.normal, st) := by rw [den_eq]; rfl
theorem dalts_cons (k vo) (st : St) (x : DAlt) (l : List DAlt) : dalts env k vo st (x :: l) = (dalt env k vo st x).bind fun s => dagree env k vo st s l := (rfl)
theorem dagree_nil (k vo) (st s : St) : dagree env k vo st s [] = some s := (rfl)
theorem dagree_cons (k vo) (st s : St) (x : DAlt) (l : List DAlt) : dagree env k vo st s (x :: l) = (dalt env k vo st x).bind fun s' => sameAs s s' (dagree env k vo st s l) := by
  show (altRun (den env) env k vo st x).bind _ = _
  unfold dalt dagree sameAs
  congr 1
theorem sameAs_same (s : St) (r : Option St) : sameAs s s r = r := by
  show (if s.same s then r else none) = r
  rw [St.same_refl]; rfl
theorem dalt_eq (k vo) (st : St) (a f q o w) : dalt env k vo st ⟨a, f, q, o, w⟩ = (dops env (pickV vo o) st).bind (altEnd k st.boxes.length w) := (rfl)
theorem altEnd_false (k : List Nat) (nb : Nat) (s : St) : altEnd k nb false s = s.head k s.boxes.length := by
  unfold altEnd
  cases s.head k s.boxes.length <;> rfl
theorem altEnd_true (k : List Nat) (nb : Nat) (s : St) : altEnd k nb true s = (s.head k s.boxes.length).bind fun s => s.swap2 nb := (rfl)
theorem pickV_nil (vo : List VOp) : pickV vo [] = [] := (rfl)
theorem pickV_one (vo : List VOp) (i : Nat) (l : List Nat) : pickV vo (i :: l) = vo.getD i default :: pickV vo l := (rfl)
theorem den_seq (a b : VCode) (st : St) : den env (.seq a b) st = (den env a st).bind (next env b) := by
  rw [den_eq]
  show (den env a st).bind _ = _
  congr 1
  funext ⟨e, st⟩
  cases e <;> rfl
theorem den_cond (c : Opd) (a b : VCode) (st : St) : den env (.cond c a b) st = (match st.pvOf c with
    | some (.bool t) => bcase t (den env a st) (den env b st)
    | _ => none) := by
  rw [den_eq]
  show (st.pvOf c).bind _ = _
  cases st.pvOf c with
  | none => rfl
  | some v =>
    cases v <;> try rfl
    rename_i t
    cases t <;> rfl
theorem den_block (i : Nat) (a : VCode) (st : St) : den env (.block i a) st = (den env a st).map (endBlock i) := by
  rw [den_eq]
  show (den env a st).bind _ = _
  cases den env a st with
  | none => rfl
  | some r =>
    obtain ⟨e, st⟩ := r
    cases e with
    | normal => rfl
    | ret => rfl
    | exit j =>
      show some (_, _) = some (_, _)
      by_cases h : j = i
      · subst h; simp [bcase]
      · have : Nat.beq j i = false := by cases e : Nat.beq j i with
        | false => rfl
        | true => exact absurd (Nat.eq_of_beq_eq_true e) h
        simp [bcase, h, this]
theorem den_loop (keep : List Nat) (a : VCode) (st : St) : den env (.loop keep a) st = den env (.round keep st.boxes.length a) st := by rw [den_eq]; rfl
theorem den_round (keep : List Nat) (nb : Nat) (a : VCode) (st : St) : den env (.round keep nb a) st = (st.head keep nb).bind fun st => (den env a st).bind (next env (.round keep nb a)) := by
  rw [den_eq]
  show (st.head keep nb).bind _ = _
  congr 1
  funext st
  show (den env a st).bind _ = _
  congr 1
  funext ⟨e, st⟩
  cases e <;> rfl
theorem den_clean (pre post : List Nat) (a : VCode) (st : St) : den env (.clean pre post a) st = (st.head pre st.boxes.length).bind fun s => (den env a s).bind (cleanEnd post st.boxes.length) := by
  rw [den_eq]
  show (st.head pre _).bind _ = _
  congr 1
  funext s
  show (den env a s).bind _ = _
  congr 1
  funext ⟨e, s⟩
  show (s.head post _).bind _ = (s.head post _).map _
  cases s.head post st.boxes.length <;> rfl
theorem den_exit (i : Nat) (st : St) : den env (.exit i) st = some (.exit i, st) := by rw [den_eq]; rfl
theorem den_ret (st : St) : den env .ret st = some (.ret, st) := by rw [den_eq]; rfl
theorem next_normal (b : VCode) (st : St) : next env b (.normal, st) = den env b st := (rfl)
theorem next_exit (b : VCode) (i : Nat) (st : St) : next env b (.exit i, st) = some (.exit i, st) := (rfl)
theorem next_ret (b : VCode) (st : St) : next env b (.ret, st) = some (.ret, st) := (rfl)
theorem endBlock_normal (i : Nat) (st : St) : endBlock i (.normal, st) = (.normal, st) := (rfl)
theorem endBlock_ret (i : Nat) (st : St) : endBlock i (.ret, st) = (.ret, st) := (rfl)
theorem endBlock_exit (i j : Nat) (st : St) : endBlock i (.exit j, st) = (bcase (Nat.beq j i) .normal (.exit j), st) := (rfl)
theorem fin_normal (rs : List VRes) (st : St) : fin rs (.normal, st) = resultsOf st rs := (rfl)
theorem fin_ret (rs : List VRes) (st : St) : fin rs (.ret, st) = resultsOf st rs := (rfl)
theorem cal_code {f : Nat} {fn : VFn} {args : List PV} (h : env f = some (.code fn)) (hl : args.length = fn.nargs) : cal env f args = (den env fn.body (start fn.ntmps args)).bind (Go.Proofs.YtncobemfpammfaaGreatDoor.fin fn.results) := by
  unfold cal callRes
  rw [h]
  simp only [if_pos hl]
  show (den env fn.body _).bind _ = _
  congr 1
  funext ⟨e, st⟩
  cases e <;> rfl
theorem cal_ext {f : Nat} {g : List PV → Option (List Res)} {args : List PV} (h : env f = some (.ext g)) : cal env f args = g args := by
  unfold cal callRes
  rw [h]
theorem clean_loop' {keep post : List Nat} {id : Nat} {b : VCode} {st S0 : St} {R : Option (Ex × St)} (h : st.head keep st.boxes.length = some S0) (h2 : S0.head keep S0.boxes.length = some S0)
    (key : ∀ rb, rb = VCode.round keep S0.boxes.length b → (((den env b S0).bind (next env rb)).map (endBlock id)).bind (cleanEnd post st.boxes.length) = R) : den env (.clean keep post (.block id (.loop keep b))) st = R := by
  rw [den_clean, h, Option.bind_some, den_block, den_loop, den_round, h2, Option.bind_some]
  exact key _ rfl
theorem round_on {keep : List Nat} {nb : Nat} {b rb : VCode} {st S1 : St} (hrb : rb = .round keep nb b) (h : st.head keep nb = some S1) : den env rb st = (den env b S1).bind (next env rb) := by
  rw [hrb, den_round, h, Option.bind_some]
noncomputable def tailOf (env : Env) (id : Nat) (post : List Nat) (nb : Nat) (x : Option (Ex × St)) : Option (Ex × St) := (x.map (endBlock id)).bind (cleanEnd post nb)
theorem clean_rec {β : Type} {keep post : List Nat} {id nb : Nat} {b : VCode} (S : β → St) (R : β → Option (Ex × St)) (P : β → Prop) (μ : β → Nat) (x0 : β) {st : St} (h : st.head keep st.boxes.length = some (S x0)) (hP : P x0)
    (hS : ∀ x, (S x).boxes.length = nb) (hh : ∀ x, (S x).head keep nb = some (S x))
    (step : ∀ x rb, P x → (∀ y, μ y < μ x → P y → ∀ s, s.head keep nb = some (S y) → tailOf env id post nb (den env rb s) = R y) → tailOf env id post nb ((den env b (S x)).bind (next env rb)) = R x) :
    den env (.clean keep post (.block id (.loop keep b))) st = R x0 := by
  have hb : st.boxes.length = nb := by rw [← (head_same h).1]; exact hS x0
  refine clean_loop' h (by rw [hS]; exact hh x0) ?_
  intro rb hrb
  rw [hS] at hrb
  rw [hb]
  have key : ∀ (k : Nat) (x : β), μ x < k → P x → tailOf env id post nb ((den env b (S x)).bind (next env rb)) = R x := by
    intro k
    induction k with
    | zero => intro x hx; omega
    | succ k ih =>
      intro x hx hPx
      refine step x rb hPx fun y hy hPy s hs => ?_
      rw [round_on hrb hs]
      exact ih y (by omega) hPy
  exact key (μ x0 + 1) x0 (by omega) hP
theorem clean_up {keep post : List Nat} {id nb : Nat} {b : VCode} (n : Nat) (S : Nat → St) (R : Nat → Option (Ex × St)) {st : St} (h : st.head keep st.boxes.length = some (S 0)) (hS : ∀ i, (S i).boxes.length = nb) (hh : ∀ i, (S i).head keep nb = some (S i))
    (step : ∀ i rb, i < n → (∀ s, s.head keep nb = some (S (i + 1)) → tailOf env id post nb (den env rb s) = R (i + 1)) → tailOf env id post nb ((den env b (S i)).bind (next env rb)) = R i)
    (last : ∀ rb, tailOf env id post nb ((den env b (S n)).bind (next env rb)) = R n) :
    den env (.clean keep post (.block id (.loop keep b))) st = R 0 := by
  refine clean_rec S R (fun i => i ≤ n) (fun i => n - i) 0 h (Nat.zero_le _) hS hh fun i rb hi ih => ?_
  by_cases hn : i = n
  · subst hn; exact last rb
  · exact step i rb (by omega) fun s hs => ih (i + 1) (by omega) (by omega) s hs
theorem tail_normal {id nb : Nat} {post : List Nat} (st : St) : tailOf env id post nb (some (.normal, st)) = cleanEnd post nb (.normal, st) := (rfl)
theorem tail_ret {id nb : Nat} {post : List Nat} (st : St) : tailOf env id post nb (some (.ret, st)) = cleanEnd post nb (.ret, st) := (rfl)
theorem tail_exit {id j nb : Nat} {post : List Nat} (st : St) : tailOf env id post nb (some (.exit j, st)) = cleanEnd post nb (bcase (Nat.beq j id) .normal (.exit j), st) := (rfl)
theorem tail_bcase {id nb : Nat} {post : List Nat} (b : Bool) (x y : Option (Ex × St)) : tailOf env id post nb (bcase b x y) = bcase b (tailOf env id post nb x) (tailOf env id post nb y) := by cases b <;> rfl
theorem z_bind_some (a : α) (f : α → Option β) : (some a).bind f = f a := (rfl)
theorem z_bind_none (f : α → Option β) : (none : Option α).bind f = none := (rfl)
theorem z_map_some (a : α) (f : α → β) : (some a).map f = some (f a) := (rfl)
theorem z_map_none (f : α → β) : (none : Option α).map f = none := (rfl)
theorem z_ite_true (x y : α) : (if True then x else y) = x := (rfl)
theorem z_ite_false (x y : α) : (if False then x else y) = y := (rfl)
theorem z_bind_eq {γ δ : Type} (x : Option γ) (f : γ → Option δ) : (x >>= f) = x.bind f := (rfl)
theorem z_pure {γ : Type} (x : γ) : (pure x : Option γ) = some x := (rfl)
theorem z_len_cons {γ : Type} (a : γ) (l : List γ) : (a :: l).length = l.length + 1 := (rfl)
theorem z_len_nil {γ : Type} : ([] : List γ).length = 0 := (rfl)
theorem z_nil_app {γ : Type} (l : List γ) : [] ++ l = l := (rfl)
theorem z_cons_app {γ : Type} (a : γ) (l m : List γ) : (a :: l) ++ m = a :: (l ++ m) := (rfl)
theorem z_take_succ {γ : Type} (a : γ) (l : List γ) (n : Nat) : (a :: l).take (n + 1) = a :: l.take n := (rfl)
theorem z_take_zero {γ : Type} (l : List γ) : l.take 0 = [] := (rfl)
theorem z_drop_succ {γ : Type} (a : γ) (l : List γ) (n : Nat) : (a :: l).drop (n + 1) = l.drop n := (rfl)
theorem z_drop_zero {γ : Type} (l : List γ) : l.drop 0 = l := (rfl)
theorem z_get_zero {γ : Type} (a : γ) (l : List γ) : (a :: l)[0]? = some a := (rfl)
theorem z_get_succ {γ : Type} (a : γ) (l : List γ) (n : Nat) : (a :: l)[n + 1]? = l[n]? := (rfl)
theorem z_get_8 {γ : Type} (a0 a1 a2 a3 a4 a5 a6 a7 : γ) (l : List γ) (n : Nat) : (a0 :: a1 :: a2 :: a3 :: a4 :: a5 :: a6 :: a7 :: l)[n + 8]? = l[n]? := (rfl)
theorem z_getD_zero {γ : Type} (a : γ) (l : List γ) (d : γ) : (a :: l).getD 0 d = a := (rfl)
theorem z_getD_succ {γ : Type} (a : γ) (l : List γ) (n : Nat) (d : γ) : (a :: l).getD (n + 1) d = l.getD n d := (rfl)
theorem z_getD_8 {γ : Type} (a0 a1 a2 a3 a4 a5 a6 a7 : γ) (l : List γ) (n : Nat) (d : γ) : (a0 :: a1 :: a2 :: a3 :: a4 :: a5 :: a6 :: a7 :: l).getD (n + 8) d = l.getD n d := (rfl)
theorem z_set_zero {γ : Type} (a x : γ) (l : List γ) : (a :: l).set 0 x = x :: l := (rfl)
theorem z_set_succ {γ : Type} (a x : γ) (l : List γ) (n : Nat) : (a :: l).set (n + 1) x = a :: l.set n x := (rfl)
theorem z_set_8 {γ : Type} (a0 a1 a2 a3 a4 a5 a6 a7 x : γ) (l : List γ) (n : Nat) : (a0 :: a1 :: a2 :: a3 :: a4 :: a5 :: a6 :: a7 :: l).set (n + 8) x = a0 :: a1 :: a2 :: a3 :: a4 :: a5 :: a6 :: a7 :: l.set n x := (rfl)
theorem z_mapM_nil {γ δ : Type} (f : γ → Option δ) : ([] : List γ).mapM f = some [] := (rfl)
theorem z_any_cons {γ : Type} (a : γ) (l : List γ) (p : γ → Bool) : (a :: l).any p = (p a || l.any p) := (rfl)
theorem z_any_nil {γ : Type} (p : γ → Bool) : ([] : List γ).any p = false := (rfl)
theorem z_all_cons {γ : Type} (a : γ) (l : List γ) (p : γ → Bool) : (a :: l).all p = (p a && l.all p) := (rfl)
theorem z_all_nil {γ : Type} (p : γ → Bool) : ([] : List γ).all p = true := (rfl)
theorem z_foldl_cons {γ δ : Type} (f : δ → γ → δ) (b : δ) (a : γ) (l : List γ) : (a :: l).foldl f b = l.foldl f (f b a) := (rfl)
theorem z_foldl_nil {γ δ : Type} (f : δ → γ → δ) (b : δ) : ([] : List γ).foldl f b = b := (rfl)
theorem z_map_cons {γ δ : Type} (f : γ → δ) (a : γ) (l : List γ) : (a :: l).map f = f a :: l.map f := (rfl)
theorem z_map_nil {γ δ : Type} (f : γ → δ) : ([] : List γ).map f = [] := (rfl)
theorem z_repl_zero {γ : Type} (a : γ) : List.replicate 0 a = [] := (rfl)
theorem z_repl_succ {γ : Type} (a : γ) (n : Nat) : List.replicate (n + 1) a = a :: List.replicate n a := (rfl)

theorem dops_nil (st : St) : dops env [] st = some st := (rfl)
theorem dops_cons (o : VOp) (l : List VOp) (st : St) : dops env (o :: l) st = (dop env o st).bind (dops env l) := (rfl)
theorem dop_grd {g : Nat} {w : Bool} {o : VOp} (st : St) : dop env (.grd g w o) st = (match st.slots.getD g .any with
    | .pv (.bool b) => bcase (b == w) (op1 (den env) env o st) (match dstOf o with
      | some d => some (st.put d (.tup false []))
      | none => some st)
    | .tup _ l => bcase l.isEmpty (match dstOf o with
      | some d => some (st.put d (.tup false []))
      | none => some st) none
    | _ => none) := by
  unfold dop op
  simp only
  generalize st.slots.getD g .any = v
  cases v with
  | pv p =>
    cases p with
    | bool b => cases b <;> cases w <;> rfl
    | _ => rfl
  | tup k l => cases l <;> rfl
  | _ => rfl
theorem dop_pick {d c x y} (st : St) : dop env (.pick d c x y) st = (match st.pvOf c with
    | some (.bool b) => bcase b ((st.pvOf x).map fun v => st.put d (.pv v)) ((st.pvOf y).map fun v => st.put d (.pv v))
    | _ => none) := by
  show (st.pvOf c).bind _ = _
  cases st.pvOf c with
  | none => rfl
  | some v =>
    cases v <;> try rfl
    rename_i t
    cases t
    · show (st.pvOf y).bind _ = Option.map _ (st.pvOf y)
      cases st.pvOf y <;> rfl
    · show (st.pvOf x).bind _ = Option.map _ (st.pvOf x)
      cases st.pvOf x <;> rfl
def afterCall (d : Nat) (args : List Opd) (caps : List AV) (st : St) (fl : Bool) (rs : List Res) : Option St :=
  some ((bcase (fl && !(rs.all (·.1.scalar))) (caps.foldl (fun s v => s.freezeArg1 (.c .void) v) (args.foldl St.freezeArg st)) st).layAll d rs)
theorem afterCall_false (d : Nat) (args : List Opd) (caps : List AV) (st : St) (rs : List Res) : afterCall d args caps st false rs = some (st.layAll d rs) := by
  simp only [afterCall, Bool.false_and, bcase_false]
theorem afterCall_true (d : Nat) (args : List Opd) (caps : List AV) (st : St) (r : Res) (rs : List Res) : afterCall d args caps st true (r :: rs) = bcase ((r :: rs).all (·.1.scalar)) (some (st.layAll d (r :: rs))) (some ((caps.foldl (fun s v => s.freezeArg1 (.c .void) v) (args.foldl St.freezeArg st)).layAll d (r :: rs))) := by
  unfold afterCall
  rw [Bool.true_and]
  cases h : (r :: rs).all (·.1.scalar) <;> rfl
noncomputable def dcall (env : Env) (d f : Nat) (args : List Opd) (caps : List AV) (st : St) : Option St :=
  (args.mapM fun x => st.snapFn (st.get x)).bind fun l => (caps.mapM st.snap).bind fun k => (cal env f (l.map (·.1) ++ k.map (·.1))).bind (afterCall d args caps st (l.any (·.2) || k.any (·.2)))
noncomputable def dcallP (env : Env) (d f : Nat) (args : List Opd) (caps : List PV) (st : St) : Option St :=
  (args.mapM fun x => st.snapFn (st.get x)).bind fun l => (cal env f (l.map (·.1) ++ caps)).bind (afterCall d args [] st (l.any (·.2)))
theorem snaps_pv (st : St) : ∀ caps : List PV, (caps.map AV.pv).mapM st.snap = some (caps.map fun v => (v, false))
  | [] => rfl
  | c :: l => by
    rw [List.map_cons, List.mapM_cons, snaps_pv st l]
    rfl
theorem freeze_pv (st : St) : ∀ caps : List PV, (caps.map AV.pv).foldl (fun s v => s.freezeArg1 (.c .void) v) st = st
  | [] => rfl
  | c :: l => freeze_pv st l
theorem dcall_eq (d f : Nat) (args : List Opd) (caps : List AV) (st : St) : callOn (den env) env d f args caps st = dcall env d f args caps st := by
  unfold callOn dcall
  show Option.bind _ _ = Option.bind _ _
  congr 1; funext l
  show Option.bind _ _ = Option.bind _ _
  congr 1; funext k
  show Option.bind _ _ = Option.bind _ _
  congr 1; funext rs
  show some _ = some _
  congr 2
  cases h : (l.any (·.2) || k.any (·.2)) && !(rs.all (·.1.scalar)) <;> rfl
theorem dcallP_eq (d f : Nat) (args : List Opd) (caps : List PV) (st : St) : dcall env d f args (caps.map .pv) st = dcallP env d f args caps st := by
  unfold dcallP dcall
  congr 1; funext l
  rw [snaps_pv, Option.bind_some, List.map_map, List.any_map]
  have h1 : (Prod.fst ∘ fun v : PV => (v, false)) = id := rfl
  have h2 : caps.any (Prod.snd ∘ fun v : PV => (v, false)) = false := by
    induction caps with
    | nil => rfl
    | cons c cs ih => simp [List.any_cons, ih]
  rw [h1, List.map_id, h2, Bool.or_false]
  congr 1; funext rs
  unfold afterCall
  rw [freeze_pv]
  rfl
theorem dop_call {d f args} (st : St) : dop env (.call d f args) st = dcallP env d f args [] st := (dcall_eq ..).trans (dcallP_eq (caps := []) ..)
theorem op1_call {d f args} (st : St) : op1 (den env) env (.call d f args) st = dcallP env d f args [] st := (dcall_eq ..).trans (dcallP_eq (caps := []) ..)
theorem dop_callv {d x args} (st : St) : dop env (.callv d x args) st = (match st.get x with
    | .pv (.func f caps) => dcallP env d f args caps st
    | .fn f caps => dcall env d f args caps st
    | _ => none) := by
  show (match st.get x with
    | .pv (.func f caps) => callOn (den env) env d f args (caps.map .pv) st
    | .fn f caps => callOn (den env) env d f args caps st
    | _ => none) = _
  split <;> simp only [dcall_eq, dcallP_eq]
theorem op1_callv {d x args} (st : St) : op1 (den env) env (.callv d x args) st = dop env (.callv d x args) st := (rfl)
theorem op1_pick {d c x y} (st : St) : op1 (den env) env (.pick d c x y) st = dop env (.pick d c x y) st := (rfl)
theorem dop_mov {d x} (st : St) : dop env (.mov d x) st = plain (.mov d x) st := (rfl)
theorem dop_asg {d x} (st : St) : dop env (.asg d x) st = plain (.asg d x) st := (rfl)
theorem dop_bin {d o x y} (st : St) : dop env (.bin d o x y) st = plain (.bin d o x y) st := (rfl)
theorem dop_eqa {d neg n x y} (st : St) : dop env (.eqa d neg n x y) st = plain (.eqa d neg n x y) st := (rfl)
theorem dop_eqb {d neg x y} (st : St) : dop env (.eqb d neg x y) st = plain (.eqb d neg x y) st := (rfl)
theorem dop_isn {d neg x} (st : St) : dop env (.isn d neg x) st = plain (.isn d neg x) st := (rfl)
theorem dop_cut {d sz x} (st : St) : dop env (.cut d sz x) st = plain (.cut d sz x) st := (rfl)
theorem dop_asl {d n x} (st : St) : dop env (.asl d n x) st = plain (.asl d n x) st := (rfl)
theorem dop_bldo {d z l q m} (st : St) : dop env (.bldo d z l q m) st = plain (.bldo d z l q m) st := (rfl)
theorem op1_bldo {d z l q m} (st : St) : op1 (den env) env (.bldo d z l q m) st = plain (.bldo d z l q m) st := (rfl)
theorem dop_stw {n p x} (st : St) : dop env (.stw n p x) st = act (den env) env (.stw n p x) st := (rfl)
theorem op1_stw {n p x} (st : St) : op1 (den env) env (.stw n p x) st = act (den env) env (.stw n p x) st := (rfl)
theorem dop_srt {d f x g} (st : St) : dop env (.srt d f x g) st = act (den env) env (.srt d f x g) st := (rfl)
theorem op1_srt {d f x g} (st : St) : op1 (den env) env (.srt d f x g) st = act (den env) env (.srt d f x g) st := (rfl)
theorem dop_mvz {d x} (st : St) : dop env (.mvz d x) st = plain (.mvz d x) st := (rfl)
theorem op1_mvz {d x} (st : St) : op1 (den env) env (.mvz d x) st = plain (.mvz d x) st := (rfl)
theorem dop_ldz {d n x} (st : St) : dop env (.ldz d n x) st = plain (.ldz d n x) st := (rfl)
theorem op1_asl {d n x} (st : St) : op1 (den env) env (.asl d n x) st = plain (.asl d n x) st := (rfl)
theorem op1_ldz {d n x} (st : St) : op1 (den env) env (.ldz d n x) st = plain (.ldz d n x) st := (rfl)
theorem op1_isn {d neg x} (st : St) : op1 (den env) env (.isn d neg x) st = plain (.isn d neg x) st := (rfl)
theorem op1_cut {d sz x} (st : St) : op1 (den env) env (.cut d sz x) st = plain (.cut d sz x) st := (rfl)
theorem dop_un {d o x} (st : St) : dop env (.un d o x) st = plain (.un d o x) st := (rfl)
theorem dop_conv {d k x} (st : St) : dop env (.conv d k x) st = plain (.conv d k x) st := (rfl)
theorem dop_load {d n p} (st : St) : dop env (.load d n p) st = plain (.load d n p) st := (rfl)
theorem dop_fadr {d p off} (st : St) : dop env (.fadr d p off) st = plain (.fadr d p off) st := (rfl)
theorem dop_aadr {d p i len sz} (st : St) : dop env (.aadr d p i len sz) st = plain (.aadr d p i len sz) st := (rfl)
theorem dop_iadr {d sz x i} (st : St) : dop env (.iadr d sz x i) st = plain (.iadr d sz x i) st := (rfl)
theorem dop_fld {d x off n} (st : St) : dop env (.fld d x off n) st = plain (.fld d x off n) st := (rfl)
theorem dop_idx {d x i len sz n} (st : St) : dop env (.idx d x i len sz n) st = plain (.idx d x i len sz n) st := (rfl)
theorem dop_sli {d sz x lo hi} (st : St) : dop env (.sli d sz x lo hi) st = plain (.sli d sz x lo hi) st := (rfl)
theorem dop_len {d x} (st : St) : dop env (.len d x) st = plain (.len d x) st := (rfl)
theorem dop_lens {d x} (st : St) : dop env (.lens d x) st = plain (.lens d x) st := (rfl)
theorem dop_ext {d x i} (st : St) : dop env (.ext d x i) st = plain (.ext d x i) st := (rfl)
theorem dop_build {d z parts} (st : St) : dop env (.build d z parts) st = plain (.build d z parts) st := (rfl)
theorem dop_mn {d mx x y} (st : St) : dop env (.mn d mx x y) st = plain (.mn d mx x y) st := (rfl)
theorem dop_mkf {d f caps} (st : St) : dop env (.mkf d f caps) st = plain (.mkf d f caps) st := (rfl)
theorem dop_alloc {d z} (st : St) : dop env (.alloc d z) st = act (den env) env (.alloc d z) st := (rfl)
theorem dop_box {d x} (st : St) : dop env (.box d x) st = act (den env) env (.box d x) st := (rfl)
theorem dop_store {d n p x} (st : St) : dop env (.store d n p x) st = act (den env) env (.store d n p x) st := (rfl)
theorem dop_mksl {d sz parts} (st : St) : dop env (.mksl d sz parts) st = act (den env) env (.mksl d sz parts) st := (rfl)
theorem dop_make {d z n c} (st : St) : dop env (.make d z n c) st = act (den env) env (.make d z n c) st := (rfl)
theorem dop_app {d sz x y} (st : St) : dop env (.app d sz x y) st = act (den env) env (.app d sz x y) st := (rfl)
theorem dop_cpy {d sz x y} (st : St) : dop env (.cpy d sz x y) st = act (den env) env (.cpy d sz x y) st := (rfl)
theorem dop_yield {d x args} (st : St) : dop env (.yield d x args) st = act (den env) env (.yield d x args) st := (rfl)
theorem op1_mov {d x} (st : St) : op1 (den env) env (.mov d x) st = plain (.mov d x) st := (rfl)
theorem op1_asg {d x} (st : St) : op1 (den env) env (.asg d x) st = plain (.asg d x) st := (rfl)
theorem op1_bin {d o x y} (st : St) : op1 (den env) env (.bin d o x y) st = plain (.bin d o x y) st := (rfl)
theorem op1_eqa {d neg n x y} (st : St) : op1 (den env) env (.eqa d neg n x y) st = plain (.eqa d neg n x y) st := (rfl)
theorem op1_eqb {d neg x y} (st : St) : op1 (den env) env (.eqb d neg x y) st = plain (.eqb d neg x y) st := (rfl)
theorem op1_un {d o x} (st : St) : op1 (den env) env (.un d o x) st = plain (.un d o x) st := (rfl)
theorem op1_conv {d k x} (st : St) : op1 (den env) env (.conv d k x) st = plain (.conv d k x) st := (rfl)
theorem op1_load {d n p} (st : St) : op1 (den env) env (.load d n p) st = plain (.load d n p) st := (rfl)
theorem op1_fadr {d p off} (st : St) : op1 (den env) env (.fadr d p off) st = plain (.fadr d p off) st := (rfl)
theorem op1_aadr {d p i len sz} (st : St) : op1 (den env) env (.aadr d p i len sz) st = plain (.aadr d p i len sz) st := (rfl)
theorem op1_iadr {d sz x i} (st : St) : op1 (den env) env (.iadr d sz x i) st = plain (.iadr d sz x i) st := (rfl)
theorem op1_fld {d x off n} (st : St) : op1 (den env) env (.fld d x off n) st = plain (.fld d x off n) st := (rfl)
theorem op1_idx {d x i len sz n} (st : St) : op1 (den env) env (.idx d x i len sz n) st = plain (.idx d x i len sz n) st := (rfl)
theorem op1_sli {d sz x lo hi} (st : St) : op1 (den env) env (.sli d sz x lo hi) st = plain (.sli d sz x lo hi) st := (rfl)
theorem op1_len {d x} (st : St) : op1 (den env) env (.len d x) st = plain (.len d x) st := (rfl)
theorem op1_lens {d x} (st : St) : op1 (den env) env (.lens d x) st = plain (.lens d x) st := (rfl)
theorem op1_ext {d x i} (st : St) : op1 (den env) env (.ext d x i) st = plain (.ext d x i) st := (rfl)
theorem op1_build {d z parts} (st : St) : op1 (den env) env (.build d z parts) st = plain (.build d z parts) st := (rfl)
theorem op1_mn {d mx x y} (st : St) : op1 (den env) env (.mn d mx x y) st = plain (.mn d mx x y) st := (rfl)
theorem op1_mkf {d f caps} (st : St) : op1 (den env) env (.mkf d f caps) st = plain (.mkf d f caps) st := (rfl)
theorem op1_alloc {d z} (st : St) : op1 (den env) env (.alloc d z) st = act (den env) env (.alloc d z) st := (rfl)
theorem op1_box {d x} (st : St) : op1 (den env) env (.box d x) st = act (den env) env (.box d x) st := (rfl)
theorem op1_store {d n p x} (st : St) : op1 (den env) env (.store d n p x) st = act (den env) env (.store d n p x) st := (rfl)
theorem op1_mksl {d sz parts} (st : St) : op1 (den env) env (.mksl d sz parts) st = act (den env) env (.mksl d sz parts) st := (rfl)
theorem op1_make {d z n c} (st : St) : op1 (den env) env (.make d z n c) st = act (den env) env (.make d z n c) st := (rfl)
theorem op1_app {d sz x y} (st : St) : op1 (den env) env (.app d sz x y) st = act (den env) env (.app d sz x y) st := (rfl)
theorem op1_cpy {d sz x y} (st : St) : op1 (den env) env (.cpy d sz x y) st = act (den env) env (.cpy d sz x y) st := (rfl)
theorem op1_yield {d x args} (st : St) : op1 (den env) env (.yield d x args) st = act (den env) env (.yield d x args) st := (rfl)
theorem killS_pv (d : Nat) (v : PV) : AV.kill d (.pv v) = .pv v := (rfl)
theorem killS_any (d : Nat) : AV.kill d .any = .any := (rfl)
theorem killS_row (d sz : Nat) (es : List PV) : AV.kill d (.row sz es) = .row sz es := (rfl)
theorem killS_pbox (d o j : Nat) : AV.kill d (.pbox o j) = .pbox o j := (rfl)
theorem killS_fn (d f : Nat) (l : List AV) : AV.kill d (.fn f l) = .fn f l := (rfl)
theorem killS_tup (d : Nat) (k : Bool) (l : List AV) : AV.kill d (.tup k l) = .tup k l := (rfl)
theorem killS_yld (d : Nat) : AV.kill d .yld = .yld := (rfl)
theorem killS_refs (d t off len : Nat) : AV.kill d (.ref (.slot t) off len) = bcase (decide (t = d)) .any (.ref (.slot t) off len) := by
  by_cases h : t = d <;> simp [AV.kill, AV.roots, h, bcase]
theorem killS_refc (d o j off len : Nat) : AV.kill d (.ref (.cell o j) off len) = .ref (.cell o j) off len := (rfl)
theorem killS_pels (d t i j : Nat) : AV.kill d (.pel (.slot t) i j) = bcase (decide (t = d)) .any (.pel (.slot t) i j) := by
  by_cases h : t = d <;> simp [AV.kill, AV.roots, h, bcase]
theorem killS_pelc (d o q i j : Nat) : AV.kill d (.pel (.cell o q) i j) = .pel (.cell o q) i j := (rfl)
theorem killc_pv (d : Nat) (v : PV) : AV.killCell d (.pv v) = .pv v := (rfl)
theorem killc_any (d : Nat) : AV.killCell d .any = .any := (rfl)
theorem killc_row (d sz : Nat) (es : List PV) : AV.killCell d (.row sz es) = .row sz es := (rfl)
theorem killc_pbox (d o j : Nat) : AV.killCell d (.pbox o j) = .pbox o j := (rfl)
theorem killc_fn (d f : Nat) (l : List AV) : AV.killCell d (.fn f l) = .fn f l := (rfl)
theorem killc_tup (d : Nat) (k : Bool) (l : List AV) : AV.killCell d (.tup k l) = .tup k l := (rfl)
theorem killc_yld (d : Nat) : AV.killCell d .yld = .yld := (rfl)
theorem killc_refc (d t j off len : Nat) : AV.killCell d (.ref (.cell t j) off len) = bcase (decide (t = d)) .any (.ref (.cell t j) off len) := by
  by_cases h : t = d <;> simp [AV.killCell, AV.rootsCell, h, bcase]
theorem killc_refs (d t off len : Nat) : AV.killCell d (.ref (.slot t) off len) = .ref (.slot t) off len := (rfl)
theorem killc_pelc (d t q i j : Nat) : AV.killCell d (.pel (.cell t q) i j) = bcase (decide (t = d)) .any (.pel (.cell t q) i j) := by
  by_cases h : t = d <;> simp [AV.killCell, AV.rootsCell, h, bcase]
theorem killc_pels (d t i j : Nat) : AV.killCell d (.pel (.slot t) i j) = .pel (.slot t) i j := (rfl)
theorem take_map_all {γ δ : Type} (f : γ → δ) (l : List γ) : (l.map f).take l.length = l.map f := List.take_of_length_le (by simp)
theorem scal_int (k : IntKind) (n : Int) : (PV.int k n).scalar = true := (rfl)
theorem scal_bool (b : Bool) : (PV.bool b).scalar = true := (rfl)
theorem scal_str (b : ByteArray) : (PV.str b).scalar = true := (rfl)
theorem scal_list (sz : Nat) (es : List PV) : (PV.list sz es).scalar = false := (rfl)
theorem scal_func (f : Nat) (es : List PV) : (PV.func f es).scalar = false := (rfl)
theorem cells_int (k : IntKind) (n : Int) : (PV.int k n).cells = [.int k n] := (rfl)
theorem cells_bool (b : Bool) : (PV.bool b).cells = [.bool b] := (rfl)
theorem cells_str (b : ByteArray) : (PV.str b).cells = [.str b] := (rfl)
theorem cells_list (sz : Nat) (es : List PV) : (PV.list sz es).cells = [.list sz es] := (rfl)
theorem cells_func (f : Nat) (es : List PV) : (PV.func f es).cells = [.func f es] := (rfl)
theorem cells_agg (cs : List PV) : (PV.agg cs).cells = cs := (rfl)
theorem part_one (c : PV) (cs : List PV) : part (c :: cs) 0 none = some c := (rfl)
theorem part_succ (c : PV) (cs : List PV) (n : Nat) (m : Option Nat) : part (c :: cs) (n + 1) m = part cs n m := by
  cases m with
  | none => rfl
  | some m =>
    simp only [part, List.length_cons, List.drop_succ_cons]
    by_cases h : n + m ≤ cs.length
    · rw [if_pos h, if_pos (by omega)]
    · rw [if_neg h, if_neg (by omega)]
theorem part_more (c : PV) (cs : List PV) (m : Nat) : part (c :: cs) 0 (some m) = if m ≤ (c :: cs).length then some (.agg ((c :: cs).take m)) else none := by
  simp only [part, Nat.zero_add, List.drop_zero]
theorem i64_fits {n : Int} (h : -9223372036854775808 ≤ n ∧ n ≤ 9223372036854775807) : IntKind.i64.wrap n = n := Go.IntWalk.i64_in n h
theorem i64_next {i n : Nat} (h : i < n) (hn : n ≤ lim) : IntKind.i64.wrap ((i : Int) + 1) = ((i + 1 : Nat) : Int) := by
  unfold lim at hn
  rw [Go.IntWalk.i64_in _ (by omega)]
  omega
theorem index_nat {k : IntKind} {i n : Nat} (h : i < n) : index (.int k (i : Int)) n = some i := by
  simp only [index]
  rw [if_pos (by omega)]
  simp
end
end Go.Proofs.YtncobemfpammfaaGreatDoor

namespace Go.Proofs.YtncobemfpammfaaGreatDoor
open V
def cloneX (n : Nat) : List PV → Option (List Res)
  | [.list sz es] => if sz = n ∧ es.length ≤ lim then some [(.list sz es, true)] else none
  | _ => none
def decU8 : PV → Option UInt8
  | .int .u8 n => if 0 ≤ n ∧ n < 256 then some (UInt8.ofNat n.toNat) else none
  | _ => none
def decAll {α : Type} (f : PV → Option α) : List PV → Option (List α)
  | [] => some []
  | p :: l => match f p with
    | some x => match decAll f l with
      | some xs => some (x :: xs)
      | none => none
    | none => none
def decSec : PV → Option Sec
  | .agg cs => match decAll decU8 cs with
    | some l => if h : l.length = 8 then some ⟨l.toArray, by simpa using h⟩ else none
    | none => none
  | _ => none
def decSecs : PV → Option (List Sec)
  | .list 8 es => decAll decSec es
  | _ => none
def i64b (n : Int) : Bool := decide (-9223372036854775808 ≤ n) && decide (n ≤ 9223372036854775807)
def decWr : PV → Option Wrt
  | .agg [.int .i64 v, .int .i64 s, d] => match decSecs d with
    | some d => if i64b v && i64b s then some ⟨v, s, d⟩ else none
    | none => none
  | _ => none
theorem decU8_eq {p : PV} {x : UInt8} (h : decU8 p = some x) : p = .int .u8 (x.toNat : Int) := by
  unfold decU8 at h
  split at h
  case h_2 => cases h
  rename_i n
  split at h
  case isFalse => cases h
  cases h
  rw [UInt8.toNat_ofNat_of_lt' (show n.toNat < 2 ^ 8 by omega)]
  congr 1; omega
theorem decU8_enc (x : UInt8) : decU8 (.int .u8 (x.toNat : Int)) = some x := by
  have := x.toNat_lt
  unfold decU8
  simp only
  rw [if_pos (by omega)]
  simp
theorem decAll_eq {α : Type} {f : PV → Option α} {enc : α → PV} (hf : ∀ p x, f p = some x → p = enc x) : ∀ {l : List PV} {xs : List α}, decAll f l = some xs → l = xs.map enc
  | [], _, h => by cases h; rfl
  | p :: l, xs, h => by
    unfold decAll at h
    split at h
    case h_2 => cases h
    rename_i x hx
    split at h
    case h_2 => cases h
    rename_i ys hy
    cases h
    rw [List.map_cons, ← hf p x hx, ← decAll_eq hf hy]
theorem decAll_enc {α : Type} {f : PV → Option α} {enc : α → PV} : ∀ {l : List α}, (∀ x ∈ l, f (enc x) = some x) → decAll f (l.map enc) = some l
  | [], _ => rfl
  | x :: l, h => by
    simp only [List.map_cons, decAll, h x (by simp), decAll_enc (l := l) fun y hy => h y (by simp [hy])]
theorem decSec_eq {p : PV} {x : Sec} (h : decSec p = some x) : p = eSec x := by
  unfold decSec at h
  split at h
  case h_2 => cases h
  rename_i cs
  split at h
  case h_2 => cases h
  rename_i l hl
  split at h
  case isFalse => cases h
  rename_i h8
  cases h
  rw [decAll_eq (fun p x => decU8_eq) hl]
  simp [eSec, secPV, Vector.toList]
theorem decSec_enc (x : Sec) : decSec (eSec x) = some x := by
  unfold decSec eSec secPV
  simp only
  rw [decAll_enc (f := decU8) (enc := fun b : UInt8 => .int .u8 (b.toNat : Int)) fun b _ => decU8_enc b]
  simp
  rfl
theorem decSecs_eq {p : PV} {x : List Sec} (h : decSecs p = some x) : p = eSecs x := by
  unfold decSecs at h
  split at h
  case h_2 => cases h
  rw [decAll_eq (fun p x => decSec_eq) h]; rfl
theorem decSecs_enc (x : List Sec) : decSecs (eSecs x) = some x := by
  unfold decSecs eSecs
  simp only
  exact decAll_enc fun x _ => decSec_enc x
theorem decWr_eq {p : PV} {x : Wrt} (h : decWr p = some x) : p = eWr x := by
  unfold decWr at h
  split at h
  case h_2 => cases h
  split at h
  case h_2 => cases h
  rename_i d hd
  split at h
  case isFalse => cases h
  cases h
  have := decSecs_eq hd
  rw [this]; rfl
theorem decWr_ok {p : PV} {x : Wrt} (h : decWr p = some x) : i64b x.volume = true ∧ i64b x.start = true := by
  unfold decWr at h
  split at h
  case h_2 => cases h
  split at h
  case h_2 => cases h
  split at h
  case isFalse => cases h
  rename_i hc
  cases h
  simpa using hc
theorem decWr_enc (x : Wrt) (h1 : i64b x.volume = true) (h2 : i64b x.start = true) : decWr (eWr x) = some x := by
  have := decSecs_enc x.data
  unfold eSecs at this
  simp only [decWr, eWr, this, h1, h2, Bool.and_self, if_true]
def szErr (l : List Int) : Int := if l.length < 1 ∨ 8 < l.length then 6 else if l.any (fun n => decide (n < 1) || decide (n > 4096)) then 2 else 0
def szsOf (im : List (List Sec)) : List Int := im.map fun v => (v.length : Int)
def wrErr (sz : List Int) (w : Wrt) : Int :=
  if w.volume < 0 ∨ (sz.length : Int) ≤ w.volume then 7 else if w.data.length = 0 then 1
  else if w.start < 0 ∨ (sz.getD w.volume.toNat 0) - w.data.length < w.start then 2 else 0
def putAt (l : List Sec) (s : Nat) (d : List Sec) : List Sec := l.take s ++ d ++ l.drop (s + d.length)
def put1 (im : List (List Sec)) (w : Wrt) : List (List Sec) := im.set w.volume.toNat (putAt (im.getD w.volume.toNat []) w.start.toNat w.data)
def wrErrs (sz : List Int) : List Wrt → Nat → Int × Int
  | [], _ => (0, 0)
  | w :: l, i => if wrErr sz w ≠ 0 then (i, wrErr sz w) else wrErrs sz l (i + 1)
def apE (im : List (List Sec)) (l : List Wrt) : Int := if szErr (szsOf im) ≠ 0 then szErr (szsOf im) else (wrErrs (szsOf im) l 0).2
def apI (im : List (List Sec)) (l : List Wrt) : Int := if szErr (szsOf im) ≠ 0 then 0 else (wrErrs (szsOf im) l 0).1
def apO (im : List (List Sec)) (l : List Wrt) : List (List Sec) := if apE im l = 0 then l.foldl put1 im else []
def applyX : List PV → Option (List Res)
  | [.list 1 im, .list 3 l] => match decAll decSecs im with
    | some im => match decAll decWr l with
      | some l => if im.length ≤ 1000000 ∧ im.all (fun v => decide (v.length ≤ 1000000)) = true then some [(.list 1 ((apO im l).map eSecs), false), (.int .i64 (apI im l), false), (.int .i64 (apE im l), false)] else none
      | none => none
    | none => none
  | _ => none
theorem applyX_eq {args : List PV} {rs : List Res} (h : applyX args = some rs) : ∃ (im : List (List Sec)) (l : List Wrt), args = [.list 1 (im.map eSecs), .list 3 (l.map eWr)] ∧ (∀ w ∈ l, i64b w.volume = true ∧ i64b w.start = true) ∧ im.length ≤ 1000000 ∧ (∀ v ∈ im, v.length ≤ 1000000) ∧
    rs = [(.list 1 ((apO im l).map eSecs), false), (.int .i64 (apI im l), false), (.int .i64 (apE im l), false)] := by
  unfold applyX at h
  split at h
  case h_2 => cases h
  split at h
  case h_2 => cases h
  rename_i im hi
  split at h
  case h_2 => cases h
  rename_i l hl
  split at h
  case isFalse => cases h
  rename_i hc
  cases h
  refine ⟨im, l, by rw [decAll_eq (fun p x => decSecs_eq) hi, decAll_eq (fun p x => decWr_eq) hl], ?_, hc.1, fun v hv => by simpa using List.all_eq_true.1 hc.2 v hv, rfl⟩
  have : ∀ {q : List PV} {xs : List Wrt}, decAll decWr q = some xs → ∀ w ∈ xs, i64b w.volume = true ∧ i64b w.start = true := by
    intro q
    induction q with
    | nil => intro xs h; cases h; simp
    | cons p q ih =>
      intro xs h
      unfold decAll at h
      split at h
      case h_2 => cases h
      rename_i x hx
      split at h
      case h_2 => cases h
      rename_i ys hy
      cases h
      simp only [List.mem_cons, forall_eq_or_imp]
      exact ⟨decWr_ok hx, ih hy⟩
  exact this hl
theorem applyX_enc {im : List (List Sec)} {l : List Wrt} (h1 : ∀ w ∈ l, i64b w.volume = true ∧ i64b w.start = true) (h2 : im.length ≤ 1000000) (h3 : ∀ v ∈ im, v.length ≤ 1000000) :
    applyX [.list 1 (im.map eSecs), .list 3 (l.map eWr)] = some [(.list 1 ((apO im l).map eSecs), false), (.int .i64 (apI im l), false), (.int .i64 (apE im l), false)] := by
  simp only [applyX]
  rw [decAll_enc fun x _ => decSecs_enc x, decAll_enc fun x hx => decWr_enc x (h1 x hx).1 (h1 x hx).2]
  simp only
  rw [if_pos ⟨h2, List.all_eq_true.2 fun v hv => by simpa using h3 v hv⟩]
end Go.Proofs.YtncobemfpammfaaGreatDoor

namespace Go.Proofs.YtncobemfpammfaaGreatDoor

structure End where
  pos : Nat
  list : Nat
  step : Int
  deriving DecidableEq, Inhabited
def eEnd (e : End) : PV := .agg [.int .i64 (e.pos : Int), .int .i64 (e.list : Int), .int .i64 e.step]
def decEnd : PV → Option End
  | .agg [.int .i64 a, .int .i64 b, .int .i64 c] => if 0 ≤ a ∧ 0 ≤ b then some ⟨a.toNat, b.toNat, c⟩ else none
  | _ => none
theorem decEnd_enc (e : End) : decEnd (eEnd e) = some e := by
  simp [decEnd, eEnd]
theorem decEnd_eq {p : PV} {e : End} (h : decEnd p = some e) : p = eEnd e := by
  unfold decEnd at h
  split at h
  · split at h
    · rename_i hc
      cases h
      simp only [eEnd, Int.toNat_of_nonneg hc.1, Int.toNat_of_nonneg hc.2]
    · cases h
  · cases h
def ltEnd (x y : End) : Bool := decide (x.pos < y.pos)
def sortE (l : List End) : List End := (Sort.pdq ltEnd l.toArray 0 l.length (Lib.bitLen l.length) true true).toList
def sortEndsX (g : Nat) : PV → List PV → Option (List PV)
  | .func f [], es => if f = g then if es.length ≤ 1000000 then (decAll decEnd es).map fun l => (sortE l).map eEnd else none else none
  | _, _ => none
theorem sortEndsX_enc {g : Nat} {l : List End} (h : l.length ≤ 1000000) : sortEndsX g (.func g []) (l.map eEnd) = some ((sortE l).map eEnd) := by
  unfold sortEndsX
  simp only [if_true, List.length_map, h]
  rw [decAll_enc fun x _ => decEnd_enc x]
  rfl
theorem sortEndsX_eq {g : Nat} {c : PV} {es es' : List PV} (h : sortEndsX g c es = some es') : ∃ l : List End, c = .func g [] ∧ es = l.map eEnd ∧ l.length ≤ 1000000 ∧ es' = (sortE l).map eEnd := by
  unfold sortEndsX at h
  split at h
  · split at h
    · rename_i hg
      split at h
      · rename_i hl
        obtain ⟨l, h1, h2⟩ := Option.map_eq_some_iff.1 h
        have := decAll_eq (fun p x h => decEnd_eq h) h1
        subst this
        exact ⟨l, by rw [hg], rfl, by simpa using hl, h2.symm⟩
      · cases h
    · cases h
  · cases h
end Go.Proofs.YtncobemfpammfaaGreatDoor

namespace Go.Proofs
open Go.Shelf
def Tryz.tz_ren : Go.Shelf.Ren := ⟨fun | 29 => 77 | n => n, fun | 22 => 65 | 3 => 3 | 4 => 4 | 25 => 138 | 54 => 137 | 0 => 0 | 5 => 5 | n => n, fun | 1 => 0 | n => n⟩
theorem Tryz.tz : Go.Proofs.Lays7.n29 Tryz.prog Tryz.tz_ren := {
  mixed := by kernel_rfl
  f29 := Tryz.func77.trans (congrArg some (by kernel_rfl))
  t0 := Tryz.underlying0
  a0 := Tryz.isAgg0
  z0 := Tryz.sizeOf0
  v0 := Tryz.zeroValue0
  i0 := by kernel_rfl
  t3 := Tryz.underlying3
  a3 := Tryz.isAgg3
  z3 := Tryz.sizeOf3
  v3 := Tryz.zeroValue3
  i3 := by kernel_rfl
  t4 := Tryz.underlying4
  a4 := Tryz.isAgg4
  z4 := Tryz.sizeOf4
  v4 := Tryz.zeroValue4
  i4 := by kernel_rfl
  t5 := Tryz.underlying5
  a5 := Tryz.isAgg5
  z5 := Tryz.sizeOf5
  v5 := Tryz.zeroValue5
  i5 := by kernel_rfl
  t22 := Tryz.underlying65
  a22 := Tryz.isAgg65
  z22 := Tryz.sizeOf65
  v22 := Tryz.zeroValue65
  i22 := by kernel_rfl
  t25 := Tryz.underlying138
  a25 := Tryz.isAgg138
  z25 := Tryz.sizeOf138
  v25 := Tryz.zeroValue138
  i25 := by kernel_rfl
  t54 := Tryz.underlying137
  a54 := Tryz.isAgg137
  z54 := Tryz.sizeOf137
  g1 := by kernel_rfl }
end Go.Proofs

namespace Go.Proofs.YtncobemfpammfaaGreatDoor
open Go.RowKit Go.Shelf
def tzX : List PV → Option (List Res)
  | [.int .u64 n] => if 0 ≤ n ∧ n < 18446744073709551616 then some [(.int .i64 (Lib.ctz 64 n.toNat : Nat), false)] else none
  | _ => none
theorem tab_at {T : Tags} {w : World} (h : GlobOk T w) : TabAt 0 Lib.deBruijn64tab w := fun j hj => by
  have hp := h _ (List.mem_singleton.2 rfl)
  obtain ⟨b, off, e1, _, _, h3⟩ := hp.iptr_inv
  obtain ⟨eb, eo⟩ : 0 = b ∧ 0 = off + 0 := by
    injection e1 with e1
    injection e1 with e1
    injection e1 with e2 e3
    exact ⟨e2, e3⟩
  have eo : off = 0 := by omega
  subst eb; subst eo
  obtain ⟨u, c1, _, c2⟩ := h3 j (PV.int .u8 ((Lib.deBruijn64tab[j] : Nat) : Int)) (by simp [List.getElem?_eq_getElem hj])
  rw [c2.int_inv] at c1
  rw [show Lib.deBruijn64tab.getD j 0 = Lib.deBruijn64tab[j] by simp [List.getD_eq_getElem?_getD, List.getElem?_eq_getElem hj]]
  simpa using c1
theorem tz_ok : ∀ args rs, tzX args = some rs → callable Tryz.prog 77 = true ∧ CallOk Tryz.prog 77 args rs := fun args rs h => by
  unfold tzX at h
  split at h
  case h_2 => cases h
  rename_i n
  split at h
  case isFalse => cases h
  rename_i hn
  cases h
  refine ⟨by kernel_rfl, fun T0 w vs h1 h2 h3 h4 hG => ?_⟩
  match vs, h3 with
  | [v], _ =>
    have hv := (h4 0 _ v rfl rfl).int_inv
    subst hv
    have hc := Any7.bits_TrailingZeros64 Tryz.tz n.toNat (by omega) w (fun _ => tab_at hG)
    rw [Int.toNat_of_nonneg hn.1] at hc
    refine Calls.mono hc ?_
    rintro e w' ⟨rfl, rfl⟩
    refine ⟨_, T0, rfl, Below.refl _ _, fun _ _ => rfl, h2, #[_], rfl, rfl, fun i r u hr hu => ?_⟩
    match i with
    | 0 => cases hr; cases hu; exact .int _ _
    | i + 1 => simp at hr
end Go.Proofs.YtncobemfpammfaaGreatDoor

namespace Go.Proofs.YtncobemfpammfaaGreatDoor

def fn3_b0 : VCode := (.seq (.seq (.ops [.mov 66 (.t 15), .mov 67 (.t 0), .len 68 (.t 67), .bin 69 .lss (.t 66) (.t 68)]) (.cond (.t 69) .skip (.exit 0))) (.seq (.block 1 (.seq (.ops [.mov 73 (.t 0), .mov 74 (.t 15), .iadr 75 1 (.t 73) (.t 74), .load 76 none (.t 75), .len 77 (.t 76), .call 78 8 [(.t 77)], .mov 72 (.t 78), .ext 79 (.t 72) 0, .ext 80 (.t 72) 1, .alloc 16 [(.int .i64 0), (.list 1 [])], .store none 2 (.t 16) (.t 79), .asg 17 (.t 80)]) (.seq (.ops [.mov 82 (.t 0), .mov 83 (.t 15), .iadr 84 1 (.t 82) (.t 83), .load 85 none (.t 84), .len 86 (.t 85), .call 87 8 [(.t 86)], .mov 81 (.t 87), .ext 88 (.t 81) 0, .ext 89 (.t 81) 1, .alloc 18 [(.int .i64 0), (.list 1 [])], .store none 2 (.t 18) (.t 88), .asg 19 (.t 89)]) (.seq (.seq (.ops [.mov 90 (.t 17), .bin 91 .neq (.t 90) (.c (.int .i64 0)), .mov 92 (.t 91), .grd 92 false (.mov 93 (.t 19)), .grd 92 false (.bin 94 .neq (.t 93) (.c (.int .i64 0))), .pick 95 (.t 92) (.c (.bool true)) (.t 94)]) (.cond (.t 95) (.seq (.ops [.asg 6 (.c (.bool false))]) .ret) .skip)) (.drs [(.t 18)] [0, 1, 2, 7, 10, 13, 14, 15, 49, 56, 99, 103] [.mov 96 (.t 13), .load 97 (some 2) (.t 16), .mksl 98 2 [(.t 97)], .app 99 2 (.t 96) (.t 98), .mov 100 (.t 14), .ldz 101 (some 2) (.t 18), .mksl 102 2 [(.t 101)], .app 103 2 (.t 100) (.t 102), .asg 13 (.t 99), .asg 14 (.t 103)]
        [⟨[([0, 1, 4, 5], 2)], (some ([], [], 3, [([], 6), ([], 7)])), [8, 9], [0, 1, 4, 5, 2, 3, 6, 7, 8, 9], false⟩, ⟨[([0, 1, 4, 5], 2), ([], 6)], (some ([], [], 3, [([], 7)])), [8, 9], [0, 1, 4, 5, 2, 6, 3, 7, 8, 9], false⟩, ⟨[([0, 1, 4, 5], 6), ([], 2)], (some ([], [], 3, [([], 7)])), [8, 9], [0, 1, 4, 5, 6, 2, 3, 7, 8, 9], false⟩]))))) (.ops [.mov 70 (.t 15), .bin 71 .add (.t 70) (.c (.int .i64 1)), .asg 15 (.t 71)])))
def fn3_l1 : VCode :=
(.clean [0, 1, 2, 7, 10, 13, 14, 15, 49, 56, 99, 103] [0, 1, 2, 6, 7, 10, 13, 14, 49, 56, 99, 103] (.block 0 (.loop [0, 1, 2, 7, 10, 13, 14, 15, 49, 56, 99, 103] fn3_b0)))
def fn3_b2 : VCode := (.seq (.seq (.ops [.mov 104 (.t 20), .mov 105 (.t 1), .len 106 (.t 105), .bin 107 .lss (.t 104) (.t 106)]) (.cond (.t 107) .skip (.exit 2))) (.seq (.block 3 (.seq (.drw [] [([0, 1, 2, 3, 4, 5, 6, 7, 8, 9, 10, 11, 12, 13, 14, 15, 16, 17, 18, 19, 20, 21, 22, 23, 24, 25], 26)] (some ([27, 28, 30], [29], 31, [])) [32] [.mov 111 (.t 13), .mov 112 (.t 1), .mov 113 (.t 20), .iadr 114 3 (.t 112) (.t 113), .fadr 115 (.t 114) 0, .load 116 none (.t 115), .mov 117 (.t 13), .mov 118 (.t 1), .mov 119 (.t 20), .iadr 120 3 (.t 118) (.t 119), .fadr 121 (.t 120) 0, .load 122 none (.t 121), .iadr 123 2 (.t 117) (.t 122), .load 124 (some 2) (.t 123), .mov 125 (.t 1), .mov 126 (.t 20), .iadr 127 3 (.t 125) (.t 126), .fadr 128 (.t 127) 1, .load 129 none (.t 128), .mov 130 (.t 1), .mov 131 (.t 20), .iadr 132 3 (.t 130) (.t 131), .fadr 133 (.t 132) 2, .load 134 none (.t 133), .len 135 (.t 134), .build 136 [(.int .i64 0), (.int .i64 0)] [(0, 1, (.t 129)), (1, 1, (.t 135))], .call 137 9 [(.t 124), (.t 136)], .mov 110 (.t 137), .ext 138 (.t 110) 0, .iadr 140 2 (.t 111) (.t 116), .ext 139 (.t 110) 1, .store none 2 (.t 140) (.t 138), .asg 9 (.t 139)]) (.seq (.ops [.mov 141 (.t 9), .bin 142 .neq (.t 141) (.c (.int .i64 0))]) (.cond (.t 142) (.seq (.ops [.asg 6 (.c (.bool false))]) .ret) .skip)))) (.ops [.mov 108 (.t 20), .bin 109 .add (.t 108) (.c (.int .i64 1)), .asg 20 (.t 109)])))
def fn3_l3 : VCode :=
(.clean [0, 1, 2, 7, 10, 13, 14, 20, 49, 56, 99, 103] [0, 2, 6, 7, 10, 13, 14, 49, 56, 99, 103] (.block 2 (.loop [0, 1, 2, 7, 10, 13, 14, 20, 49, 56, 99, 103] fn3_b2)))
def fn3_b4 : VCode := (.seq (.seq (.ops [.mov 143 (.t 21), .mov 144 (.t 2), .len 145 (.t 144), .bin 146 .lss (.t 143) (.t 145)]) (.cond (.t 146) .skip (.exit 4))) (.seq (.block 5 (.seq (.drw [] [([0, 1, 2, 3, 4, 5, 6, 7, 8, 9, 10, 11, 12, 13, 14, 15, 16, 17, 18, 19, 20, 21, 22, 23, 24, 25], 26)] (some ([27, 28, 30], [29], 31, [])) [32] [.mov 150 (.t 14), .mov 151 (.t 2), .mov 152 (.t 21), .iadr 153 3 (.t 151) (.t 152), .fadr 154 (.t 153) 0, .load 155 none (.t 154), .mov 156 (.t 14), .mov 157 (.t 2), .mov 158 (.t 21), .iadr 159 3 (.t 157) (.t 158), .fadr 160 (.t 159) 0, .load 161 none (.t 160), .iadr 162 2 (.t 156) (.t 161), .load 163 (some 2) (.t 162), .mov 164 (.t 2), .mov 165 (.t 21), .iadr 166 3 (.t 164) (.t 165), .fadr 167 (.t 166) 1, .load 168 none (.t 167), .mov 169 (.t 2), .mov 170 (.t 21), .iadr 171 3 (.t 169) (.t 170), .fadr 172 (.t 171) 2, .load 173 none (.t 172), .len 174 (.t 173), .build 175 [(.int .i64 0), (.int .i64 0)] [(0, 1, (.t 168)), (1, 1, (.t 174))], .call 176 9 [(.t 163), (.t 175)], .mov 149 (.t 176), .ext 177 (.t 149) 0, .iadr 179 2 (.t 150) (.t 155), .ext 178 (.t 149) 1, .store none 2 (.t 179) (.t 177), .asg 9 (.t 178)]) (.seq (.ops [.mov 180 (.t 9), .bin 181 .neq (.t 180) (.c (.int .i64 0))]) (.cond (.t 181) (.seq (.ops [.asg 6 (.c (.bool false))]) .ret) .skip)))) (.ops [.mov 147 (.t 21), .bin 148 .add (.t 147) (.c (.int .i64 1)), .asg 21 (.t 148)])))
def fn3_l5 : VCode :=
(.clean [0, 2, 7, 10, 13, 14, 21, 49, 56, 99, 103] [0, 6, 7, 10, 13, 14] (.block 4 (.loop [0, 2, 7, 10, 13, 14, 21, 49, 56, 99, 103] fn3_b4)))
def fn3 : VFn := ⟨3, 235, [.tmp 6], (.seq (.ops [.asg 6 (.c (.bool false))]) (.seq (.seq (.ops [.mov 31 (.t 0), .call 32 4 [(.t 31)], .un 33 .not (.t 32), .mov 34 (.t 33), .grd 34 false (.mov 35 (.t 1)), .grd 34 false (.call 36 5 [(.t 35)]), .grd 34 false (.un 37 .not (.t 36)), .pick 38 (.t 34) (.c (.bool true)) (.t 37), .mov 39 (.t 38), .grd 39 false (.mov 40 (.t 2)), .grd 39 false (.call 41 5 [(.t 40)]), .grd 39 false (.un 42 .not (.t 41)), .pick 43 (.t 39) (.c (.bool true)) (.t 42)]) (.cond (.t 43) (.seq (.ops [.call 44 6 [], .asg 6 (.t 44)]) .ret) .skip)) (.seq (.ops [.mov 46 (.t 0), .mov 47 (.t 1), .call 48 7 [(.t 46), (.t 47)], .mov 45 (.t 48), .ext 49 (.t 45) 0, .ext 50 (.t 45) 1, .ext 51 (.t 45) 2, .asg 7 (.t 49), .asg 8 (.t 50), .asg 9 (.t 51)]) (.seq (.ops [.mov 53 (.t 0), .mov 54 (.t 2), .call 55 7 [(.t 53), (.t 54)], .mov 52 (.t 55), .ext 56 (.t 52) 0, .ext 57 (.t 52) 1, .ext 58 (.t 52) 2, .asg 10 (.t 56), .asg 11 (.t 57), .asg 12 (.t 58)]) (.seq (.seq (.ops [.mov 59 (.t 9), .bin 60 .neq (.t 59) (.c (.int .i64 0)), .mov 61 (.t 60), .grd 61 false (.mov 62 (.t 12)), .grd 61 false (.bin 63 .neq (.t 62) (.c (.int .i64 0))), .pick 64 (.t 61) (.c (.bool true)) (.t 63)]) (.cond (.t 64) (.seq (.ops [.call 65 6 [], .asg 6 (.t 65)]) .ret) .skip)) (.seq (.ops [.asg 13 (.nil 2), .asg 14 (.nil 2)]) (.seq (.seq (.ops [.asg 15 (.c (.int .i64 0))])
         fn3_l1) (.seq (.seq (.ops [.asg 20 (.c (.int .i64 0))])
          fn3_l3) (.seq (.seq (.ops [.asg 21 (.c (.int .i64 0))])
           fn3_l5) (.seq (.ops [.mov 183 (.t 13), .mov 184 (.t 14), .call 185 10 [(.t 183), (.t 184)], .mov 182 (.t 185), .ext 186 (.t 182) 0, .ext 187 (.t 182) 1, .asg 22 (.t 186), .asg 23 (.t 187)]) (.seq (.seq (.ops [.mov 188 (.t 23), .bin 189 .neq (.t 188) (.c (.int .i64 0)), .mov 190 (.t 189), .grd 190 false (.mov 191 (.t 22)), .grd 190 false (.len 192 (.t 191)), .grd 190 false (.mov 193 (.t 0)), .grd 190 false (.len 194 (.t 193)), .grd 190 false (.bin 195 .neq (.t 192) (.t 194)), .pick 196 (.t 190) (.c (.bool true)) (.t 195)]) (.cond (.t 196) (.seq (.ops [.asg 6 (.c (.bool false))]) .ret) .skip)) (.seq (.ops [.mov 198 (.t 7), .mov 199 (.t 10), .mov 200 (.t 22), .call 201 11 [(.t 198), (.t 199), (.t 200)], .mov 197 (.t 201), .ext 202 (.t 197) 0, .ext 203 (.t 197) 1, .asg 24 (.t 202), .asg 25 (.t 203)]) (.seq (.ops [.mov 205 (.t 7), .mov 206 (.t 22), .call 207 12 [(.t 205), (.t 206)], .mov 204 (.t 207), .ext 208 (.t 204) 0, .ext 209 (.t 204) 1, .asg 26 (.t 208), .asg 27 (.t 209)]) (.seq (.ops [.mov 211 (.t 10), .mov 212 (.t 26), .call 213 7 [(.t 211), (.t 212)], .mov 210 (.t 213), .ext 214 (.t 210) 0, .ext 215 (.t 210) 1, .ext 216 (.t 210) 2, .asg 28 (.t 214), .asg 29 (.t 215), .asg 30 (.t 216)]) (.seq (.ops [.call 217 6 [], .mov 218 (.t 217), .grd 218 true (.mov 219 (.t 25)), .grd 218 true (.bin 220 .eql (.t 219) (.c (.int .i64 0))), .pick 221 (.t 218) (.t 220) (.c (.bool false)), .mov 222 (.t 221), .grd 222 true (.mov 223 (.t 27)), .grd 222 true (.bin 224 .eql (.t 223) (.c (.int .i64 0))), .pick 225 (.t 222) (.t 224) (.c (.bool false)), .mov 226 (.t 225), .grd 226 true (.mov 227 (.t 30)), .grd 226 true (.bin 228 .eql (.t 227) (.c (.int .i64 0))), .pick 229 (.t 226) (.t 228) (.c (.bool false)), .mov 230 (.t 229), .grd 230 true (.mov 231 (.t 28)), .grd 230 true (.mov 232 (.t 7)), .grd 230 true (.call 233 13 [(.t 231), (.t 232)]), .pick 234 (.t 230) (.t 233) (.c (.bool false)), .asg 6 (.t 234)]) .ret)))))))))))))))⟩
def fn4_b0 : VCode := (.seq (.seq (.ops [.mov 7 (.t 3), .mov 8 (.t 0), .len 9 (.t 8), .bin 10 .lss (.t 7) (.t 9)]) (.cond (.t 10) .skip (.exit 0))) (.seq (.block 1 (.seq (.ops [.mov 13 (.t 0), .mov 14 (.t 3), .iadr 15 1 (.t 13) (.t 14), .load 16 none (.t 15), .len 17 (.t 16), .bin 18 .gtr (.t 17) (.c (.int .i64 24))]) (.cond (.t 18) (.seq (.ops [.asg 2 (.c (.bool false))]) .ret) .skip))) (.ops [.mov 11 (.t 3), .bin 12 .add (.t 11) (.c (.int .i64 1)), .asg 3 (.t 12)])))
def fn4_l1 : VCode :=
(.clean [0, 3] [2] (.block 0 (.loop [0, 3] fn4_b0)))
def fn4 : VFn := ⟨1, 19, [.tmp 2], (.seq (.ops [.asg 2 (.c (.bool false))]) (.seq (.seq (.ops [.mov 4 (.t 0), .len 5 (.t 4), .bin 6 .gtr (.t 5) (.c (.int .i64 9))]) (.cond (.t 6) (.seq (.ops [.asg 2 (.c (.bool false))]) .ret) .skip)) (.seq (.seq (.ops [.asg 3 (.c (.int .i64 0))])
     fn4_l1) (.seq (.ops [.asg 2 (.c (.bool true))]) .ret))))⟩
def fn5_b0 : VCode := (.seq (.seq (.ops [.mov 4 (.t 3), .mov 5 (.t 0), .len 6 (.t 5), .bin 7 .lss (.t 4) (.t 6), .mov 8 (.t 7), .grd 8 true (.mov 9 (.t 3)), .grd 8 true (.bin 10 .lss (.t 9) (.c (.int .i64 60))), .pick 11 (.t 8) (.t 10) (.c (.bool false))]) (.cond (.t 11) .skip (.exit 0))) (.seq (.block 1 (.seq (.ops [.mov 14 (.t 0), .mov 15 (.t 3), .iadr 16 3 (.t 14) (.t 15), .fadr 17 (.t 16) 2, .load 18 none (.t 17), .len 19 (.t 18), .bin 20 .gtr (.t 19) (.c (.int .i64 24))]) (.cond (.t 20) (.seq (.ops [.asg 2 (.c (.bool false))]) .ret) .skip))) (.ops [.mov 12 (.t 3), .bin 13 .add (.t 12) (.c (.int .i64 1)), .asg 3 (.t 13)])))
def fn5_l1 : VCode :=
(.clean [0, 3] [0, 2] (.block 0 (.loop [0, 3] fn5_b0)))
def fn5 : VFn := ⟨1, 24, [.tmp 2], (.seq (.ops [.asg 2 (.c (.bool false))]) (.seq (.seq (.ops [.asg 3 (.c (.int .i64 0))])
    fn5_l1) (.seq (.ops [.mov 21 (.t 0), .len 22 (.t 21), .bin 23 .leq (.t 22) (.c (.int .i64 40)), .asg 2 (.t 23)]) .ret)))⟩
def fn6 : VFn := ⟨0, 107, [.tmp 0], (.seq (.ops [.asg 0 (.c (.bool false))]) (.seq (.ops [.build 15 [(.int .u8 0), (.int .u8 0), (.int .u8 0), (.int .u8 0), (.int .u8 0), (.int .u8 0), (.int .u8 0), (.int .u8 0)] [(0, 1, (.c (.int .u8 1)))], .build 16 [(.int .u8 0), (.int .u8 0), (.int .u8 0), (.int .u8 0), (.int .u8 0), (.int .u8 0), (.int .u8 0), (.int .u8 0)] [(0, 1, (.c (.int .u8 2)))], .build 17 [(.int .u8 0), (.int .u8 0), (.int .u8 0), (.int .u8 0), (.int .u8 0), (.int .u8 0), (.int .u8 0), (.int .u8 0)] [(0, 1, (.c (.int .u8 3)))], .alloc 1 [(.int .u8 0), (.int .u8 0), (.int .u8 0), (.int .u8 0), (.int .u8 0), (.int .u8 0), (.int .u8 0), (.int .u8 0)], .alloc 2 [(.int .u8 0), (.int .u8 0), (.int .u8 0), (.int .u8 0), (.int .u8 0), (.int .u8 0), (.int .u8 0), (.int .u8 0)], .alloc 3 [(.int .u8 0), (.int .u8 0), (.int .u8 0), (.int .u8 0), (.int .u8 0), (.int .u8 0), (.int .u8 0), (.int .u8 0)], .store none 8 (.t 1) (.t 15), .store none 8 (.t 2) (.t 16), .store none 8 (.t 3) (.t 17)]) (.seq (.drs [] [1, 2, 3, 4, 5, 24, 31] [.load 18 (some 8) (.t 1), .load 19 (some 8) (.t 2), .build 20 [(.int .u8 0), (.int .u8 0), (.int .u8 0), (.int .u8 0), (.int .u8 0), (.int .u8 0), (.int .u8 0), (.int .u8 0)] [], .build 21 [(.int .u8 0), (.int .u8 0), (.int .u8 0), (.int .u8 0), (.int .u8 0), (.int .u8 0), (.int .u8 0), (.int .u8 0)] [], .load 22 (some 8) (.t 3), .mksl 23 8 [(.t 18), (.t 19), (.t 20), (.t 21), (.t 22)], .mksl 24 1 [(.t 23)], .build 25 [(.int .u8 0), (.int .u8 0), (.int .u8 0), (.int .u8 0), (.int .u8 0), (.int .u8 0), (.int .u8 0), (.int .u8 0)] [], .load 26 (some 8) (.t 2), .build 27 [(.int .u8 0), (.int .u8 0), (.int .u8 0), (.int .u8 0), (.int .u8 0), (.int .u8 0), (.int .u8 0), (.int .u8 0)] [], .build 28 [(.int .u8 0), (.int .u8 0), (.int .u8 0), (.int .u8 0), (.int .u8 0), (.int .u8 0), (.int .u8 0), (.int .u8 0)] [], .build 29 [(.int .u8 0), (.int .u8 0), (.int .u8 0), (.int .u8 0), (.int .u8 0), (.int .u8 0), (.int .u8 0), (.int .u8 0)] [], .mksl 30 8 [(.t 25), (.t 26), (.t 27), (.t 28), (.t 29)], .mksl 31 1 [(.t 30)], .asg 4 (.t 24), .asg 5 (.t 31)]
     [⟨[([0, 1, 2, 3, 4, 7, 8, 9, 10, 11], 5), ([], 6), ([14], 12), ([], 13)], none, [15], [0, 1, 2, 3, 4, 7, 8, 9, 10, 11, 5, 6, 14, 12, 13, 15], false⟩, ⟨[([0, 1, 2, 3, 4, 7, 8, 9, 10, 11], 5), ([], 12), ([], 6), ([14], 13)], none, [15], [0, 1, 2, 3, 4, 7, 8, 9, 10, 11, 5, 12, 6, 14, 13, 15], false⟩, ⟨[([0, 1, 2, 3, 4, 7, 8, 9, 10, 11], 5), ([], 12), ([], 13), ([], 6)], none, [14, 15], [0, 1, 2, 3, 4, 7, 8, 9, 10, 11, 5, 12, 13, 6, 14, 15], false⟩, ⟨[([0, 1, 2, 3, 4, 7, 8, 9, 10, 11], 12), ([], 5), ([], 6), ([14], 13)], none, [15], [0, 1, 2, 3, 4, 7, 8, 9, 10, 11, 12, 5, 6, 14, 13, 15], false⟩, ⟨[([0, 1, 2, 3, 4, 7, 8, 9, 10, 11], 12), ([], 5), ([], 13), ([], 6)], none, [14, 15], [0, 1, 2, 3, 4, 7, 8, 9, 10, 11, 12, 5, 13, 6, 14, 15], false⟩, ⟨[([0, 1, 2, 3, 4, 7, 8, 9, 10, 11], 12), ([], 13), ([], 5), ([], 6)], none, [14, 15], [0, 1, 2, 3, 4, 7, 8, 9, 10, 11, 12, 13, 5, 6, 14, 15], false⟩]) (.seq (.ops [.build 32 [(.int .i64 0), (.int .i64 0)] [(0, 1, (.c (.int .i64 0))), (1, 1, (.c (.int .i64 2)))], .build 33 [(.int .i64 0), (.int .i64 0)] [(0, 1, (.c (.int .i64 4))), (1, 1, (.c (.int .i64 1)))], .mksl 34 2 [(.t 32), (.t 33)], .mksl 35 1 [(.t 34)], .asg 6 (.t 35)]) (.seq (.ops [.mov 37 (.t 4), .mov 38 (.t 6), .call 39 12 [(.t 37), (.t 38)], .mov 36 (.t 39), .ext 40 (.t 36) 0, .ext 41 (.t 36) 1, .asg 7 (.t 40), .asg 8 (.t 41)]) (.seq (.ops [.mov 43 (.t 4), .mov 44 (.t 5), .mov 45 (.t 6), .call 46 14 [(.t 43), (.t 44), (.t 45)], .mov 42 (.t 46), .ext 47 (.t 42) 0, .ext 48 (.t 42) 1, .asg 9 (.t 47), .asg 10 (.t 48)]) (.seq (.ops [.mov 50 (.t 4), .mov 51 (.t 5), .mov 52 (.t 9), .call 53 15 [(.t 50), (.t 51), (.t 52)], .mov 49 (.t 53), .ext 54 (.t 49) 0, .ext 55 (.t 49) 1, .asg 11 (.t 54), .asg 12 (.t 55)]) (.seq (.ops [.mov 57 (.t 4), .mov 58 (.t 5), .mov 59 (.t 6), .call 60 15 [(.t 57), (.t 58), (.t 59)], .mov 56 (.t 60), .ext 61 (.t 56) 0, .ext 62 (.t 56) 1, .asg 13 (.t 61), .asg 14 (.t 62)]) (.seq (.seq (.ops [.mov 63 (.t 8), .mov 64 (.t 10), .bin 65 .add (.t 63) (.t 64), .mov 66 (.t 12), .bin 67 .add (.t 65) (.t 66), .mov 68 (.t 14), .bin 69 .add (.t 67) (.t 68), .bin 70 .neq (.t 69) (.c (.int .i64 0)), .mov 71 (.t 70), .grd 71 false (.mov 72 (.t 7)), .grd 71 false (.load 73 (some 8) (.t 1)), .grd 71 false (.load 74 (some 8) (.t 2)), .grd 71 false (.mksl 75 8 [(.t 73), (.t 74)]), .grd 71 false (.build 76 [(.int .i64 0), (.int .i64 0), (.list 0 [])] [(2, 1, (.t 75))]), .grd 71 false (.load 77 (some 8) (.t 3)), .grd 71 false (.mksl 78 8 [(.t 77)]), .grd 71 false (.build 79 [(.int .i64 0), (.int .i64 0), (.list 0 [])] [(1, 1, (.c (.int .i64 4))), (2, 1, (.t 78))]), .grd 71 false (.mksl 80 3 [(.t 76), (.t 79)]), .grd 71 false (.call 81 16 [(.t 72), (.t 80)]), .grd 71 false (.un 82 .not (.t 81)), .pick 83 (.t 71) (.c (.bool true)) (.t 82)]) (.cond (.t 83) (.seq (.ops [.asg 0 (.c (.bool false))]) .ret) .skip)) (.seq (.ops [.mov 84 (.t 9), .build 85 [(.int .i64 0), (.int .i64 0)] [(0, 1, (.c (.int .i64 0))), (1, 1, (.c (.int .i64 1)))], .build 86 [(.int .i64 0), (.int .i64 0)] [(0, 1, (.c (.int .i64 4))), (1, 1, (.c (.int .i64 1)))], .mksl 87 2 [(.t 85), (.t 86)], .mksl 88 1 [(.t 87)], .call 89 17 [(.t 84), (.t 88)], .mov 90 (.t 89), .grd 90 true (.mov 91 (.t 11)), .pick 92 (.t 90) (.t 91) (.c (.bool false)), .mov 93 (.t 92), .grd 93 true (.mov 94 (.t 13)), .grd 93 true (.un 95 .not (.t 94)), .pick 96 (.t 93) (.t 95) (.c (.bool false)), .mov 97 (.t 96), .grd 97 true (.mov 98 (.t 6)), .grd 97 true (.call 99 18 [(.t 98)]), .grd 97 true (.bin 100 .eql (.t 99) (.c (.int .i64 3))), .pick 101 (.t 97) (.t 100) (.c (.bool false)), .mov 102 (.t 101), .grd 102 true (.mov 103 (.t 9)), .grd 102 true (.call 104 18 [(.t 103)]), .grd 102 true (.bin 105 .eql (.t 104) (.c (.int .i64 2))), .pick 106 (.t 102) (.t 105) (.c (.bool false)), .asg 0 (.t 106)]) .ret))))))))))⟩
def fn8 : VFn := ⟨1, 16, [.cell 2 (some 2), .tmp 3], (.seq (.ops [.alloc 2 [(.int .i64 0), (.list 1 [])], .asg 3 (.c (.int .i64 0))]) (.seq (.seq (.ops [.mov 4 (.t 0), .bin 5 .lss (.t 4) (.c (.int .i64 0)), .mov 6 (.t 5), .grd 6 false (.mov 7 (.t 0)), .grd 6 false (.bin 8 .gtr (.t 7) (.c (.int .i64 4096))), .pick 9 (.t 6) (.c (.bool true)) (.t 8)]) (.cond (.t 9) (.seq (.ops [.build 10 [(.int .i64 0), (.list 1 [])] [], .store none 2 (.t 2) (.t 10), .asg 3 (.c (.int .i64 2))]) .ret) .skip)) (.seq (.ops [.mov 11 (.t 0), .mov 12 (.t 0), .call 13 22 [(.t 12)], .make 14 (.int .u64 0) (.t 13) (.t 13), .build 15 [(.int .i64 0), (.list 1 [])] [(0, 1, (.t 11)), (1, 1, (.t 14))], .store none 2 (.t 2) (.t 15), .asg 3 (.c (.int .i64 0))]) .ret)))⟩
def fn9 : VFn := ⟨2, 12, [.cell 4 (some 2), .tmp 5], (.seq (.ops [.box 2 (.t 0), .box 3 (.t 1), .alloc 4 [(.int .i64 0), (.list 1 [])], .asg 5 (.c (.int .i64 0))]) (.seq (.ops [.build 6 [.nilf] [(0, 1, (.c (.func 23 [])))], .load 7 (some 2) (.t 2), .load 8 (some 2) (.t 3), .call 9 24 [(.t 6), (.t 7), (.t 8)], .ext 10 (.t 9) 0, .ext 11 (.t 9) 1, .store none 2 (.t 4) (.t 10), .asg 5 (.t 11)]) .ret))⟩
def fn10 : VFn := ⟨2, 19, [.tmp 4, .tmp 5], (.seq (.ops [.asg 4 (.nil 1), .asg 5 (.c (.int .i64 0))]) (.seq (.ops [.mov 9 (.t 0), .mov 10 (.t 1), .call 11 25 [(.t 9), (.t 10)], .mov 8 (.t 11), .ext 12 (.t 8) 0, .ext 13 (.t 8) 1, .asg 6 (.t 12), .asg 7 (.t 13)]) (.seq (.seq (.ops [.mov 14 (.t 7), .bin 15 .neq (.t 14) (.c (.int .i64 0))]) (.cond (.t 15) (.seq (.ops [.mov 16 (.t 7), .asg 4 (.nil 1), .asg 5 (.t 16)]) .ret) .skip)) (.seq (.ops [.mov 17 (.t 6), .call 18 26 [(.t 17), (.c (.func 27 []))], .asg 4 (.t 18), .asg 5 (.c (.int .i64 0))]) .ret))))⟩
def fn11_b0 : VCode := (.seq (.seq (.ops [.mov 18 (.t 11), .mov 19 (.t 0), .mov 20 (.t 10), .iadr 21 1 (.t 19) (.t 20), .load 22 none (.t 21), .len 23 (.t 22), .bin 24 .lss (.t 18) (.t 23)]) (.cond (.t 24) .skip (.exit 2))) (.seq (.block 3 (.seq (.seq (.drw [] [] none [0, 1, 2, 3, 4, 5, 6, 7, 8, 9, 10, 11, 12, 13, 14] [.mov 27 (.t 0), .mov 28 (.t 10), .iadr 29 1 (.t 27) (.t 28), .load 30 none (.t 29), .mov 31 (.t 11), .iadr 32 8 (.t 30) (.t 31), .load 33 (some 8) (.t 32), .mov 34 (.t 1), .mov 35 (.t 10), .iadr 36 1 (.t 34) (.t 35), .load 37 none (.t 36), .mov 38 (.t 11), .iadr 39 8 (.t 37) (.t 38), .load 40 (some 8) (.t 39), .eqa 41 false 8 (.t 33) (.t 40)]) (.cond (.t 41) (.exit 3) .skip)) (.seq (.ops [.mov 42 (.t 8), .bin 43 .add (.t 42) (.c (.int .i64 1)), .asg 8 (.t 43)]) (.seq (.ops [.mov 44 (.t 2), .mov 45 (.t 10), .iadr 46 1 (.t 44) (.t 45), .load 47 none (.t 46), .mov 48 (.t 11), .call 49 29 [(.t 47), (.t 48)], .un 50 .not (.t 49)]) (.cond (.t 50) (.ops [.mov 51 (.t 9), .bin 52 .add (.t 51) (.c (.int .i64 1)), .asg 9 (.t 52)]) .skip))))) (.ops [.mov 25 (.t 11), .bin 26 .add (.t 25) (.c (.int .i64 1)), .asg 11 (.t 26)])))
def fn11_l1 : VCode :=
(.clean [0, 1, 2, 8, 9, 10, 11] [0, 1, 2, 6, 7, 8, 9, 10] (.block 2 (.loop [0, 1, 2, 8, 9, 10, 11] fn11_b0)))
def fn11_b2 : VCode := (.seq (.seq (.ops [.mov 12 (.t 10), .mov 13 (.t 0), .len 14 (.t 13), .bin 15 .lss (.t 12) (.t 14)]) (.cond (.t 15) .skip (.exit 0))) (.seq (.block 1 (.seq (.ops [.asg 11 (.c (.int .i64 0))])
     fn11_l1)) (.ops [.mov 16 (.t 10), .bin 17 .add (.t 16) (.c (.int .i64 1)), .asg 10 (.t 17)])))
def fn11_l3 : VCode :=
(.clean [0, 1, 2, 8, 9, 10] [6, 7, 8, 9] (.block 0 (.loop [0, 1, 2, 8, 9, 10] fn11_b2)))
def fn11 : VFn := ⟨3, 55, [.tmp 6, .tmp 7], (.seq (.ops [.asg 6 (.c (.int .i64 0)), .asg 7 (.c (.int .i64 0))]) (.seq (.ops [.asg 8 (.c (.int .i64 0)), .asg 9 (.c (.int .i64 0))]) (.seq (.seq (.ops [.asg 10 (.c (.int .i64 0))])
     fn11_l3) (.seq (.ops [.mov 53 (.t 8), .mov 54 (.t 9), .asg 6 (.t 53), .asg 7 (.t 54)]) .ret))))⟩
def fn12_b0 : VCode := (.seq (.ops [.asg 9 (.t 24)]) (.ops [.alloc 10 [(.int .i64 0), (.int .i64 0)], .store none 2 (.t 10) (.t 25)]))
def fn12_b1 : VCode := (.block 1 (.drw [] [([0, 1, 2, 3, 4, 5, 6, 7, 8, 9, 10, 11, 12, 13, 14, 15], 16), ([17], 18)] (some ([], [], 19, [([], 20)])) [] [.load 26 none (.t 8), .mov 27 (.t 9), .fadr 28 (.t 10) 0, .load 29 none (.t 28), .load 30 none (.t 2), .mov 31 (.t 9), .iadr 32 1 (.t 30) (.t 31), .load 33 none (.t 32), .fadr 34 (.t 10) 0, .load 35 none (.t 34), .fadr 36 (.t 10) 0, .load 37 none (.t 36), .fadr 38 (.t 10) 1, .load 39 none (.t 38), .bin 40 .add (.t 37) (.t 39), .sli 41 8 (.t 33) (some (.t 35)) (some (.t 40)), .call 42 32 [(.t 41)], .build 43 [(.int .i64 0), (.int .i64 0), (.list 0 [])] [(0, 1, (.t 27)), (1, 1, (.t 29)), (2, 1, (.t 42))], .mksl 44 3 [(.t 43)], .app 45 3 (.t 26) (.t 44), .store none 1 (.t 8) (.t 45)]))
def fn12 : VFn := ⟨2, 47, [.tmp 4, .tmp 5], (.seq (.ops [.box 2 (.t 0), .asg 4 (.nil 3), .asg 5 (.c (.int .i64 0))]) (.seq (.seq (.ops [.load 11 none (.t 2), .call 12 19 [(.t 11)], .asg 6 (.t 12)]) (.seq (.ops [.mov 13 (.t 6), .bin 14 .neq (.t 13) (.c (.int .i64 0))]) (.cond (.t 14) (.seq (.ops [.mov 15 (.t 6), .asg 4 (.nil 3), .asg 5 (.t 15)]) .ret) .skip))) (.seq (.seq (.ops [.load 16 none (.t 2), .mov 17 (.t 1), .call 18 30 [(.t 16), (.t 17)], .asg 7 (.t 18)]) (.seq (.ops [.mov 19 (.t 7), .bin 20 .neq (.t 19) (.c (.int .i64 0))]) (.cond (.t 20) (.seq (.ops [.mov 21 (.t 7), .asg 4 (.nil 3), .asg 5 (.t 21)]) .ret) .skip))) (.seq (.ops [.alloc 8 [(.list 3 [])]]) (.seq (.seq (.ops [.mov 22 (.t 1), .call 23 31 [(.t 22)]]) (.block 0 (.rng (.t 23) [24, 25] fn12_b0 fn12_b1))) (.seq (.ops [.load 46 none (.t 8), .asg 4 (.t 46), .asg 5 (.c (.int .i64 0))]) .ret))))))⟩
def fn13_b0 : VCode := (.seq (.seq (.ops [.mov 11 (.t 5), .mov 12 (.t 0), .len 13 (.t 12), .bin 14 .lss (.t 11) (.t 13)]) (.cond (.t 14) .skip (.exit 0))) (.seq (.block 1 (.seq (.drw [] [([0, 1, 2, 3, 4, 5, 6, 7], 8)] none [9] [.mov 17 (.t 0), .mov 18 (.t 5), .iadr 19 1 (.t 17) (.t 18), .load 20 none (.t 19), .mov 21 (.t 1), .mov 22 (.t 5), .iadr 23 1 (.t 21) (.t 22), .load 24 none (.t 23), .call 25 33 [(.t 20), (.t 24)], .un 26 .not (.t 25)]) (.cond (.t 26) (.seq (.ops [.asg 4 (.c (.bool false))]) .ret) .skip))) (.ops [.mov 15 (.t 5), .bin 16 .add (.t 15) (.c (.int .i64 1)), .asg 5 (.t 16)])))
def fn13_l1 : VCode :=
(.clean [0, 1, 5] [4] (.block 0 (.loop [0, 1, 5] fn13_b0)))
def fn13 : VFn := ⟨2, 27, [.tmp 4], (.seq (.ops [.asg 4 (.c (.bool false))]) (.seq (.seq (.ops [.mov 6 (.t 0), .len 7 (.t 6), .mov 8 (.t 1), .len 9 (.t 8), .bin 10 .neq (.t 7) (.t 9)]) (.cond (.t 10) (.seq (.ops [.asg 4 (.c (.bool false))]) .ret) .skip)) (.seq (.seq (.ops [.asg 5 (.c (.int .i64 0))])
     fn13_l1) (.seq (.ops [.asg 4 (.c (.bool true))]) .ret))))⟩
def fn14 : VFn := ⟨3, 29, [.tmp 6, .tmp 7], (.seq (.ops [.box 5 (.t 2), .asg 6 (.nil 1), .asg 7 (.c (.int .i64 0))]) (.seq (.ops [.mov 12 (.t 0), .mov 13 (.t 1), .call 14 34 [(.t 12), (.t 13)], .mov 11 (.t 14), .ext 15 (.t 11) 0, .ext 16 (.t 11) 1, .asg 8 (.t 15), .asg 9 (.t 16)]) (.seq (.seq (.ops [.mov 17 (.t 9), .bin 18 .neq (.t 17) (.c (.int .i64 0))]) (.cond (.t 18) (.seq (.ops [.mov 19 (.t 9), .asg 6 (.nil 1), .asg 7 (.t 19)]) .ret) .skip)) (.seq (.seq (.ops [.mov 20 (.t 0), .load 21 none (.t 5), .call 22 30 [(.t 20), (.t 21)], .asg 10 (.t 22)]) (.seq (.ops [.mov 23 (.t 10), .bin 24 .neq (.t 23) (.c (.int .i64 0))]) (.cond (.t 24) (.seq (.ops [.mov 25 (.t 10), .asg 6 (.nil 1), .asg 7 (.t 25)]) .ret) .skip))) (.seq (.ops [.mov 26 (.t 8), .mkf 27 36 [(.t 5)], .call 28 35 [(.t 26), (.t 27)], .asg 6 (.t 28), .asg 7 (.c (.int .i64 0))]) .ret)))))⟩
def fn15 : VFn := ⟨3, 34, [.tmp 6, .tmp 7], (.seq (.ops [.asg 6 (.c (.bool false)), .asg 7 (.c (.int .i64 0))]) (.seq (.seq (.ops [.mov 13 (.t 0), .mov 14 (.t 1), .mov 15 (.t 2), .call 16 14 [(.t 13), (.t 14), (.t 15)], .mov 12 (.t 16), .ext 17 (.t 12) 0, .ext 18 (.t 12) 1, .asg 8 (.t 17), .asg 9 (.t 18)]) (.seq (.ops [.mov 19 (.t 9), .bin 20 .neq (.t 19) (.c (.int .i64 0))]) (.cond (.t 20) (.seq (.ops [.mov 21 (.t 9), .asg 6 (.c (.bool false)), .asg 7 (.t 21)]) .ret) .skip))) (.seq (.ops [.mov 23 (.t 0), .mov 24 (.t 1), .call 25 34 [(.t 23), (.t 24)], .mov 22 (.t 25), .ext 26 (.t 22) 0, .ext 27 (.t 22) 1, .asg 10 (.t 26), .asg 11 (.t 27)]) (.seq (.seq (.ops [.mov 28 (.t 11), .bin 29 .neq (.t 28) (.c (.int .i64 0))]) (.cond (.t 29) (.seq (.ops [.mov 30 (.t 11), .asg 6 (.c (.bool false)), .asg 7 (.t 30)]) .ret) .skip)) (.seq (.ops [.mov 31 (.t 10), .mov 32 (.t 2), .call 33 38 [(.t 31), (.t 32), (.c (.func 39 []))], .asg 6 (.t 33), .asg 7 (.c (.int .i64 0))]) .ret)))))⟩
def fn16 : VFn := ⟨2, 8, [.tmp 4], (.seq (.ops [.asg 4 (.c (.bool false))]) (.seq (.ops [.mov 5 (.t 0), .mov 6 (.t 1), .call 7 41 [(.t 5), (.t 6)], .asg 4 (.t 7)]) .ret))⟩
def fn17_b0 : VCode := (.seq (.seq (.ops [.mov 29 (.t 6), .mov 30 (.t 0), .mov 31 (.t 5), .iadr 32 1 (.t 30) (.t 31), .load 33 none (.t 32), .len 34 (.t 33), .bin 35 .lss (.t 29) (.t 34)]) (.cond (.t 35) .skip (.exit 2))) (.seq (.block 3 (.seq (.drw [] [] none [0, 1, 2, 3, 4, 5, 6, 7, 8, 9, 10, 11, 12, 13, 14] [.mov 38 (.t 0), .mov 39 (.t 5), .iadr 40 1 (.t 38) (.t 39), .load 41 none (.t 40), .mov 42 (.t 6), .iadr 43 2 (.t 41) (.t 42), .load 44 (some 2) (.t 43), .mov 45 (.t 1), .mov 46 (.t 5), .iadr 47 1 (.t 45) (.t 46), .load 48 none (.t 47), .mov 49 (.t 6), .iadr 50 2 (.t 48) (.t 49), .load 51 (some 2) (.t 50), .eqa 52 true 2 (.t 44) (.t 51)]) (.cond (.t 52) (.seq (.ops [.asg 4 (.c (.bool false))]) .ret) .skip))) (.ops [.mov 36 (.t 6), .bin 37 .add (.t 36) (.c (.int .i64 1)), .asg 6 (.t 37)])))
def fn17_l1 : VCode :=
(.clean [0, 1, 5, 6] [0, 1, 4, 5] (.block 2 (.loop [0, 1, 5, 6] fn17_b0)))
def fn17_b2 : VCode := (.seq (.seq (.ops [.mov 12 (.t 5), .mov 13 (.t 0), .len 14 (.t 13), .bin 15 .lss (.t 12) (.t 14)]) (.cond (.t 15) .skip (.exit 0))) (.seq (.block 1 (.seq (.seq (.drw [] [] none [0, 1, 2, 3, 4, 5, 6, 7, 8, 9, 10] [.mov 18 (.t 0), .mov 19 (.t 5), .iadr 20 1 (.t 18) (.t 19), .load 21 none (.t 20), .len 22 (.t 21), .mov 23 (.t 1), .mov 24 (.t 5), .iadr 25 1 (.t 23) (.t 24), .load 26 none (.t 25), .len 27 (.t 26), .bin 28 .neq (.t 22) (.t 27)]) (.cond (.t 28) (.seq (.ops [.asg 4 (.c (.bool false))]) .ret) .skip)) (.seq (.ops [.asg 6 (.c (.int .i64 0))])
      fn17_l1))) (.ops [.mov 16 (.t 5), .bin 17 .add (.t 16) (.c (.int .i64 1)), .asg 5 (.t 17)])))
def fn17_l3 : VCode :=
(.clean [0, 1, 5] [4] (.block 0 (.loop [0, 1, 5] fn17_b2)))
def fn17 : VFn := ⟨2, 53, [.tmp 4], (.seq (.ops [.asg 4 (.c (.bool false))]) (.seq (.seq (.ops [.mov 7 (.t 0), .len 8 (.t 7), .mov 9 (.t 1), .len 10 (.t 9), .bin 11 .neq (.t 8) (.t 10)]) (.cond (.t 11) (.seq (.ops [.asg 4 (.c (.bool false))]) .ret) .skip)) (.seq (.seq (.ops [.asg 5 (.c (.int .i64 0))])
     fn17_l3) (.seq (.ops [.asg 4 (.c (.bool true))]) .ret))))⟩
def fn18_b0 : VCode := (.seq (.ops [.bin 10 .lss (.t 9) (.t 8)]) (.seq (.cond (.t 10) .skip (.exit 0)) (.seq (.block 1 (.seq (.ops [.iadr 11 1 (.t 7) (.t 9), .load 12 none (.t 11), .asg 5 (.t 12)]) (.ops [.mov 13 (.t 3), .mov 14 (.t 5), .bin 15 .add (.t 13) (.t 14), .asg 3 (.t 15)]))) (.ops [.bin 16 .add (.t 9) (.c (.int .i64 1)), .mov 9 (.t 16)]))))
def fn18_l1 : VCode :=
(.clean [3, 7, 8, 9] [2, 3] (.block 0 (.loop [3, 7, 8, 9] fn18_b0)))
def fn18 : VFn := ⟨1, 18, [.tmp 2], (.seq (.ops [.asg 2 (.c (.int .i64 0))]) (.seq (.ops [.asg 3 (.c (.int .i64 0))]) (.seq (.seq (.ops [.mov 6 (.t 0), .call 7 42 [(.t 6), (.c (.func 43 []))], .len 8 (.t 7), .mov 9 (.c (.int .i64 0))])
     fn18_l1) (.seq (.ops [.mov 17 (.t 3), .asg 2 (.t 17)]) .ret))))⟩
def fn19 : VFn := ⟨1, 6, [.tmp 2], (.seq (.ops [.asg 2 (.c (.int .i64 0))]) (.seq (.ops [.mov 3 (.t 0), .call 4 46 [(.t 3)], .call 5 45 [(.t 4)], .asg 2 (.t 5)]) .ret))⟩
def fn22 : VFn := ⟨1, 7, [.tmp 2], (.seq (.ops [.asg 2 (.c (.int .i64 0))]) (.seq (.ops [.mov 3 (.t 0), .bin 4 .add (.t 3) (.c (.int .i64 64)), .bin 5 .sub (.t 4) (.c (.int .i64 1)), .bin 6 .quo (.t 5) (.c (.int .i64 64)), .asg 2 (.t 6)]) .ret))⟩
def fn23 : VFn := ⟨2, 8, [.tmp 4], (.seq (.ops [.asg 4 (.c (.int .u64 0))]) (.seq (.ops [.mov 5 (.t 0), .mov 6 (.t 1), .bin 7 .or (.t 5) (.t 6), .asg 4 (.t 7)]) .ret))⟩
def fn24_b0 : VCode := (.seq (.ops [.bin 29 .lss (.t 28) (.t 27)]) (.seq (.cond (.t 29) .skip (.exit 0)) (.seq (.block 1 (.seq (.ops [.mov 30 (.t 28), .asg 10 (.t 30)]) (.drw [] [([0, 1, 2, 3, 4, 5, 6, 7, 8, 9, 10, 11, 12, 13, 14, 15], 16), ([], 17)] (some ([18], [], 19, [])) [] [.mov 31 (.t 9), .mov 32 (.t 10), .fadr 33 (.t 3) 0, .load 34 none (.t 33), .mov 35 (.t 9), .mov 36 (.t 10), .iadr 37 1 (.t 35) (.t 36), .load 38 none (.t 37), .mov 39 (.t 10), .fadr 40 (.t 5) 0, .load 41 none (.t 40), .fadr 42 (.t 5) 0, .load 43 none (.t 42), .fadr 44 (.t 5) 1, .load 45 none (.t 44), .bin 46 .add (.t 43) (.t 45), .call 47 51 [(.t 39), (.t 41), (.t 46)], .callv 48 (.t 34) [(.t 38), (.t 47)], .iadr 49 1 (.t 31) (.t 32), .store none 1 (.t 49) (.t 48)]))) (.ops [.bin 50 .add (.t 28) (.c (.int .i64 1)), .mov 28 (.t 50)]))))
def fn24_l1 : VCode :=
(.clean [3, 4, 5, 6, 9, 25, 27, 28] [4, 6, 7, 9] (.block 0 (.loop [3, 4, 5, 6, 9, 25, 27, 28] fn24_b0)))
def fn24 : VFn := ⟨3, 55, [.cell 6 (some 2), .tmp 7], (.seq (.ops [.box 3 (.t 0), .box 4 (.t 1), .box 5 (.t 2), .alloc 6 [(.int .i64 0), (.list 1 [])], .asg 7 (.c (.int .i64 0))]) (.seq (.seq (.ops [.load 11 (some 2) (.t 4), .call 12 48 [(.t 11)], .asg 8 (.t 12)]) (.seq (.ops [.mov 13 (.t 8), .bin 14 .neq (.t 13) (.c (.int .i64 0))]) (.cond (.t 14) (.seq (.ops [.build 15 [(.int .i64 0), (.list 1 [])] [], .mov 16 (.t 8), .store none 2 (.t 6) (.t 15), .asg 7 (.t 16)]) .ret) .skip))) (.seq (.seq (.ops [.load 17 (some 2) (.t 5), .fadr 18 (.t 4) 0, .load 19 none (.t 18), .call 20 49 [(.t 17), (.t 19)], .un 21 .not (.t 20)]) (.cond (.t 21) (.seq (.ops [.build 22 [(.int .i64 0), (.list 1 [])] [], .store none 2 (.t 6) (.t 22), .asg 7 (.c (.int .i64 2))]) .ret) .skip)) (.seq (.ops [.fadr 23 (.t 4) 1, .load 24 none (.t 23), .call 25 50 [(.t 24)], .asg 9 (.t 25)]) (.seq (.seq (.ops [.mov 26 (.t 9), .len 27 (.t 26), .mov 28 (.c (.int .i64 0))])
       fn24_l1) (.seq (.ops [.fadr 51 (.t 4) 0, .load 52 none (.t 51), .mov 53 (.t 9), .build 54 [(.int .i64 0), (.list 1 [])] [(0, 1, (.t 52)), (1, 1, (.t 53))], .store none 2 (.t 6) (.t 54), .asg 7 (.c (.int .i64 0))]) .ret))))))⟩
def fn25 : VFn := ⟨2, 16, [.tmp 4, .tmp 5], (.seq (.ops [.asg 4 (.nil 2), .asg 5 (.c (.int .i64 0))]) (.seq (.seq (.ops [.mov 6 (.t 0), .len 7 (.t 6), .mov 8 (.t 1), .len 9 (.t 8), .bin 10 .neq (.t 7) (.t 9)]) (.cond (.t 10) (.seq (.ops [.asg 4 (.nil 2), .asg 5 (.c (.int .i64 6))]) .ret) .skip)) (.seq (.ops [.mov 11 (.t 0), .mov 12 (.t 1), .call 13 52 [(.t 11), (.t 12), (.c (.func 53 []))], .ext 14 (.t 13) 0, .ext 15 (.t 13) 1, .asg 4 (.t 14), .asg 5 (.t 15)]) .ret)))⟩
def fn26_b0 : VCode := (.seq (.ops [.bin 11 .lss (.t 10) (.t 9)]) (.seq (.cond (.t 11) .skip (.exit 0)) (.seq (.block 1 (.seq (.ops [.mov 12 (.t 10), .iadr 13 2 (.t 8) (.t 10), .load 14 (some 2) (.t 13), .alloc 7 [(.int .i64 0), (.list 1 [])], .asg 6 (.t 12), .store none 2 (.t 7) (.t 14)]) (.ops [.mov 15 (.t 5), .mov 16 (.t 1), .mov 17 (.t 6), .load 18 (some 2) (.t 7), .callv 19 (.t 16) [(.t 17), (.t 18)], .mksl 20 1 [(.t 19)], .app 21 1 (.t 15) (.t 20), .asg 5 (.t 21)]))) (.ops [.bin 22 .add (.t 10) (.c (.int .i64 1)), .mov 10 (.t 22)]))))
def fn26_l1 : VCode :=
(.clean [0, 1, 5, 8, 9, 10, 21] [4, 5] (.block 0 (.loop [0, 1, 5, 8, 9, 10, 21] fn26_b0)))
def fn26 : VFn := ⟨2, 24, [.tmp 4], (.seq (.ops [.asg 4 (.nil 1)]) (.seq (.ops [.asg 5 (.nil 1)]) (.seq (.seq (.ops [.mov 8 (.t 0), .len 9 (.t 8), .mov 10 (.c (.int .i64 0))])
     fn26_l1) (.seq (.ops [.mov 23 (.t 5), .asg 4 (.t 23)]) .ret))))⟩
def fn27 : VFn := ⟨2, 7, [.tmp 4], (.seq (.ops [.box 3 (.t 1), .asg 4 (.nil 2)]) (.seq (.ops [.load 5 (some 2) (.t 3), .call 6 28 [(.t 5)], .asg 4 (.t 6)]) .ret))⟩
def fn28_b0 : VCode := (.ops [.asg 4 (.t 8)])
def fn28_b1 : VCode := (.block 1 (.seq (.seq (.ops [.load 9 none (.t 3), .len 10 (.t 9), .asg 5 (.t 10)]) (.seq (.drw [] [] none [0, 1, 2, 3, 4, 5, 6, 7, 8, 9, 10, 11, 12, 13, 14, 15, 16, 17, 18] [.mov 11 (.t 5), .bin 12 .gtr (.t 11) (.c (.int .i64 0)), .mov 13 (.t 12), .grd 13 true (.load 14 none (.t 3)), .grd 13 true (.mov 15 (.t 5)), .grd 13 true (.bin 16 .sub (.t 15) (.c (.int .i64 1))), .grd 13 true (.iadr 17 2 (.t 14) (.t 16)), .grd 13 true (.fadr 18 (.t 17) 0), .grd 13 true (.load 19 none (.t 18)), .grd 13 true (.load 20 none (.t 3)), .grd 13 true (.mov 21 (.t 5)), .grd 13 true (.bin 22 .sub (.t 21) (.c (.int .i64 1))), .grd 13 true (.iadr 23 2 (.t 20) (.t 22)), .grd 13 true (.fadr 24 (.t 23) 1), .grd 13 true (.load 25 none (.t 24)), .grd 13 true (.bin 26 .add (.t 19) (.t 25)), .grd 13 true (.mov 27 (.t 4)), .grd 13 true (.bin 28 .eql (.t 26) (.t 27)), .pick 29 (.t 13) (.t 28) (.c (.bool false))]) (.cond (.t 29) (.seq (.ops [.load 30 none (.t 3), .mov 31 (.t 5), .bin 32 .sub (.t 31) (.c (.int .i64 1)), .iadr 33 2 (.t 30) (.t 32), .fadr 34 (.t 33) 1, .load 35 none (.t 34), .bin 36 .add (.t 35) (.c (.int .i64 1)), .iadr 37 2 (.t 30) (.t 32), .fadr 38 (.t 37) 1, .store none 1 (.t 38) (.t 36)]) (.exit 1)) .skip))) (.ops [.load 39 none (.t 3), .mov 40 (.t 4), .build 41 [(.int .i64 0), (.int .i64 0)] [(0, 1, (.t 40)), (1, 1, (.c (.int .i64 1)))], .mksl 42 2 [(.t 41)], .app 43 2 (.t 39) (.t 42), .store none 1 (.t 3) (.t 43)])))
def fn28 : VFn := ⟨1, 45, [.tmp 2], (.seq (.ops [.box 1 (.t 0), .asg 2 (.nil 2)]) (.seq (.ops [.alloc 3 [(.list 2 [])]]) (.seq (.seq (.ops [.load 6 (some 2) (.t 1), .call 7 54 [(.t 6), (.c (.int .i64 0))]]) (.block 0 (.rng (.t 7) [8] fn28_b0 fn28_b1))) (.seq (.ops [.load 44 none (.t 3), .asg 2 (.t 44)]) .ret))))⟩
def fn29 : VFn := ⟨2, 8, [.tmp 4], (.seq (.ops [.box 3 (.t 1), .asg 4 (.c (.bool false))]) (.seq (.ops [.mov 5 (.t 0), .mkf 6 56 [(.t 3)], .call 7 55 [(.t 5), (.t 6)], .asg 4 (.t 7)]) .ret))⟩
def fn30 : VFn := ⟨2, 16, [.tmp 4], (.seq (.ops [.box 2 (.t 0), .asg 4 (.c (.int .i64 0))]) (.seq (.seq (.ops [.mov 6 (.t 1), .len 7 (.t 6), .load 8 none (.t 2), .len 9 (.t 8), .bin 10 .neq (.t 7) (.t 9)]) (.cond (.t 10) (.seq (.ops [.asg 4 (.c (.int .i64 6))]) .ret) .skip)) (.seq (.ops [.mov 11 (.t 1), .mkf 12 59 [(.t 2)], .call 13 58 [(.t 11), (.t 12)], .asg 5 (.t 13)]) (.seq (.seq (.ops [.mov 14 (.t 5), .call 15 61 [(.t 14), (.c (.bool false))]]) (.cond (.t 15) (.seq (.ops [.asg 4 (.c (.int .i64 3))]) .ret) .skip)) (.seq (.ops [.asg 4 (.c (.int .i64 0))]) .ret)))))⟩
def fn31 : VFn := ⟨1, 4, [.tmp 2], (.seq (.ops [.box 1 (.t 0), .asg 2 (.c .nilf)]) (.seq (.ops [.mkf 3 62 [(.t 1)], .asg 2 (.t 3)]) .ret))⟩
def fn32 : VFn := ⟨1, 8, [.tmp 2], (.seq (.ops [.asg 2 (.nil 8)]) (.seq (.seq (.ops [.mov 3 (.t 0), .isn 4 false (.t 3)]) (.cond (.t 4) (.seq (.ops [.asg 2 (.nil 8)]) .ret) .skip)) (.seq (.ops [.mksl 5 8 [], .mov 6 (.t 0), .app 7 8 (.t 5) (.t 6), .asg 2 (.t 7)]) .ret)))⟩
def fn33_b0 : VCode := (.seq (.seq (.ops [.mov 11 (.t 5), .mov 12 (.t 0), .len 13 (.t 12), .bin 14 .lss (.t 11) (.t 13)]) (.cond (.t 14) .skip (.exit 0))) (.seq (.block 1 (.seq (.drw [] [] none [0, 1, 2, 3, 4, 5, 6, 7, 8] [.mov 17 (.t 0), .mov 18 (.t 5), .iadr 19 8 (.t 17) (.t 18), .load 20 (some 8) (.t 19), .mov 21 (.t 1), .mov 22 (.t 5), .iadr 23 8 (.t 21) (.t 22), .load 24 (some 8) (.t 23), .eqa 25 true 8 (.t 20) (.t 24)]) (.cond (.t 25) (.seq (.ops [.asg 4 (.c (.bool false))]) .ret) .skip))) (.ops [.mov 15 (.t 5), .bin 16 .add (.t 15) (.c (.int .i64 1)), .asg 5 (.t 16)])))
def fn33_l1 : VCode :=
(.clean [0, 1, 5] [4] (.block 0 (.loop [0, 1, 5] fn33_b0)))
def fn33 : VFn := ⟨2, 26, [.tmp 4], (.seq (.ops [.asg 4 (.c (.bool false))]) (.seq (.seq (.ops [.mov 6 (.t 0), .len 7 (.t 6), .mov 8 (.t 1), .len 9 (.t 8), .bin 10 .neq (.t 7) (.t 9)]) (.cond (.t 10) (.seq (.ops [.asg 4 (.c (.bool false))]) .ret) .skip)) (.seq (.seq (.ops [.asg 5 (.c (.int .i64 0))])
     fn33_l1) (.seq (.ops [.asg 4 (.c (.bool true))]) .ret))))⟩
def fn34_b0 : VCode := (.seq (.ops [.bin 18 .lss (.t 17) (.t 16)]) (.seq (.cond (.t 18) .skip (.exit 0)) (.seq (.block 1 (.seq (.ops [.mov 19 (.t 17), .asg 8 (.t 19)]) (.drw [] [([0, 1, 2, 3, 4, 5, 6, 7, 8], 9), ([], 10)] (some ([], [], 11, [])) [12] [.mov 20 (.t 7), .mov 21 (.t 0), .mov 22 (.t 8), .iadr 23 1 (.t 21) (.t 22), .load 24 none (.t 23), .mov 25 (.t 1), .mov 26 (.t 8), .iadr 27 1 (.t 25) (.t 26), .load 28 none (.t 27), .call 29 64 [(.t 24), (.t 28)], .mksl 30 1 [(.t 29)], .app 31 1 (.t 20) (.t 30), .asg 7 (.t 31)]))) (.ops [.bin 32 .add (.t 17) (.c (.int .i64 1)), .mov 17 (.t 32)]))))
def fn34_l1 : VCode :=
(.clean [0, 1, 7, 16, 17, 31] [4, 5, 7] (.block 0 (.loop [0, 1, 7, 16, 17, 31] fn34_b0)))
def fn34 : VFn := ⟨2, 34, [.tmp 4, .tmp 5], (.seq (.ops [.asg 4 (.nil 1), .asg 5 (.c (.int .i64 0))]) (.seq (.seq (.ops [.mov 9 (.t 0), .mov 10 (.t 1), .call 11 63 [(.t 9), (.t 10)], .asg 6 (.t 11)]) (.seq (.ops [.mov 12 (.t 6), .bin 13 .neq (.t 12) (.c (.int .i64 0))]) (.cond (.t 13) (.seq (.ops [.mov 14 (.t 6), .asg 4 (.nil 1), .asg 5 (.t 14)]) .ret) .skip))) (.seq (.ops [.asg 7 (.nil 1)]) (.seq (.seq (.ops [.mov 15 (.t 0), .len 16 (.t 15), .mov 17 (.c (.int .i64 0))])
      fn34_l1) (.seq (.ops [.mov 33 (.t 7), .asg 4 (.t 33), .asg 5 (.c (.int .i64 0))]) .ret)))))⟩
def fn35_b0 : VCode := (.seq (.ops [.bin 11 .lss (.t 10) (.t 9)]) (.seq (.cond (.t 11) .skip (.exit 0)) (.seq (.block 1 (.seq (.ops [.mov 12 (.t 10), .iadr 13 1 (.t 8) (.t 10), .load 14 none (.t 13), .asg 6 (.t 12), .asg 7 (.t 14)]) (.ops [.mov 15 (.t 5), .mov 16 (.t 1), .mov 17 (.t 6), .mov 18 (.t 7), .callv 19 (.t 16) [(.t 17), (.t 18)], .mksl 20 1 [(.t 19)], .app 21 1 (.t 15) (.t 20), .asg 5 (.t 21)]))) (.ops [.bin 22 .add (.t 10) (.c (.int .i64 1)), .mov 10 (.t 22)]))))
def fn35_l1 : VCode :=
(.clean [0, 1, 5, 8, 9, 10, 21] [4, 5] (.block 0 (.loop [0, 1, 5, 8, 9, 10, 21] fn35_b0)))
def fn35 : VFn := ⟨2, 24, [.tmp 4], (.seq (.ops [.asg 4 (.nil 1)]) (.seq (.ops [.asg 5 (.nil 1)]) (.seq (.seq (.ops [.mov 8 (.t 0), .len 9 (.t 8), .mov 10 (.c (.int .i64 0))])
     fn35_l1) (.seq (.ops [.mov 23 (.t 5), .asg 4 (.t 23)]) .ret))))⟩
def fn36 : VFn := ⟨3, 12, [.tmp 5], (.seq (.ops [.asg 5 (.nil 2)]) (.seq (.ops [.mov 6 (.t 1), .load 7 none (.t 2), .mov 8 (.t 0), .iadr 9 1 (.t 7) (.t 8), .load 10 none (.t 9), .call 11 37 [(.t 6), (.t 10)], .asg 5 (.t 11)]) .ret))⟩
def fn37 : VFn := ⟨2, 9, [.tmp 4], (.seq (.ops [.asg 4 (.nil 2)]) (.seq (.ops [.mov 5 (.t 0), .mov 6 (.t 1), .call 7 66 [(.t 5), (.t 6), (.c (.func 67 []))], .call 8 65 [(.t 7)], .asg 4 (.t 8)]) .ret))⟩
def fn38_b0 : VCode := (.seq (.ops [.bin 18 .lss (.t 17) (.t 16)]) (.seq (.cond (.t 18) .skip (.exit 0)) (.seq (.block 1 (.seq (.ops [.mov 19 (.t 17), .iadr 20 1 (.t 15) (.t 17), .load 21 none (.t 20), .asg 7 (.t 19), .asg 8 (.t 21)]) (.seq (.ops [.mov 22 (.t 1), .mov 23 (.t 7), .iadr 24 1 (.t 22) (.t 23), .load 25 none (.t 24), .asg 9 (.t 25)]) (.seq (.ops [.mov 26 (.t 2), .mov 27 (.t 8), .mov 28 (.t 9), .callv 29 (.t 26) [(.t 27), (.t 28)], .un 30 .not (.t 29)]) (.cond (.t 30) (.seq (.ops [.asg 6 (.c (.bool false))]) .ret) .skip))))) (.ops [.bin 31 .add (.t 17) (.c (.int .i64 1)), .mov 17 (.t 31)]))))
def fn38_l1 : VCode :=
(.clean [0, 1, 2, 15, 16, 17] [6] (.block 0 (.loop [0, 1, 2, 15, 16, 17] fn38_b0)))
def fn38 : VFn := ⟨3, 32, [.tmp 6], (.seq (.ops [.asg 6 (.c (.bool false))]) (.seq (.seq (.ops [.mov 10 (.t 0), .len 11 (.t 10), .mov 12 (.t 1), .len 13 (.t 12), .bin 14 .neq (.t 11) (.t 13)]) (.cond (.t 14) (.seq (.ops [.asg 6 (.c (.bool false))]) .ret) .skip)) (.seq (.seq (.ops [.mov 15 (.t 0), .len 16 (.t 15), .mov 17 (.c (.int .i64 0))])
     fn38_l1) (.seq (.ops [.asg 6 (.c (.bool true))]) .ret))))⟩
def fn39 : VFn := ⟨2, 8, [.tmp 4], (.seq (.ops [.asg 4 (.c (.bool false))]) (.seq (.ops [.mov 5 (.t 0), .mov 6 (.t 1), .call 7 40 [(.t 5), (.t 6)], .asg 4 (.t 7)]) .ret))⟩
def fn40_b0 : VCode := (.seq (.ops [.bin 14 .lss (.t 13) (.t 12)]) (.seq (.cond (.t 14) .skip (.exit 0)) (.seq (.block 1 (.seq (.ops [.mov 15 (.t 13), .asg 5 (.t 15)]) (.seq (.drw [] [] none [0, 1, 2, 3, 4, 5, 6, 7, 8] [.mov 16 (.t 0), .mov 17 (.t 5), .iadr 18 2 (.t 16) (.t 17), .load 19 (some 2) (.t 18), .mov 20 (.t 1), .mov 21 (.t 5), .iadr 22 2 (.t 20) (.t 21), .load 23 (some 2) (.t 22), .eqa 24 true 2 (.t 19) (.t 23)]) (.cond (.t 24) (.seq (.ops [.asg 4 (.c (.bool false))]) .ret) .skip)))) (.ops [.bin 25 .add (.t 13) (.c (.int .i64 1)), .mov 13 (.t 25)]))))
def fn40_l1 : VCode :=
(.clean [0, 1, 12, 13] [4] (.block 0 (.loop [0, 1, 12, 13] fn40_b0)))
def fn40 : VFn := ⟨2, 26, [.tmp 4], (.seq (.ops [.asg 4 (.c (.bool false))]) (.seq (.seq (.ops [.mov 6 (.t 0), .len 7 (.t 6), .mov 8 (.t 1), .len 9 (.t 8), .bin 10 .neq (.t 7) (.t 9)]) (.cond (.t 10) (.seq (.ops [.asg 4 (.c (.bool false))]) .ret) .skip)) (.seq (.seq (.ops [.mov 11 (.t 0), .len 12 (.t 11), .mov 13 (.c (.int .i64 0))])
     fn40_l1) (.seq (.ops [.asg 4 (.c (.bool true))]) .ret))))⟩
def fn41_b0 : VCode := (.seq (.seq (.ops [.mov 11 (.t 5), .mov 12 (.t 0), .len 13 (.t 12), .bin 14 .lss (.t 11) (.t 13)]) (.cond (.t 14) .skip (.exit 0))) (.seq (.block 1 (.seq (.drw [] [([0, 1, 2, 3, 4, 5, 6, 7, 8, 9, 10, 11, 12, 13, 14, 15, 16, 17, 18, 19, 20, 21, 22, 23, 24, 25, 26, 27, 28, 29, 30, 31, 32, 33, 34], 35)] none [36, 37] [.mov 17 (.t 0), .mov 18 (.t 5), .iadr 19 3 (.t 17) (.t 18), .fadr 20 (.t 19) 0, .load 21 none (.t 20), .mov 22 (.t 1), .mov 23 (.t 5), .iadr 24 3 (.t 22) (.t 23), .fadr 25 (.t 24) 0, .load 26 none (.t 25), .bin 27 .neq (.t 21) (.t 26), .mov 28 (.t 27), .grd 28 false (.mov 29 (.t 0)), .grd 28 false (.mov 30 (.t 5)), .grd 28 false (.iadr 31 3 (.t 29) (.t 30)), .grd 28 false (.fadr 32 (.t 31) 1), .grd 28 false (.load 33 none (.t 32)), .grd 28 false (.mov 34 (.t 1)), .grd 28 false (.mov 35 (.t 5)), .grd 28 false (.iadr 36 3 (.t 34) (.t 35)), .grd 28 false (.fadr 37 (.t 36) 1), .grd 28 false (.load 38 none (.t 37)), .grd 28 false (.bin 39 .neq (.t 33) (.t 38)), .pick 40 (.t 28) (.c (.bool true)) (.t 39), .mov 41 (.t 40), .grd 41 false (.mov 42 (.t 0)), .grd 41 false (.mov 43 (.t 5)), .grd 41 false (.iadr 44 3 (.t 42) (.t 43)), .grd 41 false (.fadr 45 (.t 44) 2), .grd 41 false (.load 46 none (.t 45)), .grd 41 false (.mov 47 (.t 1)), .grd 41 false (.mov 48 (.t 5)), .grd 41 false (.iadr 49 3 (.t 47) (.t 48)), .grd 41 false (.fadr 50 (.t 49) 2), .grd 41 false (.load 51 none (.t 50)), .grd 41 false (.call 52 68 [(.t 46), (.t 51)]), .grd 41 false (.un 53 .not (.t 52)), .pick 54 (.t 41) (.c (.bool true)) (.t 53)]) (.cond (.t 54) (.seq (.ops [.asg 4 (.c (.bool false))]) .ret) .skip))) (.ops [.mov 15 (.t 5), .bin 16 .add (.t 15) (.c (.int .i64 1)), .asg 5 (.t 16)])))
def fn41_l1 : VCode :=
(.clean [0, 1, 5] [4] (.block 0 (.loop [0, 1, 5] fn41_b0)))
def fn41 : VFn := ⟨2, 55, [.tmp 4], (.seq (.ops [.asg 4 (.c (.bool false))]) (.seq (.seq (.ops [.mov 6 (.t 0), .len 7 (.t 6), .mov 8 (.t 1), .len 9 (.t 8), .bin 10 .neq (.t 7) (.t 9)]) (.cond (.t 10) (.seq (.ops [.asg 4 (.c (.bool false))]) .ret) .skip)) (.seq (.seq (.ops [.asg 5 (.c (.int .i64 0))])
     fn41_l1) (.seq (.ops [.asg 4 (.c (.bool true))]) .ret))))⟩
def fn42_b0 : VCode := (.seq (.ops [.bin 11 .lss (.t 10) (.t 9)]) (.seq (.cond (.t 11) .skip (.exit 0)) (.seq (.block 1 (.seq (.ops [.mov 12 (.t 10), .iadr 13 1 (.t 8) (.t 10), .load 14 none (.t 13), .asg 6 (.t 12), .asg 7 (.t 14)]) (.ops [.mov 15 (.t 5), .mov 16 (.t 1), .mov 17 (.t 6), .mov 18 (.t 7), .callv 19 (.t 16) [(.t 17), (.t 18)], .mksl 20 1 [(.t 19)], .app 21 1 (.t 15) (.t 20), .asg 5 (.t 21)]))) (.ops [.bin 22 .add (.t 10) (.c (.int .i64 1)), .mov 10 (.t 22)]))))
def fn42_l1 : VCode :=
(.clean [0, 1, 5, 8, 9, 10, 21] [4, 5] (.block 0 (.loop [0, 1, 5, 8, 9, 10, 21] fn42_b0)))
def fn42 : VFn := ⟨2, 24, [.tmp 4], (.seq (.ops [.asg 4 (.nil 1)]) (.seq (.ops [.asg 5 (.nil 1)]) (.seq (.seq (.ops [.mov 8 (.t 0), .len 9 (.t 8), .mov 10 (.c (.int .i64 0))])
     fn42_l1) (.seq (.ops [.mov 23 (.t 5), .asg 4 (.t 23)]) .ret))))⟩
def fn43 : VFn := ⟨2, 7, [.tmp 4], (.seq (.ops [.asg 4 (.c (.int .i64 0))]) (.seq (.ops [.mov 5 (.t 1), .call 6 44 [(.t 5)], .asg 4 (.t 6)]) .ret))⟩
def fn44_b0 : VCode := (.seq (.ops [.bin 10 .lss (.t 9) (.t 8)]) (.seq (.cond (.t 10) .skip (.exit 0)) (.seq (.block 1 (.seq (.ops [.iadr 11 2 (.t 7) (.t 9), .load 12 (some 2) (.t 11), .alloc 5 [(.int .i64 0), (.int .i64 0)], .store none 2 (.t 5) (.t 12)]) (.ops [.mov 13 (.t 3), .fadr 14 (.t 5) 1, .load 15 none (.t 14), .bin 16 .add (.t 13) (.t 15), .asg 3 (.t 16)]))) (.ops [.bin 17 .add (.t 9) (.c (.int .i64 1)), .mov 9 (.t 17)]))))
def fn44_l1 : VCode :=
(.clean [3, 7, 8, 9] [2, 3] (.block 0 (.loop [3, 7, 8, 9] fn44_b0)))
def fn44 : VFn := ⟨1, 19, [.tmp 2], (.seq (.ops [.asg 2 (.c (.int .i64 0))]) (.seq (.ops [.asg 3 (.c (.int .i64 0))]) (.seq (.seq (.ops [.mov 6 (.t 0), .call 7 69 [(.t 6), (.nil 2)], .len 8 (.t 7), .mov 9 (.c (.int .i64 0))])
     fn44_l1) (.seq (.ops [.mov 18 (.t 3), .asg 2 (.t 18)]) .ret))))⟩
def fn45 : VFn := ⟨1, 13, [.tmp 2], (.seq (.ops [.asg 2 (.c (.int .i64 0))]) (.seq (.seq (.ops [.mov 3 (.t 0), .len 4 (.t 3), .bin 5 .lss (.t 4) (.c (.int .i64 1)), .mov 6 (.t 5), .grd 6 false (.mov 7 (.t 0)), .grd 6 false (.len 8 (.t 7)), .grd 6 false (.bin 9 .gtr (.t 8) (.c (.int .i64 8))), .pick 10 (.t 6) (.c (.bool true)) (.t 9)]) (.cond (.t 10) (.seq (.ops [.asg 2 (.c (.int .i64 6))]) .ret) .skip)) (.seq (.seq (.ops [.mov 11 (.t 0), .call 12 70 [(.t 11), (.c (.func 71 []))]]) (.cond (.t 12) (.seq (.ops [.asg 2 (.c (.int .i64 2))]) .ret) .skip)) (.seq (.ops [.asg 2 (.c (.int .i64 0))]) .ret))))⟩
def fn46 : VFn := ⟨1, 5, [.tmp 2], (.seq (.ops [.asg 2 (.nil 1)]) (.seq (.ops [.mov 3 (.t 0), .call 4 72 [(.t 3), (.c (.func 73 []))], .asg 2 (.t 4)]) .ret))⟩
def fn48 : VFn := ⟨1, 39, [.tmp 2], (.seq (.ops [.box 1 (.t 0), .asg 2 (.c (.int .i64 0))]) (.seq (.seq (.drw [] [([0, 1, 2, 3, 4, 5, 6, 7, 8, 9, 10, 11, 12, 13], 14)] none [15, 16] [.fadr 4 (.t 1) 0, .load 5 none (.t 4), .bin 6 .lss (.t 5) (.c (.int .i64 0)), .mov 7 (.t 6), .grd 7 false (.fadr 8 (.t 1) 0), .grd 7 false (.load 9 none (.t 8)), .grd 7 false (.bin 10 .gtr (.t 9) (.c (.int .i64 4096))), .pick 11 (.t 7) (.c (.bool true)) (.t 10), .mov 12 (.t 11), .grd 12 false (.fadr 13 (.t 1) 1), .grd 12 false (.load 14 none (.t 13)), .grd 12 false (.len 15 (.t 14)), .grd 12 false (.fadr 16 (.t 1) 0), .grd 12 false (.load 17 none (.t 16)), .grd 12 false (.call 18 22 [(.t 17)]), .grd 12 false (.bin 19 .neq (.t 15) (.t 18)), .pick 20 (.t 12) (.c (.bool true)) (.t 19)]) (.cond (.t 20) (.seq (.ops [.asg 2 (.c (.int .i64 3))]) .ret) .skip)) (.seq (.seq (.ops [.fadr 21 (.t 1) 0, .load 22 none (.t 21), .bin 23 .rem (.t 22) (.c (.int .i64 64)), .asg 3 (.t 23)]) (.seq (.ops [.mov 24 (.t 3), .bin 25 .gtr (.t 24) (.c (.int .i64 0)), .mov 26 (.t 25), .grd 26 true (.fadr 27 (.t 1) 1), .grd 26 true (.load 28 none (.t 27)), .grd 26 true (.fadr 29 (.t 1) 1), .grd 26 true (.load 30 none (.t 29)), .grd 26 true (.len 31 (.t 30)), .grd 26 true (.bin 32 .sub (.t 31) (.c (.int .i64 1))), .grd 26 true (.iadr 33 1 (.t 28) (.t 32)), .grd 26 true (.load 34 none (.t 33)), .grd 26 true (.mov 35 (.t 3)), .grd 26 true (.bin 36 .shr (.t 34) (.t 35)), .grd 26 true (.bin 37 .neq (.t 36) (.c (.int .u64 0))), .pick 38 (.t 26) (.t 37) (.c (.bool false))]) (.cond (.t 38) (.seq (.ops [.asg 2 (.c (.int .i64 3))]) .ret) .skip))) (.seq (.ops [.asg 2 (.c (.int .i64 0))]) .ret))))⟩
def fn49 : VFn := ⟨2, 28, [.tmp 4], (.seq (.ops [.box 2 (.t 0), .asg 4 (.c (.bool false))]) (.seq (.ops [.fadr 5 (.t 2) 0, .load 6 none (.t 5), .bin 7 .geq (.t 6) (.c (.int .i64 0)), .mov 8 (.t 7), .grd 8 true (.fadr 9 (.t 2) 1), .grd 8 true (.load 10 none (.t 9)), .grd 8 true (.bin 11 .geq (.t 10) (.c (.int .i64 0))), .pick 12 (.t 8) (.t 11) (.c (.bool false)), .mov 13 (.t 12), .grd 13 true (.fadr 14 (.t 2) 0), .grd 13 true (.load 15 none (.t 14)), .grd 13 true (.mov 16 (.t 1)), .grd 13 true (.bin 17 .leq (.t 15) (.t 16)), .pick 18 (.t 13) (.t 17) (.c (.bool false)), .mov 19 (.t 18), .grd 19 true (.fadr 20 (.t 2) 1), .grd 19 true (.load 21 none (.t 20)), .grd 19 true (.mov 22 (.t 1)), .grd 19 true (.fadr 23 (.t 2) 0), .grd 19 true (.load 24 none (.t 23)), .grd 19 true (.bin 25 .sub (.t 22) (.t 24)), .grd 19 true (.bin 26 .leq (.t 21) (.t 25)), .pick 27 (.t 19) (.t 26) (.c (.bool false)), .asg 4 (.t 27)]) .ret))⟩
def fn50 : VFn := ⟨1, 8, [.tmp 2], (.seq (.ops [.asg 2 (.nil 1)]) (.seq (.seq (.ops [.mov 3 (.t 0), .isn 4 false (.t 3)]) (.cond (.t 4) (.seq (.ops [.asg 2 (.nil 1)]) .ret) .skip)) (.seq (.ops [.mksl 5 1 [], .mov 6 (.t 0), .app 7 1 (.t 5) (.t 6), .asg 2 (.t 7)]) .ret)))⟩
def fn51 : VFn := ⟨3, 27, [.tmp 6], (.seq (.ops [.asg 6 (.c (.int .u64 0))]) (.seq (.ops [.mov 7 (.t 1), .mov 8 (.t 0), .bin 9 .mul (.t 8) (.c (.int .i64 64)), .bin 10 .sub (.t 7) (.t 9), .mn 11 true (.t 10) (.c (.int .i64 0)), .mov 12 (.t 2), .mov 13 (.t 0), .bin 14 .mul (.t 13) (.c (.int .i64 64)), .bin 15 .sub (.t 12) (.t 14), .mn 16 false (.t 15) (.c (.int .i64 64)), .asg 1 (.t 11), .asg 2 (.t 16)]) (.seq (.seq (.ops [.mov 17 (.t 1), .mov 18 (.t 2), .bin 19 .geq (.t 17) (.t 18)]) (.cond (.t 19) (.seq (.ops [.asg 6 (.c (.int .u64 0))]) .ret) .skip)) (.seq (.ops [.mov 20 (.t 2), .mov 21 (.t 1), .bin 22 .sub (.t 20) (.t 21), .bin 23 .sub (.c (.int .i64 64)) (.t 22), .bin 24 .shr (.c (.int .u64 18446744073709551615)) (.t 23), .mov 25 (.t 1), .bin 26 .shl (.t 24) (.t 25), .asg 6 (.t 26)]) .ret))))⟩
def fn52_b0 : VCode := (.seq (.ops [.bin 15 .lss (.t 14) (.t 13)]) (.seq (.cond (.t 15) .skip (.exit 0)) (.seq (.block 1 (.seq (.ops [.mov 16 (.t 14), .asg 9 (.t 16)]) (.seq (.drs [] [0, 1, 2, 8, 10, 11, 13, 14, 36] [.mov 18 (.t 2), .mov 19 (.t 0), .mov 20 (.t 9), .iadr 21 2 (.t 19) (.t 20), .load 22 (some 2) (.t 21), .mov 23 (.t 1), .mov 24 (.t 9), .iadr 25 2 (.t 23) (.t 24), .load 26 (some 2) (.t 25), .callv 27 (.t 18) [(.t 22), (.t 26)], .mov 17 (.t 27), .ext 28 (.t 17) 0, .ext 29 (.t 17) 1, .alloc 10 [(.int .i64 0), (.list 1 [])], .store none 2 (.t 10) (.t 28), .asg 11 (.t 29)]
        [⟨[([0, 1, 2, 3, 4, 5, 6, 7, 8], 9), ([10, 11, 12], 13)], (some ([], [], 14, [])), [15], [0, 1, 2, 3, 4, 5, 6, 7, 8, 9, 10, 11, 12, 13, 14, 15], false⟩, ⟨[([0, 1, 2, 3, 4, 5, 6, 7, 8], 13), ([], 9)], (some ([10, 11], [12], 14, [])), [15], [0, 1, 2, 3, 4, 5, 6, 7, 8, 13, 9, 10, 11, 12, 14, 15], false⟩]) (.seq (.seq (.ops [.mov 30 (.t 11), .bin 31 .neq (.t 30) (.c (.int .i64 0))]) (.cond (.t 31) (.seq (.ops [.mov 32 (.t 11), .asg 6 (.nil 2), .asg 7 (.t 32)]) .ret) .skip)) (.ops [.mov 33 (.t 8), .load 34 (some 2) (.t 10), .mksl 35 2 [(.t 34)], .app 36 2 (.t 33) (.t 35), .asg 8 (.t 36)]))))) (.ops [.bin 37 .add (.t 14) (.c (.int .i64 1)), .mov 14 (.t 37)]))))
def fn52_l1 : VCode :=
(.clean [0, 1, 2, 8, 13, 14, 36] [6, 7, 8] (.block 0 (.loop [0, 1, 2, 8, 13, 14, 36] fn52_b0)))
def fn52 : VFn := ⟨3, 39, [.tmp 6, .tmp 7], (.seq (.ops [.asg 6 (.nil 2), .asg 7 (.c (.int .i64 0))]) (.seq (.ops [.asg 8 (.nil 2)]) (.seq (.seq (.ops [.mov 12 (.t 0), .len 13 (.t 12), .mov 14 (.c (.int .i64 0))])
     fn52_l1) (.seq (.ops [.mov 38 (.t 8), .asg 6 (.t 38), .asg 7 (.c (.int .i64 0))]) .ret))))⟩
def fn53 : VFn := ⟨2, 11, [.cell 4 (some 2), .tmp 5], (.seq (.ops [.box 2 (.t 0), .box 3 (.t 1), .alloc 4 [(.int .i64 0), (.list 1 [])], .asg 5 (.c (.int .i64 0))]) (.seq (.ops [.load 6 (some 2) (.t 2), .load 7 (some 2) (.t 3), .call 8 74 [(.t 6), (.t 7), (.c (.func 75 []))], .ext 9 (.t 8) 0, .ext 10 (.t 8) 1, .store none 2 (.t 4) (.t 9), .asg 5 (.t 10)]) .ret))⟩
def fn54 : VFn := ⟨2, 6, [.tmp 4], (.seq (.ops [.box 2 (.t 0), .box 3 (.t 1), .asg 4 (.c .nilf)]) (.seq (.ops [.mkf 5 76 [(.t 2), (.t 3)], .asg 4 (.t 5)]) .ret))⟩
def fn55 : VFn := ⟨2, 9, [.tmp 4], (.seq (.ops [.asg 4 (.c (.bool false))]) (.seq (.ops [.mov 5 (.t 0), .mov 6 (.t 1), .call 7 78 [(.t 5), (.t 6)], .bin 8 .geq (.t 7) (.c (.int .i64 0)), .asg 4 (.t 8)]) .ret))⟩
def fn56 : VFn := ⟨2, 24, [.tmp 3], (.seq (.ops [.box 2 (.t 0), .asg 3 (.c (.bool false))]) (.seq (.ops [.load 8 (some 2) (.t 2), .call 9 57 [(.t 8)], .mov 7 (.t 9), .ext 10 (.t 7) 0, .ext 11 (.t 7) 1, .ext 12 (.t 7) 2, .asg 4 (.t 10), .asg 5 (.t 11), .asg 6 (.t 12)]) (.seq (.ops [.mov 13 (.t 6), .mov 14 (.t 13), .grd 14 true (.load 15 none (.t 1)), .grd 14 true (.mov 16 (.t 4)), .grd 14 true (.bin 17 .geq (.t 15) (.t 16)), .pick 18 (.t 14) (.t 17) (.c (.bool false)), .mov 19 (.t 18), .grd 19 true (.load 20 none (.t 1)), .grd 19 true (.mov 21 (.t 5)), .grd 19 true (.bin 22 .lss (.t 20) (.t 21)), .pick 23 (.t 19) (.t 22) (.c (.bool false)), .asg 3 (.t 23)]) .ret)))⟩
def fn57 : VFn := ⟨1, 35, [.tmp 2, .tmp 3, .tmp 4], (.seq (.ops [.box 1 (.t 0), .asg 2 (.c (.int .i64 0)), .asg 3 (.c (.int .i64 0)), .asg 4 (.c (.bool false))]) (.seq (.seq (.ops [.fadr 7 (.t 1) 1, .load 8 none (.t 7), .bin 9 .leq (.t 8) (.c (.int .i64 0))]) (.cond (.t 9) (.seq (.ops [.asg 2 (.c (.int .i64 0)), .asg 3 (.c (.int .i64 0)), .asg 4 (.c (.bool false))]) .ret) .skip)) (.seq (.ops [.fadr 10 (.t 1) 0, .load 11 none (.t 10), .mn 12 true (.t 11) (.c (.int .i64 0)), .asg 5 (.t 12), .asg 6 (.c (.int .i64 4096))]) (.seq (.seq (.ops [.fadr 13 (.t 1) 0, .load 14 none (.t 13), .bin 15 .lss (.t 14) (.c (.int .i64 0)), .mov 16 (.t 15), .grd 16 false (.fadr 17 (.t 1) 1), .grd 16 false (.load 18 none (.t 17)), .grd 16 false (.fadr 19 (.t 1) 0), .grd 16 false (.load 20 none (.t 19)), .grd 16 false (.bin 21 .sub (.c (.int .i64 4096)) (.t 20)), .grd 16 false (.bin 22 .lss (.t 18) (.t 21)), .pick 23 (.t 16) (.c (.bool true)) (.t 22)]) (.cond (.t 23) (.ops [.fadr 24 (.t 1) 0, .load 25 none (.t 24), .fadr 26 (.t 1) 1, .load 27 none (.t 26), .bin 28 .add (.t 25) (.t 27), .mn 29 false (.t 28) (.c (.int .i64 4096)), .asg 6 (.t 29)]) .skip)) (.seq (.ops [.mov 30 (.t 5), .mov 31 (.t 6), .mov 32 (.t 5), .mov 33 (.t 6), .bin 34 .lss (.t 32) (.t 33), .asg 2 (.t 30), .asg 3 (.t 31), .asg 4 (.t 34)]) .ret)))))⟩
def fn58_b0 : VCode := (.seq (.ops [.bin 11 .lss (.t 10) (.t 9)]) (.seq (.cond (.t 11) .skip (.exit 0)) (.seq (.block 1 (.seq (.ops [.mov 12 (.t 10), .iadr 13 1 (.t 8) (.t 10), .load 14 none (.t 13), .asg 6 (.t 12), .asg 7 (.t 14)]) (.ops [.mov 15 (.t 5), .mov 16 (.t 1), .mov 17 (.t 6), .mov 18 (.t 7), .callv 19 (.t 16) [(.t 17), (.t 18)], .mksl 20 1 [(.t 19)], .app 21 1 (.t 15) (.t 20), .asg 5 (.t 21)]))) (.ops [.bin 22 .add (.t 10) (.c (.int .i64 1)), .mov 10 (.t 22)]))))
def fn58_l1 : VCode :=
(.clean [0, 1, 5, 8, 9, 10, 21] [4, 5] (.block 0 (.loop [0, 1, 5, 8, 9, 10, 21] fn58_b0)))
def fn58 : VFn := ⟨2, 24, [.tmp 4], (.seq (.ops [.asg 4 (.nil 1)]) (.seq (.ops [.asg 5 (.nil 1)]) (.seq (.seq (.ops [.mov 8 (.t 0), .len 9 (.t 8), .mov 10 (.c (.int .i64 0))])
     fn58_l1) (.seq (.ops [.mov 23 (.t 5), .asg 4 (.t 23)]) .ret))))⟩
def fn59 : VFn := ⟨3, 14, [.tmp 5], (.seq (.ops [.asg 5 (.c (.bool false))]) (.seq (.ops [.mov 6 (.t 1), .load 7 none (.t 2), .mov 8 (.t 0), .iadr 9 1 (.t 7) (.t 8), .load 10 none (.t 9), .len 11 (.t 10), .call 12 60 [(.t 6), (.t 11)], .bin 13 .eql (.t 12) (.c (.int .i64 0)), .asg 5 (.t 13)]) .ret))⟩
def fn60_b0 : VCode := (.seq (.ops [.bin 17 .lss (.t 16) (.t 15)]) (.seq (.cond (.t 17) .skip (.exit 0)) (.seq (.block 1 (.seq (.ops [.iadr 18 2 (.t 14) (.t 16), .load 19 (some 2) (.t 18), .alloc 7 [(.int .i64 0), (.int .i64 0)], .store none 2 (.t 7) (.t 19)]) (.seq (.block 2 (.seq (.ops [.fadr 21 (.t 7) 1, .load 22 none (.t 21), .bin 23 .leq (.t 22) (.c (.int .i64 0)), .asg 20 (.t 23)]) (.cond (.t 20) (.seq (.ops [.asg 4 (.c (.int .i64 1))]) .ret) (.seq (.ops [.fadr 25 (.t 7) 0, .load 26 none (.t 25), .bin 27 .lss (.t 26) (.c (.int .i64 0)), .mov 28 (.t 27), .grd 28 false (.fadr 29 (.t 7) 1), .grd 28 false (.load 30 none (.t 29)), .grd 28 false (.mov 31 (.t 1)), .grd 28 false (.fadr 32 (.t 7) 0), .grd 28 false (.load 33 none (.t 32)), .grd 28 false (.bin 34 .sub (.t 31) (.t 33)), .grd 28 false (.bin 35 .gtr (.t 30) (.t 34)), .pick 36 (.t 28) (.c (.bool true)) (.t 35), .asg 24 (.t 36)]) (.cond (.t 24) (.seq (.ops [.asg 4 (.c (.int .i64 2))]) .ret) (.seq (.ops [.fadr 38 (.t 7) 0, .load 39 none (.t 38), .mov 40 (.t 5), .bin 41 .lss (.t 39) (.t 40), .asg 37 (.t 41)]) (.cond (.t 37) (.seq (.ops [.asg 4 (.c (.int .i64 3))]) .ret) .skip))))))) (.ops [.fadr 42 (.t 7) 0, .load 43 none (.t 42), .fadr 44 (.t 7) 1, .load 45 none (.t 44), .bin 46 .add (.t 43) (.t 45), .bin 47 .add (.t 46) (.c (.int .i64 1)), .asg 5 (.t 47)])))) (.ops [.bin 48 .add (.t 16) (.c (.int .i64 1)), .mov 16 (.t 48)]))))
def fn60_l1 : VCode :=
(.clean [0, 1, 5, 14, 15, 16] [4] (.block 0 (.loop [0, 1, 5, 14, 15, 16] fn60_b0)))
def fn60 : VFn := ⟨2, 49, [.tmp 4], (.seq (.ops [.asg 4 (.c (.int .i64 0))]) (.seq (.seq (.ops [.mov 8 (.t 1), .bin 9 .lss (.t 8) (.c (.int .i64 0)), .mov 10 (.t 9), .grd 10 false (.mov 11 (.t 1)), .grd 10 false (.bin 12 .gtr (.t 11) (.c (.int .i64 4096))), .pick 13 (.t 10) (.c (.bool true)) (.t 12)]) (.cond (.t 13) (.seq (.ops [.asg 4 (.c (.int .i64 2))]) .ret) .skip)) (.seq (.ops [.asg 5 (.c (.int .i64 0))]) (.seq (.seq (.ops [.mov 14 (.t 0), .len 15 (.t 14), .mov 16 (.c (.int .i64 0))])
      fn60_l1) (.seq (.ops [.asg 4 (.c (.int .i64 0))]) .ret)))))⟩
def fn61 : VFn := ⟨2, 9, [.tmp 4], (.seq (.ops [.asg 4 (.c (.bool false))]) (.seq (.ops [.mov 5 (.t 0), .mov 6 (.t 1), .call 7 79 [(.t 5), (.t 6)], .bin 8 .geq (.t 7) (.c (.int .i64 0)), .asg 4 (.t 8)]) .ret))⟩
def fn62_b0 : VCode := (.seq (.ops [.bin 17 .lss (.t 16) (.t 15)]) (.seq (.cond (.t 17) .skip (.exit 2)) (.seq (.block 3 (.seq (.ops [.iadr 18 2 (.t 14) (.t 16), .load 19 (some 2) (.t 18), .alloc 6 [(.int .i64 0), (.int .i64 0)], .store none 2 (.t 6) (.t 19)]) (.seq (.ops [.mov 20 (.t 0), .mov 21 (.t 3), .load 22 (some 2) (.t 6), .yield 23 (.t 20) [(.t 21), (.t 22)], .un 24 .not (.t 23)]) (.cond (.t 24) .ret .skip)))) (.ops [.bin 25 .add (.t 16) (.c (.int .i64 1)), .mov 16 (.t 25)]))))
def fn62_l1 : VCode :=
(.clean [0, 3, 4, 7, 8, 9, 13, 14, 15, 16] [0, 7, 8, 9] (.block 2 (.loop [0, 3, 4, 7, 8, 9, 13, 14, 15, 16] fn62_b0)))
def fn62_b2 : VCode := (.seq (.ops [.bin 10 .lss (.t 9) (.t 8)]) (.seq (.cond (.t 10) .skip (.exit 0)) (.seq (.block 1 (.seq (.ops [.mov 11 (.t 9), .iadr 12 1 (.t 7) (.t 9), .load 13 none (.t 12), .asg 3 (.t 11), .asg 4 (.t 13)]) (.seq (.ops [.mov 14 (.t 4), .len 15 (.t 14), .mov 16 (.c (.int .i64 0))])
       fn62_l1))) (.ops [.bin 26 .add (.t 9) (.c (.int .i64 1)), .mov 9 (.t 26)]))))
def fn62_l3 : VCode :=
(.clean [0, 7, 8, 9] [] (.block 0 (.loop [0, 7, 8, 9] fn62_b2)))
def fn62 : VFn := ⟨2, 27, [], (.seq (.ops [.load 7 none (.t 1), .len 8 (.t 7), .mov 9 (.c (.int .i64 0))])
  fn62_l3)⟩
def fn63_b0 : VCode := (.seq (.ops [.bin 13 .lss (.t 12) (.t 11)]) (.seq (.cond (.t 13) .skip (.exit 0)) (.seq (.block 1 (.seq (.ops [.iadr 14 1 (.t 10) (.t 12), .load 15 none (.t 14), .asg 6 (.t 15)]) (.seq (.ops [.mov 16 (.t 6), .call 17 19 [(.t 16)], .asg 7 (.t 17)]) (.seq (.ops [.mov 18 (.t 7), .bin 19 .neq (.t 18) (.c (.int .i64 0))]) (.cond (.t 19) (.seq (.ops [.mov 20 (.t 7), .asg 4 (.t 20)]) .ret) .skip))))) (.ops [.bin 21 .add (.t 12) (.c (.int .i64 1)), .mov 12 (.t 21)]))))
def fn63_l1 : VCode :=
(.clean [0, 1, 10, 11, 12] [0, 1, 4] (.block 0 (.loop [0, 1, 10, 11, 12] fn63_b0)))
def fn63 : VFn := ⟨2, 28, [.tmp 4], (.seq (.ops [.asg 4 (.c (.int .i64 0))]) (.seq (.seq (.ops [.mov 8 (.t 0), .mov 9 (.t 1), .mksl 10 1 [(.t 8), (.t 9)], .len 11 (.t 10), .mov 12 (.c (.int .i64 0))])
    fn63_l1) (.seq (.seq (.ops [.mov 22 (.t 0), .call 23 46 [(.t 22)], .mov 24 (.t 1), .call 25 46 [(.t 24)], .call 26 80 [(.t 23), (.t 25)], .un 27 .not (.t 26)]) (.cond (.t 27) (.seq (.ops [.asg 4 (.c (.int .i64 22))]) .ret) .skip)) (.seq (.ops [.asg 4 (.c (.int .i64 0))]) .ret))))⟩
def fn64_b0 : VCode := (.ops [.asg 7 (.t 11)])
def fn64_b1 : VCode := (.block 1 (.seq (.seq (.ops [.mov 12 (.t 7), .load 13 none (.t 6), .bin 14 .eql (.t 12) (.t 13)]) (.cond (.t 14) (.ops [.load 15 none (.t 5), .load 16 none (.t 5), .len 17 (.t 16), .bin 18 .sub (.t 17) (.c (.int .i64 1)), .iadr 19 2 (.t 15) (.t 18), .fadr 20 (.t 19) 1, .load 21 none (.t 20), .bin 22 .add (.t 21) (.c (.int .i64 1)), .iadr 23 2 (.t 15) (.t 18), .fadr 24 (.t 23) 1, .store none 1 (.t 24) (.t 22)]) (.ops [.load 25 none (.t 5), .mov 26 (.t 7), .build 27 [(.int .i64 0), (.int .i64 0)] [(0, 1, (.t 26)), (1, 1, (.c (.int .i64 1)))], .mksl 28 2 [(.t 27)], .app 29 2 (.t 25) (.t 28), .store none 1 (.t 5) (.t 29)]))) (.ops [.mov 30 (.t 7), .bin 31 .add (.t 30) (.c (.int .i64 1)), .store none 1 (.t 6) (.t 31)])))
def fn64 : VFn := ⟨2, 33, [.tmp 4], (.seq (.ops [.asg 4 (.nil 2)]) (.seq (.ops [.alloc 5 [(.list 2 [])]]) (.seq (.ops [.alloc 6 [(.int .i64 0)], .store none 1 (.t 6) (.c (.int .i64 (-1)))]) (.seq (.seq (.ops [.mov 8 (.t 0), .mov 9 (.t 1), .call 10 81 [(.t 8), (.t 9)]]) (.block 0 (.rng (.t 10) [11] fn64_b0 fn64_b1))) (.seq (.ops [.load 32 none (.t 5), .asg 4 (.t 32)]) .ret)))))⟩
def fn65 : VFn := ⟨1, 5, [.tmp 2], (.seq (.ops [.asg 2 (.nil 2)]) (.seq (.ops [.mov 3 (.t 0), .call 4 82 [(.c (.nils 2)), (.t 3)], .asg 2 (.t 4)]) .ret))⟩
def fn66 : VFn := ⟨3, 8, [.tmp 6], (.seq (.ops [.box 3 (.t 0), .box 4 (.t 1), .box 5 (.t 2), .asg 6 (.c .nilf)]) (.seq (.ops [.mkf 7 83 [(.t 3), (.t 4), (.t 5)], .asg 6 (.t 7)]) .ret))⟩
def fn67 : VFn := ⟨2, 9, [.tmp 4], (.seq (.ops [.asg 4 (.c (.bool false))]) (.seq (.ops [.mov 5 (.t 0), .mov 6 (.t 5), .grd 6 true (.mov 7 (.t 1)), .pick 8 (.t 6) (.t 7) (.c (.bool false)), .asg 4 (.t 8)]) .ret))⟩
def fn68_b0 : VCode := (.seq (.seq (.ops [.mov 11 (.t 5), .mov 12 (.t 0), .len 13 (.t 12), .bin 14 .lss (.t 11) (.t 13)]) (.cond (.t 14) .skip (.exit 0))) (.seq (.block 1 (.seq (.drw [] [] none [0, 1, 2, 3, 4, 5, 6, 7, 8] [.mov 17 (.t 0), .mov 18 (.t 5), .iadr 19 8 (.t 17) (.t 18), .load 20 (some 8) (.t 19), .mov 21 (.t 1), .mov 22 (.t 5), .iadr 23 8 (.t 21) (.t 22), .load 24 (some 8) (.t 23), .eqa 25 true 8 (.t 20) (.t 24)]) (.cond (.t 25) (.seq (.ops [.asg 4 (.c (.bool false))]) .ret) .skip))) (.ops [.mov 15 (.t 5), .bin 16 .add (.t 15) (.c (.int .i64 1)), .asg 5 (.t 16)])))
def fn68_l1 : VCode :=
(.clean [0, 1, 5] [4] (.block 0 (.loop [0, 1, 5] fn68_b0)))
def fn68 : VFn := ⟨2, 26, [.tmp 4], (.seq (.ops [.asg 4 (.c (.bool false))]) (.seq (.seq (.ops [.mov 6 (.t 0), .len 7 (.t 6), .mov 8 (.t 1), .len 9 (.t 8), .bin 10 .neq (.t 7) (.t 9)]) (.cond (.t 10) (.seq (.ops [.asg 4 (.c (.bool false))]) .ret) .skip)) (.seq (.seq (.ops [.asg 5 (.c (.int .i64 0))])
     fn68_l1) (.seq (.ops [.asg 4 (.c (.bool true))]) .ret))))⟩
def fn69 : VFn := ⟨2, 9, [.tmp 4], (.seq (.ops [.asg 4 (.nil 2)]) (.seq (.ops [.mov 5 (.t 0), .mov 6 (.t 1), .call 7 66 [(.t 5), (.t 6), (.c (.func 85 []))], .call 8 65 [(.t 7)], .asg 4 (.t 8)]) .ret))⟩
def fn70 : VFn := ⟨2, 9, [.tmp 4], (.seq (.ops [.asg 4 (.c (.bool false))]) (.seq (.ops [.mov 5 (.t 0), .mov 6 (.t 1), .call 7 86 [(.t 5), (.t 6)], .bin 8 .geq (.t 7) (.c (.int .i64 0)), .asg 4 (.t 8)]) .ret))⟩
def fn71 : VFn := ⟨1, 9, [.tmp 2], (.seq (.ops [.asg 2 (.c (.bool false))]) (.seq (.ops [.mov 3 (.t 0), .bin 4 .lss (.t 3) (.c (.int .i64 1)), .mov 5 (.t 4), .grd 5 false (.mov 6 (.t 0)), .grd 5 false (.bin 7 .gtr (.t 6) (.c (.int .i64 4096))), .pick 8 (.t 5) (.c (.bool true)) (.t 7), .asg 2 (.t 8)]) .ret))⟩
def fn72_b0 : VCode := (.seq (.ops [.bin 14 .lss (.t 13) (.t 12)]) (.seq (.cond (.t 14) .skip (.exit 0)) (.seq (.block 1 (.seq (.ops [.iadr 15 1 (.t 11) (.t 13), .load 16 none (.t 15), .asg 7 (.t 16)]) (.ops [.mov 17 (.t 5), .mov 18 (.t 1), .mov 19 (.t 7), .callv 20 (.t 18) [(.t 19)], .mksl 21 1 [(.t 20)], .app 22 1 (.t 17) (.t 21), .asg 5 (.t 22)]))) (.ops [.bin 23 .add (.t 13) (.c (.int .i64 1)), .mov 13 (.t 23)]))))
def fn72_l1 : VCode :=
(.clean [0, 1, 5, 10, 11, 12, 13, 22] [4, 5] (.block 0 (.loop [0, 1, 5, 10, 11, 12, 13, 22] fn72_b0)))
def fn72 : VFn := ⟨2, 25, [.tmp 4], (.seq (.ops [.asg 4 (.nil 1)]) (.seq (.ops [.mov 8 (.t 0), .len 9 (.t 8), .make 10 (.int .i64 0) (.c (.int .i64 0)) (.t 9), .asg 5 (.t 10)]) (.seq (.seq (.ops [.mov 11 (.t 0), .len 12 (.t 11), .mov 13 (.c (.int .i64 0))])
     fn72_l1) (.seq (.ops [.mov 24 (.t 5), .asg 4 (.t 24)]) .ret))))⟩
def fn73 : VFn := ⟨1, 5, [.tmp 2], (.seq (.ops [.asg 2 (.c (.int .i64 0))]) (.seq (.ops [.mov 3 (.t 0), .len 4 (.t 3), .asg 2 (.t 4)]) .ret))⟩
def fn74_b0 : VCode := (.seq (.ops [.bin 37 .lss (.t 36) (.t 35)]) (.seq (.cond (.t 37) .skip (.exit 0)) (.seq (.block 1 (.seq (.ops [.mov 38 (.t 36), .asg 11 (.t 38)]) (.drw [] [([0, 1, 2, 3, 4, 5, 6, 7, 8, 9, 10, 11, 12], 13)] (some ([14], [], 15, [])) [] [.mov 39 (.t 10), .mov 40 (.t 11), .mov 41 (.t 2), .fadr 42 (.t 3) 1, .load 43 none (.t 42), .mov 44 (.t 11), .iadr 45 1 (.t 43) (.t 44), .load 46 none (.t 45), .fadr 47 (.t 4) 1, .load 48 none (.t 47), .mov 49 (.t 11), .iadr 50 1 (.t 48) (.t 49), .load 51 none (.t 50), .callv 52 (.t 41) [(.t 46), (.t 51)], .iadr 53 1 (.t 39) (.t 40), .store none 1 (.t 53) (.t 52)]))) (.ops [.bin 54 .add (.t 36) (.c (.int .i64 1)), .mov 36 (.t 54)]))))
def fn74_l1 : VCode :=
(.clean [2, 3, 4, 6, 10, 33, 35, 36] [3, 6, 7, 10] (.block 0 (.loop [2, 3, 4, 6, 10, 33, 35, 36] fn74_b0)))
def fn74 : VFn := ⟨3, 59, [.cell 6 (some 2), .tmp 7], (.seq (.ops [.box 3 (.t 0), .box 4 (.t 1), .alloc 6 [(.int .i64 0), (.list 1 [])], .asg 7 (.c (.int .i64 0))]) (.seq (.seq (.ops [.load 12 (some 2) (.t 3), .call 13 48 [(.t 12)], .asg 8 (.t 13)]) (.seq (.ops [.mov 14 (.t 8), .bin 15 .neq (.t 14) (.c (.int .i64 0))]) (.cond (.t 15) (.seq (.ops [.build 16 [(.int .i64 0), (.list 1 [])] [], .mov 17 (.t 8), .store none 2 (.t 6) (.t 16), .asg 7 (.t 17)]) .ret) .skip))) (.seq (.seq (.ops [.load 18 (some 2) (.t 4), .call 19 48 [(.t 18)], .asg 9 (.t 19)]) (.seq (.ops [.mov 20 (.t 9), .bin 21 .neq (.t 20) (.c (.int .i64 0))]) (.cond (.t 21) (.seq (.ops [.build 22 [(.int .i64 0), (.list 1 [])] [], .mov 23 (.t 9), .store none 2 (.t 6) (.t 22), .asg 7 (.t 23)]) .ret) .skip))) (.seq (.seq (.ops [.fadr 24 (.t 3) 0, .load 25 none (.t 24), .fadr 26 (.t 4) 0, .load 27 none (.t 26), .bin 28 .neq (.t 25) (.t 27)]) (.cond (.t 28) (.seq (.ops [.build 29 [(.int .i64 0), (.list 1 [])] [], .store none 2 (.t 6) (.t 29), .asg 7 (.c (.int .i64 22))]) .ret) .skip)) (.seq (.ops [.fadr 30 (.t 3) 1, .load 31 none (.t 30), .len 32 (.t 31), .make 33 (.int .u64 0) (.t 32) (.t 32), .asg 10 (.t 33)]) (.seq (.seq (.ops [.mov 34 (.t 10), .len 35 (.t 34), .mov 36 (.c (.int .i64 0))])
        fn74_l1) (.seq (.ops [.fadr 55 (.t 3) 0, .load 56 none (.t 55), .mov 57 (.t 10), .build 58 [(.int .i64 0), (.list 1 [])] [(0, 1, (.t 56)), (1, 1, (.t 57))], .store none 2 (.t 6) (.t 58), .asg 7 (.c (.int .i64 0))]) .ret)))))))⟩
def fn75 : VFn := ⟨2, 8, [.tmp 4], (.seq (.ops [.asg 4 (.c (.int .u64 0))]) (.seq (.ops [.mov 5 (.t 0), .mov 6 (.t 1), .bin 7 .or (.t 5) (.t 6), .asg 4 (.t 7)]) .ret))⟩
def fn76_b0 : VCode := (.seq (.seq (.ops [.mov 24 (.t 5), .bin 25 .neq (.t 24) (.c (.int .u64 0))]) (.cond (.t 25) .skip (.exit 2))) (.block 3 (.seq (.seq (.ops [.mov 26 (.t 0), .mov 27 (.t 4), .bin 28 .mul (.t 27) (.c (.int .i64 64)), .mov 29 (.t 5), .call 30 77 [(.t 29)], .bin 31 .add (.t 28) (.t 30), .yield 32 (.t 26) [(.t 31)], .un 33 .not (.t 32)]) (.cond (.t 33) .ret .skip)) (.ops [.mov 34 (.t 5), .mov 35 (.t 5), .bin 36 .sub (.t 35) (.c (.int .u64 1)), .bin 37 .and (.t 34) (.t 36), .asg 5 (.t 37)]))))
def fn76_l1 : VCode :=
(.clean [0, 1, 2, 4, 5, 10, 11, 12] [0, 1, 2, 10, 11, 12] (.block 2 (.loop [0, 1, 2, 4, 5, 10, 11, 12] fn76_b0)))
def fn76_b2 : VCode := (.seq (.ops [.bin 13 .lss (.t 12) (.t 11)]) (.seq (.cond (.t 13) .skip (.exit 0)) (.seq (.block 1 (.seq (.ops [.mov 14 (.t 12), .iadr 15 1 (.t 10) (.t 12), .load 16 none (.t 15), .asg 4 (.t 14), .asg 5 (.t 16)]) (.seq (.ops [.mov 17 (.t 5), .mov 18 (.t 4), .load 19 none (.t 2), .fadr 20 (.t 1) 0, .load 21 none (.t 20), .call 22 51 [(.t 18), (.t 19), (.t 21)], .bin 23 .and (.t 17) (.t 22), .asg 5 (.t 23)])
       fn76_l1))) (.ops [.bin 38 .add (.t 12) (.c (.int .i64 1)), .mov 12 (.t 38)]))))
def fn76_l3 : VCode :=
(.clean [0, 1, 2, 10, 11, 12] [] (.block 0 (.loop [0, 1, 2, 10, 11, 12] fn76_b2)))
def fn76 : VFn := ⟨3, 39, [], (.seq (.seq (.ops [.load 6 (some 2) (.t 1), .call 7 48 [(.t 6)], .bin 8 .neq (.t 7) (.c (.int .i64 0))]) (.cond (.t 8) .ret .skip)) (.seq (.ops [.fadr 9 (.t 1) 1, .load 10 none (.t 9), .len 11 (.t 10), .mov 12 (.c (.int .i64 0))])
   fn76_l3))⟩
def fn78_b0 : VCode := (.seq (.ops [.bin 9 .lss (.t 8) (.t 7)]) (.seq (.cond (.t 9) .skip (.exit 0)) (.seq (.block 1 (.seq (.ops [.mov 10 (.t 8), .asg 5 (.t 10)]) (.seq (.ops [.mov 11 (.t 1), .mov 12 (.t 0), .mov 13 (.t 5), .iadr 14 2 (.t 12) (.t 13), .load 15 (some 2) (.t 14), .callv 16 (.t 11) [(.t 15)]]) (.cond (.t 16) (.seq (.ops [.mov 17 (.t 5), .asg 4 (.t 17)]) .ret) .skip)))) (.ops [.bin 18 .add (.t 8) (.c (.int .i64 1)), .mov 8 (.t 18)]))))
def fn78_l1 : VCode :=
(.clean [0, 1, 7, 8] [4] (.block 0 (.loop [0, 1, 7, 8] fn78_b0)))
def fn78 : VFn := ⟨2, 19, [.tmp 4], (.seq (.ops [.asg 4 (.c (.int .i64 0))]) (.seq (.seq (.ops [.mov 6 (.t 0), .len 7 (.t 6), .mov 8 (.c (.int .i64 0))])
    fn78_l1) (.seq (.ops [.asg 4 (.c (.int .i64 (-1)))]) .ret)))⟩
def fn79_b0 : VCode := (.seq (.ops [.bin 9 .lss (.t 8) (.t 7)]) (.seq (.cond (.t 9) .skip (.exit 0)) (.seq (.block 1 (.seq (.ops [.mov 10 (.t 8), .asg 5 (.t 10)]) (.seq (.ops [.mov 11 (.t 1), .mov 12 (.t 0), .mov 13 (.t 5), .iadr 14 1 (.t 12) (.t 13), .load 15 none (.t 14), .eqb 16 false (.t 11) (.t 15)]) (.cond (.t 16) (.seq (.ops [.mov 17 (.t 5), .asg 4 (.t 17)]) .ret) .skip)))) (.ops [.bin 18 .add (.t 8) (.c (.int .i64 1)), .mov 8 (.t 18)]))))
def fn79_l1 : VCode :=
(.clean [0, 1, 7, 8] [4] (.block 0 (.loop [0, 1, 7, 8] fn79_b0)))
def fn79 : VFn := ⟨2, 19, [.tmp 4], (.seq (.ops [.asg 4 (.c (.int .i64 0))]) (.seq (.seq (.ops [.mov 6 (.t 0), .len 7 (.t 6), .mov 8 (.c (.int .i64 0))])
    fn79_l1) (.seq (.ops [.asg 4 (.c (.int .i64 (-1)))]) .ret)))⟩
def fn80_b0 : VCode := (.seq (.ops [.bin 14 .lss (.t 13) (.t 12)]) (.seq (.cond (.t 14) .skip (.exit 0)) (.seq (.block 1 (.seq (.ops [.mov 15 (.t 13), .asg 5 (.t 15)]) (.seq (.drw [] [] none [0, 1, 2, 3, 4, 5, 6, 7, 8] [.mov 16 (.t 0), .mov 17 (.t 5), .iadr 18 1 (.t 16) (.t 17), .load 19 none (.t 18), .mov 20 (.t 1), .mov 21 (.t 5), .iadr 22 1 (.t 20) (.t 21), .load 23 none (.t 22), .bin 24 .neq (.t 19) (.t 23)]) (.cond (.t 24) (.seq (.ops [.asg 4 (.c (.bool false))]) .ret) .skip)))) (.ops [.bin 25 .add (.t 13) (.c (.int .i64 1)), .mov 13 (.t 25)]))))
def fn80_l1 : VCode :=
(.clean [0, 1, 12, 13] [4] (.block 0 (.loop [0, 1, 12, 13] fn80_b0)))
def fn80 : VFn := ⟨2, 26, [.tmp 4], (.seq (.ops [.asg 4 (.c (.bool false))]) (.seq (.seq (.ops [.mov 6 (.t 0), .len 7 (.t 6), .mov 8 (.t 1), .len 9 (.t 8), .bin 10 .neq (.t 7) (.t 9)]) (.cond (.t 10) (.seq (.ops [.asg 4 (.c (.bool false))]) .ret) .skip)) (.seq (.seq (.ops [.mov 11 (.t 0), .len 12 (.t 11), .mov 13 (.c (.int .i64 0))])
     fn80_l1) (.seq (.ops [.asg 4 (.c (.bool true))]) .ret))))⟩
def fn81 : VFn := ⟨2, 6, [.tmp 4], (.seq (.ops [.box 2 (.t 0), .box 3 (.t 1), .asg 4 (.c .nilf)]) (.seq (.ops [.mkf 5 87 [(.t 2), (.t 3)], .asg 4 (.t 5)]) .ret))⟩
def fn82_b0 : VCode := (.ops [.alloc 5 [(.int .i64 0), (.int .i64 0)], .store none 2 (.t 5) (.t 7)])
def fn82_b1 : VCode := (.block 1 (.ops [.load 8 none (.t 2), .load 9 (some 2) (.t 5), .mksl 10 2 [(.t 9)], .app 11 2 (.t 8) (.t 10), .store none 1 (.t 2) (.t 11)]))
def fn82 : VFn := ⟨2, 13, [.tmp 4], (.seq (.ops [.box 2 (.t 0), .asg 4 (.nil 2)]) (.seq (.seq (.ops [.mov 6 (.t 1)]) (.block 0 (.rng (.t 6) [7] fn82_b0 fn82_b1))) (.seq (.ops [.load 12 none (.t 2), .asg 4 (.t 12)]) .ret)))⟩
def fn83_b0 : VCode := (.seq (.ops [.bin 19 .lss (.t 18) (.t 17)]) (.seq (.cond (.t 19) .skip (.exit 0)) (.seq (.block 1 (.seq (.ops [.mov 20 (.t 18), .iadr 21 3 (.t 16) (.t 18), .load 22 (some 3) (.t 21), .alloc 10 [(.int .i64 0), (.int .i64 0), (.int .i64 0)], .asg 9 (.t 20), .store none 3 (.t 10) (.t 22)]) (.seq (.drw [] [] (some ([0, 1, 2, 3, 4, 5, 6, 7], [], 8, [])) [] [.fadr 23 (.t 10) 1, .load 24 none (.t 23), .aadr 25 (.t 6) (.t 24) 2 1, .load 26 none (.t 25), .fadr 27 (.t 10) 2, .load 28 none (.t 27), .bin 29 .add (.t 26) (.t 28), .aadr 30 (.t 6) (.t 24) 2 1, .store none 1 (.t 30) (.t 29)]) (.seq (.seq (.drw [] [] none [0, 1, 2, 3, 4, 5, 6, 7, 8, 9, 10, 11, 12, 13, 14, 15] [.mov 31 (.t 9), .bin 32 .add (.t 31) (.c (.int .i64 1)), .mov 33 (.t 5), .len 34 (.t 33), .bin 35 .lss (.t 32) (.t 34), .mov 36 (.t 35), .grd 36 true (.mov 37 (.t 5)), .grd 36 true (.mov 38 (.t 9)), .grd 36 true (.bin 39 .add (.t 38) (.c (.int .i64 1))), .grd 36 true (.iadr 40 3 (.t 37) (.t 39)), .grd 36 true (.fadr 41 (.t 40) 0), .grd 36 true (.load 42 none (.t 41)), .grd 36 true (.fadr 43 (.t 10) 0), .grd 36 true (.load 44 none (.t 43)), .grd 36 true (.bin 45 .eql (.t 42) (.t 44)), .pick 46 (.t 36) (.t 45) (.c (.bool false))]) (.cond (.t 46) (.exit 1) .skip)) (.seq (.ops [.load 47 none (.t 3), .aadr 48 (.t 6) (.c (.int .i64 0)) 2 1, .load 49 none (.t 48), .bin 50 .gtr (.t 49) (.c (.int .i64 0)), .aadr 51 (.t 6) (.c (.int .i64 1)) 2 1, .load 52 none (.t 51), .bin 53 .gtr (.t 52) (.c (.int .i64 0)), .callv 54 (.t 47) [(.t 50), (.t 53)], .asg 11 (.t 54)]) (.seq (.seq (.ops [.mov 55 (.t 11), .mov 56 (.t 55), .grd 56 true (.mov 57 (.t 8)), .grd 56 true (.un 58 .not (.t 57)), .pick 59 (.t 56) (.t 58) (.c (.bool false))]) (.cond (.t 59) (.ops [.fadr 60 (.t 10) 0, .load 61 none (.t 60), .asg 7 (.t 61)]) .skip)) (.seq (.seq (.ops [.mov 62 (.t 11), .un 63 .not (.t 62), .mov 64 (.t 63), .grd 64 true (.mov 65 (.t 8)), .pick 66 (.t 64) (.t 65) (.c (.bool false)), .mov 67 (.t 66), .grd 67 true (.mov 68 (.t 0)), .grd 67 true (.mov 69 (.t 7)), .grd 67 true (.fadr 70 (.t 10) 0), .grd 67 true (.load 71 none (.t 70)), .grd 67 true (.mov 72 (.t 7)), .grd 67 true (.bin 73 .sub (.t 71) (.t 72)), .grd 67 true (.build 74 [(.int .i64 0), (.int .i64 0)] [(0, 1, (.t 69)), (1, 1, (.t 73))]), .grd 67 true (.yield 75 (.t 68) [(.t 74)]), .grd 67 true (.un 76 .not (.t 75)), .pick 77 (.t 67) (.t 76) (.c (.bool false))]) (.cond (.t 77) .ret .skip)) (.ops [.mov 78 (.t 11), .asg 8 (.t 78)])))))))) (.ops [.bin 79 .add (.t 18) (.c (.int .i64 1)), .mov 18 (.t 79)]))))
def fn83_l1 : VCode :=
(.clean [0, 3, 5, 6, 7, 8, 15, 16, 17, 18] [] (.block 0 (.loop [0, 3, 5, 6, 7, 8, 15, 16, 17, 18] fn83_b0)))
def fn83 : VFn := ⟨4, 80, [], (.seq (.ops [.load 12 none (.t 1), .load 13 none (.t 2), .mksl 14 1 [(.t 12), (.t 13)], .call 15 84 [(.t 14)], .asg 5 (.t 15)]) (.seq (.ops [.alloc 6 [(.int .i64 0), (.int .i64 0)]]) (.seq (.ops [.asg 7 (.c (.int .i64 0)), .asg 8 (.c (.bool false))]) (.seq (.ops [.mov 16 (.t 5), .len 17 (.t 16), .mov 18 (.c (.int .i64 0))])
     fn83_l1))))⟩
def fn84_b0 : VCode := (.seq (.ops [.bin 21 .lss (.t 20) (.t 19)]) (.seq (.cond (.t 21) .skip (.exit 2)) (.seq (.block 3 (.seq (.ops [.iadr 22 2 (.t 18) (.t 20), .load 23 (some 2) (.t 22), .alloc 7 [(.int .i64 0), (.int .i64 0)], .store none 2 (.t 7) (.t 23)]) (.seq (.ops [.load 25 (some 2) (.t 7), .call 26 57 [(.t 25)], .mov 24 (.t 26), .ext 27 (.t 24) 0, .ext 28 (.t 24) 1, .ext 29 (.t 24) 2, .asg 8 (.t 27), .asg 9 (.t 28), .asg 10 (.t 29)]) (.seq (.ops [.mov 30 (.t 10)]) (.cond (.t 30) (.ops [.mov 31 (.t 3), .mov 32 (.t 8), .mov 33 (.t 4), .build 34 [(.int .i64 0), (.int .i64 0), (.int .i64 0)] [(0, 1, (.t 32)), (1, 1, (.t 33)), (2, 1, (.c (.int .i64 1)))], .mov 35 (.t 9), .mov 36 (.t 4), .build 37 [(.int .i64 0), (.int .i64 0), (.int .i64 0)] [(0, 1, (.t 35)), (1, 1, (.t 36)), (2, 1, (.c (.int .i64 (-1))))], .mksl 38 3 [(.t 34), (.t 37)], .app 39 3 (.t 31) (.t 38), .asg 3 (.t 39)]) .skip))))) (.ops [.bin 40 .add (.t 20) (.c (.int .i64 1)), .mov 20 (.t 40)]))))
def fn84_l1 : VCode :=
(.clean [0, 3, 4, 5, 11, 12, 13, 17, 18, 19, 20, 39] [0, 2, 3, 11, 12, 13, 39] (.block 2 (.loop [0, 3, 4, 5, 11, 12, 13, 17, 18, 19, 20, 39] fn84_b0)))
def fn84_b2 : VCode := (.seq (.ops [.bin 14 .lss (.t 13) (.t 12)]) (.seq (.cond (.t 14) .skip (.exit 0)) (.seq (.block 1 (.seq (.ops [.mov 15 (.t 13), .iadr 16 1 (.t 11) (.t 13), .load 17 none (.t 16), .asg 4 (.t 15), .asg 5 (.t 17)]) (.seq (.ops [.mov 18 (.t 5), .len 19 (.t 18), .mov 20 (.c (.int .i64 0))])
       fn84_l1))) (.ops [.bin 41 .add (.t 13) (.c (.int .i64 1)), .mov 13 (.t 41)]))))
def fn84_l3 : VCode :=
(.clean [0, 3, 11, 12, 13, 39] [2, 3] (.block 0 (.loop [0, 3, 11, 12, 13, 39] fn84_b2)))
def fn84 : VFn := ⟨1, 45, [.tmp 2], (.seq (.ops [.asg 2 (.nil 3)]) (.seq (.ops [.asg 3 (.nil 3)]) (.seq (.seq (.ops [.mov 11 (.t 0), .len 12 (.t 11), .mov 13 (.c (.int .i64 0))])
     fn84_l3) (.seq (.ops [.mov 42 (.t 3), .srt 43 88 (.t 42) (.c (.func 89 []))]) (.seq (.ops [.mov 44 (.t 3), .asg 2 (.t 44)]) .ret)))))⟩
def fn85 : VFn := ⟨2, 9, [.tmp 4], (.seq (.ops [.asg 4 (.c (.bool false))]) (.seq (.ops [.mov 5 (.t 0), .mov 6 (.t 5), .grd 6 false (.mov 7 (.t 1)), .pick 8 (.t 6) (.c (.bool true)) (.t 7), .asg 4 (.t 8)]) .ret))⟩
def fn86_b0 : VCode := (.seq (.ops [.bin 9 .lss (.t 8) (.t 7)]) (.seq (.cond (.t 9) .skip (.exit 0)) (.seq (.block 1 (.seq (.ops [.mov 10 (.t 8), .asg 5 (.t 10)]) (.seq (.ops [.mov 11 (.t 1), .mov 12 (.t 0), .mov 13 (.t 5), .iadr 14 1 (.t 12) (.t 13), .load 15 none (.t 14), .callv 16 (.t 11) [(.t 15)]]) (.cond (.t 16) (.seq (.ops [.mov 17 (.t 5), .asg 4 (.t 17)]) .ret) .skip)))) (.ops [.bin 18 .add (.t 8) (.c (.int .i64 1)), .mov 8 (.t 18)]))))
def fn86_l1 : VCode :=
(.clean [0, 1, 7, 8] [4] (.block 0 (.loop [0, 1, 7, 8] fn86_b0)))
def fn86 : VFn := ⟨2, 19, [.tmp 4], (.seq (.ops [.asg 4 (.c (.int .i64 0))]) (.seq (.seq (.ops [.mov 6 (.t 0), .len 7 (.t 6), .mov 8 (.c (.int .i64 0))])
    fn86_l1) (.seq (.ops [.asg 4 (.c (.int .i64 (-1)))]) .ret)))⟩
def fn87_b0 : VCode := (.seq (.ops [.bin 8 .lss (.t 7) (.t 6)]) (.seq (.cond (.t 8) .skip (.exit 0)) (.seq (.block 1 (.seq (.ops [.mov 9 (.t 7), .asg 4 (.t 9)]) (.seq (.drw [] [] (some ([0, 1, 2, 3, 4, 5, 6, 7, 8, 9, 10, 11], [], 12, [])) [13, 14] [.load 10 none (.t 1), .mov 11 (.t 4), .iadr 12 8 (.t 10) (.t 11), .load 13 (some 8) (.t 12), .load 14 none (.t 2), .mov 15 (.t 4), .iadr 16 8 (.t 14) (.t 15), .load 17 (some 8) (.t 16), .eqa 18 true 8 (.t 13) (.t 17), .mov 19 (.t 18), .grd 19 true (.mov 20 (.t 0)), .grd 19 true (.mov 21 (.t 4)), .grd 19 true (.yield 22 (.t 20) [(.t 21)]), .grd 19 true (.un 23 .not (.t 22)), .pick 24 (.t 19) (.t 23) (.c (.bool false))]) (.cond (.t 24) .ret .skip)))) (.ops [.bin 25 .add (.t 7) (.c (.int .i64 1)), .mov 7 (.t 25)]))))
def fn87_l1 : VCode :=
(.clean [0, 1, 2, 6, 7] [] (.block 0 (.loop [0, 1, 2, 6, 7] fn87_b0)))
def fn87 : VFn := ⟨3, 26, [], (.seq (.ops [.load 5 none (.t 1), .len 6 (.t 5), .mov 7 (.c (.int .i64 0))])
  fn87_l1)⟩
def fn89 : VFn := ⟨2, 10, [.tmp 4], (.seq (.ops [.box 2 (.t 0), .box 3 (.t 1), .asg 4 (.c (.int .i64 0))]) (.seq (.ops [.fadr 5 (.t 2) 0, .load 6 none (.t 5), .fadr 7 (.t 3) 0, .load 8 none (.t 7), .call 9 90 [(.t 6), (.t 8)], .asg 4 (.t 9)]) .ret))⟩
def fn90 : VFn := ⟨2, 20, [.tmp 4], (.seq (.ops [.asg 4 (.c (.int .i64 0))]) (.seq (.ops [.mov 7 (.t 0), .call 8 93 [(.t 7)], .asg 5 (.t 8)]) (.seq (.ops [.mov 9 (.t 1), .call 10 93 [(.t 9)], .asg 6 (.t 10)]) (.seq (.seq (.ops [.mov 11 (.t 5)]) (.cond (.t 11) (.seq (.seq (.ops [.mov 12 (.t 6)]) (.cond (.t 12) (.seq (.ops [.asg 4 (.c (.int .i64 0))]) .ret) .skip)) (.seq (.ops [.asg 4 (.c (.int .i64 (-1)))]) .ret)) .skip)) (.seq (.seq (.ops [.mov 13 (.t 6)]) (.cond (.t 13) (.seq (.ops [.asg 4 (.c (.int .i64 1))]) .ret) .skip)) (.seq (.seq (.ops [.mov 14 (.t 0), .mov 15 (.t 1), .bin 16 .lss (.t 14) (.t 15)]) (.cond (.t 16) (.seq (.ops [.asg 4 (.c (.int .i64 (-1)))]) .ret) .skip)) (.seq (.seq (.ops [.mov 17 (.t 0), .mov 18 (.t 1), .bin 19 .gtr (.t 17) (.t 18)]) (.cond (.t 19) (.seq (.ops [.asg 4 (.c (.int .i64 1))]) .ret) .skip)) (.seq (.ops [.asg 4 (.c (.int .i64 0))]) .ret))))))))⟩
def fn93 : VFn := ⟨1, 6, [.tmp 2], (.seq (.ops [.asg 2 (.c (.bool false))]) (.seq (.ops [.mov 3 (.t 0), .mov 4 (.t 0), .bin 5 .neq (.t 3) (.t 4), .asg 2 (.t 5)]) .ret))⟩

def tab : List (Nat × VDef) := [(3, .code fn3), (4, .code fn4), (5, .code fn5), (6, .code fn6), (7, .ext applyX), (8, .code fn8), (9, .code fn9), (10, .code fn10), (11, .code fn11), (12, .code fn12), (13, .code fn13), (14, .code fn14), (15, .code fn15), (16, .code fn16), (17, .code fn17), (18, .code fn18), (19, .code fn19), (22, .code fn22), (23, .code fn23), (24, .code fn24), (25, .code fn25), (26, .code fn26), (27, .code fn27), (28, .code fn28), (29, .code fn29), (30, .code fn30), (31, .code fn31), (32, .ext (cloneX 8)), (33, .code fn33), (34, .code fn34), (35, .code fn35), (36, .code fn36), (37, .code fn37), (38, .code fn38), (39, .code fn39), (40, .code fn40), (41, .code fn41), (42, .code fn42), (43, .code fn43), (44, .code fn44), (45, .code fn45), (46, .code fn46), (48, .code fn48), (49, .code fn49), (50, .ext (cloneX 1)), (51, .code fn51), (52, .code fn52), (53, .code fn53), (54, .code fn54), (55, .code fn55), (56, .code fn56), (57, .code fn57), (58, .code fn58), (59, .code fn59), (60, .code fn60), (61, .code fn61), (62, .code fn62), (63, .code fn63), (64, .code fn64), (65, .code fn65), (66, .code fn66), (67, .code fn67), (68, .code fn68), (69, .code fn69), (70, .code fn70), (71, .code fn71), (72, .code fn72), (73, .code fn73), (74, .code fn74), (75, .code fn75), (76, .code fn76), (77, .ext tzX), (78, .code fn78), (79, .code fn79), (80, .code fn80), (81, .code fn81), (82, .code fn82), (83, .code fn83), (84, .code fn84), (85, .code fn85), (86, .code fn86), (87, .code fn87), (88, .srt (sortEndsX 89)), (89, .code fn89), (90, .code fn90), (93, .code fn93)]
def env : Env := fun f => tab.lookup f
theorem env3 : env 3 = some (.code fn3) := rfl
theorem env4 : env 4 = some (.code fn4) := rfl
theorem env5 : env 5 = some (.code fn5) := rfl
theorem env6 : env 6 = some (.code fn6) := rfl
theorem env7 : env 7 = some (.ext applyX) := rfl
theorem env8 : env 8 = some (.code fn8) := rfl
theorem env9 : env 9 = some (.code fn9) := rfl
theorem env10 : env 10 = some (.code fn10) := rfl
theorem env11 : env 11 = some (.code fn11) := rfl
theorem env12 : env 12 = some (.code fn12) := rfl
theorem env13 : env 13 = some (.code fn13) := rfl
theorem env14 : env 14 = some (.code fn14) := rfl
theorem env15 : env 15 = some (.code fn15) := rfl
theorem env16 : env 16 = some (.code fn16) := rfl
theorem env17 : env 17 = some (.code fn17) := rfl
theorem env18 : env 18 = some (.code fn18) := rfl
theorem env19 : env 19 = some (.code fn19) := rfl
theorem env22 : env 22 = some (.code fn22) := rfl
theorem env23 : env 23 = some (.code fn23) := rfl
theorem env24 : env 24 = some (.code fn24) := rfl
theorem env25 : env 25 = some (.code fn25) := rfl
theorem env26 : env 26 = some (.code fn26) := rfl
theorem env27 : env 27 = some (.code fn27) := rfl
theorem env28 : env 28 = some (.code fn28) := rfl
theorem env29 : env 29 = some (.code fn29) := rfl
theorem env30 : env 30 = some (.code fn30) := rfl
theorem env31 : env 31 = some (.code fn31) := rfl
theorem env32 : env 32 = some (.ext (cloneX 8)) := rfl
theorem env33 : env 33 = some (.code fn33) := rfl
theorem env34 : env 34 = some (.code fn34) := rfl
theorem env35 : env 35 = some (.code fn35) := rfl
theorem env36 : env 36 = some (.code fn36) := rfl
theorem env37 : env 37 = some (.code fn37) := rfl
theorem env38 : env 38 = some (.code fn38) := rfl
theorem env39 : env 39 = some (.code fn39) := rfl
theorem env40 : env 40 = some (.code fn40) := rfl
theorem env41 : env 41 = some (.code fn41) := rfl
theorem env42 : env 42 = some (.code fn42) := rfl
theorem env43 : env 43 = some (.code fn43) := rfl
theorem env44 : env 44 = some (.code fn44) := rfl
theorem env45 : env 45 = some (.code fn45) := rfl
theorem env46 : env 46 = some (.code fn46) := rfl
theorem env48 : env 48 = some (.code fn48) := rfl
theorem env49 : env 49 = some (.code fn49) := rfl
theorem env50 : env 50 = some (.ext (cloneX 1)) := rfl
theorem env51 : env 51 = some (.code fn51) := rfl
theorem env52 : env 52 = some (.code fn52) := rfl
theorem env53 : env 53 = some (.code fn53) := rfl
theorem env54 : env 54 = some (.code fn54) := rfl
theorem env55 : env 55 = some (.code fn55) := rfl
theorem env56 : env 56 = some (.code fn56) := rfl
theorem env57 : env 57 = some (.code fn57) := rfl
theorem env58 : env 58 = some (.code fn58) := rfl
theorem env59 : env 59 = some (.code fn59) := rfl
theorem env60 : env 60 = some (.code fn60) := rfl
theorem env61 : env 61 = some (.code fn61) := rfl
theorem env62 : env 62 = some (.code fn62) := rfl
theorem env63 : env 63 = some (.code fn63) := rfl
theorem env64 : env 64 = some (.code fn64) := rfl
theorem env65 : env 65 = some (.code fn65) := rfl
theorem env66 : env 66 = some (.code fn66) := rfl
theorem env67 : env 67 = some (.code fn67) := rfl
theorem env68 : env 68 = some (.code fn68) := rfl
theorem env69 : env 69 = some (.code fn69) := rfl
theorem env70 : env 70 = some (.code fn70) := rfl
theorem env71 : env 71 = some (.code fn71) := rfl
theorem env72 : env 72 = some (.code fn72) := rfl
theorem env73 : env 73 = some (.code fn73) := rfl
theorem env74 : env 74 = some (.code fn74) := rfl
theorem env75 : env 75 = some (.code fn75) := rfl
theorem env76 : env 76 = some (.code fn76) := rfl
theorem env77 : env 77 = some (.ext tzX) := rfl
theorem env78 : env 78 = some (.code fn78) := rfl
theorem env79 : env 79 = some (.code fn79) := rfl
theorem env80 : env 80 = some (.code fn80) := rfl
theorem env81 : env 81 = some (.code fn81) := rfl
theorem env82 : env 82 = some (.code fn82) := rfl
theorem env83 : env 83 = some (.code fn83) := rfl
theorem env84 : env 84 = some (.code fn84) := rfl
theorem env85 : env 85 = some (.code fn85) := rfl
theorem env86 : env 86 = some (.code fn86) := rfl
theorem env87 : env 87 = some (.code fn87) := rfl
theorem env88 : env 88 = some (.srt (sortEndsX 89)) := rfl
end Go.Proofs.YtncobemfpammfaaGreatDoor

namespace Go.Proofs.YtncobemfpammfaaGreatDoor
open V
def vAll := (And.intro (And.intro (And.intro (And.intro (And.intro (And.intro (And.intro (And.intro @den_drs (And.intro @dalts_cons @dagree_nil)) (And.intro @dagree_cons (And.intro @sameAs_same @dalt_eq))) (And.intro (And.intro @altEnd_false (And.intro @altEnd_true @pickV_nil)) (And.intro @pickV_one (And.intro @den_skip @List.foldl_nil.{0, 0})))) (And.intro (And.intro (And.intro @List.foldl_cons.{0, 0} (And.intro @den_ops @den_drw)) (And.intro @den_seq (And.intro @den_cond @den_block))) (And.intro (And.intro @den_exit (And.intro @den_ret @next_normal)) (And.intro (And.intro @next_exit @next_ret) (And.intro @endBlock_normal @endBlock_ret))))) (And.intro (And.intro (And.intro (And.intro @endBlock_exit (And.intro @tail_normal @tail_ret)) (And.intro @tail_exit (And.intro @fin_normal @fin_ret))) (And.intro (And.intro @bcase_true (And.intro @bcase_false @z_bind_some)) (And.intro (And.intro @z_map_some @z_bind_none) (And.intro @z_map_none @resultsOf.eq_1)))) (And.intro (And.intro (And.intro @resultsOf.eq_2 (And.intro @resultsOf.eq_3 @resultList.eq_1)) (And.intro @resultList.eq_2 (And.intro @resultOf.eq_1 @resultOf.eq_2))) (And.intro (And.intro @resultOf.eq_3 (And.intro @zBV.eq_1 @zBV.eq_2)) (And.intro (And.intro @splice.eq_1 @PV.remade.eq_1) (And.intro @PV.remade.eq_2 @PV.remade.eq_3)))))) (And.intro (And.intro (And.intro (And.intro (And.intro @PV.remade.eq_4 (And.intro @St.freezeAt.eq_1 @St.freezeBox.eq_1)) (And.intro @St.freezeCap.eq_1 (And.intro @St.freezeCap.eq_2 @PV.single.eq_1))) (And.intro (And.intro @PV.single.eq_2 (And.intro @dops_nil @dops_cons)) (And.intro (And.intro @dop_grd @dop_pick) (And.intro @dop_call @dop_callv)))) (And.intro (And.intro (And.intro @op1_call (And.intro @op1_callv @op1_pick)) (And.intro @dop_mov (And.intro @dop_asg @dop_bin))) (And.intro (And.intro @dop_eqa (And.intro @dop_eqb @dop_isn)) (And.intro (And.intro @dop_cut @dop_asl) (And.intro @dop_ldz @dop_srt))))) (And.intro (And.intro (And.intro (And.intro @dop_stw (And.intro @dop_bldo @dop_mvz)) (And.intro @dop_un (And.intro @dop_conv @dop_load))) (And.intro (And.intro @dop_fadr (And.intro @dop_aadr @dop_iadr)) (And.intro (And.intro @dop_fld @dop_idx) (And.intro @dop_sli @dop_len)))) (And.intro (And.intro (And.intro @dop_lens (And.intro @dop_ext @dop_build)) (And.intro @dop_mn (And.intro @dop_mkf @dop_alloc))) (And.intro (And.intro @dop_box (And.intro @dop_store @dop_mksl)) (And.intro (And.intro @dop_make @dop_app) (And.intro @dop_cpy @dop_yield))))))) (And.intro (And.intro (And.intro (And.intro (And.intro (And.intro @op1_mov (And.intro @op1_asg @op1_bin)) (And.intro @op1_eqa (And.intro @op1_eqb @op1_isn))) (And.intro (And.intro @op1_cut (And.intro @op1_asl @op1_ldz)) (And.intro @op1_srt (And.intro @op1_stw @op1_bldo)))) (And.intro (And.intro (And.intro @op1_mvz (And.intro @op1_un @op1_conv)) (And.intro @op1_load (And.intro @op1_fadr @op1_aadr))) (And.intro (And.intro @op1_iadr (And.intro @op1_fld @op1_idx)) (And.intro (And.intro @op1_sli @op1_len) (And.intro @op1_lens @op1_ext))))) (And.intro (And.intro (And.intro (And.intro @op1_build (And.intro @op1_mn @op1_mkf)) (And.intro @op1_alloc (And.intro @op1_box @op1_store))) (And.intro (And.intro @op1_mksl (And.intro @op1_make @op1_app)) (And.intro (And.intro @op1_cpy @op1_yield) (And.intro @plain.eq_1 @plain.eq_2)))) (And.intro (And.intro (And.intro @plain.eq_3 (And.intro @plain.eq_4 @plain.eq_5)) (And.intro @plain.eq_6 (And.intro @plain.eq_7 @plain.eq_8))) (And.intro (And.intro @plain.eq_9 (And.intro @plain.eq_10 @plain.eq_11)) (And.intro (And.intro @plain.eq_12 @plain.eq_13) (And.intro @plain.eq_14 @plain.eq_15)))))) (And.intro (And.intro (And.intro (And.intro (And.intro @plain.eq_16 (And.intro @plain.eq_17 @plain.eq_18)) (And.intro @plain.eq_19 (And.intro @plain.eq_20 @plain.eq_21))) (And.intro (And.intro @plain.eq_22 (And.intro @plain.eq_23 @plain.eq_24)) (And.intro (And.intro @plain.eq_25 @plain.eq_26) (And.intro @plain.eq_27 @plain.eq_28)))) (And.intro (And.intro (And.intro @plain.eq_29 (And.intro @act.eq_1 @act.eq_2)) (And.intro @act.eq_3 (And.intro @act.eq_4 @act.eq_5))) (And.intro (And.intro @act.eq_6 (And.intro @act.eq_7 @act.eq_8)) (And.intro (And.intro @act.eq_9 @act.eq_10) (And.intro @act.eq_11 @act.eq_12))))) (And.intro (And.intro (And.intro (And.intro @act.eq_13 (And.intro @dstOf.eq_1 @dstOf.eq_2)) (And.intro @dstOf.eq_3 (And.intro @dstOf.eq_4 @dstOf.eq_5))) (And.intro (And.intro @dstOf.eq_6 (And.intro @dstOf.eq_7 @dstOf.eq_8)) (And.intro (And.intro @dstOf.eq_9 @dstOf.eq_10) (And.intro @dstOf.eq_11 @dstOf.eq_12)))) (And.intro (And.intro (And.intro @dstOf.eq_13 (And.intro @dstOf.eq_14 @dstOf.eq_15)) (And.intro @dstOf.eq_16 (And.intro @dstOf.eq_17 @dstOf.eq_18))) (And.intro (And.intro @dstOf.eq_19 (And.intro @dstOf.eq_20 @dstOf.eq_21)) (And.intro (And.intro @dstOf.eq_22 @dstOf.eq_23) (And.intro @dstOf.eq_24 @dstOf.eq_25)))))))) (And.intro (And.intro (And.intro (And.intro (And.intro (And.intro (And.intro @dstOf.eq_26 (And.intro @dstOf.eq_27 @dstOf.eq_28)) (And.intro @dstOf.eq_29 (And.intro @dstOf.eq_30 @dstOf.eq_31))) (And.intro (And.intro @dstOf.eq_32 (And.intro @dstOf.eq_33 @dstOf.eq_34)) (And.intro @dstOf.eq_35 (And.intro @dstOf.eq_36 @dstOf.eq_37)))) (And.intro (And.intro (And.intro @dstOf.eq_38 (And.intro @dstOf.eq_39 @dstOf.eq_40)) (And.intro @Bool.false_eq_true (And.intro @if_true.{1} @if_false.{1}))) (And.intro (And.intro @z_ite_true (And.intro @z_ite_false @St.get.eq_1)) (And.intro (And.intro @St.get.eq_2 @St.get.eq_3) (And.intro @St.put.eq_1 @St.pvOf.eq_1))))) (And.intro (And.intro (And.intro (And.intro @St.putRow.eq_1 (And.intro @St.consume.eq_1 @St.consume.eq_2)) (And.intro @St.consume.eq_3 (And.intro @St.freeze.eq_1 @St.row.eq_1))) (And.intro (And.intro @St.row.eq_2 (And.intro @St.row.eq_3 @St.elems.eq_1)) (And.intro (And.intro @St.grab.eq_1 @St.grab.eq_2) (And.intro @St.grab.eq_3 @allBV.eq_1)))) (And.intro (And.intro (And.intro @allBV.eq_2 (And.intro @allBV.eq_3 @allBV.eq_4)) (And.intro @ownP.eq_1 (And.intro @ownP.eq_2 @ownCells.eq_1))) (And.intro (And.intro @ownCells.eq_2 (And.intro @ownCells.eq_3 @ownCells.eq_4)) (And.intro (And.intro @St.takeRow.eq_1 @St.takeRow.eq_2) (And.intro @St.takeRow.eq_3 @St.setRow.eq_1)))))) (And.intro (And.intro (And.intro (And.intro (And.intro @St.setRow.eq_2 (And.intro @St.setRow.eq_3 @St.place.eq_1)) (And.intro @St.place.eq_2 (And.intro @St.optPv.eq_1 @St.optPv.eq_2))) (And.intro (And.intro @St.setCell.eq_1 (And.intro @St.setCellRow.eq_1 @binPV.eq_1)) (And.intro (And.intro @binPV.eq_2 @binPV.eq_3) (And.intro @binPV.eq_4 @intBin.eq_1)))) (And.intro (And.intro (And.intro @intBin.eq_2 (And.intro @intBin.eq_3 @intBin.eq_4)) (And.intro @intBin.eq_5 (And.intro @intBin.eq_6 @intBin.eq_7))) (And.intro (And.intro @intBin.eq_8 (And.intro @intBin.eq_9 @intBin.eq_10)) (And.intro (And.intro @intBin.eq_11 @intBin.eq_12) (And.intro @intBin.eq_13 @intBin.eq_14))))) (And.intro (And.intro (And.intro (And.intro @intBin.eq_15 (And.intro @intBin.eq_16 @intBin.eq_17)) (And.intro @unPV.eq_1 (And.intro @unPV.eq_2 @unPV.eq_3))) (And.intro (And.intro @unPV.eq_4 (And.intro @BV.val.eq_1 @BV.val.eq_2)) (And.intro (And.intro @cells_int @cells_bool) (And.intro @cells_str @cells_list)))) (And.intro (And.intro (And.intro @cells_func (And.intro @cells_agg @part_one)) (And.intro @part_succ (And.intro @part_more @killS_pv))) (And.intro (And.intro @killS_any (And.intro @killS_row @killS_pbox)) (And.intro (And.intro @killS_fn @killS_tup) (And.intro @killS_yld @killS_refs))))))) (And.intro (And.intro (And.intro (And.intro (And.intro (And.intro @killS_refc (And.intro @killS_pels @killS_pelc)) (And.intro @killc_pv (And.intro @killc_any @killc_row))) (And.intro (And.intro @killc_pbox (And.intro @killc_fn @killc_tup)) (And.intro (And.intro @killc_yld @killc_refs) (And.intro @killc_refc @killc_pels)))) (And.intro (And.intro (And.intro @killc_pelc (And.intro @bound.eq_1 @bound.eq_2)) (And.intro @bound.eq_3 (And.intro @consumeAll.eq_1 @consumeAll.eq_2))) (And.intro (And.intro @buildParts.eq_1 (And.intro @buildParts.eq_2 @capsOf.eq_1)) (And.intro (And.intro @capsOf.eq_2 @capOf.eq_1) (And.intro @z_bind_eq @z_pure))))) (And.intro (And.intro (And.intro (And.intro @z_map_cons (And.intro @z_map_nil @z_len_cons)) (And.intro @z_len_nil (And.intro @List.append_nil.{0} @z_nil_app))) (And.intro (And.intro @z_cons_app (And.intro @Nat.zero_add @Nat.add_zero)) (And.intro (And.intro @z_drop_zero @z_drop_succ) (And.intro @z_take_succ @z_take_zero)))) (And.intro (And.intro (And.intro @decide_true (And.intro @decide_false @Bool.not_true)) (And.intro @Bool.not_false (And.intro @Bool.true_eq_false @beq_self_eq_true.{0}))) (And.intro (And.intro @Bool.true_and (And.intro @Bool.and_true @Bool.false_and)) (And.intro (And.intro @Bool.and_false @Bool.true_or) (And.intro @Bool.false_or @Bool.or_false)))))) (And.intro (And.intro (And.intro (And.intro (And.intro @Bool.or_true (And.intro @beq_t @beq_f)) (And.intro @bcase_not (And.intro @bcase_bne @List.length_map.{0, 0}))) (And.intro (And.intro @z_getD_zero (And.intro @z_getD_8 @z_getD_succ)) (And.intro (And.intro @z_get_zero @z_get_8) (And.intro @z_get_succ @z_set_zero)))) (And.intro (And.intro (And.intro @z_set_8 (And.intro @z_set_succ @dcall.eq_1)) (And.intro @dcallP.eq_1 (And.intro @afterCall_false @afterCall_true))) (And.intro (And.intro @List.mapM_cons.{0, 0, 0} (And.intro @z_mapM_nil @St.snapFn.eq_1)) (And.intro (And.intro @St.snapFn.eq_2 @St.snap.eq_1) (And.intro @St.snap.eq_2 @St.snap.eq_3))))) (And.intro (And.intro (And.intro (And.intro @St.snap.eq_4 (And.intro @St.snap.eq_5 @St.snap.eq_6)) (And.intro @z_any_cons (And.intro @z_any_nil @z_all_cons))) (And.intro (And.intro @z_all_nil (And.intro @scal_int @scal_bool)) (And.intro (And.intro @scal_str @scal_list) (And.intro @scal_func @St.layAll.eq_1)))) (And.intro (And.intro (And.intro @St.layAll.eq_2 (And.intro @St.lay.eq_1 @St.lay.eq_2)) (And.intro @St.lay.eq_3 (And.intro @z_foldl_cons @z_foldl_nil))) (And.intro (And.intro @St.freezeArg.eq_1 (And.intro @St.freezeArg1.eq_1 @St.freezeArg1.eq_2)) (And.intro (And.intro @St.freezeArg1.eq_3 @St.freezeArg1.eq_4) (And.intro @St.freezeArg1.eq_5 @St.freezeArg1.eq_6)))))))))
def memAll := (And.intro (And.intro (And.intro (And.intro @List.isEmpty_nil.{0} (And.intro @val_pvs @frozen_pvs)) (And.intro @msnoc_len (And.intro @msnoc_get @msnoc_set))) (And.intro (And.intro @msnoc_take (And.intro @Int.le_refl @take_map_all)) (And.intro @Nat.le_refl (And.intro @St.freezeRows.eq_1 @BV.frozen.eq_1)))) (And.intro (And.intro (And.intro @BV.frozen.eq_2 (And.intro @List.take_length.{0} @List.take_append_drop.{0})) (And.intro @z_repl_zero (And.intro @Int.toNat_zero @true_and))) (And.intro (And.intro @and_true (And.intro @and_self @eq_self.{1})) (And.intro @z_take_zero (And.intro @List.drop_nil.{0} @List.take_nil.{0})))))
def slsAll := (And.intro (And.intro @Nat.zero_le (And.intro @List.take_zero.{0} @List.take_nil.{0})) (And.intro (And.intro @List.take_succ_cons.{0} @List.length_cons.{0}) (And.intro @List.length_nil.{0} @Nat.le_refl)))
end Go.Proofs.YtncobemfpammfaaGreatDoor

namespace Go.Proofs.YtncobemfpammfaaGreatDoor.V

theorem part_sec (x : Sec) : part (secPV x) 0 (some 8) = some (.agg (secPV x)) := by
  simp only [part, secPV_length, Nat.zero_add, List.drop_zero]
  rw [if_pos (Nat.le_refl _), List.take_of_length_le (by rw [secPV_length]; exact Nat.le_refl _)]
theorem eqCells_u8 : ∀ a b : List UInt8, a.length = b.length → eqCells (a.map fun b => .int .u8 (b.toNat : Int)) (b.map fun b => .int .u8 (b.toNat : Int)) = some (decide (a = b))
  | [], [], _ => rfl
  | x :: a, y :: b, h => by
    simp only [List.length_cons, Nat.add_right_cancel_iff] at h
    simp only [List.map_cons, eqCells, if_pos, eqCells_u8 a b h, Option.map_some, List.cons.injEq]
    congr 1
    have : ((x.toNat : Int) == (y.toNat : Int)) = decide (x = y) := by
      by_cases e : x = y
      · subst e; simp
      · have : ¬ x.toNat = y.toNat := fun h => e (UInt8.toNat_inj.1 h)
        simp [e]; omega
    rw [this, Bool.decide_and]
  | [], _ :: _, h => by simp at h
  | _ :: _, [], h => by simp at h
theorem eqCells_sec (a b : Sec) : eqCells (secPV a) (secPV b) = some (decide (a = b)) := by
  unfold secPV
  rw [eqCells_u8 _ _ (by simp)]
  congr 1
  apply decide_eq_decide.2
  exact ⟨fun h => Vector.toList_inj.1 h, fun h => by rw [h]⟩
end Go.Proofs.YtncobemfpammfaaGreatDoor.V

namespace Go.Proofs.YtncobemfpammfaaGreatDoor.V

def idxI {α : Type} (p : α → Bool) (l : List α) : Int := if l.any p then (l.findIdx p : Int) else -1
theorem idxI_nonneg {α : Type} (p : α → Bool) (l : List α) : decide (idxI p l ≥ 0) = l.any p := by
  unfold idxI
  cases l.any p
  · rfl
  · simp only [if_true]; exact decide_eq_true (by omega)
def eqF {α β : Type} (eq : α → β → Bool) (l : List α) (m : List β) : Bool := decide (l.length = m.length) && (l.zip m).all fun q => eq q.1 q.2
--+
theorem loop86 {α : Type} {enc : α → PV} {l : List α} {p : α → Bool} {gf : Nat} {caps : List PV} (hp : ∀ x ∈ l, cal env gf (enc x :: caps) = some [(.bool (p x), false)]) (hs : ∀ x, part (enc x).cells 0 none = some (enc x)) (hl : l.length ≤ lim)
   {st : St} (h : st.head [0, 1, 7, 8] st.boxes.length = some ⟨[.pv (.list 1 (l.map enc)), .pv (.func gf caps), .any, .any, .any, .any, .any, .pv (.int .i64 l.length), .pv (.int .i64 (0 : Nat)), .any, .any, .any, .any, .any, .any, .any, .any, .any, .any], [], [], none⟩) :
   den env fn86_l1 st = if l.any p then some (.ret, ⟨[.any, .any, .any, .any, .pv (.int .i64 (l.findIdx p)), .any, .any, .any, .any, .any, .any, .any, .any, .any, .any, .any, .any, .any, .any], [], [], none⟩) else some (.normal, ⟨[.any, .any, .any, .any, .any, .any, .any, .any, .any, .any, .any, .any, .any, .any, .any, .any, .any, .any, .any], [], [], none⟩) := by
  unfold fn86_l1
  rw [clean_up l.length (fun i => ⟨[.pv (.list 1 (l.map enc)), .pv (.func gf caps), .any, .any, .any, .any, .any, .pv (.int .i64 l.length), .pv (.int .i64 i), .any, .any, .any, .any, .any, .any, .any, .any, .any, .any], [], [], none⟩)
    (fun i => if (l.drop i).any p then some (.ret, ⟨[.any, .any, .any, .any, .pv (.int .i64 ((i + (l.drop i).findIdx p : Nat) : Int)), .any, .any, .any, .any, .any, .any, .any, .any, .any, .any, .any, .any, .any, .any], [], [], none⟩) else some (.normal, ⟨[.any, .any, .any, .any, .any, .any, .any, .any, .any, .any, .any, .any, .any, .any, .any, .any, .any, .any, .any], [], [], none⟩)) h (fun _ => rfl) (fun _ => rfl) ?_ ?_]
  · simp only [List.drop_zero, Nat.zero_add]
  · intro i rb hi ih
    have hi1 := i64_next hi hl
    have F1 : ((i : Int) < (l.length : Int)) = True := eq_true (by omega)
    simp only [fn86_b0, F1, List.length_map, index_nat hi, List.getElem?_map, List.getElem?_eq_getElem hi, hp _ (List.getElem_mem hi), hs, vAll, reduceCtorEq, Nat.reduceEqDiff, Nat.reduceAdd, Nat.reduceLT, Nat.reduceLeDiff, Nat.beq]
    (try simp only [bcase_bind, bcase_map, tail_bcase]); refine bcase_split (fun hb => ?_) (fun hb => ?_) <;> try simp only [hb,  memAll, vAll, reduceCtorEq, Nat.reduceEqDiff, Nat.reduceAdd, Nat.reduceLT, Nat.reduceLeDiff, Nat.beq]
    · rw [List.drop_eq_getElem_cons hi]
      simp only [List.any_cons, hb, Bool.true_or, if_true, List.findIdx_cons, cond_true, Nat.add_zero]
      rfl
    · rw [ih _ (by simp only [hi1]; rfl), List.drop_eq_getElem_cons hi]
      simp only [List.any_cons, hb, Bool.false_or, List.findIdx_cons, cond_false, Nat.add_assoc, Nat.add_comm 1]
  · intro rb
    simp only [fn86_b0, Int.lt_irrefl, vAll, reduceCtorEq, Nat.reduceEqDiff, Nat.reduceAdd, Nat.reduceLT, Nat.reduceLeDiff, Nat.beq]
    simp only [List.drop_length, List.any_nil, Bool.false_eq_true, if_false]
    rfl
theorem cal86 {α : Type} {enc : α → PV} {l : List α} {p : α → Bool} {gf : Nat} {caps : List PV} (hp : ∀ x ∈ l, cal env gf (enc x :: caps) = some [(.bool (p x), false)]) (hs : ∀ x, part (enc x).cells 0 none = some (enc x)) (hl : l.length ≤ lim) :
    cal env 86 [.list 1 (l.map enc), .func gf caps] = some [(.int .i64 (idxI p l), false)] := by
  rw [cal_code env86 rfl]; simp only [fn86]; simp only [start, z_map_cons, z_map_nil, z_len_cons, z_len_nil, z_repl_zero, z_repl_succ, z_cons_app, z_nil_app, Nat.reduceAdd, Nat.reduceSub]
  simp only [List.length_map, vAll, reduceCtorEq, Nat.reduceEqDiff, Nat.reduceAdd, Nat.reduceLT, Nat.reduceLeDiff, Nat.beq]
  rw [loop86 hp hs hl]
  rotate_left
  · rfl
  · simp only [idxI]
    split <;> simp only [vAll, reduceCtorEq, Nat.reduceEqDiff, Nat.reduceAdd, Nat.reduceLT, Nat.reduceLeDiff, Nat.beq]
--+
theorem cal70 {α : Type} {enc : α → PV} {l : List α} {p : α → Bool} {gf : Nat} {caps : List PV} (hp : ∀ x ∈ l, cal env gf (enc x :: caps) = some [(.bool (p x), false)]) (hs : ∀ x, part (enc x).cells 0 none = some (enc x)) (hl : l.length ≤ lim) :
    cal env 70 [.list 1 (l.map enc), .func gf caps] = some [(.bool (l.any p), false)] := by
  rw [cal_code env70 rfl]; simp only [fn70]; simp only [start, z_map_cons, z_map_nil, z_len_cons, z_len_nil, z_repl_zero, z_repl_succ, z_cons_app, z_nil_app, Nat.reduceAdd, Nat.reduceSub]
  simp only [cal86 hp hs hl, idxI_nonneg, vAll, reduceCtorEq, Nat.reduceEqDiff, Nat.reduceAdd, Nat.reduceLT, Nat.reduceLeDiff, Nat.beq]
--+
theorem loop80 {l m : List Int} (hlm : l.length = m.length) (hl : l.length ≤ lim)
   {st : St} (h : st.head [0, 1, 12, 13] st.boxes.length = some ⟨[.pv (.list 1 (l.map eI)), .pv (.list 1 (m.map eI)), .any, .any, .any, .any, .any, .any, .any, .any, .any, .any, .pv (.int .i64 l.length), .pv (.int .i64 (0 : Nat)), .any, .any, .any, .any, .any, .any, .any, .any, .any, .any, .any, .any], [], [], none⟩) :
   den env fn80_l1 st = if l = m then some (.normal, ⟨[.any, .any, .any, .any, .any, .any, .any, .any, .any, .any, .any, .any, .any, .any, .any, .any, .any, .any, .any, .any, .any, .any, .any, .any, .any, .any], [], [], none⟩) else some (.ret, ⟨[.any, .any, .any, .any, .pv (.bool false), .any, .any, .any, .any, .any, .any, .any, .any, .any, .any, .any, .any, .any, .any, .any, .any, .any, .any, .any, .any, .any], [], [], none⟩) := by
  unfold fn80_l1
  rw [clean_up l.length (fun i => ⟨[.pv (.list 1 (l.map eI)), .pv (.list 1 (m.map eI)), .any, .any, .any, .any, .any, .any, .any, .any, .any, .any, .pv (.int .i64 l.length), .pv (.int .i64 i), .any, .any, .any, .any, .any, .any, .any, .any, .any, .any, .any, .any], [], [], none⟩)
    (fun i => if l.drop i = m.drop i then some (.normal, ⟨[.any, .any, .any, .any, .any, .any, .any, .any, .any, .any, .any, .any, .any, .any, .any, .any, .any, .any, .any, .any, .any, .any, .any, .any, .any, .any], [], [], none⟩) else some (.ret, ⟨[.any, .any, .any, .any, .pv (.bool false), .any, .any, .any, .any, .any, .any, .any, .any, .any, .any, .any, .any, .any, .any, .any, .any, .any, .any, .any, .any, .any], [], [], none⟩)) h (fun _ => rfl) (fun _ => rfl) ?_ ?_]
  · simp only [List.drop_zero]
  · intro i rb hi ih
    have hi1 := i64_next hi hl
    have hj : i < m.length := by omega
    have F1 : ((i : Int) < (l.length : Int)) = True := eq_true (by omega)
    simp only [fn80_b0, F1, List.length_map, index_nat hi, index_nat hj, List.getElem?_map, List.getElem?_eq_getElem hi, List.getElem?_eq_getElem hj, eI, eSec, eExt, part_sec, secPV_length, eqCells_sec, eqCells, vAll, reduceCtorEq, Nat.reduceEqDiff, Nat.reduceAdd, Nat.reduceLT, Nat.reduceLeDiff, Nat.beq]
    (try simp only [bcase_bind, bcase_map, tail_bcase]); refine bcase_split (fun hb => ?_) (fun hb => ?_) <;> try simp only [hb,  memAll, vAll, reduceCtorEq, Nat.reduceEqDiff, Nat.reduceAdd, Nat.reduceLT, Nat.reduceLeDiff, Nat.beq]
    · rw [ih _ (by simp only [hi1]; rfl), List.drop_eq_getElem_cons hi, List.drop_eq_getElem_cons hj]
      have e : l[i] = m[i] := by
        revert hb
        generalize l[i] = x
        generalize m[i] = y
        first | (intro hb; simpa using hb) | (cases x; cases y; intro hb; simpa using hb)
      simp only [e, List.cons.injEq, true_and]
    · rw [List.drop_eq_getElem_cons hi, List.drop_eq_getElem_cons hj, if_neg (fun e => ?_)]
      · rfl
      · have e := (List.cons.inj e).1
        rw [e] at hb
        simp at hb
  · intro rb
    simp only [fn80_b0, Int.lt_irrefl, vAll, reduceCtorEq, Nat.reduceEqDiff, Nat.reduceAdd, Nat.reduceLT, Nat.reduceLeDiff, Nat.beq]
    rw [List.drop_length, hlm, List.drop_length, if_pos rfl]
    rfl
theorem cal80 {l m : List Int} (hl : l.length ≤ lim) :
    cal env 80 [.list 1 (l.map eI), .list 1 (m.map eI)] = some [(.bool (decide (l = m)), false)] := by
  rw [cal_code env80 rfl]; simp only [fn80]; simp only [start, z_map_cons, z_map_nil, z_len_cons, z_len_nil, z_repl_zero, z_repl_succ, z_cons_app, z_nil_app, Nat.reduceAdd, Nat.reduceSub]
  simp only [List.length_map, vAll, reduceCtorEq, Nat.reduceEqDiff, Nat.reduceAdd, Nat.reduceLT, Nat.reduceLeDiff, Nat.beq]
  (try simp only [bcase_bind, bcase_map, tail_bcase]); refine bcase_split (fun hb => ?_) (fun hb => ?_) <;> try simp only [hb,  memAll, vAll, reduceCtorEq, Nat.reduceEqDiff, Nat.reduceAdd, Nat.reduceLT, Nat.reduceLeDiff, Nat.beq]
  · have hlm : l.length = m.length := by simp at hb; omega
    rw [loop80 hlm hl]
    rotate_left
    · rfl
    · by_cases e : l = m
      · simp only [e, vAll, reduceCtorEq, Nat.reduceEqDiff, Nat.reduceAdd, Nat.reduceLT, Nat.reduceLeDiff, Nat.beq]
      · simp only [e, vAll, reduceCtorEq, Nat.reduceEqDiff, Nat.reduceAdd, Nat.reduceLT, Nat.reduceLeDiff, Nat.beq]
  · have : l ≠ m := fun e => by subst e; simp at hb
    simp only [this, vAll, reduceCtorEq, Nat.reduceEqDiff, Nat.reduceAdd, Nat.reduceLT, Nat.reduceLeDiff, Nat.beq]
--+
theorem loop40 {l m : List Exn} (hlm : l.length = m.length) (hl : l.length ≤ lim)
   {st : St} (h : st.head [0, 1, 12, 13] st.boxes.length = some ⟨[.pv (.list 2 (l.map eExt)), .pv (.list 2 (m.map eExt)), .any, .any, .any, .any, .any, .any, .any, .any, .any, .any, .pv (.int .i64 l.length), .pv (.int .i64 (0 : Nat)), .any, .any, .any, .any, .any, .any, .any, .any, .any, .any, .any, .any], [], [], none⟩) :
   den env fn40_l1 st = if l = m then some (.normal, ⟨[.any, .any, .any, .any, .any, .any, .any, .any, .any, .any, .any, .any, .any, .any, .any, .any, .any, .any, .any, .any, .any, .any, .any, .any, .any, .any], [], [], none⟩) else some (.ret, ⟨[.any, .any, .any, .any, .pv (.bool false), .any, .any, .any, .any, .any, .any, .any, .any, .any, .any, .any, .any, .any, .any, .any, .any, .any, .any, .any, .any, .any], [], [], none⟩) := by
  unfold fn40_l1
  rw [clean_up l.length (fun i => ⟨[.pv (.list 2 (l.map eExt)), .pv (.list 2 (m.map eExt)), .any, .any, .any, .any, .any, .any, .any, .any, .any, .any, .pv (.int .i64 l.length), .pv (.int .i64 i), .any, .any, .any, .any, .any, .any, .any, .any, .any, .any, .any, .any], [], [], none⟩)
    (fun i => if l.drop i = m.drop i then some (.normal, ⟨[.any, .any, .any, .any, .any, .any, .any, .any, .any, .any, .any, .any, .any, .any, .any, .any, .any, .any, .any, .any, .any, .any, .any, .any, .any, .any], [], [], none⟩) else some (.ret, ⟨[.any, .any, .any, .any, .pv (.bool false), .any, .any, .any, .any, .any, .any, .any, .any, .any, .any, .any, .any, .any, .any, .any, .any, .any, .any, .any, .any, .any], [], [], none⟩)) h (fun _ => rfl) (fun _ => rfl) ?_ ?_]
  · simp only [List.drop_zero]
  · intro i rb hi ih
    have hi1 := i64_next hi hl
    have hj : i < m.length := by omega
    have F1 : ((i : Int) < (l.length : Int)) = True := eq_true (by omega)
    simp only [fn40_b0, F1, List.length_map, index_nat hi, index_nat hj, List.getElem?_map, List.getElem?_eq_getElem hi, List.getElem?_eq_getElem hj, eI, eSec, eExt, part_sec, secPV_length, eqCells_sec, eqCells, vAll, reduceCtorEq, Nat.reduceEqDiff, Nat.reduceAdd, Nat.reduceLT, Nat.reduceLeDiff, Nat.beq]
    (try simp only [bcase_bind, bcase_map, tail_bcase]); refine bcase_split (fun hb => ?_) (fun hb => ?_) <;> try simp only [hb,  memAll, vAll, reduceCtorEq, Nat.reduceEqDiff, Nat.reduceAdd, Nat.reduceLT, Nat.reduceLeDiff, Nat.beq]
    · rw [ih _ (by simp only [hi1]; rfl), List.drop_eq_getElem_cons hi, List.drop_eq_getElem_cons hj]
      have e : l[i] = m[i] := by
        revert hb
        generalize l[i] = x
        generalize m[i] = y
        first | (intro hb; simpa using hb) | (cases x; cases y; intro hb; simpa using hb)
      simp only [e, List.cons.injEq, true_and]
    · rw [List.drop_eq_getElem_cons hi, List.drop_eq_getElem_cons hj, if_neg (fun e => ?_)]
      · rfl
      · have e := (List.cons.inj e).1
        rw [e] at hb
        simp at hb
  · intro rb
    simp only [fn40_b0, Int.lt_irrefl, vAll, reduceCtorEq, Nat.reduceEqDiff, Nat.reduceAdd, Nat.reduceLT, Nat.reduceLeDiff, Nat.beq]
    rw [List.drop_length, hlm, List.drop_length, if_pos rfl]
    rfl
theorem cal40 {l m : List Exn} (hl : l.length ≤ lim) :
    cal env 40 [.list 2 (l.map eExt), .list 2 (m.map eExt)] = some [(.bool (decide (l = m)), false)] := by
  rw [cal_code env40 rfl]; simp only [fn40]; simp only [start, z_map_cons, z_map_nil, z_len_cons, z_len_nil, z_repl_zero, z_repl_succ, z_cons_app, z_nil_app, Nat.reduceAdd, Nat.reduceSub]
  simp only [List.length_map, vAll, reduceCtorEq, Nat.reduceEqDiff, Nat.reduceAdd, Nat.reduceLT, Nat.reduceLeDiff, Nat.beq]
  (try simp only [bcase_bind, bcase_map, tail_bcase]); refine bcase_split (fun hb => ?_) (fun hb => ?_) <;> try simp only [hb,  memAll, vAll, reduceCtorEq, Nat.reduceEqDiff, Nat.reduceAdd, Nat.reduceLT, Nat.reduceLeDiff, Nat.beq]
  · have hlm : l.length = m.length := by simp at hb; omega
    rw [loop40 hlm hl]
    rotate_left
    · rfl
    · by_cases e : l = m
      · simp only [e, vAll, reduceCtorEq, Nat.reduceEqDiff, Nat.reduceAdd, Nat.reduceLT, Nat.reduceLeDiff, Nat.beq]
      · simp only [e, vAll, reduceCtorEq, Nat.reduceEqDiff, Nat.reduceAdd, Nat.reduceLT, Nat.reduceLeDiff, Nat.beq]
  · have : l ≠ m := fun e => by subst e; simp at hb
    simp only [this, vAll, reduceCtorEq, Nat.reduceEqDiff, Nat.reduceAdd, Nat.reduceLT, Nat.reduceLeDiff, Nat.beq]
--+
theorem loop38 {α β : Type} {enc : α → PV} {enc2 : β → PV} {eq : α → β → Bool} {l : List α} {m : List β} {gf : Nat} {caps : List PV} (hp : ∀ x ∈ l, ∀ y ∈ m, cal env gf (enc x :: enc2 y :: caps) = some [(.bool (eq x y), false)]) (hs : ∀ x, part (enc x).cells 0 none = some (enc x)) (hs2 : ∀ x, part (enc2 x).cells 0 none = some (enc2 x)) (hlm : l.length = m.length) (hl : l.length ≤ lim)
   {st : St} (h : st.head [0, 1, 2, 15, 16, 17] st.boxes.length = some ⟨[.pv (.list 1 (l.map enc)), .pv (.list 1 (m.map enc2)), .pv (.func gf caps), .any, .any, .any, .any, .any, .any, .any, .any, .any, .any, .any, .any, .pv (.list 1 (l.map enc)), .pv (.int .i64 l.length), .pv (.int .i64 (0 : Nat)), .any, .any, .any, .any, .any, .any, .any, .any, .any, .any, .any, .any, .any, .any], [], [], none⟩) :
   den env fn38_l1 st = if (l.zip m).all (fun q => eq q.1 q.2) then some (.normal, ⟨[.any, .any, .any, .any, .any, .any, .any, .any, .any, .any, .any, .any, .any, .any, .any, .any, .any, .any, .any, .any, .any, .any, .any, .any, .any, .any, .any, .any, .any, .any, .any, .any], [], [], none⟩) else some (.ret, ⟨[.any, .any, .any, .any, .any, .any, .pv (.bool false), .any, .any, .any, .any, .any, .any, .any, .any, .any, .any, .any, .any, .any, .any, .any, .any, .any, .any, .any, .any, .any, .any, .any, .any, .any], [], [], none⟩) := by
  unfold fn38_l1
  rw [clean_up l.length (fun i => ⟨[.pv (.list 1 (l.map enc)), .pv (.list 1 (m.map enc2)), .pv (.func gf caps), .any, .any, .any, .any, .any, .any, .any, .any, .any, .any, .any, .any, .pv (.list 1 (l.map enc)), .pv (.int .i64 l.length), .pv (.int .i64 i), .any, .any, .any, .any, .any, .any, .any, .any, .any, .any, .any, .any, .any, .any], [], [], none⟩)
    (fun i => if ((l.drop i).zip (m.drop i)).all (fun q => eq q.1 q.2) then some (.normal, ⟨[.any, .any, .any, .any, .any, .any, .any, .any, .any, .any, .any, .any, .any, .any, .any, .any, .any, .any, .any, .any, .any, .any, .any, .any, .any, .any, .any, .any, .any, .any, .any, .any], [], [], none⟩) else some (.ret, ⟨[.any, .any, .any, .any, .any, .any, .pv (.bool false), .any, .any, .any, .any, .any, .any, .any, .any, .any, .any, .any, .any, .any, .any, .any, .any, .any, .any, .any, .any, .any, .any, .any, .any, .any], [], [], none⟩)) h (fun _ => rfl) (fun _ => rfl) ?_ ?_]
  · simp only [List.drop_zero]
  · intro i rb hi ih
    have hi1 := i64_next hi hl
    have hj : i < m.length := by omega
    have F1 : ((i : Int) < (l.length : Int)) = True := eq_true (by omega)
    simp only [fn38_b0, F1, List.length_map, index_nat hi, index_nat hj, List.getElem?_map, List.getElem?_eq_getElem hi, List.getElem?_eq_getElem hj, hs, hs2, hp _ (List.getElem_mem hi) _ (List.getElem_mem hj), vAll, reduceCtorEq, Nat.reduceEqDiff, Nat.reduceAdd, Nat.reduceLT, Nat.reduceLeDiff, Nat.beq]
    (try simp only [bcase_bind, bcase_map, tail_bcase]); refine bcase_split (fun hb => ?_) (fun hb => ?_) <;> try simp only [hb,  memAll, vAll, reduceCtorEq, Nat.reduceEqDiff, Nat.reduceAdd, Nat.reduceLT, Nat.reduceLeDiff, Nat.beq]
    · rw [ih _ (by simp only [hi1]; rfl), List.drop_eq_getElem_cons hi, List.drop_eq_getElem_cons hj]
      simp only [List.zip_cons_cons, List.all_cons, hb, Bool.true_and]
    · rw [List.drop_eq_getElem_cons hi, List.drop_eq_getElem_cons hj]
      simp only [List.zip_cons_cons, List.all_cons, hb, Bool.false_and, Bool.false_eq_true, if_false]
      rfl
  · intro rb
    simp only [fn38_b0, Int.lt_irrefl, vAll, reduceCtorEq, Nat.reduceEqDiff, Nat.reduceAdd, Nat.reduceLT, Nat.reduceLeDiff, Nat.beq]
    rw [List.drop_length]
    rfl
theorem cal38 {α β : Type} {enc : α → PV} {enc2 : β → PV} {eq : α → β → Bool} {l : List α} {m : List β} {gf : Nat} {caps : List PV} (hp : ∀ x ∈ l, ∀ y ∈ m, cal env gf (enc x :: enc2 y :: caps) = some [(.bool (eq x y), false)]) (hs : ∀ x, part (enc x).cells 0 none = some (enc x)) (hs2 : ∀ x, part (enc2 x).cells 0 none = some (enc2 x)) (hl : l.length ≤ lim) :
    cal env 38 [.list 1 (l.map enc), .list 1 (m.map enc2), .func gf caps] = some [(.bool (eqF eq l m), false)] := by
  rw [cal_code env38 rfl]; simp only [fn38]; simp only [start, z_map_cons, z_map_nil, z_len_cons, z_len_nil, z_repl_zero, z_repl_succ, z_cons_app, z_nil_app, Nat.reduceAdd, Nat.reduceSub]
  simp only [List.length_map, vAll, reduceCtorEq, Nat.reduceEqDiff, Nat.reduceAdd, Nat.reduceLT, Nat.reduceLeDiff, Nat.beq]
  (try simp only [bcase_bind, bcase_map, tail_bcase]); refine bcase_split (fun hb => ?_) (fun hb => ?_) <;> try simp only [hb,  memAll, vAll, reduceCtorEq, Nat.reduceEqDiff, Nat.reduceAdd, Nat.reduceLT, Nat.reduceLeDiff, Nat.beq]
  · have hlm : l.length = m.length := by simp at hb; omega
    rw [loop38 hp hs hs2 hlm hl]
    rotate_left
    · rfl
    · simp only [eqF, decide_eq_true hlm, Bool.true_and]
      cases (l.zip m).all (fun q => eq q.1 q.2) <;> simp only [vAll, reduceCtorEq, Nat.reduceEqDiff, Nat.reduceAdd, Nat.reduceLT, Nat.reduceLeDiff, Nat.beq]
  · have : ¬ l.length = m.length := fun e => by rw [e] at hb; simp at hb
    simp only [eqF, decide_eq_false this, vAll, reduceCtorEq, Nat.reduceEqDiff, Nat.reduceAdd, Nat.reduceLT, Nat.reduceLeDiff, Nat.beq]
--+
theorem cal32 {es : List PV} (hl : es.length ≤ lim) : cal env 32 [.list 8 es] = some [(.list 8 es, true)] := (cal_ext env32).trans (if_pos ⟨rfl, hl⟩)
end Go.Proofs.YtncobemfpammfaaGreatDoor.V

namespace Go.Proofs.YtncobemfpammfaaGreatDoor.V

def sizesErr (l : List Int) : Int := if l.length < 1 ∨ 8 < l.length then 6 else if l.any (fun n => decide (n < 1) || decide (n > 4096)) then 2 else 0
def imSizes (im : Img) : List Int := im.map fun v => (v.length : Int)
def imCheck (im : Img) : Int := sizesErr (imSizes im)
def fitsErr (im : Img) (w : Wrt) : Int :=
  if w.volume < 0 ∨ (im.length : Int) ≤ w.volume then 7 else if w.data.length = 0 then 1
  else if w.start < 0 ∨ ((im.getD w.volume.toNat []).length : Int) - w.data.length < w.start then 2 else 0
theorem take_map_succ {α β : Type} (f : α → β) {l : List α} {i : Nat} (h : i < l.length) : (l.take i).map f ++ [f l[i]] = (l.take (i + 1)).map f := by
  rw [List.take_succ, List.getElem?_eq_getElem h, List.map_append]; rfl
theorem loop72 {α : Type} {enc : α → PV} {l : List α} {g : α → Int} {gf : Nat} {caps : List PV} (hp : ∀ x ∈ l, cal env gf (enc x :: caps) = some [(eI (g x), false)]) (hs : ∀ x, part (enc x).cells 0 none = some (enc x)) (hs3 : ∀ x, (enc x).cells.length = 1) (hl : l.length ≤ lim)
   {st : St} (h : st.head [0, 1, 5, 10, 11, 12, 13, 22] st.boxes.length = some ⟨[.pv (.list 1 (l.map enc)), .pv (.func gf caps), .any, .any, .any, .row 1 [], .any, .any, .any, .any, .any, .pv (.list 1 (l.map enc)), .pv (.int .i64 l.length), .pv (.int .i64 (0 : Nat)), .any, .any, .any, .any, .any, .any, .any, .any, .any, .any, .any], [], [], none⟩) :
   den env fn72_l1 st = some (.normal, ⟨[.any, .any, .any, .any, .any, .row 1 (l.map fun x => eI (g x)), .any, .any, .any, .any, .any, .any, .any, .any, .any, .any, .any, .any, .any, .any, .any, .any, .any, .any, .any], [], [], none⟩) := by
  unfold fn72_l1
  rw [clean_up l.length (fun i => ⟨[.pv (.list 1 (l.map enc)), .pv (.func gf caps), .any, .any, .any, .row 1 ((l.take i).map fun x => eI (g x)), .any, .any, .any, .any, .any, .pv (.list 1 (l.map enc)), .pv (.int .i64 l.length), .pv (.int .i64 i), .any, .any, .any, .any, .any, .any, .any, .any, .any, .any, .any], [], [], none⟩)
    (fun i => some (.normal, ⟨[.any, .any, .any, .any, .any, .row 1 (l.map fun x => eI (g x)), .any, .any, .any, .any, .any, .any, .any, .any, .any, .any, .any, .any, .any, .any, .any, .any, .any, .any, .any], [], [], none⟩)) h (fun _ => rfl) (fun _ => rfl) ?_ ?_]
  · intro i rb hi ih
    have hi1 := i64_next hi hl
    have F1 : ((i : Int) < (l.length : Int)) = True := eq_true (by omega)
    have F2 : ((l.take i).length + 1 ≤ lim) = True := eq_true (by rw [List.length_take]; omega)
    have hpi : cal env gf (enc l[i] :: caps) = some [((PV.int .i64 (g l[i])), false)] := hp _ (List.getElem_mem hi)
    try simp only [eExt] at hpi
    simp only [fn72_b0, F1, F2, index_nat hi, List.getElem?_map, List.getElem?_eq_getElem hi,  hpi, hs, hs3, memAll, vAll, reduceCtorEq, Nat.reduceEqDiff, Nat.reduceAdd, Nat.reduceLT, Nat.reduceLeDiff, Nat.beq]
    rw [ih _ (by simp only [hi1]; rw [← take_map_succ _ hi]; rfl)]
  · intro rb
    simp only [fn72_b0, Int.lt_irrefl, vAll, reduceCtorEq, Nat.reduceEqDiff, Nat.reduceAdd, Nat.reduceLT, Nat.reduceLeDiff, Nat.beq]
    rw [List.take_length]
    rfl
theorem cal72 {α : Type} {enc : α → PV} {l : List α} {g : α → Int} {gf : Nat} {caps : List PV} (hp : ∀ x ∈ l, cal env gf (enc x :: caps) = some [(eI (g x), false)]) (hs : ∀ x, part (enc x).cells 0 none = some (enc x)) (hs3 : ∀ x, (enc x).cells.length = 1) (hl : l.length ≤ lim) :
    cal env 72 [.list 1 (l.map enc), .func gf caps] = some [(.list 1 (l.map fun x => eI (g x)), true)] := by
  rw [cal_code env72 rfl]; simp only [fn72]; simp only [start, z_map_cons, z_map_nil, z_len_cons, z_len_nil, z_repl_zero, z_repl_succ, z_cons_app, z_nil_app, Nat.reduceAdd, Nat.reduceSub]
  have F1 : ((l.length : Int) ≤ (lim : Int)) = True := eq_true (by omega)
  have F2 : ((0 : Int) ≤ (l.length : Int)) = True := eq_true (by omega)
  simp only [F1, F2, Int.le_refl, memAll, vAll, reduceCtorEq, Nat.reduceEqDiff, Nat.reduceAdd, Nat.reduceLT, Nat.reduceLeDiff, Nat.beq]
  rw [loop72 hp hs hs3 hl]
  rotate_left
  · rfl
  · simp only [memAll, vAll, reduceCtorEq, Nat.reduceEqDiff, Nat.reduceAdd, Nat.reduceLT, Nat.reduceLeDiff, Nat.beq]
theorem cal71 {x : Int} : cal env 71 [eI x] = some [(.bool (decide (x < 1) || decide (x > 4096)), false)] := by
  unfold eI
  rw [cal_code env71 rfl]; simp only [fn71]; simp only [start, z_map_cons, z_map_nil, z_len_cons, z_len_nil, z_repl_zero, z_repl_succ, z_cons_app, z_nil_app, Nat.reduceAdd, Nat.reduceSub]
  simp only [ memAll, vAll, reduceCtorEq, Nat.reduceEqDiff, Nat.reduceAdd, Nat.reduceLT, Nat.reduceLeDiff, Nat.beq]
  (try simp only [bcase_bind, bcase_map, tail_bcase]); refine bcase_split (fun hb => ?_) (fun hb => ?_) <;> try simp only [hb,  memAll, vAll, reduceCtorEq, Nat.reduceEqDiff, Nat.reduceAdd, Nat.reduceLT, Nat.reduceLeDiff, Nat.beq]
theorem cal45 {l : List Int} (hl : l.length ≤ lim) : cal env 45 [.list 1 (l.map eI)] = some [(.int .i64 (sizesErr l), false)] := by
  have e1 := cal70 (l := l) (enc := eI) (fun x _ => cal71 (x := x)) (fun x => rfl) hl
  rw [cal_code env45 rfl]; simp only [fn45]; simp only [start, z_map_cons, z_map_nil, z_len_cons, z_len_nil, z_repl_zero, z_repl_succ, z_cons_app, z_nil_app, Nat.reduceAdd, Nat.reduceSub]
  simp only [e1, memAll, vAll, reduceCtorEq, Nat.reduceEqDiff, Nat.reduceAdd, Nat.reduceLT, Nat.reduceLeDiff, Nat.beq]
  repeat' ((try simp only [bcase_bind, bcase_map, tail_bcase]); refine bcase_split (fun hb => ?_) (fun hb => ?_) <;> try simp only [hb, e1, memAll, vAll, reduceCtorEq, Nat.reduceEqDiff, Nat.reduceAdd, Nat.reduceLT, Nat.reduceLeDiff, Nat.beq])
  all_goals grind [sizesErr]
theorem cal73 {v : List Sec} : cal env 73 [eSecs v] = some [(eI v.length, false)] := by
  unfold eSecs eI
  rw [cal_code env73 rfl]; simp only [fn73]; simp only [start, z_map_cons, z_map_nil, z_len_cons, z_len_nil, z_repl_zero, z_repl_succ, z_cons_app, z_nil_app, Nat.reduceAdd, Nat.reduceSub]
  simp only [ memAll, vAll, reduceCtorEq, Nat.reduceEqDiff, Nat.reduceAdd, Nat.reduceLT, Nat.reduceLeDiff, Nat.beq]
theorem cal46 {im : Img} (hl : im.length ≤ lim) : cal env 46 [.list 1 (im.map eSecs)] = some [(.list 1 ((imSizes im).map eI), true)] := by
  have e1 := cal72 (enc := eSecs) (l := im) (fun x _ => cal73 (v := x)) (fun x => rfl) (fun x => rfl) hl
  rw [cal_code env46 rfl]; simp only [fn46]; simp only [start, z_map_cons, z_map_nil, z_len_cons, z_len_nil, z_repl_zero, z_repl_succ, z_cons_app, z_nil_app, Nat.reduceAdd, Nat.reduceSub]
  simp only [e1, memAll, vAll, reduceCtorEq, Nat.reduceEqDiff, Nat.reduceAdd, Nat.reduceLT, Nat.reduceLeDiff, Nat.beq]
  simp [imSizes]
theorem cal19 {im : Img} (hl : im.length ≤ lim) : cal env 19 [.list 1 (im.map eSecs)] = some [(.int .i64 (imCheck im), false)] := by
  have h2 : (imSizes im).length ≤ lim := by simpa [imSizes] using hl
  have e1 := cal46 hl
  have e2 := cal45 h2
  rw [cal_code env19 rfl]; simp only [fn19]; simp only [start, z_map_cons, z_map_nil, z_len_cons, z_len_nil, z_repl_zero, z_repl_succ, z_cons_app, z_nil_app, Nat.reduceAdd, Nat.reduceSub]
  simp only [e1, e2, memAll, vAll, reduceCtorEq, Nat.reduceEqDiff, Nat.reduceAdd, Nat.reduceLT, Nat.reduceLeDiff, Nat.beq]
  rfl
theorem eqF_eq {α : Type} [DecidableEq α] : ∀ (l m : List α), eqF (fun x y => decide (x = y)) l m = decide (l = m)
  | [], [] => by simp [eqF]
  | [], _ :: _ => by simp [eqF]
  | _ :: _, [] => by simp [eqF]
  | x :: l, y :: m => by
    have := eqF_eq l m
    simp only [eqF, List.length_cons, List.zip_cons_cons, List.all_cons, List.cons.injEq, Bool.decide_and] at *
    rw [← this]
    by_cases h : l.length = m.length <;> simp [h]
end Go.Proofs.YtncobemfpammfaaGreatDoor.V
