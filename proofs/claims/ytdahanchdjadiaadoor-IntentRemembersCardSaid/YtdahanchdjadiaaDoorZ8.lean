/-
  Part 8 of the texts that the statement stands on.
-/
import Derived.Test.YtdahanchdjadiaaDoorZ7
set_option linter.all false
namespace Go.Proofs.YtdahanchdjadiaaDoor.V
theorem newI_len (s g : Int) : (newI s g).act.length ≤ 4096 ∧ (newI s g).bm.ws.length ≤ 64 := by
  unfold newI
  split
  · rename_i c
    have h1 := grN_le c
    have h2 := (szOkI_iff.1 c).2.1
    refine ⟨by rw [List.length_replicate]; omega, ?_⟩
    unfold newO
    rw [if_neg (by omega), List.length_replicate]
    unfold wdsN
    omega
  · exact ⟨by decide, by decide⟩
end Go.Proofs.YtdahanchdjadiaaDoor.V

namespace Go.Proofs.YtdahanchdjadiaaDoor.V
theorem getX_nat {b : Bm} (h : okB b = true) (g : Nat) : getX b (g : Int) = bit b.ws g := by
  unfold getX
  rw [h, Bool.true_and, decide_eq_true (by omega), Bool.true_and, Int.toNat_natCast]
  cases hb : bit b.ws g with
  | false => rw [Bool.and_false]
  | true => rw [decide_eq_true (bit_size h hb)]; rfl
theorem clr_ok {b : Bm} {e : Exn} (h : okB b = true) (hf : bmFit b.size e = true) : chE b e = 0 ∧ okB (chO clW b e) = true ∧ (chO clW b e).size = b.size ∧ ∀ s : Nat, bit (chO clW b e).ws s = (bit b.ws s && !decide (e.start ≤ (s : Int) ∧ (s : Int) < e.start + e.count)) := by
  have hE : chE b e = 0 := by unfold chE; rw [if_neg (by rw [h]; decide), if_neg (by rw [hf]; decide)]
  have hO : chO clW b e = ⟨b.size, clrW b.ws e.start (e.start + e.count)⟩ := by unfold chO; rw [if_pos hE]; rfl
  have hs := okB_size h
  have hl : (clrW b.ws e.start (e.start + e.count)).length = b.ws.length := by simp [clrW]
  have hb : ∀ s : Nat, bit (clrW b.ws e.start (e.start + e.count)) s = (bit b.ws s && !decide (e.start ≤ (s : Int) ∧ (s : Int) < e.start + e.count)) := fun s => by
    by_cases c : s < 64 * b.ws.length
    · exact bit_clr c
    · rw [bit_out (by rw [hl]; omega), bit_out (show 64 * b.ws.length ≤ s by omega), Bool.false_and]
  rw [hO]
  refine ⟨hE, okB_iff.2 ⟨⟨hs.1, hs.2.1, ?_⟩, fun i hi => ?_⟩, rfl, hb⟩
  · show ((clrW b.ws e.start (e.start + e.count)).length : Int) = _
    rw [hl]; exact (okB_iff.1 h).1.2.2
  · show bit (clrW b.ws e.start (e.start + e.count)) i = false
    rw [hb, (okB_iff.1 h).2 i hi, Bool.false_and]
theorem set_bit {b : Bm} {e : Exn} (h : okB b = true) (hf : bmFit b.size e = true) (s : Nat) : bit (chO orW b e).ws s = (bit b.ws s || decide (e.start ≤ (s : Int) ∧ (s : Int) < e.start + e.count)) := by
  obtain ⟨_, h2, h3, h4⟩ := set_ok h hf
  by_cases c : (s : Int) < b.size
  · exact h4 s c
  · have := bmFit_iff.1 hf
    rw [(okB_iff.1 h2).2 s (by rw [h3]; omega), (okB_iff.1 h).2 s (by omega), decide_eq_false (by omega)]
    rfl
theorem begV_in {n : Int} (h : 0 ≤ n ∧ n ≤ 4096) (he : begE n = 0) : 0 < begV n ∧ begV n ≤ 4096 := by
  unfold begE at he
  unfold begV
  split at he
  · cases he
  · rename_i c
    rw [if_neg c]; omega
theorem endV_in {n : Int} (h : 0 ≤ n ∧ n ≤ 4096) (he : endE n = 0) : (0 ≤ endV n ∧ endV n ≤ 4096) ∧ 0 < n := by
  unfold endE at he
  unfold endV
  split at he
  · cases he
  · rename_i c
    rw [if_neg c]; omega
theorem tch_nat {i : Itn} {e : Exn} (h : okItn i = true) (hb : tchB i.size e = true) : ∃ s c : Nat, tchX i.size i.gran e = ⟨(s : Int), (c : Int)⟩ ∧ 1 ≤ c ∧ s + c ≤ i.act.length ∧ bmFit i.bm.size ⟨(s : Int), (c : Int)⟩ = true := by
  obtain ⟨h1, h2, h3, h4, h5⟩ := okItn_iff.1 h
  obtain ⟨t1, t2, t3⟩ := tch_in h1 hb
  refine ⟨(tchX i.size i.gran e).start.toNat, (tchX i.size i.gran e).count.toNat, ?_, by omega, by omega, bmFit_iff.2 (by simp only; omega)⟩
  generalize tchX i.size i.gran e = t at *
  obtain ⟨a, b⟩ := t
  simp only at *
  simp only [Exn.mk.injEq]
  omega
theorem cg_parts {v er : Int → Int} {i : Itn} {e : Exn} {s c : Nat} (h : okItn i = true) (hb : tchB i.size e = true) (ht : tchX i.size i.gran e = ⟨(s : Int), (c : Int)⟩) : cgE er i e = badA er i.act s c ∧ (badA er i.act s c = 0 → cgI v er i e = { i with act := actTo v i.act s c }) := by
  have hE : cgE er i e = badA er i.act s c := by
    unfold cgE
    rw [if_neg (by rw [h]; decide), if_neg (by rw [hb]; decide), ht]
    rfl
  refine ⟨hE, fun h0 => ?_⟩
  unfold cgI
  rw [if_pos (by rw [hE]; exact h0), ht]
  rfl
theorem bg_ok {i : Itn} {e : Exn} {s c : Nat} (h : okItn i = true) (hb : tchB i.size e = true) (ht : tchX i.size i.gran e = ⟨(s : Int), (c : Int)⟩) (h0 : bgE i e = 0) :
    bgI i e = ⟨i.size, i.gran, actTo begV i.act s c, chO orW i.bm ⟨(s : Int), (c : Int)⟩⟩ ∧ okItn (bgI i e) = true := by
  obtain ⟨h1, h2, h3, h4, h5⟩ := okItn_iff.1 h
  obtain ⟨hE, hI⟩ := cg_parts (v := begV) (er := begE) h hb ht
  have h0' : badA begE i.act s c = 0 := by rw [← hE]; exact h0
  obtain ⟨s', c', ht', k1, k2, k3⟩ := tch_nat h hb
  obtain ⟨rfl, rfl⟩ : s' = s ∧ c' = c := by rw [ht] at ht'; simp only [Exn.mk.injEq] at ht'; omega
  have e1 : bgI i e = ⟨i.size, i.gran, actTo begV i.act s' c', chO orW i.bm ⟨(s' : Int), (c' : Int)⟩⟩ := by
    unfold bgI
    rw [if_pos h0, hI h0', ht]
  refine ⟨e1, ?_⟩
  obtain ⟨g1, g2, g3, -⟩ := set_ok h3 k3
  have g4 := set_bit h3 k3
  have hbad := (badA_cases begE k2).resolve_right (fun ⟨m, hm, _, q2, q3⟩ => q2 (by rw [← q3]; exact h0'))
  rw [e1]
  refine okItn_iff.2 ⟨h1, by rw [actTo_len]; exact h2, g2, by rw [actTo_len, g3]; exact h4, fun g hg => ?_⟩
  rw [actTo_len] at hg
  rw [actTo_at]
  have q := h5 g hg
  obtain ⟨q1, q2⟩ := badG_in q
  have hx : getX (chO orW i.bm ⟨(s' : Int), (c' : Int)⟩) (g : Int) = (bit i.bm.ws g || decide ((s' : Int) ≤ (g : Int) ∧ (g : Int) < (s' : Int) + (c' : Int))) := by rw [getX_nat g2, g4]
  unfold badG
  split
  · rename_i cc
    have hz := hbad.2 (g - s') (by omega)
    simp only [show s' + (g - s') = g by omega] at hz
    have := begV_in q1 hz
    rw [hx, decide_eq_false (by omega), decide_eq_false (by omega), decide_eq_true (show (s' : Int) ≤ (g : Int) ∧ (g : Int) < (s' : Int) + (c' : Int) by omega)]
    simp
  · rw [hx, decide_eq_false (by omega), decide_eq_false (by omega)]
    by_cases c0 : 0 < i.act[g]
    · have := q2 c0
      rw [getX_nat h3] at this
      rw [this]
      simp
    · rw [decide_eq_false (by omega)]
      simp
theorem ed_ok {i : Itn} {e : Exn} {s c : Nat} (h : okItn i = true) (hb : tchB i.size e = true) (ht : tchX i.size i.gran e = ⟨(s : Int), (c : Int)⟩) (h0 : cgE endE i e = 0) :
    cgI endV endE i e = ⟨i.size, i.gran, actTo endV i.act s c, i.bm⟩ ∧ okItn (cgI endV endE i e) = true := by
  obtain ⟨h1, h2, h3, h4, h5⟩ := okItn_iff.1 h
  obtain ⟨hE, hI⟩ := cg_parts (v := endV) (er := endE) h hb ht
  have h0' : badA endE i.act s c = 0 := by rw [← hE]; exact h0
  obtain ⟨s', c', ht', k1, k2, k3⟩ := tch_nat h hb
  obtain ⟨rfl, rfl⟩ : s' = s ∧ c' = c := by rw [ht] at ht'; simp only [Exn.mk.injEq] at ht'; omega
  have e1 := hI h0'
  refine ⟨e1, ?_⟩
  have hbad := (badA_cases endE k2).resolve_right (fun ⟨m, hm, _, q2, q3⟩ => q2 (by rw [← q3]; exact h0'))
  rw [e1]
  refine okItn_iff.2 ⟨h1, by rw [actTo_len]; exact h2, h3, by rw [actTo_len]; exact h4, fun g hg => ?_⟩
  rw [actTo_len] at hg
  rw [actTo_at]
  have q := h5 g hg
  obtain ⟨q1, q2⟩ := badG_in q
  split
  · rename_i cc
    have hz := hbad.2 (g - s') (by omega)
    simp only [show s' + (g - s') = g by omega] at hz
    obtain ⟨r1, r2⟩ := endV_in q1 hz
    unfold badG
    rw [q2 r2, decide_eq_false (by omega), decide_eq_false (by omega)]
    simp
  · exact q
theorem cln_ok {i : Itn} (h : okItn i = true) : ∀ k, k ≤ i.act.length → okB (clnAt i k).1 = true ∧ (clnAt i k).1.size = i.bm.size ∧ (∀ s : Nat, bit (clnAt i k).1.ws s = (bit i.bm.ws s && !decide (s < k ∧ i.act.getD s 0 = 0))) ∧ ((clnAt i k).2 = true ↔ ∃ s, s < k ∧ i.act.getD s 0 = 0 ∧ bit i.bm.ws s = true)
  | 0, _ => ⟨(okItn_iff.1 h).2.2.1, rfl, fun s => by simp [clnAt], by simp [clnAt]⟩
  | k + 1, hk => by
    obtain ⟨h1, h2, h3, h4, h5⟩ := okItn_iff.1 h
    obtain ⟨q1, q2, q3, q4⟩ := cln_ok h k (by omega)
    unfold clnAt
    rw [getX_nat h3]
    by_cases c : i.act.getD k 0 = 0 ∧ bit i.bm.ws k = true
    · rw [if_pos c]
      obtain ⟨r1, r2, r3, r4⟩ := clr_ok (b := (clnAt i k).1) (e := ⟨(k : Int), 1⟩) q1 (bmFit_iff.2 (by rw [q2]; simp only; omega))
      refine ⟨r2, r3.trans q2, fun s => ?_, ⟨fun _ => ⟨k, by omega, c⟩, fun _ => rfl⟩⟩
      show bit (chO clW (clnAt i k).1 ⟨(k : Int), 1⟩).ws s = _
      rw [r4, q3]
      by_cases e1 : s = k
      · subst e1
        rw [decide_eq_true (show ((s : Int) ≤ (s : Int) ∧ (s : Int) < (s : Int) + 1) by omega), decide_eq_true (show s < s + 1 ∧ i.act.getD s 0 = 0 from ⟨by omega, c.1⟩)]
        simp
      · rw [decide_eq_false (show ¬ ((k : Int) ≤ (s : Int) ∧ (s : Int) < (k : Int) + 1) by omega)]
        have : decide (s < k + 1 ∧ i.act.getD s 0 = 0) = decide (s < k ∧ i.act.getD s 0 = 0) := by
          apply decide_eq_decide.2
          constructor
          · rintro ⟨a, b⟩; exact ⟨by omega, b⟩
          · rintro ⟨a, b⟩; exact ⟨by omega, b⟩
        rw [this]
        simp
    · rw [if_neg c]
      refine ⟨q1, q2, fun s => ?_, ?_⟩
      · rw [q3]
        by_cases e1 : s = k
        · subst e1
          rw [decide_eq_false (show ¬ (s < s ∧ i.act.getD s 0 = 0) by omega)]
          cases hb : bit i.bm.ws s with
          | false => simp
          | true =>
            have : ¬ i.act.getD s 0 = 0 := fun hh => c ⟨hh, hb⟩
            rw [decide_eq_false (fun hh => this hh.2)]
        · have : decide (s < k + 1 ∧ i.act.getD s 0 = 0) = decide (s < k ∧ i.act.getD s 0 = 0) := by
            apply decide_eq_decide.2
            constructor
            · rintro ⟨a, b⟩; exact ⟨by omega, b⟩
            · rintro ⟨a, b⟩; exact ⟨by omega, b⟩
          rw [this]
      · rw [q4]
        constructor
        · rintro ⟨s, a, b⟩; exact ⟨s, by omega, b⟩
        · rintro ⟨s, a, b⟩
          by_cases e1 : s = k
          · subst e1; exact absurd b c
          · exact ⟨s, by omega, b⟩
theorem new_log {s g : Int} (h : szOkI s g = true) : newI s g = ⟨s, g, List.replicate (grN s g).toNat 0, newO (grN s g)⟩ ∧ newIE s g = 0 ∧ okItn (newI s g) = true := by
  have hg := grN_le h
  have h2 := (szOkI_iff.1 h).2.1
  have e1 : newI s g = ⟨s, g, List.replicate (grN s g).toNat 0, newO (grN s g)⟩ := by unfold newI; rw [if_pos h]
  refine ⟨e1, by unfold newIE; rw [if_pos h], ?_⟩
  obtain ⟨n1, n2, n3, n4⟩ := new_ok (n := (grN s g).toNat) (by omega)
  have hc : (((grN s g).toNat : Nat) : Int) = grN s g := by omega
  rw [hc] at n1 n2 n3 n4
  rw [e1]
  refine okItn_iff.2 ⟨h, by simp only [List.length_replicate]; omega, n2, by simp only [List.length_replicate]; rw [n3]; omega, fun g hg => ?_⟩
  unfold badG
  simp
end Go.Proofs.YtdahanchdjadiaaDoor.V

namespace Go.Proofs.YtdahanchdjadiaaDoor.V
def actIs (l : List Int) (s c : Nat) (x y : Int) : Prop := ∀ k (h : k < l.length), l[k] = if s ≤ k ∧ k < s + c then x else y
theorem actTo_is {v : Int → Int} {l : List Int} {s c : Nat} {x y z : Int} (hl : actIs l s c x y) (hv : v x = z) : actIs (actTo v l s c) s c z y := fun k h => by
  have h' : k < l.length := by rw [actTo_len] at h; exact h
  rw [actTo_at, hl k h']
  split
  · exact hv
  · rfl
theorem badA_is {er : Int → Int} {l : List Int} {s c : Nat} {x y : Int} (hl : actIs l s c x y) (h : s + c ≤ l.length) (hc : 1 ≤ c) : badA er l s c = er x := by
  have hx : ∀ j (hj : j < c), l[s + j]'(by omega) = x := fun j hj => by rw [hl _ (by omega), if_pos (by omega)]
  rcases badA_cases er h with ⟨h1, h2⟩ | ⟨m, hm, h1, h2, h3⟩
  · have := h2 0 (by omega)
    rw [hx 0 (by omega)] at this
    rw [h1, this]
  · rw [h3, hx m hm]
theorem newG_iff {b : Bm} {s : Int} {n : Nat} : newG b s n = true ↔ ∃ k : Nat, k < n ∧ getX b (s + (k : Int)) = false := by
  unfold newG
  simp [List.any_eq_true]
theorem act_same {l : List Int} {s c : Nat} {n : Nat} (hl : actIs l s c 0 0) (hn : l.length = n) : l = List.replicate n 0 := by
  apply List.ext_getElem
  · rw [List.length_replicate]; exact hn
  · intro k h1 h2
    rw [List.getElem_replicate, hl k h1]
    split <;> rfl
theorem rem_law {n g : Int} {e : Exn} (h : szOkI n g = true) (hb : tchB n e = true) :
    bgE (newI n g) e = 0 ∧ bgS (newI n g) e = true ∧ bgE (bgI (newI n g) e) e = 0 ∧ bgS (bgI (newI n g) e) e = false ∧
    cgE endE (bgI (bgI (newI n g) e) e) e = 0 ∧ cgE endE (cgI endV endE (bgI (bgI (newI n g) e) e) e) e = 0 ∧
    clnF (cgI endV endE (cgI endV endE (bgI (bgI (newI n g) e) e) e) e) = true ∧ clnI (cgI endV endE (cgI endV endE (bgI (bgI (newI n g) e) e) e) e) = newI n g ∧ cgE endE (newI n g) e = 12 := by
  obtain ⟨e0, -, ok0⟩ := new_log h
  obtain ⟨s, c, ht, hc, hsc, hfit⟩ := tch_nat (e := e) ok0 (by rw [e0]; exact hb)
  have hb0 : tchB (newI n g).size e = true := by rw [e0]; exact hb
  have htn : tchX n g e = ⟨(s : Int), (c : Int)⟩ := by rw [e0] at ht; exact ht
  obtain ⟨-, hlen, okB0, hsz, -⟩ := okItn_iff.1 ok0
  have hg := grN_le h
  obtain ⟨n1, n2, n3, n4⟩ := new_ok (n := (grN n g).toNat) (by have := (szOkI_iff.1 h).2.1; omega)
  have hcG : (((grN n g).toNat : Nat) : Int) = grN n g := by omega
  rw [hcG] at n1 n2 n3 n4
  have a0 : actIs (newI n g).act s c 0 0 := fun k hk => by
    have : (newI n g).act = List.replicate (grN n g).toNat 0 := by rw [e0]
    simp only [this, List.getElem_replicate]
    split <;> rfl
  have bits0 : ∀ k : Nat, bit (newI n g).bm.ws k = false := fun k => by rw [e0]; exact n4 k
  -- the first Begin
  have E1 : bgE (newI n g) e = 0 := by
    unfold bgE
    rw [(cg_parts (v := begV) ok0 hb0 ht).1, badA_is a0 hsc hc]
    rfl
  have S1 : bgS (newI n g) e = true := by
    unfold bgS
    rw [decide_eq_true E1, ht, Bool.true_and]
    refine newG_iff.2 ⟨0, by simp only [Int.toNat_natCast]; omega, ?_⟩
    rw [show ((s : Int) + ((0 : Nat) : Int)) = ((s : Nat) : Int) by omega, getX_nat okB0, bits0]
  obtain ⟨f1, ok1⟩ := bg_ok ok0 hb0 ht E1
  generalize hA : bgI (newI n g) e = A at *
  have a1 : actIs A.act s c 1 0 := by rw [f1]; exact actTo_is a0 rfl
  have l1 : A.act.length = (newI n g).act.length := by rw [f1]; exact actTo_len ..
  have z1 : A.size = n ∧ A.gran = g := by rw [f1, e0]; exact ⟨rfl, rfl⟩
  have m1 : A.bm = chO orW (newI n g).bm ⟨(s : Int), (c : Int)⟩ := by rw [f1]
  have hb1 : tchB A.size e = true := by rw [z1.1]; exact hb
  have ht1 : tchX A.size A.gran e = ⟨(s : Int), (c : Int)⟩ := by rw [z1.1, z1.2]; exact htn
  have bits1 : ∀ k : Nat, bit A.bm.ws k = decide ((s : Int) ≤ (k : Int) ∧ (k : Int) < (s : Int) + (c : Int)) := fun k => by rw [m1, set_bit okB0 hfit, bits0, Bool.false_or]
  have okB1 := (okItn_iff.1 ok1).2.2.1
  -- the second one
  have E2 : bgE A e = 0 := by
    unfold bgE
    rw [(cg_parts (v := begV) ok1 hb1 ht1).1, badA_is a1 (by rw [l1]; exact hsc) hc]
    rfl
  have S2 : bgS A e = false := by
    unfold bgS
    rw [decide_eq_true E2, ht1, Bool.true_and, Bool.eq_false_iff]
    intro hh
    obtain ⟨k, k1, k2⟩ := newG_iff.1 hh
    simp only [Int.toNat_natCast] at k1 k2
    rw [show ((s : Int) + (k : Int)) = ((s + k : Nat) : Int) by omega, getX_nat okB1, bits1, decide_eq_true (by omega)] at k2
    cases k2
  obtain ⟨f2, ok2⟩ := bg_ok ok1 hb1 ht1 E2
  generalize hB : bgI A e = B at *
  have a2 : actIs B.act s c 2 0 := by rw [f2]; exact actTo_is a1 rfl
  have l2 : B.act.length = (newI n g).act.length := by rw [f2]; exact (actTo_len ..).trans l1
  have z2 : B.size = n ∧ B.gran = g := by rw [f2]; exact z1
  have m2 : B.bm = chO orW A.bm ⟨(s : Int), (c : Int)⟩ := by rw [f2]
  have hb2 : tchB B.size e = true := by rw [z2.1]; exact hb
  have ht2 : tchX B.size B.gran e = ⟨(s : Int), (c : Int)⟩ := by rw [z2.1, z2.2]; exact htn
  have s1 : A.bm.size = (newI n g).bm.size := by rw [m1]; exact (set_ok okB0 hfit).2.2.1
  have hfit1 : bmFit A.bm.size ⟨(s : Int), (c : Int)⟩ = true := by rw [s1]; exact hfit
  have bits2 : ∀ k : Nat, bit B.bm.ws k = decide ((s : Int) ≤ (k : Int) ∧ (k : Int) < (s : Int) + (c : Int)) := fun k => by rw [m2, set_bit okB1 hfit1, bits1, Bool.or_self]
  have s2 : B.bm.size = (newI n g).bm.size := by rw [m2]; exact (set_ok okB1 hfit1).2.2.1.trans s1
  -- both Ends
  have E3 : cgE endE B e = 0 := by
    rw [(cg_parts (v := endV) ok2 hb2 ht2).1, badA_is a2 (by rw [l2]; exact hsc) hc]
    rfl
  obtain ⟨f3, ok3⟩ := ed_ok ok2 hb2 ht2 E3
  generalize hC : cgI endV endE B e = C at *
  have a3 : actIs C.act s c 1 0 := by rw [f3]; exact actTo_is a2 rfl
  have l3 : C.act.length = (newI n g).act.length := by rw [f3]; exact (actTo_len ..).trans l2
  have z3 : C.size = n ∧ C.gran = g := by rw [f3]; exact z2
  have m3 : C.bm = B.bm := by rw [f3]
  have hb3 : tchB C.size e = true := by rw [z3.1]; exact hb
  have ht3 : tchX C.size C.gran e = ⟨(s : Int), (c : Int)⟩ := by rw [z3.1, z3.2]; exact htn
  have E4 : cgE endE C e = 0 := by
    rw [(cg_parts (v := endV) ok3 hb3 ht3).1, badA_is a3 (by rw [l3]; exact hsc) hc]
    rfl
  obtain ⟨f4, ok4⟩ := ed_ok ok3 hb3 ht3 E4
  generalize hD : cgI endV endE C e = D at *
  have a4 : actIs D.act s c 0 0 := by rw [f4]; exact actTo_is a3 rfl
  have l4 : D.act.length = (newI n g).act.length := by rw [f4]; exact (actTo_len ..).trans l3
  have z4 : D.size = n ∧ D.gran = g := by rw [f4]; exact z3
  have m4 : D.bm = B.bm := by rw [f4]; exact m3
  have okB4 := (okItn_iff.1 ok4).2.2.1
  -- Clean
  obtain ⟨q1, q2, q3, q4⟩ := cln_ok ok4 D.act.length (Nat.le_refl _)
  have hz : ∀ k : Nat, D.act.getD k 0 = 0 := fun k => by
    rw [List.getD_eq_getElem?_getD]
    by_cases ck : k < D.act.length
    · rw [List.getElem?_eq_getElem ck]
      show D.act[k] = 0
      rw [a4 k ck]
      split <;> rfl
    · rw [List.getElem?_eq_none (by omega)]
      rfl
  have F5 : clnF D = true := by
    unfold clnF
    rw [ok4, Bool.true_and]
    refine q4.2 ⟨s, by rw [l4]; omega, hz s, ?_⟩
    rw [m4, bits2, decide_eq_true (by omega)]
  have hbm : (clnAt D D.act.length).1 = newO (grN n g) := by
    refine bm_ext q1 n2 ?_ fun k hk => ?_
    · rw [q2, m4, s2, hsz, hlen, n3]
      rw [e0]
    · rw [q3, n4]
      have hk2 : k < D.act.length := by
        rw [q2, m4, s2, hsz, ← l4] at hk
        omega
      rw [decide_eq_true ⟨hk2, hz k⟩]
      simp
  have I5 : clnI D = newI n g := by
    unfold clnI
    rw [if_pos ok4, hbm, e0]
    have : D.act = List.replicate (grN n g).toNat 0 := act_same a4 (by rw [l4, e0, List.length_replicate])
    rw [this, z4.1, z4.2]
  refine ⟨E1, S1, E2, S2, E3, E4, F5, I5, ?_⟩
  rw [(cg_parts (v := endV) ok0 hb0 ht).1, badA_is a0 hsc hc]
  rfl
end Go.Proofs.YtdahanchdjadiaaDoor.V
