/-
  Part 8 of the texts that the statement stands on.
-/
import Derived.Test.YtdahanchdjadiaaDoorZ7
set_option linter.all false
namespace Go.Proofs.YtdahanchdjadiaaDoor.V
theorem newI_len (s g : Int) : (newI s g).act.length ≤ 4096 ∧ (newI s g).bm.ws.length ≤ 64 := by
  unfold newI
  split
  · rename_i c
    have h1 := grN_le c
    have h2 := (szOkI_iff.1 c).2.1
    refine ⟨by rw [List.length_replicate]; omega, ?_⟩
    unfold newO
    rw [if_neg (by omega), List.length_replicate]
    unfold wdsN
    omega
  · exact ⟨by decide, by decide⟩
end Go.Proofs.YtdahanchdjadiaaDoor.V

namespace Go.Proofs.YtdahanchdjadiaaDoor.V
theorem getX_nat {b : Bm} (h : okB b = true) (g : Nat) : getX b (g : Int) = bit b.ws g := by
  unfold getX
  rw [h, Bool.true_and, decide_eq_true (by omega), Bool.true_and, Int.toNat_natCast]
  cases hb : bit b.ws g with
  | false => rw [Bool.and_false]
  | true => rw [decide_eq_true (bit_size h hb)]; rfl
theorem set_bit {b : Bm} {e : Exn} (h : okB b = true) (hf : bmFit b.size e = true) (s : Nat) : bit (chO orW b e).ws s = (bit b.ws s || decide (e.start ≤ (s : Int) ∧ (s : Int) < e.start + e.count)) := by
  obtain ⟨_, h2, h3, h4⟩ := set_ok h hf
  by_cases c : (s : Int) < b.size
  · exact h4 s c
  · have := bmFit_iff.1 hf
    rw [(okB_iff.1 h2).2 s (by rw [h3]; omega), (okB_iff.1 h).2 s (by omega), decide_eq_false (by omega)]
    rfl
theorem begV_in {n : Int} (h : 0 ≤ n ∧ n ≤ 4096) (he : begE n = 0) : 0 < begV n ∧ begV n ≤ 4096 := by
  unfold begE at he
  unfold begV
  split at he
  · cases he
  · rename_i c
    rw [if_neg c]; omega
theorem tch_nat {i : Itn} {e : Exn} (h : okItn i = true) (hb : tchB i.size e = true) : ∃ s c : Nat, tchX i.size i.gran e = ⟨(s : Int), (c : Int)⟩ ∧ 1 ≤ c ∧ s + c ≤ i.act.length ∧ bmFit i.bm.size ⟨(s : Int), (c : Int)⟩ = true := by
  obtain ⟨h1, h2, h3, h4, h5⟩ := okItn_iff.1 h
  obtain ⟨t1, t2, t3⟩ := tch_in h1 hb
  refine ⟨(tchX i.size i.gran e).start.toNat, (tchX i.size i.gran e).count.toNat, ?_, by omega, by omega, bmFit_iff.2 (by simp only; omega)⟩
  generalize tchX i.size i.gran e = t at *
  obtain ⟨a, b⟩ := t
  simp only at *
  simp only [Exn.mk.injEq]
  omega
theorem cg_parts {v er : Int → Int} {i : Itn} {e : Exn} {s c : Nat} (h : okItn i = true) (hb : tchB i.size e = true) (ht : tchX i.size i.gran e = ⟨(s : Int), (c : Int)⟩) : cgE er i e = badA er i.act s c ∧ (badA er i.act s c = 0 → cgI v er i e = { i with act := actTo v i.act s c }) := by
  have hE : cgE er i e = badA er i.act s c := by
    unfold cgE
    rw [if_neg (by rw [h]; decide), if_neg (by rw [hb]; decide), ht]
    rfl
  refine ⟨hE, fun h0 => ?_⟩
  unfold cgI
  rw [if_pos (by rw [hE]; exact h0), ht]
  rfl
theorem bg_ok {i : Itn} {e : Exn} {s c : Nat} (h : okItn i = true) (hb : tchB i.size e = true) (ht : tchX i.size i.gran e = ⟨(s : Int), (c : Int)⟩) (h0 : bgE i e = 0) :
    bgI i e = ⟨i.size, i.gran, actTo begV i.act s c, chO orW i.bm ⟨(s : Int), (c : Int)⟩⟩ ∧ okItn (bgI i e) = true := by
  obtain ⟨h1, h2, h3, h4, h5⟩ := okItn_iff.1 h
  obtain ⟨hE, hI⟩ := cg_parts (v := begV) (er := begE) h hb ht
  have h0' : badA begE i.act s c = 0 := by rw [← hE]; exact h0
  obtain ⟨s', c', ht', k1, k2, k3⟩ := tch_nat h hb
  obtain ⟨rfl, rfl⟩ : s' = s ∧ c' = c := by rw [ht] at ht'; simp only [Exn.mk.injEq] at ht'; omega
  have e1 : bgI i e = ⟨i.size, i.gran, actTo begV i.act s' c', chO orW i.bm ⟨(s' : Int), (c' : Int)⟩⟩ := by
    unfold bgI
    rw [if_pos h0, hI h0', ht]
  refine ⟨e1, ?_⟩
  obtain ⟨g1, g2, g3, -⟩ := set_ok h3 k3
  have g4 := set_bit h3 k3
  have hbad := (badA_cases begE k2).resolve_right (fun ⟨m, hm, _, q2, q3⟩ => q2 (by rw [← q3]; exact h0'))
  rw [e1]
  refine okItn_iff.2 ⟨h1, by rw [actTo_len]; exact h2, g2, by rw [actTo_len, g3]; exact h4, fun g hg => ?_⟩
  rw [actTo_len] at hg
  rw [actTo_at]
  have q := h5 g hg
  obtain ⟨q1, q2⟩ := badG_in q
  have hx : getX (chO orW i.bm ⟨(s' : Int), (c' : Int)⟩) (g : Int) = (bit i.bm.ws g || decide ((s' : Int) ≤ (g : Int) ∧ (g : Int) < (s' : Int) + (c' : Int))) := by rw [getX_nat g2, g4]
  unfold badG
  split
  · rename_i cc
    have hz := hbad.2 (g - s') (by omega)
    simp only [show s' + (g - s') = g by omega] at hz
    have := begV_in q1 hz
    rw [hx, decide_eq_false (by omega), decide_eq_false (by omega), decide_eq_true (show (s' : Int) ≤ (g : Int) ∧ (g : Int) < (s' : Int) + (c' : Int) by omega)]
    simp
  · rw [hx, decide_eq_false (by omega), decide_eq_false (by omega)]
    by_cases c0 : 0 < i.act[g]
    · have := q2 c0
      rw [getX_nat h3] at this
      rw [this]
      simp
    · rw [decide_eq_false (by omega)]
      simp
theorem new_log {s g : Int} (h : szOkI s g = true) : newI s g = ⟨s, g, List.replicate (grN s g).toNat 0, newO (grN s g)⟩ ∧ newIE s g = 0 ∧ okItn (newI s g) = true := by
  have hg := grN_le h
  have h2 := (szOkI_iff.1 h).2.1
  have e1 : newI s g = ⟨s, g, List.replicate (grN s g).toNat 0, newO (grN s g)⟩ := by unfold newI; rw [if_pos h]
  refine ⟨e1, by unfold newIE; rw [if_pos h], ?_⟩
  obtain ⟨n1, n2, n3, n4⟩ := new_ok (n := (grN s g).toNat) (by omega)
  have hc : (((grN s g).toNat : Nat) : Int) = grN s g := by omega
  rw [hc] at n1 n2 n3 n4
  rw [e1]
  refine okItn_iff.2 ⟨h, by simp only [List.length_replicate]; omega, n2, by simp only [List.length_replicate]; rw [n3]; omega, fun g hg => ?_⟩
  unfold badG
  simp
end Go.Proofs.YtdahanchdjadiaaDoor.V

namespace Go.Proofs.YtdahanchdjadiaaDoor.V
theorem orS_eq (l : List Exn) : orS l = ext (inS l) 4096 := by
  unfold orS setOf
  exact ext_congr fun s _ => by simp [orB, inS]
end Go.Proofs.YtdahanchdjadiaaDoor.V

namespace Go.Proofs.YtdahanchdjadiaaDoor.V
theorem inS_add {l : List Exn} {n : Nat} (h : ∀ x ∈ l, 0 ≤ x.start ∧ 1 ≤ x.count ∧ x.start + x.count ≤ (n : Int)) (s : Nat) : inS (addAt l n) s = (inS l s || decide (s = n)) := by
  rcases snoc_cases l with e | ⟨pre, y, e⟩
  · subst e
    show inS [⟨(n : Int), 1⟩] s = _
    rw [Bool.eq_iff_iff]
    simp [inS, inE]; omega
  · subst e
    have hy := h y (by simp)
    rw [addAt_snoc]
    split
    · rw [inS_snoc, inS_snoc, Bool.or_assoc]
      congr 1
      rw [Bool.eq_iff_iff]
      simp [inE]; omega
    · rw [inS_snoc (pre ++ [y])]
      congr 1
      rw [Bool.eq_iff_iff]
      simp [inE]; omega
theorem inS_ext (p : Nat → Bool) (s : Nat) : ∀ n, inS (ext p n) s = (decide (s < n) && p s)
  | 0 => by simp [ext_zero, inS]
  | n + 1 => by
    rw [ext_succ]
    by_cases h : p n = true
    · rw [if_pos h, inS_add (ext_in p n), inS_ext p s n]
      by_cases h2 : s = n
      · subst h2; rw [h]; simp
      · rw [decide_eq_false h2, Bool.or_false]
        congr 1
        rw [Bool.eq_iff_iff]; simp; omega
    · rw [if_neg h, inS_ext p s n]
      by_cases h2 : s = n
      · subst h2; simp [h]
      · congr 1
        rw [Bool.eq_iff_iff]; simp; omega
end Go.Proofs.YtdahanchdjadiaaDoor.V

namespace Go.Proofs.YtdahanchdjadiaaDoor.V
def can : Int → List Exn → Prop
  | _, [] => True
  | nx, x :: l => nx ≤ x.start ∧ 1 ≤ x.count ∧ can (x.start + x.count + 1) l
def endN : Int → List Exn → Int
  | nx, [] => nx
  | _, x :: l => endN (x.start + x.count + 1) l
theorem endN_snoc : ∀ (l : List Exn) (nx : Int) (x : Exn), endN nx (l ++ [x]) = x.start + x.count + 1
  | [], _, _ => rfl
  | y :: l, _, x => endN_snoc l (y.start + y.count + 1) x
theorem can_snoc : ∀ (l : List Exn) (nx : Int) (x : Exn), can nx (l ++ [x]) ↔ can nx l ∧ endN nx l ≤ x.start ∧ 1 ≤ x.count
  | [], nx, x => by simp [can, endN]
  | y :: l, nx, x => by
    have := can_snoc l (y.start + y.count + 1) x
    show nx ≤ y.start ∧ 1 ≤ y.count ∧ can _ (l ++ [x]) ↔ (nx ≤ y.start ∧ 1 ≤ y.count ∧ can _ l) ∧ endN _ l ≤ x.start ∧ 1 ≤ x.count
    rw [this]
    constructor
    · rintro ⟨a, b, c, d⟩; exact ⟨⟨a, b, c⟩, d⟩
    · rintro ⟨⟨a, b, c⟩, d⟩; exact ⟨a, b, c, d⟩
theorem can_ext (p : Nat → Bool) : ∀ n : Nat, can 0 (ext p n) ∧ endN 0 (ext p n) ≤ (n : Int) + 1
  | 0 => by rw [ext_zero]; exact ⟨trivial, by simp [endN]⟩
  | n + 1 => by
    obtain ⟨h1, h2⟩ := can_ext p n
    rw [ext_succ]
    split
    · rcases snoc_cases (ext p n) with e | ⟨pre, x, e⟩
      · rw [e]
        have : addAt [] n = [⟨(n : Int), 1⟩] := rfl
        rw [this]
        exact ⟨⟨by simp only; omega, by simp only; omega, trivial⟩, by simp only [endN]; omega⟩
      · rw [e] at h1 h2 ⊢
        have hx := ext_in p n x (by rw [e]; simp)
        rw [endN_snoc] at h2
        obtain ⟨c1, c2, c3⟩ := (can_snoc _ _ _).1 h1
        rw [addAt_snoc]
        split
        · exact ⟨(can_snoc _ _ _).2 ⟨c1, c2, by simp only; omega⟩, by rw [endN_snoc]; simp only; omega⟩
        · exact ⟨(can_snoc _ _ _).2 ⟨h1, by rw [endN_snoc]; simp only; omega, by simp⟩, by rw [endN_snoc]; simp only; omega⟩
    · exact ⟨h1, by omega⟩
theorem chk_can {size : Int} : ∀ (l : List Exn) (nx : Int), can nx l → (∀ x ∈ l, 0 ≤ x.start ∧ x.start + x.count ≤ size) → chkGo size nx l = 0
  | [], _, _, _ => rfl
  | x :: l, nx, h, hb => by
    obtain ⟨h1, h2, h3⟩ := h
    have hx := hb x (by simp)
    unfold chkGo
    rw [if_neg (by omega), if_neg (by omega), if_neg (by omega)]
    exact chk_can l _ h3 fun y hy => hb y (by simp [hy])
theorem chk_ext' (p : Nat → Bool) (n : Nat) : chkGo n 0 (ext p n) = 0 := chk_can _ 0 (can_ext p n).1 fun x hx => by have := ext_in p n x hx; omega
end Go.Proofs.YtdahanchdjadiaaDoor.V

namespace Go.Proofs.YtdahanchdjadiaaDoor.V
theorem bg_keep {i : Itn} {e : Exn} (h : okItn i = true) (h0 : bgE i e = 0) : okItn (bgI i e) = true ∧ (bgI i e).size = i.size ∧ (bgI i e).gran = i.gran ∧ (bgI i e).act.length = i.act.length := by
  obtain ⟨-, hb⟩ := cg_ok begE_cases h0
  obtain ⟨s, c, ht, -⟩ := tch_nat h hb
  obtain ⟨e1, e2⟩ := bg_ok h hb ht h0
  refine ⟨e2, ?_⟩
  rw [e1]
  exact ⟨rfl, rfl, actTo_len ..⟩
theorem chk_bits (p : Nat → Bool) {n : Nat} (hn : n ≤ 4096) : chkX (ext p n) n = 0 := by
  unfold chkX
  rw [if_neg (by omega)]
  exact chk_ext' p n
theorem bm_x {b : Bm} (h : okB b = true) : bmX b = ext (bit b.ws) b.size.toNat := by
  unfold bmX bmExts
  rw [if_pos h]
theorem fx_bits {b : Bm} (h : okB b = true) : fxO b.size (bmX b) = b := by
  have hs := okB_size h
  have hc : ((b.size.toNat : Nat) : Int) = b.size := by omega
  obtain ⟨-, -, g2, g3, g4⟩ := fx_ok (n := b.size.toNat) (l := bmX b) (by omega) (fun e he => by
    rw [bm_x h] at he
    exact ext_in _ _ e he)
  rw [hc] at g2 g3 g4
  refine bm_ext g2 h g3 fun s hlt => ?_
  rw [g3] at hlt
  rw [g4 s (by omega), bm_x h, inS_ext, decide_eq_true (by omega), Bool.true_and]
theorem sec_mem {n g : Int} {x : Exn} (hn : 1 ≤ n ∧ n ≤ 4096) (hg : 1 ≤ g ∧ g ≤ 4096) (hx : 0 ≤ x.start ∧ 1 ≤ x.count ∧ x.start + x.count ≤ grN n g) {s : Nat} (hs : (s : Int) < n) : inE (secX n g x) s = inE x (((s : Int) / g).toNat) := by
  obtain ⟨a1, a2, a3, a4⟩ := sec_arith hn hg hx
  have k0 : 0 ≤ (s : Int) / g := Int.ediv_nonneg (by omega) (by omega)
  have k1 : x.start ≤ (s : Int) / g ↔ x.start * g ≤ (s : Int) := Int.le_ediv_iff_mul_le (by omega)
  have k2 : (s : Int) / g < x.start + x.count ↔ (s : Int) < (x.start + x.count) * g := Int.ediv_lt_iff_lt_mul (by omega)
  have kc : ((((s : Int) / g).toNat : Nat) : Int) = (s : Int) / g := by omega
  unfold inE secX
  simp only
  rw [kc, Bool.eq_iff_iff]
  simp only [Bool.and_eq_true, decide_eq_true_eq]
  rw [k1, k2]
  split <;> omega
theorem ret_law {i : Itn} (h : okItn i = true) : (∀ c ∈ encO i, c < 256) ∧ rcE i.size i.gran (encO i) = 0 ∧ rcI i.size i.gran (encO i) = ⟨i.size, i.gran, List.replicate i.act.length 0, i.bm⟩ ∧
    (∀ s : Nat, (s : Int) < i.size → inS (rcL i.size i.gran (encO i)) s = getX i.bm ((s : Int) / i.gran)) ∧ (rcL i.size i.gran (encO i)).length ≤ 4096 ∧ ∀ x ∈ rcL i.size i.gran (encO i), 0 ≤ x.start ∧ 1 ≤ x.count ∧ x.start + x.count ≤ 4096 := by
  obtain ⟨h1, h2, h3, h4, h5⟩ := okItn_iff.1 h
  obtain ⟨z1, z2, z3, z4⟩ := szOkI_iff.1 h1
  have hg := grN_le h1
  have hm : (most : Int) = 9007199254740991 := rfl
  have hB : encO i = encI i.size ++ encI i.gran ++ encX (bmX i.bm) := by unfold encO; rw [if_pos h]
  have hxin : ∀ e ∈ bmX i.bm, 0 ≤ e.start ∧ 1 ≤ e.count ∧ e.start + e.count ≤ grN i.size i.gran := fun e he => by
    rw [bm_x h3] at he
    have := ext_in _ _ e he
    omega
  have hD : decT (encO i) = (0, i.size, i.gran, bmX i.bm) := by
    rw [hB]
    refine decT_enc (by omega) (by omega) (fun e he => ?_) (Nat.le_trans (bmX_le _) (by decide))
    have := hxin e he
    unfold inM
    omega
  obtain ⟨e1, e2, -⟩ := new_log h1
  have hck : chkX (bmX i.bm) (grN i.size i.gran) = 0 := by
    rw [bm_x h3]
    have := chk_bits (bit i.bm.ws) (n := i.bm.size.toNat) (by omega)
    rwa [show ((i.bm.size.toNat : Nat) : Int) = grN i.size i.gran by omega] at this
  have hE : rcE i.size i.gran (encO i) = 0 := by
    unfold rcE
    rw [hD, if_pos e2]
    simp only
    rw [if_pos trivial, if_pos ⟨trivial, trivial⟩, if_pos hck]
  have hL : rcL i.size i.gran (encO i) = ext (inS ((bmX i.bm).map (secX i.size i.gran))) 4096 := by
    unfold rcL
    rw [if_pos hE, hD, orS_eq]
  refine ⟨?_, hE, ?_, ?_, ?_, ?_⟩
  · rw [hB]
    intro c hc
    rcases List.mem_append.1 hc with hc | hc
    · rcases List.mem_append.1 hc with hc | hc
      · exact encI_byte _ c hc
      · exact encI_byte _ c hc
    · unfold encX at hc
      rcases List.mem_append.1 hc with hc | hc
      · exact encI_byte _ c hc
      · obtain ⟨e, -, hc⟩ := List.mem_flatMap.1 hc
        unfold encE at hc
        rcases List.mem_append.1 hc with hc | hc
        · exact encI_byte _ c hc
        · exact encI_byte _ c hc
  · unfold rcI
    rw [if_pos hE, hD, e1]
    simp only
    rw [show grN i.size i.gran = i.bm.size by omega, fx_bits h3, show i.bm.size.toNat = i.act.length by omega]
  · intro s hs
    rw [hL, inS_ext, decide_eq_true (by omega), Bool.true_and]
    have k0 : 0 ≤ (s : Int) / i.gran := Int.ediv_nonneg (by omega) (by omega)
    have kc : ((((s : Int) / i.gran).toNat : Nat) : Int) = (s : Int) / i.gran := by omega
    have e3 : inS ((bmX i.bm).map (secX i.size i.gran)) s = inS (bmX i.bm) (((s : Int) / i.gran).toNat) := by
      unfold inS
      rw [List.any_map]
      rw [Bool.eq_iff_iff, List.any_eq_true, List.any_eq_true]
      constructor
      · rintro ⟨x, hx, hh⟩
        refine ⟨x, hx, ?_⟩
        rw [← sec_mem ⟨z1, z2⟩ ⟨z3, z4⟩ (hxin x hx) hs]
        exact hh
      · rintro ⟨x, hx, hh⟩
        refine ⟨x, hx, ?_⟩
        show inE (secX i.size i.gran x) s = true
        rw [sec_mem ⟨z1, z2⟩ ⟨z3, z4⟩ (hxin x hx) hs]
        exact hh
    have hgx : ∀ k : Int, 0 ≤ k → getX i.bm k = bit i.bm.ws k.toNat := fun k hk => by
      obtain ⟨m, rfl⟩ : ∃ m : Nat, k = (m : Int) := ⟨k.toNat, by omega⟩
      rw [getX_nat h3, Int.toNat_natCast]
    rw [e3, bm_x h3, inS_ext, hgx _ k0]
    cases hb : bit i.bm.ws (((s : Int) / i.gran).toNat) with
    | false => rw [Bool.and_false]
    | true => rw [decide_eq_true (by have := bit_size h3 hb; omega)]; rfl
  · rw [hL]; exact ext_len _ _
  · rw [hL]; exact fun x hx => ext_in _ _ x hx
theorem enc_len {i : Itn} (hs : i.size ≤ 256) : (encO i).length ≤ 10000 := by
  unfold encO
  split
  · rename_i h
    obtain ⟨h1, h2, h3, h4, h5⟩ := okItn_iff.1 h
    have hg := grN_le h1
    have q1 := encI_len i.size
    have q2 := encI_len i.gran
    have q3 := encI_len ((bmX i.bm).length : Int)
    have q4 : (bmX i.bm).length ≤ 256 := by
      rw [bm_x h3]
      have := ext_len (bit i.bm.ws) i.bm.size.toNat
      omega
    have q5 : ∀ l : List Exn, (l.flatMap encE).length ≤ 18 * l.length := by
      intro l
      induction l with
      | nil => simp
      | cons e l ih =>
        rw [List.flatMap_cons, List.length_append, List.length_cons]
        have := encE_len e
        omega
    have q6 := q5 (bmX i.bm)
    rw [List.length_append, List.length_append]
    unfold encX
    rw [List.length_append]
    omega
  · simp
end Go.Proofs.YtdahanchdjadiaaDoor.V
