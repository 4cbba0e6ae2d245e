/-
  Part 17 of the texts that the statement stands on.
-/
import Derived.Test.YtldnpgbacakfeaaZ16
set_option linter.all false
namespace Go.Proofs.Ytldnpgbacakfeaa.V
set_option linter.all false

theorem wrErrs_ok (sz : List Int) : ∀ (l : List Wrt) (i : Nat), (∀ w ∈ l, wrErr sz w = 0) → (wrErrs sz l i).2 = 0
  | [], _, _ => rfl
  | w :: l, i, h => by
    unfold wrErrs
    rw [if_neg (by rw [h w (by simp)]; simp)]
    exact wrErrs_ok sz l (i + 1) fun x hx => h x (by simp [hx])
theorem bound_list : ∀ l : List Nat, ∃ m : Nat, ∀ k ∈ l, k < m
  | [] => ⟨0, fun k hk => by cases hk⟩
  | x :: l => by
    obtain ⟨m, hm⟩ := bound_list l
    refine ⟨max m (x + 1), fun k hk => ?_⟩
    rcases List.mem_cons.1 hk with rfl | hk
    · omega
    · have := hm k hk; omega
theorem exts_cover : ∀ (n : Nat) (l : List Nat), l.length = n → ∀ i ∈ l, ∃ x ∈ exts l, x.start ≤ (i : Int) ∧ (i : Int) < x.start + x.count := by
  intro n
  induction n with
  | zero => intro l hl i hi; rw [List.eq_nil_of_length_eq_zero hl] at hi; cases hi
  | succ n ih =>
    intro l hl i hi
    rcases snoc_cases l with rfl | ⟨p, j, rfl⟩
    · simp at hl
    · have ihp := ih p (by simpa using hl)
      have hin := exts_in _ p rfl
      rw [exts_snoc]
      rcases snoc_cases (exts p) with e | ⟨pre, y, e⟩
      · rw [e] at ihp ⊢
        rcases List.mem_append.1 hi with h | h
        · obtain ⟨x, hx, _⟩ := ihp i h; cases hx
        · simp only [List.mem_singleton] at h; subst h
          exact ⟨⟨i, 1⟩, by simp [addAt], by simp, by simp only; omega⟩
      · rw [e] at ihp ⊢
        rw [addAt_snoc]
        have hc : 1 ≤ y.count := by
          obtain ⟨m, hm⟩ : ∃ m : Nat, ∀ k ∈ p, k < m := bound_list p
          exact (hin m hm y (by rw [e]; simp)).2.1
        split
        · rename_i hy
          rcases List.mem_append.1 hi with h | h
          · obtain ⟨x, hx, h1, h2⟩ := ihp i h
            rcases List.mem_append.1 hx with hx | hx
            · exact ⟨x, by simp [hx], h1, h2⟩
            · simp only [List.mem_singleton] at hx; subst hx
              exact ⟨⟨x.start, x.count + 1⟩, by simp, h1, by simp only; omega⟩
          · simp only [List.mem_singleton] at h; subst h
            exact ⟨⟨y.start, y.count + 1⟩, by simp, by simp only; omega, by simp only; omega⟩
        · rcases List.mem_append.1 hi with h | h
          · obtain ⟨x, hx, h1, h2⟩ := ihp i h
            exact ⟨x, List.mem_append_left _ hx, h1, h2⟩
          · simp only [List.mem_singleton] at h; subst h
            exact ⟨⟨i, 1⟩, by simp, by simp, by simp only; omega⟩
def cntX (l : List Exn) : Int := (l.map fun x => x.count).sum
theorem cntX_append (l m : List Exn) : cntX (l ++ m) = cntX l + cntX m := by simp [cntX]
theorem exts_sum : ∀ (n : Nat) (l : List Nat), l.length = n → cntX (exts l) = n := by
  intro n
  induction n with
  | zero => intro l hl; rw [List.eq_nil_of_length_eq_zero hl]; rfl
  | succ n ih =>
    intro l hl
    rcases snoc_cases l with rfl | ⟨p, j, rfl⟩
    · simp at hl
    · have ihp := ih p (by simpa using hl)
      rw [exts_snoc]
      rcases snoc_cases (exts p) with e | ⟨pre, y, e⟩
      · rw [e] at ihp ⊢
        simp [cntX] at ihp
        simp [addAt, cntX]; omega
      · rw [e] at ihp ⊢
        rw [cntX_append] at ihp
        rw [addAt_snoc]
        split
        · rw [cntX_append]; simp [cntX] at ihp ⊢; omega
        · rw [cntX_append, cntX_append]; simp [cntX] at ihp ⊢; omega
theorem dif_self (v : List Sec) : volDiff v v = [] := by
  have : difs v v = [] := by
    simp only [difs, difN, List.filter_eq_nil_iff]
    intro i _; simp [dif]
  rw [volDiff, this]; rfl
theorem mem_patch {a b : Img} (h1 : a.length = b.length) {w : Wrt} (hw : w ∈ patchOf a b) : ∃ (i : Nat) (ha : i < a.length) (hb : i < b.length), ∃ x ∈ volDiff a[i] b[i], w = ⟨i, x.start, (b[i].drop x.start.toNat).take x.count.toNat⟩ := by
  simp only [patchOf, patchN, List.mem_flatMap, List.mem_range, patchV, List.mem_map] at hw
  obtain ⟨i, hi, x, hx, rfl⟩ := hw
  rw [getD_lt hi, getD_lt (show i < b.length by omega)] at hx
  exact ⟨i, hi, by omega, x, hx, by rw [getD_lt (show i < b.length by omega)]⟩
theorem patch_mem {a b : Img} {i : Nat} (ha : i < a.length) (hb : i < b.length) {x : Exn} (hx : x ∈ volDiff a[i] b[i]) : (⟨i, x.start, (b[i].drop x.start.toNat).take x.count.toNat⟩ : Wrt) ∈ patchOf a b := by
  simp only [patchOf, patchN, List.mem_flatMap, List.mem_range, patchV, List.mem_map]
  exact ⟨i, ha, x, by rw [getD_lt ha, getD_lt hb]; exact hx, by rw [getD_lt hb]⟩
theorem patch_fits {a b : Img} (hs : imSizes a = imSizes b) {w : Wrt} (hw : w ∈ patchOf a b) : wrErr (szsOf a) w = 0 ∧ i64b w.volume = true ∧ i64b w.start = true ∨ ¬ (a.length ≤ lim ∧ ∀ v ∈ a, v.length ≤ lim) := by
  obtain ⟨z1, z2⟩ := sizes_inj hs
  by_cases hl : a.length ≤ lim ∧ ∀ v ∈ a, v.length ≤ lim
  rotate_left
  · exact .inr hl
  left
  obtain ⟨i, ha, hb, x, hx, rfl⟩ := mem_patch z1 hw
  obtain ⟨h1, h2, h3⟩ := volDiff_in hx
  have hla := hl.2 _ (List.getElem_mem ha)
  have hlen : ((b[i].drop x.start.toNat).take x.count.toNat).length = x.count.toNat := by simp; have := z2 i ha hb; omega
  have hlim : lim = 1073741824 := rfl
  refine ⟨?_, by simp [i64b]; omega, by simp [i64b]; omega⟩
  have hsz : (szsOf a).length = a.length := by simp [szsOf]
  have hgd : (szsOf a).getD i 0 = (a[i].length : Int) := by
    simp only [szsOf, List.getD_eq_getElem?_getD, List.getElem?_map, List.getElem?_eq_getElem ha, Option.map_some, Option.getD_some]
  unfold wrErr
  simp only [hsz, hlen]
  rw [if_neg (by omega), if_neg (by omega), if_neg (by rw [show ((i : Int)).toNat = i by simp, hgd]; omega)]
theorem want_all (v s : Nat) (B : Sec) : ∀ (l : List Wrt) (x : Sec), (∀ w ∈ l, hit w v s = true → w.data.getD ((s : Int) - w.start).toNat zSec = B) → (x = B ∨ ∃ w ∈ l, hit w v s = true) → wantOf v s l x = B
  | [], x, _, h => by
    rcases h with h | ⟨w, hw, _⟩
    · exact h
    · cases hw
  | w :: l, x, hh, h => by
    show wantOf v s l (wantStep v s x w) = B
    refine want_all v s B l _ (fun y hy => hh y (by simp [hy])) ?_
    by_cases c : hit w v s = true
    · left; unfold wantStep; rw [if_pos c]; exact hh w (by simp) c
    · rcases h with h | ⟨y, hy, hc⟩
      · left; unfold wantStep; rw [if_neg c]; exact h
      · rcases List.mem_cons.1 hy with rfl | hy
        · exact absurd hc c
        · exact .inr ⟨y, hy, hc⟩
theorem patch_makes {a b : Img} (hs : imSizes a = imSizes b) (h0 : szErr (szsOf a) = 0) (hl : a.length ≤ lim) (hr : ∀ v ∈ a, v.length ≤ lim) : apE a (patchOf a b) = 0 ∧ apO a (patchOf a b) = b := by
  obtain ⟨z1, z2⟩ := sizes_inj hs
  have hfit : ∀ w ∈ patchOf a b, wrErr (szsOf a) w = 0 := fun w hw => by
    rcases patch_fits hs hw with h | h
    · exact h.1
    · exact absurd ⟨hl, hr⟩ h
  have hE := wrErrs_ok (szsOf a) (patchOf a b) 0 hfit
  have he : apE a (patchOf a b) = 0 := by unfold apE; rw [if_neg (by rw [h0]; simp)]; exact hE
  refine ⟨he, ?_⟩
  have hO : apO a (patchOf a b) = (patchOf a b).foldl put1 a := by unfold apO; rw [if_pos he]
  have hsz := apO_sizes he
  obtain ⟨y1, y2⟩ := sizes_inj (a := apO a (patchOf a b)) (b := a) hsz
  apply List.ext_getElem (by omega)
  intro v h1 h2
  have hva : v < a.length := by omega
  apply List.ext_getElem (by rw [y2 v h1 hva, z2 v hva h2])
  intro s h3 h4
  have hsa : s < a[v].length := by rw [z2 v hva h2]; exact h4
  have := puts_get (patchOf a b) a 0 hE hva (s := s) (by rw [getD_lt hva]; exact hsa)
  rw [← hO] at this
  unfold getS at this
  rw [getD_lt h1, getD_lt h3, getD_lt hva, getD_lt hsa] at this
  rw [this]
  refine want_all v s b[v][s] _ _ (fun w hw hh => ?_) ?_
  · obtain ⟨i, ha, hb, x, hx, rfl⟩ := mem_patch z1 hw
    simp only [hit, Bool.and_eq_true, decide_eq_true_eq] at hh
    obtain ⟨e1, e2, e3⟩ := hh
    have : i = v := by omega
    subst this
    obtain ⟨q1, q2, q3⟩ := volDiff_in hx
    simp only [List.length_take, List.length_drop] at e3
    have hk : ((s : Int) - x.start).toNat < ((b[i].drop x.start.toNat).take x.count.toNat).length := by simp; omega
    rw [getD_lt hk, List.getElem_take, List.getElem_drop]
    congr 1; omega
  · by_cases hd : a[v][s] = b[v][s]
    · exact .inl hd
    · right
      have hmem : s ∈ difs a[v] b[v] := by
        simp only [difs, difN, List.mem_filter, List.mem_range]
        exact ⟨hsa, by simp [dif, List.getElem?_eq_getElem hsa, List.getElem?_eq_getElem h4, hd]⟩
      obtain ⟨x, hx, k1, k2⟩ := exts_cover _ _ rfl s hmem
      obtain ⟨q1, q2, q3⟩ := volDiff_in hx
      refine ⟨_, patch_mem hva h2 hx, ?_⟩
      have := z2 v hva h2
      simp only [hit, Bool.and_eq_true, decide_eq_true_eq, List.length_take, List.length_drop]
      exact ⟨trivial, k1, by omega⟩
def cntA (a b : Img) (n : Nat) : Nat := ((List.range n).map fun v => (difs (a.getD v []) (b.getD v [])).length).sum
theorem cntA_succ (a b : Img) (n : Nat) : cntA a b (n + 1) = cntA a b n + (difs (a.getD n []) (b.getD n [])).length := by simp [cntA, List.range_succ]
def datLen (l : List Wrt) : Nat := (l.map fun w => w.data.length).sum
theorem datLen_append (l m : List Wrt) : datLen (l ++ m) = datLen l + datLen m := by simp [datLen]
theorem patchV_len {i : Nat} {v : List Sec} : ∀ {l : List Exn}, (∀ x ∈ l, 0 ≤ x.start ∧ 1 ≤ x.count ∧ x.start + x.count ≤ (v.length : Int)) → (datLen (patchV i v l) : Int) = cntX l
  | [], _ => rfl
  | x :: l, h => by
    obtain ⟨h1, h2, h3⟩ := h x (by simp)
    have ih := patchV_len (i := i) (l := l) fun y hy => h y (by simp [hy])
    simp only [datLen, patchV, cntX, List.map_cons, List.sum_cons, List.length_take, List.length_drop] at ih ⊢
    omega
theorem patch_cnt {a b : Img} (hs : imSizes a = imSizes b) : ∀ n, n ≤ a.length → datLen (patchN a b n) = cntA a b n := by
  obtain ⟨z1, z2⟩ := sizes_inj hs
  intro n
  induction n with
  | zero => intro _; rfl
  | succ n ih =>
    intro h
    rw [patchN_succ, datLen_append, cntA_succ, ih (by omega)]
    congr 1
    have ha : n < a.length := by omega
    have hb : n < b.length := by omega
    rw [getD_lt ha, getD_lt hb]
    have e1 := patchV_len (i := n) (v := b[n]) (l := volDiff a[n] b[n]) fun x hx => by rw [← z2 n ha hb]; exact volDiff_in hx
    have e2 := exts_sum _ (difs a[n] b[n]) rfl
    unfold volDiff at e1
    rw [e2] at e1
    unfold volDiff
    omega
theorem patch_nil {a b : Img} (hs : imSizes a = imSizes b) (h0 : szErr (szsOf a) = 0) (hl : a.length ≤ lim) (hr : ∀ v ∈ a, v.length ≤ lim) : (patchOf a b).length = 0 ↔ a = b := by
  constructor
  · intro h
    have h := List.eq_nil_of_length_eq_zero h
    have := (patch_makes hs h0 hl hr).2
    rw [h] at this
    have he := (patch_makes hs h0 hl hr).1
    rw [h] at he
    unfold apO at this
    rw [if_pos he] at this
    exact this
  · rintro rfl
    have : patchOf a a = [] := by
      simp only [patchOf, patchN, List.flatMap_eq_nil_iff, patchV, dif_self, List.map_nil]
      intro _ _; trivial
    rw [this]; rfl
end Go.Proofs.Ytldnpgbacakfeaa.V
