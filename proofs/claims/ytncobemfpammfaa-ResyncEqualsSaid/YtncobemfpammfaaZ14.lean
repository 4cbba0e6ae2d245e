/-
  Part 14 of the texts that the statement stands on.
-/
import Derived.Test.YtncobemfpammfaaZ13
set_option linter.all false
namespace Go.Proofs.Ytncobemfpammfaa.V
theorem seq_ok {im : Img} {l : List Wrt} (h : seqW im l) (hl : im.length ≤ lim) (hr : ∀ v ∈ im, v.length ≤ 1000000) : okW l := fun w hw => by
  obtain ⟨q1, q2, q3, q4⟩ := fits_in (h.1 w hw)
  have q5 := getD_len hr w.volume.toNat
  have hlim : lim = 1073741824 := rfl
  simp only [i64b, Bool.and_eq_true, decide_eq_true_eq]
  omega
end Go.Proofs.Ytncobemfpammfaa.V

namespace Go.Proofs.Ytncobemfpammfaa.V
theorem szs_at {a : Img} {v : Nat} (hv : v < a.length) : (szsOf a).getD v 0 = ((a.getD v []).length : Int) := by
  rw [getD_lt hv]
  simp only [szsOf, List.getD_eq_getElem?_getD, List.getElem?_map, List.getElem?_eq_getElem hv, Option.map_some, Option.getD_some]
theorem wr_fit {a b : Img} {x : List (List Exn)} (hs : imSizes a = imSizes b) (hf : fitE a x = 0) {w : Wrt} (hw : w ∈ wrL a x) : wrErr (szsOf b) w = 0 := by
  have hs' : szsOf a = szsOf b := hs
  obtain ⟨v, hv, e, he, rfl⟩ := wrL_mem hw
  have hl := fit_len hf
  obtain ⟨q1, q2, q3⟩ := wr_at hf hv he
  have q4 := wOf_len q1 q2 q3
  have hva : v < a.length := by omega
  have hsz : (szsOf a).length = a.length := by simp [szsOf]
  rw [← hs']
  unfold wrErr
  have e1 : (wOf a v e).volume = (v : Int) := rfl
  have e2 : (wOf a v e).start = e.start := rfl
  rw [e1, e2, hsz, Int.toNat_natCast, szs_at hva]
  rw [if_neg (by omega), if_neg (by omega), if_neg (by omega)]
theorem inS_iff {l : List Exn} {s : Nat} : inS l s = true ↔ ∃ e ∈ l, inE e s = true := by simp [inS]
theorem hit_wOf {a : Img} {i v s : Nat} {e : Exn} (q1 : 0 ≤ e.start) (q2 : 1 ≤ e.count) (q3 : e.start + e.count ≤ ((a.getD i []).length : Int)) : hit (wOf a i e) v s = true ↔ i = v ∧ inE e s = true := by
  have q4 := wOf_len q1 q2 q3
  have e1 : (wOf a i e).volume = (i : Int) := rfl
  have e2 : (wOf a i e).start = e.start := rfl
  unfold hit inE
  rw [e1, e2, q4]
  simp only [Bool.and_eq_true, decide_eq_true_eq]
  omega
theorem want_none (v s : Nat) : ∀ (l : List Wrt) (x : Sec), (∀ w ∈ l, ¬ hit w v s = true) → wantOf v s l x = x
  | [], _, _ => rfl
  | w :: l, x, h => by
    show wantOf v s l (wantStep v s x w) = x
    have : wantStep v s x w = x := by unfold wantStep; rw [if_neg (h w (by simp))]
    rw [this]
    exact want_none v s l x fun y hy => h y (by simp [hy])
theorem wr_want {a : Img} {x : List (List Exn)} (hf : fitE a x = 0) {v s : Nat} (hv : v < a.length) (hs : s < (a.getD v []).length) (y : Sec) :
    wantOf v s (wrL a x) y = if inS (x.getD v []) s then getS a v s else y := by
  have hl := fit_len hf
  by_cases c : inS (x.getD v []) s = true
  · rw [if_pos c]
    obtain ⟨e, he, hi⟩ := inS_iff.1 c
    refine want_all v s _ _ _ (fun w hw hh => ?_) (.inr ⟨wOf a v e, ?_, ?_⟩)
    · obtain ⟨i, hi', e', he', rfl⟩ := wrL_mem hw
      obtain ⟨q1, q2, q3⟩ := wr_at hf hi' he'
      obtain ⟨rfl, h2⟩ := (hit_wOf q1 q2 q3).1 hh
      simp only [inE, Bool.and_eq_true, decide_eq_true_eq] at h2
      have q4 := wOf_len q1 q2 q3
      have e2 : (wOf a i e').start = e'.start := rfl
      have e3 : (wOf a i e').data = ((a.getD i []).drop e'.start.toNat).take e'.count.toNat := rfl
      have hk : ((s : Int) - e'.start).toNat < (((a.getD i []).drop e'.start.toNat).take e'.count.toNat).length := by rw [List.length_take, List.length_drop]; omega
      unfold getS
      rw [e2, e3, getD_lt hk, getD_lt hs, List.getElem_take, List.getElem_drop]
      congr 1; omega
    · unfold wrL wrN
      exact List.mem_flatMap.2 ⟨v, List.mem_range.2 (by omega), List.mem_map.2 ⟨e, he, rfl⟩⟩
    · obtain ⟨q1, q2, q3⟩ := wr_at hf (show v < x.length by omega) he
      exact (hit_wOf q1 q2 q3).2 ⟨rfl, hi⟩
  · rw [if_neg c]
    refine want_none v s _ _ fun w hw hh => c ?_
    obtain ⟨i, hi', e', he', rfl⟩ := wrL_mem hw
    obtain ⟨q1, q2, q3⟩ := wr_at hf hi' he'
    obtain ⟨rfl, h2⟩ := (hit_wOf q1 q2 q3).1 hh
    exact inS_iff.2 ⟨e', he', h2⟩
theorem ap_wr {a b : Img} {x : List (List Exn)} (hs : imSizes a = imSizes b) (hf : fitE a x = 0) (h0 : imCheck b = 0) :
    apE b (wrL a x) = 0 ∧ szsOf (apO b (wrL a x)) = szsOf a ∧ ∀ v s, v < a.length → s < (a.getD v []).length → getS (apO b (wrL a x)) v s = if inS (x.getD v []) s then getS a v s else getS b v s := by
  have h0' : szErr (szsOf b) = 0 := h0
  have hs' : szsOf b = szsOf a := hs.symm
  have hE := wrErrs_ok (szsOf b) (wrL a x) 0 fun w hw => wr_fit hs hf hw
  have he : apE b (wrL a x) = 0 := by unfold apE; rw [if_neg (by rw [h0']; simp)]; exact hE
  have hO : apO b (wrL a x) = (wrL a x).foldl put1 b := by unfold apO; rw [if_pos he]
  refine ⟨he, (apO_sizes he).trans hs', fun v s hv hsv => ?_⟩
  obtain ⟨g1, g2⟩ := szs_getD hs' v
  rw [hO, puts_get (wrL a x) b 0 hE (show v < b.length by omega) (by omega)]
  exact wr_want hf hv hsv _
theorem img_eq {p q : Img} (h : szsOf p = szsOf q) (hg : ∀ v s, v < p.length → s < (p.getD v []).length → getS p v s = getS q v s) : p = q := by
  obtain ⟨y1, y2⟩ := sizes_inj (a := p) (b := q) h
  apply List.ext_getElem y1
  intro v h1 h2
  apply List.ext_getElem (y2 v h1 h2)
  intro s h3 h4
  have := hg v s h1 (by rw [getD_lt h1]; exact h3)
  unfold getS at this
  rw [getD_lt h1, getD_lt h3, getD_lt h2, getD_lt h4] at this
  exact this
def Hits (a b : Img) (l : List (List Exn)) : Prop := ∀ v s, v < a.length → s < (a.getD v []).length → getS a v s ≠ getS b v s → inS (l.getD v []) s = true
theorem dif_iff {a b : Img} (hs : imSizes a = imSizes b) {v s : Nat} (hv : v < a.length) (h : s < (a.getD v []).length) : dif (a.getD v []) (b.getD v []) s = true ↔ getS a v s ≠ getS b v s := by
  obtain ⟨g1, g2⟩ := szs_getD (show szsOf a = szsOf b from hs) v
  have h2 : s < (b.getD v []).length := by omega
  unfold dif getS
  rw [List.getElem?_eq_getElem h, List.getElem?_eq_getElem h2, getD_lt h, getD_lt h2]
  simp
theorem ap_all {a b : Img} {l : List (List Exn)} (hs : imSizes a = imSizes b) (hf : fitE a l = 0) (h0 : imCheck b = 0) : apO b (wrL a l) = a ↔ Hits a b l := by
  obtain ⟨h1, h2, h3⟩ := ap_wr hs hf h0
  constructor
  · intro e v s hv hsv hd
    have := h3 v s hv hsv
    rw [e] at this
    by_cases c : inS (l.getD v []) s = true
    · exact c
    · rw [if_neg c] at this; exact absurd this hd
  · intro hh
    refine (img_eq h2.symm fun v s hv hsv => ?_).symm
    rw [h3 v s hv hsv]
    by_cases c : inS (l.getD v []) s = true
    · rw [if_pos c]
    · rw [if_neg c]
      exact Classical.byContradiction fun hd => c (hh v s hv hsv hd)
theorem setOf_eq (k : Bool → Bool → Bool) (x y : List Exn) : setOf k x y = ext (fun s => k (inS x s) (inS y s)) 4096 := by unfold setOf; rfl
def ndQ (a b : Img) (l : List (List Exn)) (v s : Nat) : Bool := (decide (s < (a.getD v []).length) && dif (a.getD v []) (b.getD v []) s) && inS (l.getD v []) s
theorem need_at {a b : Img} {l : List (List Exn)} (hl : a.length = b.length) {v : Nat} (hv : v < a.length) : (needL a b l).getD v [] = ext (ndQ a b l v) 4096 := by
  have hd := dfr_len (a := a) (b := b) hl
  have e1 : (differ a b)[v]? = some (volDiff a[v] (b[v]'(by omega))) := zip_get hv (by omega)
  have hvd : v < (differ a b).length := by omega
  have e2 : (needL a b l)[v]? = some (setOf andB (volDiff a[v] (b[v]'(by omega))) (l.getD v [])) := by
    unfold needL
    rw [eachX_get _ hvd]
    rw [List.getElem?_eq_getElem hvd] at e1
    rw [Option.some.inj e1]
  rw [List.getD_eq_getElem?_getD, e2, Option.getD_some, setOf_eq]
  refine ext_congr fun s _ => ?_
  rw [volDiff_ext, inS_ext]
  unfold andB ndQ
  rw [getD_lt hv, getD_lt (show v < b.length by omega)]
theorem need_len {a b : Img} {l : List (List Exn)} (hl : a.length = b.length) : (needL a b l).length = a.length := by
  unfold needL; rw [eachX_len, dfr_len hl]
theorem ext_cut {p : Nat → Bool} {n : Nat} : ∀ k, (∀ s, n ≤ s → p s = false) → ext p (n + k) = ext p n
  | 0, _ => rfl
  | k + 1, h => by
    rw [show n + (k + 1) = n + k + 1 by omega, ext_succ, h (n + k) (by omega)]
    exact ext_cut k h
theorem ext_cut' {p : Nat → Bool} {n m : Nat} (h : n ≤ m) (hp : ∀ s, n ≤ s → p s = false) : ext p m = ext p n := by
  rw [show m = n + (m - n) by omega]; exact ext_cut _ hp
theorem ndQ_out {a b : Img} {l : List (List Exn)} {v s : Nat} (h : (a.getD v []).length ≤ s) : ndQ a b l v s = false := by
  unfold ndQ; rw [decide_eq_false (by omega)]; rfl
theorem need_cut {a b : Img} {l : List (List Exn)} {v : Nat} (h : (a.getD v []).length ≤ 4096) : ext (ndQ a b l v) 4096 = ext (ndQ a b l v) (a.getD v []).length := ext_cut' h fun s hs => ndQ_out hs
theorem fit_of {a : Img} {x : List (List Exn)} (hl : x.length = a.length) (h : ∀ v, v < a.length → chkX (x.getD v []) ((a.getD v []).length : Int) = 0) : fitE a x = 0 := by
  unfold fitE
  rw [if_neg (by omega), if_neg]
  intro hc
  have hm := List.contains_iff_mem.1 hc
  unfold fitB eachX at hm
  obtain ⟨i, hi, e⟩ := List.mem_mapIdx.1 hm
  have := h i (by omega)
  rw [getD_lt hi] at this
  rw [this] at e
  simp at e
theorem need_fits {a b : Img} {l : List (List Exn)} (hl : a.length = b.length) (hr : ∀ v ∈ a, v.length ≤ 4096) : fitE a (needL a b l) = 0 := by
  refine fit_of (need_len hl) fun v hv => ?_
  have h1 : (a.getD v []).length ≤ 4096 := by rw [getD_lt hv]; exact hr _ (List.getElem_mem hv)
  rw [need_at hl hv, need_cut h1]
  unfold chkX
  rw [if_neg (by omega)]
  exact chk_ext' _ _
theorem need_inS {a b : Img} {l : List (List Exn)} (hs : imSizes a = imSizes b) (hr : ∀ v ∈ a, v.length ≤ 4096) {v s : Nat} (hv : v < a.length) (h : s < (a.getD v []).length) :
    inS ((needL a b l).getD v []) s = true ↔ getS a v s ≠ getS b v s ∧ inS (l.getD v []) s = true := by
  have h1 : (a.getD v []).length ≤ 4096 := by rw [getD_lt hv]; exact hr _ (List.getElem_mem hv)
  rw [need_at (sizes_inj hs).1 hv, inS_ext]
  unfold ndQ
  simp only [Bool.and_eq_true, decide_eq_true_eq]
  rw [dif_iff hs hv h]
  constructor
  · rintro ⟨_, ⟨_, p⟩, q⟩; exact ⟨p, q⟩
  · rintro ⟨p, q⟩; exact ⟨by omega, ⟨h, p⟩, q⟩
theorem ap_same {a b : Img} {l : List (List Exn)} (hs : imSizes a = imSizes b) (hf : fitE a l = 0) (h0 : imCheck b = 0) (hr : ∀ v ∈ a, v.length ≤ 4096) : apO b (wrL a l) = apO b (wrL a (needL a b l)) := by
  have z := (sizes_inj hs).1
  obtain ⟨h1, h2, h3⟩ := ap_wr hs hf h0
  obtain ⟨k1, k2, k3⟩ := ap_wr (x := needL a b l) hs (need_fits z hr) h0
  have hl : (apO b (wrL a l)).length = a.length := (sizes_inj (a := apO b (wrL a l)) (b := a) h2).1
  refine img_eq (h2.trans k2.symm) fun v s hv hsv => ?_
  have hv' : v < a.length := by omega
  have hsv' : s < (a.getD v []).length := by have := (szs_getD h2 v).1; omega
  rw [h3 v s hv' hsv', k3 v s hv' hsv']
  have hn := need_inS (l := l) hs hr hv' hsv'
  by_cases c : inS (l.getD v []) s = true
  · rw [if_pos c]
    by_cases d : getS a v s = getS b v s
    · rw [d]; split <;> rfl
    · rw [if_pos (hn.2 ⟨d, c⟩)]
  · rw [if_neg c, if_neg fun h => c (hn.1 h).2]
theorem need_exact {a b : Img} {l : List (List Exn)} (hs : imSizes a = imSizes b) (hr : ∀ v ∈ a, v.length ≤ 4096) : differ a b = needL a b l ↔ Hits a b l := by
  have z := (sizes_inj hs).1
  have hd : ∀ v, v < a.length → (differ a b).getD v [] = ext (dif (a.getD v []) (b.getD v [])) (a.getD v []).length := fun v hv => by
    have e1 := zip_get (a := a) (b := b) hv (by omega)
    rw [List.getD_eq_getElem?_getD, e1, getD_lt hv, getD_lt (show v < b.length by omega)]
    exact volDiff_ext _ _
  constructor
  · intro e v s hv hsv hne
    have h1 : inS ((differ a b).getD v []) s = true := by
      rw [hd v hv, inS_ext, decide_eq_true hsv, (dif_iff hs hv hsv).2 hne]; rfl
    rw [e] at h1
    exact ((need_inS hs hr hv hsv).1 h1).2
  · intro hh
    have hl : (differ a b).length = (needL a b l).length := by rw [need_len z, dfr_len z]
    apply List.ext_getElem hl
    intro v h1 h2
    have hv : v < a.length := by rw [dfr_len z] at h1; exact h1
    have h4 : (a.getD v []).length ≤ 4096 := by rw [getD_lt hv]; exact hr _ (List.getElem_mem hv)
    have e1 := hd v hv
    have e2 := need_at (l := l) z hv
    rw [getD_lt h1] at e1
    rw [getD_lt h2, need_cut h4] at e2
    rw [e1, e2]
    refine ext_congr fun s hs' => ?_
    unfold ndQ
    rw [decide_eq_true hs', Bool.true_and]
    cases hdf : dif (a.getD v []) (b.getD v []) s with
    | false => rfl
    | true => rw [hh v s hv hs' ((dif_iff hs hv hs').1 hdf)]; rfl
theorem orS_ext (q : Nat → Bool) : orS (ext q 4096) = ext q 4096 := by
  unfold orS
  rw [setOf_eq]
  refine ext_congr fun s hs => ?_
  rw [inS_ext, decide_eq_true hs, Bool.true_and]
  show (q s || false) = q s
  simp
theorem orS_ins (x : List Exn) : orS x = ext (inS x) 4096 := by
  unfold orS
  rw [setOf_eq]
  refine ext_congr fun s hs => ?_
  show (inS x s || false) = inS x s
  simp
theorem sum_at {α : Type} (g : α → Int) (d : α) (l : List α) : (l.map g).sum = ((List.range l.length).map fun i => g (l.getD i d)).sum := by
  congr 1
  apply List.ext_getElem (by simp)
  intro i h1 h2
  simp only [List.length_map] at h1
  simp only [List.getElem_map, List.getElem_range]
  rw [getD_lt h1]
theorem sum_le_of {f g : Nat → Int} : ∀ {l : List Nat}, (∀ i ∈ l, f i ≤ g i) → (l.map f).sum ≤ (l.map g).sum
  | [], _ => Int.le_refl _
  | x :: l, h => by
    have := sum_le_of (l := l) fun i hi => h i (by simp [hi])
    have hx := h x (by simp)
    simp only [List.map_cons, List.sum_cons]
    omega
theorem sum_eq_of {f g : Nat → Int} {l : List Nat} (h : ∀ i ∈ l, f i = g i) : (l.map f).sum = (l.map g).sum := by rw [List.map_congr_left h]
theorem cost_at {l : List (List Exn)} : costL l = ((List.range l.length).map fun i => cntE (orS (l.getD i []))).sum := by
  unfold costL; exact sum_at _ [] l
theorem cost_need {a b : Img} {l : List (List Exn)} (hl : a.length = b.length) : costL (needL a b l) = ((List.range a.length).map fun v => cntE (ext (ndQ a b l v) 4096)).sum := by
  rw [cost_at, need_len hl]
  refine sum_eq_of fun v hv => ?_
  rw [need_at hl (List.mem_range.1 hv), orS_ext]
theorem filter_le {p q : Nat → Bool} : ∀ {l : List Nat}, (∀ s ∈ l, p s = true → q s = true) → (l.filter p).length ≤ (l.filter q).length
  | [], _ => Nat.le_refl _
  | x :: l, h => by
    have ih := filter_le (l := l) fun s hs => h s (by simp [hs])
    have hx := h x (by simp)
    simp only [List.filter_cons]
    cases hp : p x with
    | false => cases q x <;> simp <;> omega
    | true => rw [hx hp]; simp; omega
theorem cost_le {a b : Img} {l : List (List Exn)} (hl : a.length = b.length) (hll : l.length = a.length) : costL (needL a b l) ≤ costL l := by
  rw [cost_need hl, cost_at, hll]
  refine sum_le_of fun v hv => ?_
  rw [orS_ins, ext_cnt, ext_cnt]
  have := filter_le (p := ndQ a b l v) (q := inS (l.getD v [])) (l := List.range 4096) fun s _ h => by
    unfold ndQ at h
    simp only [Bool.and_eq_true] at h
    exact h.2
  omega
theorem filter_two {p q : Nat → Bool} : ∀ (l : List Nat), (l.filter p).length = (l.filter fun s => p s && q s).length + ((l.filter p).filter fun s => !q s).length
  | [] => rfl
  | x :: l => by
    have ih := filter_two (p := p) (q := q) l
    cases hp : p x <;> cases hq : q x <;> simp only [List.filter_cons, hp, hq, Bool.and_true, Bool.and_false, Bool.not_true, Bool.not_false, if_true, Bool.false_eq_true, if_false, List.length_cons] <;> omega
theorem num_at {a b : Img} {l : List (List Exn)} {v : Nat} (hv : v < a.length) (hr : ∀ v ∈ a, v.length ≤ 4096) :
    ((difs (a.getD v []) (b.getD v [])).length : Int) - (misN (a.getD v []) (b.getD v []) (l.getD v []) (a.getD v []).length).length = cntE (ext (ndQ a b l v) 4096) := by
  have h1 : (a.getD v []).length ≤ 4096 := by rw [getD_lt hv]; exact hr _ (List.getElem_mem hv)
  rw [need_cut h1, ext_cnt]
  have e1 := filter_two (p := dif (a.getD v []) (b.getD v [])) (q := inS (l.getD v [])) (List.range (a.getD v []).length)
  have e2 : (List.range (a.getD v []).length).filter (ndQ a b l v) = (List.range (a.getD v []).length).filter fun s => dif (a.getD v []) (b.getD v []) s && inS (l.getD v []) s := List.filter_congr fun s hs => by
    unfold ndQ; rw [decide_eq_true (List.mem_range.1 hs), Bool.true_and]
  have e3 : misN (a.getD v []) (b.getD v []) (l.getD v []) (a.getD v []).length = ((List.range (a.getD v []).length).filter (dif (a.getD v []) (b.getD v []))).filter fun s => !inS (l.getD v []) s := List.filter_congr fun s hs => by
    have := List.mem_range.1 (List.mem_filter.1 hs).1
    unfold hasX
    rw [decide_eq_true (show (0 : Int) ≤ (s : Int) by omega), decide_eq_true (show (s : Int) < 4096 by omega), Int.toNat_natCast, Bool.true_and, Bool.true_and]
  rw [e2, e3]
  unfold difs difN
  omega
theorem num_need {a b : Img} {l : List (List Exn)} (hr : ∀ v ∈ a, v.length ≤ 4096) : ∀ n, n ≤ a.length → ((numD a b n : Nat) : Int) - numM a b l n = ((List.range n).map fun v => cntE (ext (ndQ a b l v) 4096)).sum
  | 0, _ => rfl
  | n + 1, h => by
    have ih := num_need (b := b) (l := l) hr n (by omega)
    have hn := num_at (b := b) (l := l) (v := n) (by omega) hr
    rw [numD_succ, numM_succ, List.range_succ, List.map_append, List.sum_append, ← ih, List.map_cons, List.map_nil, List.sum_cons, List.sum_nil, ← hn]
    omega
theorem num_zero {a b : Img} {l : List (List Exn)} (hs : imSizes a = imSizes b) (hr : ∀ v ∈ a, v.length ≤ 4096) : numM a b l a.length = 0 ↔ Hits a b l := by
  have key : ∀ v, v < a.length → ((misN (a.getD v []) (b.getD v []) (l.getD v []) (a.getD v []).length).length = 0 ↔ ∀ s, s < (a.getD v []).length → getS a v s ≠ getS b v s → inS (l.getD v []) s = true) := fun v hv => by
    have h1 : (a.getD v []).length ≤ 4096 := by rw [getD_lt hv]; exact hr _ (List.getElem_mem hv)
    rw [List.length_eq_zero_iff]
    unfold misN difN
    rw [List.filter_eq_nil_iff]
    constructor
    · intro h s hsv hne
      have := h s (List.mem_filter.2 ⟨List.mem_range.2 hsv, (dif_iff hs hv hsv).2 hne⟩)
      unfold hasX at this
      rw [decide_eq_true (show (0 : Int) ≤ (s : Int) by omega), decide_eq_true (show (s : Int) < 4096 by omega), Int.toNat_natCast, Bool.true_and, Bool.true_and] at this
      simpa using this
    · intro h s hm
      obtain ⟨m1, m2⟩ := List.mem_filter.1 hm
      have hsv := List.mem_range.1 m1
      have := h s hsv ((dif_iff hs hv hsv).1 m2)
      unfold hasX
      rw [decide_eq_true (show (0 : Int) ≤ (s : Int) by omega), decide_eq_true (show (s : Int) < 4096 by omega), Int.toNat_natCast, Bool.true_and, Bool.true_and, this]
      simp
  have all : ∀ n, n ≤ a.length → (numM a b l n = 0 ↔ ∀ v, v < n → (misN (a.getD v []) (b.getD v []) (l.getD v []) (a.getD v []).length).length = 0) := by
    intro n
    induction n with
    | zero => intro _; exact ⟨fun _ v hv => absurd hv (Nat.not_lt_zero _), fun _ => rfl⟩
    | succ n ih =>
      intro h
      have ih := ih (by omega)
      rw [numM_succ]
      constructor
      · intro e v hv
        rcases Nat.lt_or_ge v n with c | c
        · exact ih.1 (by omega) v c
        · have : v = n := by omega
          subst this; omega
      · intro e
        have h1 := ih.2 fun v hv => e v (by omega)
        have h2 := e n (by omega)
        omega
  rw [all _ (Nat.le_refl _)]
  exact ⟨fun h v s hv hsv hne => (key v hv).1 (h v hv) s hsv hne, fun h v hv => (key v hv).2 fun s hsv hne => h v s hv hsv hne⟩
theorem secs_wrV {a : Img} {v : Nat} : ∀ {x : List Exn}, (∀ e ∈ x, 0 ≤ e.start ∧ 1 ≤ e.count ∧ e.start + e.count ≤ ((a.getD v []).length : Int)) → secsW (wrV a v x) = cntE x
  | [], _ => rfl
  | e :: x, h => by
    have ih := secs_wrV (x := x) fun y hy => h y (by simp [hy])
    obtain ⟨q1, q2, q3⟩ := h e (by simp)
    have q4 := wOf_len q1 q2 q3
    simp only [secsW, wrV, cntE, List.map_cons, List.sum_cons] at ih ⊢
    omega
theorem secs_append (l m : List Wrt) : secsW (l ++ m) = secsW l + secsW m := by simp [secsW]
theorem secs_wr {a : Img} {x : List (List Exn)} (hf : fitE a x = 0) : ∀ n, n ≤ x.length → secsW (wrN a x n) = ((List.range n).map fun v => cntE (x.getD v [])).sum
  | 0, _ => rfl
  | n + 1, h => by
    rw [wrN_succ, secs_append, secs_wr hf n (by omega), List.range_succ, List.map_append, List.sum_append, secs_wrV fun e he => wr_at hf (by omega) he]
    simp
theorem secs_need {a b : Img} {l : List (List Exn)} (hl : a.length = b.length) (hr : ∀ v ∈ a, v.length ≤ 4096) : secsW (wrL a (needL a b l)) = costL (needL a b l) := by
  unfold wrL
  rw [secs_wr (need_fits hl hr) _ (Nat.le_refl _), cost_need hl, need_len hl]
  refine sum_eq_of fun v hv => ?_
  rw [need_at hl (List.mem_range.1 hv)]
end Go.Proofs.Ytncobemfpammfaa.V
