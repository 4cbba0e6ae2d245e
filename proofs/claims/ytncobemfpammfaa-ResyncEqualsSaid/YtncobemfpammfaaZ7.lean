/-
  Part 7 of the texts that the statement stands on.
-/
import Derived.Test.YtncobemfpammfaaZ6
import Derived.Test.YtncobemfpammfaaProg
import Derived.Shelf.SlSortCmp.WholeK
import Derived.Shelf.SlSortCmp.NoneTotal
import Derived.Shelf.SlicesG.Cmp
import Derived.Shelf.Small.Bits
import Derived.Ground.SlsfProg
import Derived.Ground.SlgcProg
import Derived.Ground.NamesProg
set_option linter.all false
namespace Go.Proofs.Ytncobemfpammfaa.V
def ext (p : Nat → Bool) (n : Nat) : List Exn := exts ((List.range n).filter p)
theorem ext_zero (p : Nat → Bool) : ext p 0 = [] := rfl
theorem ext_succ (p : Nat → Bool) (n : Nat) : ext p (n + 1) = if p n then addAt (ext p n) n else ext p n := by
  unfold ext
  rw [List.range_succ, List.filter_append]
  cases h : p n
  · simp [h]
  · rw [List.filter_cons_of_pos h, List.filter_nil, exts_snoc]; rfl
theorem ext_new {p : Nat → Bool} {n : Nat} (h : n = 0 ∨ p (n - 1) = false) : addAt (ext p n) n = ext p n ++ [⟨(n : Int), 1⟩] := by
  unfold ext
  rcases snoc_cases ((List.range n).filter p) with h0 | ⟨l, j, h0⟩
  · rw [h0]; rfl
  · obtain ⟨pre, ⟨s, c⟩, e0, h1, h2, h3, h4⟩ := exts_last _ l rfl j
    have hmem : j ∈ (List.range n).filter p := by rw [h0]; simp
    obtain ⟨q1, q2⟩ := List.mem_filter.1 hmem
    have hj := List.mem_range.1 q1
    simp only at h1
    rw [h0, e0, addAt_snoc, if_neg]
    intro hh
    simp only at hh
    have : j = n - 1 := by omega
    rcases h with h | h
    · omega
    · rw [← this, q2] at h; cases h
theorem ext_false {p : Nat → Bool} {a : Nat} : ∀ k, (∀ s, a ≤ s → s < a + k → p s = false) → ext p (a + k) = ext p a
  | 0, _ => rfl
  | k + 1, h => by
    rw [← Nat.add_assoc, ext_succ, h (a + k) (by omega) (by omega), if_neg (by simp)]
    exact ext_false k fun s h1 h2 => h s h1 (by omega)
theorem ext_true {p : Nat → Bool} {a : Nat} {pre : List Exn} {s0 : Int} (h0 : ext p a = pre ++ [⟨s0, a - s0⟩]) : ∀ k, (∀ s, a ≤ s → s < a + k → p s = true) → ext p (a + k) = pre ++ [⟨s0, ((a + k : Nat) : Int) - s0⟩]
  | 0, _ => h0
  | k + 1, h => by
    rw [← Nat.add_assoc, ext_succ, h (a + k) (by omega) (by omega), if_pos rfl, ext_true h0 k fun s h1 h2 => h s h1 (by omega), addAt_snoc, if_pos (by simp only; omega)]
    congr 2
    simp only [Exn.mk.injEq, true_and]
    omega
theorem ext_begin {p : Nat → Bool} {a k : Nat} (hn : a = 0 ∨ p (a - 1) = false) (h : ∀ s, a ≤ s → s < a + (k + 1) → p s = true) : ext p (a + (k + 1)) = ext p a ++ [⟨(a : Int), ((a + (k + 1) : Nat) : Int) - a⟩] := by
  have h1 : ext p (a + 1) = ext p a ++ [⟨(a : Int), ((a + 1 : Nat) : Int) - a⟩] := by
    rw [ext_succ, h a (Nat.le_refl _) (by omega), if_pos rfl, ext_new hn]
    congr 2
    simp only [Exn.mk.injEq, true_and]
    omega
  have := ext_true (a := a + 1) h1 k fun s h2 h3 => h s (by omega) (by omega)
  rw [show a + (k + 1) = a + 1 + k by omega]
  exact this
theorem ext_congr {p q : Nat → Bool} {n : Nat} (h : ∀ s, s < n → p s = q s) : ext p n = ext q n := by
  unfold ext
  rw [List.filter_congr fun s hs => h s (List.mem_range.1 hs)]
def dep (i : Nat) (s : Nat) : List End → Int
  | [] => 0
  | x :: l => (if x.list = i ∧ x.pos ≤ s then x.step else 0) + dep i s l
def tot (i : Nat) : List End → Int
  | [] => 0
  | x :: l => (if x.list = i then x.step else 0) + tot i l
theorem dep_app (i s : Nat) : ∀ l m : List End, dep i s (l ++ m) = dep i s l + dep i s m
  | [], m => by simp [dep]
  | x :: l, m => by simp only [List.cons_append, dep, dep_app i s l m]; omega
theorem dep_all {i s : Nat} : ∀ {l : List End}, (∀ x ∈ l, x.pos ≤ s) → dep i s l = tot i l
  | [], _ => rfl
  | x :: l, h => by
    have h1 := h x (by simp)
    have ih := dep_all (i := i) (s := s) (l := l) fun y hy => h y (by simp [hy])
    simp only [dep, tot, ih, h1, and_true]
theorem dep_none {i s : Nat} : ∀ {l : List End}, (∀ x ∈ l, s < x.pos) → dep i s l = 0
  | [], _ => rfl
  | x :: l, h => by
    have h1 := h x (by simp)
    have ih := dep_none (i := i) (s := s) (l := l) fun y hy => h y (by simp [hy])
    simp only [dep, ih]
    rw [if_neg (by omega)]; rfl
theorem tot_app (i : Nat) : ∀ l m : List End, tot i (l ++ m) = tot i l + tot i m
  | [], m => by simp [tot]
  | x :: l, m => by simp only [List.cons_append, tot, tot_app i l m]; omega
def keepOf (keep : Bool → Bool → Bool) (l : List End) (s : Nat) : Bool := keep (decide (dep 0 s l > 0)) (decide (dep 1 s l > 0))
def nextSame (x : End) : List End → Bool
  | [] => false
  | y :: _ => decide (y.pos = x.pos)
def swGo (keep : Bool → Bool → Bool) : List End → Int → Int → Int → Bool → List Exn
  | [], _, _, _, _ => []
  | x :: l, d0, d1, st, ins =>
    if nextSame x l then swGo keep l (if x.list = 0 then d0 + x.step else d0) (if x.list = 1 then d1 + x.step else d1) st ins
    else
      (if !keep (decide ((if x.list = 0 then d0 + x.step else d0) > 0)) (decide ((if x.list = 1 then d1 + x.step else d1) > 0)) && ins then [⟨st, x.pos - st⟩] else []) ++
      swGo keep l (if x.list = 0 then d0 + x.step else d0) (if x.list = 1 then d1 + x.step else d1)
        (if keep (decide ((if x.list = 0 then d0 + x.step else d0) > 0)) (decide ((if x.list = 1 then d1 + x.step else d1) > 0)) && !ins then x.pos else st)
        (keep (decide ((if x.list = 0 then d0 + x.step else d0) > 0)) (decide ((if x.list = 1 then d1 + x.step else d1) > 0)))
def Asc : List End → Prop
  | [] => True
  | [_] => True
  | x :: y :: l => x.pos ≤ y.pos ∧ Asc (y :: l)
theorem Asc.tail {x : End} {l : List End} (h : Asc (x :: l)) : Asc l := by
  cases l with
  | nil => trivial
  | cons y l => exact h.2
theorem Asc.le {x : End} : ∀ {l : List End}, Asc (x :: l) → ∀ y ∈ l, x.pos ≤ y.pos
  | [], _, y, hy => by cases hy
  | z :: l, h, y, hy => by
    rcases List.mem_cons.1 hy with rfl | hy
    · exact h.1
    · exact Nat.le_trans h.1 (Asc.le h.2 y hy)
def atStart (N : Nat) : List End → Nat → Prop
  | [], a => a = N
  | x :: _, a => a = x.pos
theorem swGo_ok {keep : Bool → Bool → Bool} (hk : keep false false = false) {L : List End} {N : Nat} (hN : ∀ x ∈ L, x.pos ≤ N) (h0 : tot 0 L = 0) (h1 : tot 1 L = 0) :
    ∀ (R P : List End) (out : List Exn) (st : Int) (ins : Bool) (a : Nat), L = P ++ R → Asc R → (∀ x ∈ P, ∀ y ∈ R, x.pos ≤ y.pos) → (∀ x ∈ P, x.pos ≤ a) →
      atStart N R a → ext (keepOf keep L) a = out ++ (if ins then [⟨st, a - st⟩] else []) → (a = 0 ∨ ins = true ∨ keepOf keep L (a - 1) = false) → (R = [] → ins = false) → (a = 0 → ins = false) →
      ext (keepOf keep L) N = out ++ swGo keep R (tot 0 P) (tot 1 P) st ins
  | [], P, out, st, ins, a, hL, _, _, _, ha, he, hi, hr, _ => by
    have ha : a = N := ha
    rw [hr rfl] at he
    rw [ha] at he
    simpa [swGo] using he
  | x :: l, P, out, st, ins, a, hL, hs, hP, hPa, ha, he, hi, _, hz => by
    have ha : a = x.pos := ha
    subst ha
    have hL2 : L = (P ++ [x]) ++ l := by rw [hL]; simp
    have t0 : tot 0 (P ++ [x]) = (if x.list = 0 then tot 0 P + x.step else tot 0 P) := by
      rw [tot_app]; simp only [tot]; split <;> omega
    have t1 : tot 1 (P ++ [x]) = (if x.list = 1 then tot 1 P + x.step else tot 1 P) := by
      rw [tot_app]; simp only [tot]; split <;> omega
    have hP2 : ∀ z ∈ P ++ [x], ∀ y ∈ l, z.pos ≤ y.pos := by
      intro z hz y hy
      rcases List.mem_append.1 hz with hz | hz
      · exact hP z hz y (by simp [hy])
      · simp only [List.mem_singleton] at hz; rw [hz]; exact hs.le y hy
    have hPx : ∀ z ∈ P ++ [x], z.pos ≤ x.pos := by
      intro z hz
      rcases List.mem_append.1 hz with hz | hz
      · exact hP z hz x (by simp)
      · simp only [List.mem_singleton] at hz; rw [hz]; exact Nat.le_refl _
    unfold swGo
    rw [← t0, ← t1]
    by_cases hn : nextSame x l = true
    · rw [if_pos hn]
      cases l with
      | nil => simp [nextSame] at hn
      | cons y l =>
        have hy : y.pos = x.pos := by simpa [nextSame] using hn
        exact swGo_ok hk hN h0 h1 (y :: l) (P ++ [x]) out st ins x.pos hL2 hs.tail hP2 hPx hy.symm he hi (fun e => by cases e) hz
    · rw [if_neg hn]
      -- the next place
      obtain ⟨b, hb, hbl, hbx, hbm⟩ : ∃ b, x.pos ≤ b ∧ (∀ y ∈ l, b ≤ y.pos) ∧ (l ≠ [] → x.pos < b) ∧ atStart N l b := by
        cases l with
        | nil => exact ⟨N, hN x (by rw [hL]; simp), fun y hy => (by cases hy), fun h => absurd rfl h, rfl⟩
        | cons y l =>
          have hy : y.pos ≠ x.pos := by simpa [nextSame] using hn
          have := hs.1
          exact ⟨y.pos, hs.1, fun z hz => by
            rcases List.mem_cons.1 hz with rfl | hz
            · exact Nat.le_refl _
            · exact hs.tail.le z hz, fun _ => by omega, rfl⟩
      have hconst : ∀ s, x.pos ≤ s → s < b → keepOf keep L s = keep (decide (tot 0 (P ++ [x]) > 0)) (decide (tot 1 (P ++ [x]) > 0)) := by
        intro s hs1 hs2
        unfold keepOf
        have e : ∀ i, dep i s L = tot i (P ++ [x]) := by
          intro i
          rw [hL2, dep_app, dep_all (fun z hz => by have := hPx z hz; omega), dep_none (fun z hz => by have := hbl z hz; omega)]
          omega
        rw [e 0, e 1]
      have hlast : l = [] → keep (decide (tot 0 (P ++ [x]) > 0)) (decide (tot 1 (P ++ [x]) > 0)) = false := by
        intro hl
        have e0 : tot 0 (P ++ [x]) = 0 := by rw [← h0, hL2, hl, List.append_nil]
        have e1 : tot 1 (P ++ [x]) = 0 := by rw [← h1, hL2, hl, List.append_nil]
        rw [e0, e1]
        exact hk
      have hPb : ∀ z ∈ P ++ [x], z.pos ≤ b := fun z hz => Nat.le_trans (hPx z hz) hb
      obtain ⟨k, rfl⟩ : ∃ k, b = x.pos + k := ⟨b - x.pos, by omega⟩
      generalize keep (decide (tot 0 (P ++ [x]) > 0)) (decide (tot 1 (P ++ [x]) > 0)) = now at *
      have hprev : k ≠ 0 → keepOf keep L (x.pos + k - 1) = now := fun hk0 => hconst _ (by omega) (by omega)
      cases now with
      | false =>
        have hf := ext_false (p := keepOf keep L) (a := x.pos) k fun s q1 q2 => hconst s q1 q2
        cases ins with
        | false =>
          simp only [Bool.not_false, Bool.and_false, Bool.false_eq_true, if_false, List.nil_append, Bool.and_true, Bool.false_and, List.append_nil, if_true] at he ⊢
          refine swGo_ok hk hN h0 h1 l (P ++ [x]) out _ false (x.pos + k) hL2 hs.tail hP2 hPb hbm ?_ ?_ (fun _ => rfl) (fun _ => rfl)
          · rw [hf, he]; simp
          · by_cases hk0 : k = 0
            · subst hk0
              rcases hi with hi | hi | hi
              · exact .inl hi
              · cases hi
              · exact .inr (.inr hi)
            · exact .inr (.inr (hprev hk0))
        | true =>
          simp only [Bool.not_false, Bool.and_self, if_true, Bool.not_true, Bool.and_false, Bool.false_and, Bool.false_eq_true, if_false] at he ⊢
          rw [← List.append_assoc]
          by_cases hk0 : k = 0
          · subst hk0
            have hl : l = [] := by
              cases l with
              | nil => rfl
              | cons y l => have := hbx (by simp); omega
            subst hl
            have hb2 : x.pos + 0 = N := hbm
            simp only [swGo, List.append_nil]
            rw [← hb2]
            exact he
          · refine swGo_ok hk hN h0 h1 l (P ++ [x]) _ _ false (x.pos + k) hL2 hs.tail hP2 hPb hbm ?_ (.inr (.inr (hprev hk0))) (fun _ => rfl) (fun _ => rfl)
            rw [hf, he]; simp
      | true =>
        have hl : l ≠ [] := fun e => by have := hlast e; cases this
        have hk1 := hbx hl
        obtain ⟨j, rfl⟩ : ∃ j, k = j + 1 := ⟨k - 1, by omega⟩
        cases ins with
        | false =>
          simp only [Bool.not_true, Bool.false_and, Bool.false_eq_true, if_false, List.nil_append, Bool.not_false, Bool.and_self, if_true, List.append_nil] at he ⊢
          refine swGo_ok hk hN h0 h1 l (P ++ [x]) out _ true (x.pos + (j + 1)) hL2 hs.tail hP2 hPb hbm ?_ (.inr (.inl rfl)) (fun e => absurd e hl) (fun e => by omega)
          have hi2 : x.pos = 0 ∨ keepOf keep L (x.pos - 1) = false := by
            rcases hi with hi | hi | hi
            · exact .inl hi
            · cases hi
            · exact .inr hi
          rw [ext_begin hi2 fun s q1 q2 => hconst s q1 q2, he]
          simp
        | true =>
          simp only [Bool.not_true, Bool.false_and, Bool.false_eq_true, if_false, List.nil_append, Bool.and_false, if_true] at he ⊢
          refine swGo_ok hk hN h0 h1 l (P ++ [x]) out st true (x.pos + (j + 1)) hL2 hs.tail hP2 hPb hbm ?_ (.inr (.inl rfl)) (fun e => absurd e hl) (fun e => by omega)
          rw [ext_true he (j + 1) fun s q1 q2 => hconst s q1 q2]
          simp
theorem sweep_ok {keep : Bool → Bool → Bool} (hk : keep false false = false) {L : List End} {N : Nat} (hs : Asc L) (hN : ∀ x ∈ L, x.pos ≤ N) (h0 : tot 0 L = 0) (h1 : tot 1 L = 0) :
    swGo keep L 0 0 0 false = ext (keepOf keep L) N := by
  cases L with
  | nil =>
    have : ext (keepOf keep ([] : List End)) (0 + N) = ext (keepOf keep []) 0 := ext_false N fun s _ _ => hk
    rw [Nat.zero_add] at this
    rw [this]; rfl
  | cons x l =>
    have hb : ext (keepOf keep (x :: l)) (0 + x.pos) = ext (keepOf keep (x :: l)) 0 := ext_false x.pos fun s _ h2 => by
      unfold keepOf
      have e : ∀ i, dep i s (x :: l) = 0 := fun i => dep_none fun y hy => by
        rcases List.mem_cons.1 hy with rfl | hy
        · omega
        · have := hs.le y hy; omega
      rw [e 0, e 1]
      exact hk
    rw [Nat.zero_add] at hb
    have := swGo_ok hk hN h0 h1 (x :: l) [] [] 0 false x.pos rfl hs (fun z hz => by cases hz) (fun z hz => by cases hz) rfl (by rw [hb]; rfl) (by
      by_cases h : x.pos = 0
      · exact .inl h
      · refine .inr (.inr ?_)
        unfold keepOf
        have e : ∀ i, dep i (x.pos - 1) (x :: l) = 0 := fun i => dep_none fun y hy => by
          rcases List.mem_cons.1 hy with rfl | hy
          · omega
          · have := hs.le y hy; omega
        rw [e 0, e 1]
        exact hk) (fun e => by cases e) (fun _ => rfl)
    rw [this]; rfl
end Go.Proofs.Ytncobemfpammfaa.V

namespace Go.Proofs.Ytncobemfpammfaa

def look : List (Nat × AV) → Nat → AV
  | [], _ => .any
  | (j, v) :: l, i => bcase (Nat.beq i j) v (look l i)
def sl (n : Nat) (l : List (Nat × AV)) : List AV := (List.range n).map (look l)
def mapA (f : AV → AV) : List (Nat × AV) → List (Nat × AV)
  | [] => []
  | (j, v) :: l => (j, f v) :: mapA f l
def keepA (l : List (Nat × AV)) : List Nat → List (Nat × AV)
  | [] => []
  | k :: ks => (k, look l k) :: keepA l ks
def argsA : Nat → List PV → List (Nat × AV)
  | _, [] => []
  | k, v :: l => (k, .pv v) :: argsA (k + 1) l
def lowA (nb : Nat) : List (Nat × AV) → Bool
  | [] => true
  | (_, v) :: l => AV.low nb v && lowA nb l
def insA (n : Nat) : List Nat → Bool
  | [] => true
  | k :: ks => decide (k < n) && insA n ks
theorem look_hit (i : Nat) (v : AV) (l : List (Nat × AV)) : look ((i, v) :: l) i = v := by
  show bcase (Nat.beq i i) v _ = v
  rw [Nat.beq_refl]; rfl
theorem look_nil (i : Nat) : look [] i = .any := (rfl)
theorem sl_get {n i : Nat} {l : List (Nat × AV)} (h' : i < n) : (sl n l).getD i .any = look l i := by
  simp [sl, List.getD_eq_getElem?_getD, h']
theorem sl_some {n i : Nat} {l : List (Nat × AV)} (h' : i < n) : (sl n l)[i]? = some (look l i) := by
  simp [sl, h']
theorem look_cons (l : List (Nat × AV)) (i j : Nat) (v : AV) : look ((j, v) :: l) i = if i = j then v else look l i := by
  show bcase (Nat.beq i j) v _ = _
  by_cases h : i = j
  · subst h; rw [Nat.beq_refl, if_pos rfl]; rfl
  · rw [if_neg h]
    have : Nat.beq i j = false := by
      cases e : Nat.beq i j with
      | false => rfl
      | true => exact absurd (Nat.eq_of_beq_eq_true e) h
    rw [this]; rfl
theorem sl_set (n i : Nat) (v : AV) (l : List (Nat × AV)) : (sl n l).set i v = sl n ((i, v) :: l) := by
  apply List.ext_getElem (by simp [sl])
  intro k h1 h2
  have hk : k < n := by simpa [sl] using h2
  simp only [sl, List.getElem_set, List.getElem_map, List.getElem_range, look_cons]
  by_cases h : i = k
  · subst h; simp
  · rw [if_neg h, if_neg (fun e => h e.symm)]
theorem look_skip {i j : Nat} {v : AV} {l : List (Nat × AV)} (h : (i == j) = false) : look ((j, v) :: l) i = look l i := by
  rw [look_cons, if_neg (by simpa using h)]
theorem look_mapA (f : AV → AV) (hf : f .any = .any) : ∀ (l : List (Nat × AV)) (i : Nat), look (mapA f l) i = f (look l i)
  | [], i => hf.symm
  | (j, v) :: l, i => by
    show look ((j, f v) :: mapA f l) i = _
    rw [look_cons, look_cons, look_mapA f hf l i]
    split <;> rfl
theorem sl_map {f : AV → AV} (hf : f .any = .any) (n : Nat) (l : List (Nat × AV)) : (sl n l).map f = sl n (mapA f l) := by
  unfold sl
  rw [List.map_map]
  apply List.map_congr_left
  intro i _
  exact (look_mapA f hf l i).symm
theorem sl_kill (n d : Nat) (l : List (Nat × AV)) : (sl n l).map (AV.kill d) = sl n (mapA (AV.kill d) l) := sl_map rfl n l
theorem sl_killc (n d : Nat) (l : List (Nat × AV)) : (sl n l).map (AV.killCell d) = sl n (mapA (AV.killCell d) l) := sl_map rfl n l
theorem sl_froze (n : Nat) (l : List (Nat × AV)) : (sl n l).map AV.froze = sl n (mapA AV.froze l) := sl_map rfl n l
theorem mapA_nil (f : AV → AV) : mapA f [] = [] := (rfl)
theorem mapA_cons (f : AV → AV) (j : Nat) (v : AV) (l : List (Nat × AV)) : mapA f ((j, v) :: l) = (j, f v) :: mapA f l := (rfl)
theorem keepA_nil (l : List (Nat × AV)) : keepA l [] = [] := (rfl)
theorem keepA_cons (l : List (Nat × AV)) (k : Nat) (ks : List Nat) : keepA l (k :: ks) = (k, look l k) :: keepA l ks := (rfl)
theorem lowA_nil (nb : Nat) : lowA nb [] = true := (rfl)
theorem lowA_cons (nb k : Nat) (v : AV) (l : List (Nat × AV)) : lowA nb ((k, v) :: l) = (AV.low nb v && lowA nb l) := (rfl)
theorem insA_nil (n : Nat) : insA n [] = true := (rfl)
theorem insA_cons (n k : Nat) (l : List Nat) : insA n (k :: l) = (decide (k < n) && insA n l) := (rfl)
theorem argsA_nil (k : Nat) : argsA k [] = [] := (rfl)
theorem argsA_cons (k : Nat) (v : PV) (l : List PV) : argsA k (v :: l) = (k, .pv v) :: argsA (k + 1) l := (rfl)
theorem look_keepA (l : List (Nat × AV)) : ∀ (ks : List Nat) (i : Nat), look (keepA l ks) i = if ks.contains i then look l i else .any
  | [], i => rfl
  | k :: ks, i => by
    rw [keepA_cons, look_cons, look_keepA l ks i, List.contains_cons]
    by_cases h : i = k
    · subst h; simp
    · have : (i == k) = false := by simpa using h
      rw [if_neg h, this, Bool.false_or]
theorem lowA_iff (nb n : Nat) (l : List (Nat × AV)) : ∀ ks : List Nat, insA n ks = true → (lowA nb (keepA l ks) = true ↔ ∀ k ∈ ks, (look l k).low nb = true)
  | [], _ => by simp [keepA, lowA]
  | k :: ks, h => by
    rw [insA_cons, Bool.and_eq_true] at h
    rw [keepA_cons, lowA_cons, Bool.and_eq_true, lowA_iff nb n l ks h.2]
    simp
theorem head_sl {n nb : Nat} {l : List (Nat × AV)} {keep : List Nat} {bx : List Box} {ys : List (List PV)} {sp : Option (Option Nat)} (h : insA n keep = true) (hb : nb ≤ bx.length) (hl : lowA nb (keepA l keep) = true) :
    St.head ⟨sl n l, bx, ys, sp⟩ keep nb = some ⟨sl n (keepA l keep), bx.take nb, ys, sp⟩ := by
  have e : ((sl n l).zipIdx.map fun (v, i) => if keep.contains i then v else AV.any) = sl n (keepA l keep) := by
    apply List.ext_getElem (by simp [sl])
    intro i h1 h2
    simp only [sl, List.getElem_map, List.getElem_zipIdx, List.getElem_range, look_keepA, Nat.zero_add]
  unfold St.head
  simp only
  rw [e, if_pos]
  rw [Bool.and_eq_true, decide_eq_true_eq]
  refine ⟨?_, hb⟩
  rw [List.all_eq_true]
  intro v hv
  unfold sl at hv
  obtain ⟨i, hi, rfl⟩ := List.mem_map.1 hv
  rw [look_keepA]
  split
  · rename_i hc
    exact (lowA_iff nb n l keep h).1 hl i (by simpa using hc)
  · rfl
theorem clean_sl {n nb : Nat} {e : Ex} {l : List (Nat × AV)} {keep : List Nat} {bx : List Box} {ys : List (List PV)} {sp : Option (Option Nat)} (h : insA n keep = true) (hb : nb ≤ bx.length) (hl : lowA nb (keepA l keep) = true) :
    cleanEnd keep nb (e, ⟨sl n l, bx, ys, sp⟩) = some (e, ⟨sl n (keepA l keep), bx.take nb, ys, sp⟩) := by
  unfold cleanEnd
  simp only
  rw [head_sl h hb hl]
  rfl
theorem start_sl {n : Nat} {args : List PV} (hn : args.length ≤ n) : start n args = ⟨sl n (argsA 0 args), [], [], none⟩ := by
  have key : ∀ (l : List PV) (k i : Nat), look (argsA k l) i = if k ≤ i then ((l[i - k]?).map AV.pv).getD .any else .any := by
    intro l
    induction l with
    | nil => intro k i; simp [argsA, look]
    | cons v l ih =>
      intro k i
      rw [argsA_cons, look_cons, ih]
      by_cases h1 : i = k
      · subst h1; simp
      · rw [if_neg h1]
        by_cases h2 : k ≤ i
        · rw [if_pos (by omega), if_pos h2, show i - k = (i - (k + 1)) + 1 by omega, List.getElem?_cons_succ]
        · rw [if_neg (by omega), if_neg h2]
  unfold start
  congr 1
  apply List.ext_getElem (by simp [sl]; omega)
  intro i h1 h2
  simp only [sl, List.getElem_map, List.getElem_range, key, Nat.zero_le, if_true, Nat.sub_zero]
  by_cases hi : i < args.length
  · rw [List.getElem_append_left (by simpa using hi)]
    simp [hi]
  · rw [List.getElem_append_right (by simp; omega)]
    simp [hi]
theorem low_pv (nb : Nat) (v : PV) : AV.low nb (.pv v) = true := (rfl)
theorem low_any (nb : Nat) : AV.low nb .any = true := (rfl)
theorem low_yld (nb : Nat) : AV.low nb .yld = true := (rfl)
theorem low_row (nb sz : Nat) (es : List PV) : AV.low nb (.row sz es) = true := (rfl)
theorem low_pbox (nb o j : Nat) : AV.low nb (.pbox o j) = decide (o < nb) := (rfl)
theorem low_refs (nb t off len : Nat) : AV.low nb (.ref (.slot t) off len) = true := (rfl)
theorem low_refc (nb o j off len : Nat) : AV.low nb (.ref (.cell o j) off len) = decide (o < nb) := (rfl)
theorem low_pels (nb t i j : Nat) : AV.low nb (.pel (.slot t) i j) = true := (rfl)
theorem low_pelc (nb o q i j : Nat) : AV.low nb (.pel (.cell o q) i j) = decide (o < nb) := (rfl)
theorem low_fn (nb f : Nat) (caps : List AV) : AV.low nb (.fn f caps) = caps.all fun c => match c with
    | .pv _ => true
    | .pbox o _ => o < nb
    | _ => false := (rfl)
def slAll := And.intro @look_hit (And.intro @look_skip (And.intro @look_nil (And.intro @sl_get (And.intro @sl_some (And.intro @sl_set (And.intro @sl_kill (And.intro @sl_killc (And.intro @sl_froze (And.intro @mapA_nil (And.intro @mapA_cons (And.intro @keepA_nil (And.intro @keepA_cons (And.intro @lowA_nil (And.intro @lowA_cons (And.intro @insA_nil (And.intro @insA_cons (And.intro @argsA_nil (And.intro @argsA_cons (And.intro @head_sl (And.intro @clean_sl (And.intro @start_sl (And.intro @low_pv (And.intro @low_any (And.intro @low_yld (And.intro @low_row (And.intro @low_pbox (And.intro @low_refs (And.intro @low_refc (And.intro @low_pels (And.intro @low_pelc (@low_fn)))))))))))))))))))))))))))))))
end Go.Proofs.Ytncobemfpammfaa

namespace Go.Proofs.Ytncobemfpammfaa.V
theorem take_snoc1 {α : Type} {l : List α} {i : Nat} (h : i < l.length) : l.take (i + 1) = l.take i ++ [l[i]] := by rw [List.take_succ_eq_append_getElem h]
def okE (x : Exn) : Prop := (-9223372036854775808 ≤ x.start ∧ x.start ≤ 9223372036854775807) ∧ (-9223372036854775808 ≤ x.count ∧ x.count ≤ 9223372036854775807)
def okEs (l : List Exn) : Prop := ∀ x ∈ l, okE x
def wFrom (e : Exn) : Int := max e.start 0
def wTo (e : Exn) : Int := if e.start < 0 ∨ e.count < 4096 - e.start then min (e.start + e.count) 4096 else 4096
def wX (e : Exn) : Int × Int × Bool := if e.count ≤ 0 then (0, 0, false) else (wFrom e, wTo e, decide (wFrom e < wTo e))
def inE (e : Exn) (s : Nat) : Bool := decide (0 < e.count) && (decide (e.start ≤ (s : Int)) && decide ((s : Int) < e.start + e.count))
theorem wX_true {e : Exn} (h : (wX e).2.2 = true) : ∃ n m : Nat, wX e = ((n : Int), (m : Int), true) ∧ n < m ∧ m ≤ 4096 ∧ ∀ s : Nat, s < 4096 → (inE e s = true ↔ n ≤ s ∧ s < m) := by
  unfold wX at h ⊢
  by_cases c : e.count ≤ 0
  · rw [if_pos c] at h; cases h
  · rw [if_neg c] at h ⊢
    have h2 : wFrom e < wTo e := by simpa using h
    have h3 : 0 ≤ wFrom e := by unfold wFrom; omega
    have h4 : wTo e ≤ 4096 := by unfold wTo; split <;> omega
    refine ⟨(wFrom e).toNat, (wTo e).toNat, ?_, by omega, by omega, fun s hs => ?_⟩
    · rw [Int.toNat_of_nonneg h3, Int.toNat_of_nonneg (by omega), decide_eq_true h2]
    · unfold inE
      simp only [Bool.and_eq_true, decide_eq_true_eq]
      have e1 : (wFrom e).toNat ≤ s ↔ wFrom e ≤ (s : Int) := by omega
      have e2 : s < (wTo e).toNat ↔ (s : Int) < wTo e := by omega
      rw [e1, e2]
      unfold wFrom wTo
      split <;> omega
theorem wX_false {e : Exn} (h : (wX e).2.2 = false) {s : Nat} (hs : s < 4096) : inE e s = false := by
  unfold wX at h
  by_cases c : e.count ≤ 0
  · unfold inE
    rw [decide_eq_false (by omega), Bool.false_and]
  · rw [if_neg c] at h
    have h2 : ¬ wFrom e < wTo e := by simpa using h
    unfold inE
    cases hq : (decide (0 < e.count) && (decide (e.start ≤ (s : Int)) && decide ((s : Int) < e.start + e.count))) with
    | false => rfl
    | true =>
      exfalso
      simp only [Bool.and_eq_true, decide_eq_true_eq] at hq
      apply h2
      unfold wFrom wTo
      split <;> omega
theorem cal66 {e : Exn} (ho : okE e) : cal env 66 [eExt e] = some [(.int .i64 (wX e).1, false), (.int .i64 (wX e).2.1, false), (.bool (wX e).2.2, false)] := by
  obtain ⟨⟨o1, o2⟩, o3, o4⟩ := ho
  unfold wX
  simp only [eExt]
  by_cases c : e.count ≤ 0
  · rw [if_pos c]
    rw [cal_code env66 rfl]; simp only [fn66, slAll, Nat.reduceBEq, Nat.reduceLeDiff, Nat.reduceAdd, List.length_cons, List.length_nil]
    simp only [c, slAll, Nat.reduceMul, Nat.reduceBEq, Nat.reduceLT, Nat.reduceLeDiff, Nat.zero_le, List.take_zero, List.take_nil, List.take_succ_cons, List.length_cons, List.length_nil, Nat.le_refl, List.isEmpty_nil, val_pvs, frozen_pvs, msnoc_len, msnoc_get, msnoc_set, msnoc_take, Int.le_refl, take_map_all, Nat.le_refl, St.freezeRows, BV.frozen, List.take_length, List.take_append_drop, z_repl_zero, Int.toNat_zero, true_and, and_true, and_self, eq_self, z_take_zero, List.drop_nil, List.take_nil, vAll, List.foldl_nil, List.foldl_cons, resultsOf, resultList, resultOf, zBV, splice, PV.remade, St.freezeAt, St.freezeBox, St.freezeCap, PV.single, plain, act, dstOf, if_true, if_false, reduceCtorEq, St.get, St.put, St.pvOf, St.putRow, St.consume, St.freeze, St.row, St.elems, St.grab, St.takeRow, St.setRow, St.place, St.optPv, St.setCell, St.setCellRow, binPV, intBin, unPV, BV.val, Nat.reduceEqDiff, bound, consumeAll, buildParts, capsOf, capOf, List.append_nil, Nat.reduceAdd, Nat.reduceLT, Nat.reduceLeDiff, beq_self_eq_true, List.length_map, Nat.beq, dcall, dcallP, List.mapM_cons, St.snapFn, St.snap, St.layAll, St.lay, St.freezeArg, St.freezeArg1]
  · rw [if_neg c]
    unfold wFrom wTo
    have hmin : min (e.start + e.count) 4096 = if 4096 < e.start + e.count then 4096 else e.start + e.count := by split <;> omega
    by_cases c1 : e.start < 0
    · have hmax : max e.start 0 = 0 := by omega
      rw [hmin, hmax]
      have W1 : IntKind.i64.wrap (e.start + e.count) = e.start + e.count := i64_fits (by omega)
      rw [if_pos (.inl c1)]
      rw [cal_code env66 rfl]; simp only [fn66, slAll, Nat.reduceBEq, Nat.reduceLeDiff, Nat.reduceAdd, List.length_cons, List.length_nil]
      simp only [c, c1, W1, slAll, Nat.reduceMul, Nat.reduceBEq, Nat.reduceLT, Nat.reduceLeDiff, Nat.zero_le, List.take_zero, List.take_nil, List.take_succ_cons, List.length_cons, List.length_nil, Nat.le_refl, List.isEmpty_nil, val_pvs, frozen_pvs, msnoc_len, msnoc_get, msnoc_set, msnoc_take, Int.le_refl, take_map_all, Nat.le_refl, St.freezeRows, BV.frozen, List.take_length, List.take_append_drop, z_repl_zero, Int.toNat_zero, true_and, and_true, and_self, eq_self, z_take_zero, List.drop_nil, List.take_nil, vAll, List.foldl_nil, List.foldl_cons, resultsOf, resultList, resultOf, zBV, splice, PV.remade, St.freezeAt, St.freezeBox, St.freezeCap, PV.single, plain, act, dstOf, if_true, if_false, reduceCtorEq, St.get, St.put, St.pvOf, St.putRow, St.consume, St.freeze, St.row, St.elems, St.grab, St.takeRow, St.setRow, St.place, St.optPv, St.setCell, St.setCellRow, binPV, intBin, unPV, BV.val, Nat.reduceEqDiff, bound, consumeAll, buildParts, capsOf, capOf, List.append_nil, Nat.reduceAdd, Nat.reduceLT, Nat.reduceLeDiff, beq_self_eq_true, List.length_map, Nat.beq, dcall, dcallP, List.mapM_cons, St.snapFn, St.snap, St.layAll, St.lay, St.freezeArg, St.freezeArg1]
    · have hmax : max e.start 0 = e.start := by omega
      rw [hmin, hmax]
      have W2 : IntKind.i64.wrap (4096 - e.start) = 4096 - e.start := i64_fits (by omega)
      by_cases c2 : e.count < 4096 - e.start
      · have W1 : IntKind.i64.wrap (e.start + e.count) = e.start + e.count := i64_fits (by omega)
        rw [if_pos (.inr c2)]
        rw [cal_code env66 rfl]; simp only [fn66, slAll, Nat.reduceBEq, Nat.reduceLeDiff, Nat.reduceAdd, List.length_cons, List.length_nil]
        simp only [c, c1, c2, W1, W2, slAll, Nat.reduceMul, Nat.reduceBEq, Nat.reduceLT, Nat.reduceLeDiff, Nat.zero_le, List.take_zero, List.take_nil, List.take_succ_cons, List.length_cons, List.length_nil, Nat.le_refl, List.isEmpty_nil, val_pvs, frozen_pvs, msnoc_len, msnoc_get, msnoc_set, msnoc_take, Int.le_refl, take_map_all, Nat.le_refl, St.freezeRows, BV.frozen, List.take_length, List.take_append_drop, z_repl_zero, Int.toNat_zero, true_and, and_true, and_self, eq_self, z_take_zero, List.drop_nil, List.take_nil, vAll, List.foldl_nil, List.foldl_cons, resultsOf, resultList, resultOf, zBV, splice, PV.remade, St.freezeAt, St.freezeBox, St.freezeCap, PV.single, plain, act, dstOf, if_true, if_false, reduceCtorEq, St.get, St.put, St.pvOf, St.putRow, St.consume, St.freeze, St.row, St.elems, St.grab, St.takeRow, St.setRow, St.place, St.optPv, St.setCell, St.setCellRow, binPV, intBin, unPV, BV.val, Nat.reduceEqDiff, bound, consumeAll, buildParts, capsOf, capOf, List.append_nil, Nat.reduceAdd, Nat.reduceLT, Nat.reduceLeDiff, beq_self_eq_true, List.length_map, Nat.beq, dcall, dcallP, List.mapM_cons, St.snapFn, St.snap, St.layAll, St.lay, St.freezeArg, St.freezeArg1]
      · rw [if_neg (by omega)]
        rw [cal_code env66 rfl]; simp only [fn66, slAll, Nat.reduceBEq, Nat.reduceLeDiff, Nat.reduceAdd, List.length_cons, List.length_nil]
        simp only [c, c1, c2, W2, slAll, Nat.reduceMul, Nat.reduceBEq, Nat.reduceLT, Nat.reduceLeDiff, Nat.zero_le, List.take_zero, List.take_nil, List.take_succ_cons, List.length_cons, List.length_nil, Nat.le_refl, List.isEmpty_nil, val_pvs, frozen_pvs, msnoc_len, msnoc_get, msnoc_set, msnoc_take, Int.le_refl, take_map_all, Nat.le_refl, St.freezeRows, BV.frozen, List.take_length, List.take_append_drop, z_repl_zero, Int.toNat_zero, true_and, and_true, and_self, eq_self, z_take_zero, List.drop_nil, List.take_nil, vAll, List.foldl_nil, List.foldl_cons, resultsOf, resultList, resultOf, zBV, splice, PV.remade, St.freezeAt, St.freezeBox, St.freezeCap, PV.single, plain, act, dstOf, if_true, if_false, reduceCtorEq, St.get, St.put, St.pvOf, St.putRow, St.consume, St.freeze, St.row, St.elems, St.grab, St.takeRow, St.setRow, St.place, St.optPv, St.setCell, St.setCellRow, binPV, intBin, unPV, BV.val, Nat.reduceEqDiff, bound, consumeAll, buildParts, capsOf, capOf, List.append_nil, Nat.reduceAdd, Nat.reduceLT, Nat.reduceLeDiff, beq_self_eq_true, List.length_map, Nat.beq, dcall, dcallP, List.mapM_cons, St.snapFn, St.snap, St.layAll, St.lay, St.freezeArg, St.freezeArg1]

def rawOf (i : Nat) (l : List Exn) : List End := l.flatMap fun e => if (wX e).2.2 then [⟨(wX e).1.toNat, i, 1⟩, ⟨(wX e).2.1.toNat, i, -1⟩] else []
theorem rawOf_snoc (i : Nat) (l : List Exn) (e : Exn) : rawOf i (l ++ [e]) = rawOf i l ++ (if (wX e).2.2 then [⟨(wX e).1.toNat, i, 1⟩, ⟨(wX e).2.1.toNat, i, -1⟩] else []) := by simp [rawOf]
theorem rawOf_len (i : Nat) : ∀ l : List Exn, (rawOf i l).length ≤ 2 * l.length
  | [] => Nat.le_refl _
  | e :: l => by
    have := rawOf_len i l
    have h : rawOf i (e :: l) = (if (wX e).2.2 then [⟨(wX e).1.toNat, i, 1⟩, ⟨(wX e).2.1.toNat, i, -1⟩] else []) ++ rawOf i l := by simp [rawOf]
    rw [h, List.length_append, List.length_cons]
    split <;> simp <;> omega
def rawFrom : Nat → List (List Exn) → List End
  | _, [] => []
  | i, l :: ls => rawOf i l ++ rawFrom (i + 1) ls
theorem rawFrom_snoc : ∀ (ls : List (List Exn)) (i : Nat) (l : List Exn), rawFrom i (ls ++ [l]) = rawFrom i ls ++ rawOf (i + ls.length) l
  | [], i, l => by simp [rawFrom]
  | m :: ls, i, l => by
    simp only [List.cons_append, rawFrom, rawFrom_snoc ls (i + 1) l, List.length_cons, List.append_assoc]
    rw [show i + 1 + ls.length = i + (ls.length + 1) by omega]
theorem rawFrom_len {n : Nat} : ∀ (ls : List (List Exn)) (i : Nat), (∀ l ∈ ls, l.length ≤ n) → (rawFrom i ls).length ≤ 2 * n * ls.length
  | [], i, _ => Nat.zero_le _
  | l :: ls, i, h => by
    have h1 := rawFrom_len ls (i + 1) fun x hx => h x (by simp [hx])
    have h2 := rawOf_len i l
    have h3 := h l (by simp)
    simp only [rawFrom, List.length_append, List.length_cons]
    rw [Nat.mul_add]
    omega
set_option maxRecDepth 20000 in
theorem loop74 {D : PV} {l : List Exn} {pre : List End} {v n : Nat} {q17 : AV} (hq : q17 = .pv (.list 2 (l.map eExt))) (ho : okEs l) (hl : l.length ≤ 100000) (hpre : pre.length ≤ 10000000) {st : St} (h : st.head [0, 3, 4, 5, 11, 12, 13, 17, 18, 19, 20, 39] st.boxes.length = some ⟨sl 45 [(0, .pv D), (3, .row 3 ((pre ++ rawOf v (l.take ((0 : Nat)))).map eEnd)), (4, .pv (.int .i64 v)), (5, .pv (.list 2 (l.map eExt))), (11, .pv D), (12, .pv (.int .i64 n)), (13, .pv (.int .i64 v)), (17, .pv (.list 2 (l.map eExt))), (18, .pv (.list 2 (l.map eExt))), (19, .pv (.int .i64 l.length)), (20, .pv (.int .i64 (0 : Nat))), (39, .any)], [], [], none⟩) :
   den env fn74_l1 st = some (.normal, ⟨sl 45 [(0, .pv D), (2, .any), (3, .row 3 ((pre ++ rawOf v l).map eEnd)), (11, .pv D), (12, .pv (.int .i64 n)), (13, .pv (.int .i64 v)), (39, .any)], [], [], none⟩) := by
  unfold fn74_l1
  refine clean_up (env := env) (l.length) (fun i => ⟨sl 45 [(0, .pv D), (3, .row 3 ((pre ++ rawOf v (l.take (i))).map eEnd)), (4, .pv (.int .i64 v)), (5, .pv (.list 2 (l.map eExt))), (11, .pv D), (12, .pv (.int .i64 n)), (13, .pv (.int .i64 v)), (17, .pv (.list 2 (l.map eExt))), (18, .pv (.list 2 (l.map eExt))), (19, .pv (.int .i64 l.length)), (20, .pv (.int .i64 i)), (39, .any)], [], [], none⟩) (fun i => some (.normal, ⟨sl 45 [(0, .pv D), (2, .any), (3, .row 3 ((pre ++ rawOf v l).map eEnd)), (11, .pv D), (12, .pv (.int .i64 n)), (13, .pv (.int .i64 v)), (39, .any)], [], [], none⟩)) h (fun _ => rfl) (fun _ => by simp only [slAll, Nat.reduceMul, Nat.reduceBEq, Nat.reduceLT, Nat.reduceLeDiff, Nat.zero_le, List.take_zero, List.take_nil, List.take_succ_cons, List.length_cons, List.length_nil, Nat.le_refl, Nat.reduceAdd, decide_true, Bool.and_self, Bool.true_and]) ?_ ?_
  · intro i rb hi ih

    have hlim : lim = 1073741824 := rfl
    have hi1 := i64_next hi (by omega)
    have F1 : ((i : Int) < (l.length : Int)) = True := eq_true (by omega)
    have hx : l[i]? = some l[i] := List.getElem?_eq_getElem hi
    have ht := take_snoc1 hi
    have hox := ho _ (List.getElem_mem hi)
    generalize l[i] = x at *
    have e1 := cal66 hox
    have hrl := rawOf_len v (l.take i)
    rw [List.length_take] at hrl
    have P2 : part [PV.int .i64 x.start, .int .i64 x.count] 0 (some 2) = some (.agg [.int .i64 x.start, .int .i64 x.count]) := rfl
    simp only [eExt] at e1
    cases hw : (wX x).2.2 with
    | false =>
      rw [hw] at e1
      have hs : rawOf v (l.take (i + 1)) = rawOf v (l.take i) := by rw [ht, rawOf_snoc, hw]; simp
      simp only [fn74_b0, F1, hx, e1, eExt, P2, index_nat hi, List.getElem?_map, Option.map_some, List.length_map, List.length_cons, List.length_nil, slAll, Nat.reduceMul, Nat.reduceBEq, Nat.reduceLT, Nat.reduceLeDiff, Nat.zero_le, List.take_zero, List.take_nil, List.take_succ_cons, List.length_cons, List.length_nil, Nat.le_refl, List.isEmpty_nil, val_pvs, frozen_pvs, msnoc_len, msnoc_get, msnoc_set, msnoc_take, Int.le_refl, take_map_all, Nat.le_refl, St.freezeRows, BV.frozen, List.take_length, List.take_append_drop, z_repl_zero, Int.toNat_zero, true_and, and_true, and_self, eq_self, z_take_zero, List.drop_nil, List.take_nil, vAll, List.foldl_nil, List.foldl_cons, resultsOf, resultList, resultOf, zBV, splice, PV.remade, St.freezeAt, St.freezeBox, St.freezeCap, PV.single, plain, act, dstOf, if_true, if_false, reduceCtorEq, St.get, St.put, St.pvOf, St.putRow, St.consume, St.freeze, St.row, St.elems, St.grab, St.takeRow, St.setRow, St.place, St.optPv, St.setCell, St.setCellRow, binPV, intBin, unPV, BV.val, Nat.reduceEqDiff, bound, consumeAll, buildParts, capsOf, capOf, List.append_nil, Nat.reduceAdd, Nat.reduceLT, Nat.reduceLeDiff, beq_self_eq_true, List.length_map, Nat.beq, dcall, dcallP, List.mapM_cons, St.snapFn, St.snap, St.layAll, St.lay, St.freezeArg, St.freezeArg1]
      rw [ih _ (by simp only [hi1, hs, slAll, Nat.reduceMul, Nat.reduceBEq, Nat.reduceLT, Nat.reduceLeDiff, Nat.zero_le, List.take_zero, List.take_nil, List.take_succ_cons, List.length_cons, List.length_nil, Nat.le_refl, List.isEmpty_nil, val_pvs, frozen_pvs, msnoc_len, msnoc_get, msnoc_set, msnoc_take, Int.le_refl, take_map_all, Nat.le_refl, St.freezeRows, BV.frozen, List.take_length, List.take_append_drop, z_repl_zero, Int.toNat_zero, true_and, and_true, and_self, eq_self, z_take_zero, List.drop_nil, List.take_nil, vAll, List.foldl_nil, List.foldl_cons, resultsOf, resultList, resultOf, zBV, splice, PV.remade, St.freezeAt, St.freezeBox, St.freezeCap, PV.single, plain, act, dstOf, if_true, if_false, reduceCtorEq, St.get, St.put, St.pvOf, St.putRow, St.consume, St.freeze, St.row, St.elems, St.grab, St.takeRow, St.setRow, St.place, St.optPv, St.setCell, St.setCellRow, binPV, intBin, unPV, BV.val, Nat.reduceEqDiff, bound, consumeAll, buildParts, capsOf, capOf, List.append_nil, Nat.reduceAdd, Nat.reduceLT, Nat.reduceLeDiff, beq_self_eq_true, List.length_map, Nat.beq, dcall, dcallP, List.mapM_cons, St.snapFn, St.snap, St.layAll, St.lay, St.freezeArg, St.freezeArg1] <;> rfl)]
    | true =>
      obtain ⟨a, b, hab, -, -, -⟩ := wX_true hw
      have hs : rawOf v (l.take (i + 1)) = rawOf v (l.take i) ++ [⟨a, v, 1⟩, ⟨b, v, -1⟩] := by rw [ht, rawOf_snoc, hab]; simp
      rw [hab] at e1
      have F2 : ((pre ++ rawOf v (l.take i)).length + 1 + 1 ≤ lim) = True := eq_true (by rw [List.length_append]; omega)
      have F3 : ((pre ++ rawOf v (l.take i)).length + 2 ≤ lim) = True := eq_true (by rw [List.length_append]; omega)
      simp only [fn74_b0, F1, F2, F3, hx, e1, eExt, P2, index_nat hi, List.getElem?_map, Option.map_some, List.length_map, List.length_cons, List.length_nil, slAll, Nat.reduceMul, Nat.reduceBEq, Nat.reduceLT, Nat.reduceLeDiff, Nat.zero_le, List.take_zero, List.take_nil, List.take_succ_cons, List.length_cons, List.length_nil, Nat.le_refl, List.isEmpty_nil, val_pvs, frozen_pvs, msnoc_len, msnoc_get, msnoc_set, msnoc_take, Int.le_refl, take_map_all, Nat.le_refl, St.freezeRows, BV.frozen, List.take_length, List.take_append_drop, z_repl_zero, Int.toNat_zero, true_and, and_true, and_self, eq_self, z_take_zero, List.drop_nil, List.take_nil, vAll, List.foldl_nil, List.foldl_cons, resultsOf, resultList, resultOf, zBV, splice, PV.remade, St.freezeAt, St.freezeBox, St.freezeCap, PV.single, plain, act, dstOf, if_true, if_false, reduceCtorEq, St.get, St.put, St.pvOf, St.putRow, St.consume, St.freeze, St.row, St.elems, St.grab, St.takeRow, St.setRow, St.place, St.optPv, St.setCell, St.setCellRow, binPV, intBin, unPV, BV.val, Nat.reduceEqDiff, bound, consumeAll, buildParts, capsOf, capOf, List.append_nil, Nat.reduceAdd, Nat.reduceLT, Nat.reduceLeDiff, beq_self_eq_true, List.length_map, Nat.beq, dcall, dcallP, List.mapM_cons, St.snapFn, St.snap, St.layAll, St.lay, St.freezeArg, St.freezeArg1]
      rw [ih _ (by simp only [hi1, hs, ← List.append_assoc, List.map_append, List.map_cons, List.map_nil, eEnd, slAll, Nat.reduceMul, Nat.reduceBEq, Nat.reduceLT, Nat.reduceLeDiff, Nat.zero_le, List.take_zero, List.take_nil, List.take_succ_cons, List.length_cons, List.length_nil, Nat.le_refl, List.isEmpty_nil, val_pvs, frozen_pvs, msnoc_len, msnoc_get, msnoc_set, msnoc_take, Int.le_refl, take_map_all, Nat.le_refl, St.freezeRows, BV.frozen, List.take_length, List.take_append_drop, z_repl_zero, Int.toNat_zero, true_and, and_true, and_self, eq_self, z_take_zero, List.drop_nil, List.take_nil, vAll, List.foldl_nil, List.foldl_cons, resultsOf, resultList, resultOf, zBV, splice, PV.remade, St.freezeAt, St.freezeBox, St.freezeCap, PV.single, plain, act, dstOf, if_true, if_false, reduceCtorEq, St.get, St.put, St.pvOf, St.putRow, St.consume, St.freeze, St.row, St.elems, St.grab, St.takeRow, St.setRow, St.place, St.optPv, St.setCell, St.setCellRow, binPV, intBin, unPV, BV.val, Nat.reduceEqDiff, bound, consumeAll, buildParts, capsOf, capOf, List.append_nil, Nat.reduceAdd, Nat.reduceLT, Nat.reduceLeDiff, beq_self_eq_true, List.length_map, Nat.beq, dcall, dcallP, List.mapM_cons, St.snapFn, St.snap, St.layAll, St.lay, St.freezeArg, St.freezeArg1] <;> rfl)]
  · intro rb

    simp only [fn74_b0, Int.lt_irrefl, List.length_map, List.take_length, slAll, Nat.reduceMul, Nat.reduceBEq, Nat.reduceLT, Nat.reduceLeDiff, Nat.zero_le, List.take_zero, List.take_nil, List.take_succ_cons, List.length_cons, List.length_nil, Nat.le_refl, List.isEmpty_nil, val_pvs, frozen_pvs, msnoc_len, msnoc_get, msnoc_set, msnoc_take, Int.le_refl, take_map_all, Nat.le_refl, St.freezeRows, BV.frozen, List.take_length, List.take_append_drop, z_repl_zero, Int.toNat_zero, true_and, and_true, and_self, eq_self, z_take_zero, List.drop_nil, List.take_nil, vAll, List.foldl_nil, List.foldl_cons, resultsOf, resultList, resultOf, zBV, splice, PV.remade, St.freezeAt, St.freezeBox, St.freezeCap, PV.single, plain, act, dstOf, if_true, if_false, reduceCtorEq, St.get, St.put, St.pvOf, St.putRow, St.consume, St.freeze, St.row, St.elems, St.grab, St.takeRow, St.setRow, St.place, St.optPv, St.setCell, St.setCellRow, binPV, intBin, unPV, BV.val, Nat.reduceEqDiff, bound, consumeAll, buildParts, capsOf, capOf, List.append_nil, Nat.reduceAdd, Nat.reduceLT, Nat.reduceLeDiff, beq_self_eq_true, List.length_map, Nat.beq, dcall, dcallP, List.mapM_cons, St.snapFn, St.snap, St.layAll, St.lay, St.freezeArg, St.freezeArg1]

set_option maxRecDepth 20000 in
theorem loop74l3 {ls : List (List Exn)} (ho : ∀ l ∈ ls, okEs l) (hr : ∀ l ∈ ls, l.length ≤ 100000) (hl : ls.length ≤ 10) {st : St} (h : st.head [0, 3, 11, 12, 13, 39] st.boxes.length = some ⟨sl 45 [(0, .pv (.list 1 (ls.map eExts))), (3, .row 3 ((rawFrom 0 (ls.take ((0 : Nat)))).map eEnd)), (11, .pv (.list 1 (ls.map eExts))), (12, .pv (.int .i64 ls.length)), (13, .pv (.int .i64 (0 : Nat))), (39, .any)], [], [], none⟩) :
   den env fn74_l3 st = some (.normal, ⟨sl 45 [(2, .any), (3, .row 3 ((rawFrom 0 ls).map eEnd))], [], [], none⟩) := by
  unfold fn74_l3
  refine clean_up (env := env) (ls.length) (fun i => ⟨sl 45 [(0, .pv (.list 1 (ls.map eExts))), (3, .row 3 ((rawFrom 0 (ls.take (i))).map eEnd)), (11, .pv (.list 1 (ls.map eExts))), (12, .pv (.int .i64 ls.length)), (13, .pv (.int .i64 i)), (39, .any)], [], [], none⟩) (fun i => some (.normal, ⟨sl 45 [(2, .any), (3, .row 3 ((rawFrom 0 ls).map eEnd))], [], [], none⟩)) h (fun _ => rfl) (fun _ => by simp only [slAll, Nat.reduceMul, Nat.reduceBEq, Nat.reduceLT, Nat.reduceLeDiff, Nat.zero_le, List.take_zero, List.take_nil, List.take_succ_cons, List.length_cons, List.length_nil, Nat.le_refl, Nat.reduceAdd, decide_true, Bool.and_self, Bool.true_and]) ?_ ?_
  · intro i rb hi ih

    have hlim : lim = 1073741824 := rfl
    have hi1 := i64_next hi (by omega)
    have F1 : ((i : Int) < (ls.length : Int)) = True := eq_true (by omega)
    have hx : ls[i]? = some ls[i] := List.getElem?_eq_getElem hi
    have ht := take_snoc1 hi
    have hox := ho _ (List.getElem_mem hi)
    have hrx := hr _ (List.getElem_mem hi)
    have hli : (ls.take i).length = i := by rw [List.length_take]; omega
    have hp := rawFrom_len (n := 100000) (ls.take i) 0 fun l hl => hr l (List.mem_of_mem_take hl)
    rw [hli] at hp
    generalize ls[i] = l at *
    have hs : rawFrom 0 (ls.take (i + 1)) = rawFrom 0 (ls.take i) ++ rawOf i l := by rw [ht, rawFrom_snoc, hli, Nat.zero_add]
    have hr0 : rawOf i ([] : List Exn) = [] := rfl
    simp only [fn74_b2, F1, hx, eExts, index_nat hi, List.getElem?_map, Option.map_some, List.length_map, slAll, Nat.reduceMul, Nat.reduceBEq, Nat.reduceLT, Nat.reduceLeDiff, Nat.zero_le, List.take_zero, List.take_nil, List.take_succ_cons, List.length_cons, List.length_nil, Nat.le_refl, List.isEmpty_nil, val_pvs, frozen_pvs, msnoc_len, msnoc_get, msnoc_set, msnoc_take, Int.le_refl, take_map_all, Nat.le_refl, St.freezeRows, BV.frozen, List.take_length, List.take_append_drop, z_repl_zero, Int.toNat_zero, true_and, and_true, and_self, eq_self, z_take_zero, List.drop_nil, List.take_nil, vAll, List.foldl_nil, List.foldl_cons, resultsOf, resultList, resultOf, zBV, splice, PV.remade, St.freezeAt, St.freezeBox, St.freezeCap, PV.single, plain, act, dstOf, if_true, if_false, reduceCtorEq, St.get, St.put, St.pvOf, St.putRow, St.consume, St.freeze, St.row, St.elems, St.grab, St.takeRow, St.setRow, St.place, St.optPv, St.setCell, St.setCellRow, binPV, intBin, unPV, BV.val, Nat.reduceEqDiff, bound, consumeAll, buildParts, capsOf, capOf, List.append_nil, Nat.reduceAdd, Nat.reduceLT, Nat.reduceLeDiff, beq_self_eq_true, List.length_map, Nat.beq, dcall, dcallP, List.mapM_cons, St.snapFn, St.snap, St.layAll, St.lay, St.freezeArg, St.freezeArg1]
    rw [loop74 (l := l) (pre := rawFrom 0 (ls.take i)) (v := i) (q17 := .pv (.list 2 (l.map eExt))) rfl hox hrx (by omega)]
    rotate_left
    · simp only [z_take_zero, hr0, List.append_nil, eExts, slAll, Nat.reduceMul, Nat.reduceBEq, Nat.reduceLT, Nat.reduceLeDiff, Nat.zero_le, List.take_zero, List.take_nil, List.take_succ_cons, List.length_cons, List.length_nil, Nat.le_refl, List.isEmpty_nil, val_pvs, frozen_pvs, msnoc_len, msnoc_get, msnoc_set, msnoc_take, Int.le_refl, take_map_all, Nat.le_refl, St.freezeRows, BV.frozen, List.take_length, List.take_append_drop, z_repl_zero, Int.toNat_zero, true_and, and_true, and_self, eq_self, z_take_zero, List.drop_nil, List.take_nil, vAll, List.foldl_nil, List.foldl_cons, resultsOf, resultList, resultOf, zBV, splice, PV.remade, St.freezeAt, St.freezeBox, St.freezeCap, PV.single, plain, act, dstOf, if_true, if_false, reduceCtorEq, St.get, St.put, St.pvOf, St.putRow, St.consume, St.freeze, St.row, St.elems, St.grab, St.takeRow, St.setRow, St.place, St.optPv, St.setCell, St.setCellRow, binPV, intBin, unPV, BV.val, Nat.reduceEqDiff, bound, consumeAll, buildParts, capsOf, capOf, List.append_nil, Nat.reduceAdd, Nat.reduceLT, Nat.reduceLeDiff, beq_self_eq_true, List.length_map, Nat.beq, dcall, dcallP, List.mapM_cons, St.snapFn, St.snap, St.layAll, St.lay, St.freezeArg, St.freezeArg1] <;> rfl
    simp only [slAll, Nat.reduceMul, Nat.reduceBEq, Nat.reduceLT, Nat.reduceLeDiff, Nat.zero_le, List.take_zero, List.take_nil, List.take_succ_cons, List.length_cons, List.length_nil, Nat.le_refl, List.isEmpty_nil, val_pvs, frozen_pvs, msnoc_len, msnoc_get, msnoc_set, msnoc_take, Int.le_refl, take_map_all, Nat.le_refl, St.freezeRows, BV.frozen, List.take_length, List.take_append_drop, z_repl_zero, Int.toNat_zero, true_and, and_true, and_self, eq_self, z_take_zero, List.drop_nil, List.take_nil, vAll, List.foldl_nil, List.foldl_cons, resultsOf, resultList, resultOf, zBV, splice, PV.remade, St.freezeAt, St.freezeBox, St.freezeCap, PV.single, plain, act, dstOf, if_true, if_false, reduceCtorEq, St.get, St.put, St.pvOf, St.putRow, St.consume, St.freeze, St.row, St.elems, St.grab, St.takeRow, St.setRow, St.place, St.optPv, St.setCell, St.setCellRow, binPV, intBin, unPV, BV.val, Nat.reduceEqDiff, bound, consumeAll, buildParts, capsOf, capOf, List.append_nil, Nat.reduceAdd, Nat.reduceLT, Nat.reduceLeDiff, beq_self_eq_true, List.length_map, Nat.beq, dcall, dcallP, List.mapM_cons, St.snapFn, St.snap, St.layAll, St.lay, St.freezeArg, St.freezeArg1]
    rw [ih _ (by simp only [hi1, hs, eExts, slAll, Nat.reduceMul, Nat.reduceBEq, Nat.reduceLT, Nat.reduceLeDiff, Nat.zero_le, List.take_zero, List.take_nil, List.take_succ_cons, List.length_cons, List.length_nil, Nat.le_refl, List.isEmpty_nil, val_pvs, frozen_pvs, msnoc_len, msnoc_get, msnoc_set, msnoc_take, Int.le_refl, take_map_all, Nat.le_refl, St.freezeRows, BV.frozen, List.take_length, List.take_append_drop, z_repl_zero, Int.toNat_zero, true_and, and_true, and_self, eq_self, z_take_zero, List.drop_nil, List.take_nil, vAll, List.foldl_nil, List.foldl_cons, resultsOf, resultList, resultOf, zBV, splice, PV.remade, St.freezeAt, St.freezeBox, St.freezeCap, PV.single, plain, act, dstOf, if_true, if_false, reduceCtorEq, St.get, St.put, St.pvOf, St.putRow, St.consume, St.freeze, St.row, St.elems, St.grab, St.takeRow, St.setRow, St.place, St.optPv, St.setCell, St.setCellRow, binPV, intBin, unPV, BV.val, Nat.reduceEqDiff, bound, consumeAll, buildParts, capsOf, capOf, List.append_nil, Nat.reduceAdd, Nat.reduceLT, Nat.reduceLeDiff, beq_self_eq_true, List.length_map, Nat.beq, dcall, dcallP, List.mapM_cons, St.snapFn, St.snap, St.layAll, St.lay, St.freezeArg, St.freezeArg1] <;> rfl)]
  · intro rb

    simp only [fn74_b2, Int.lt_irrefl, List.length_map, List.take_length, slAll, Nat.reduceMul, Nat.reduceBEq, Nat.reduceLT, Nat.reduceLeDiff, Nat.zero_le, List.take_zero, List.take_nil, List.take_succ_cons, List.length_cons, List.length_nil, Nat.le_refl, List.isEmpty_nil, val_pvs, frozen_pvs, msnoc_len, msnoc_get, msnoc_set, msnoc_take, Int.le_refl, take_map_all, Nat.le_refl, St.freezeRows, BV.frozen, List.take_length, List.take_append_drop, z_repl_zero, Int.toNat_zero, true_and, and_true, and_self, eq_self, z_take_zero, List.drop_nil, List.take_nil, vAll, List.foldl_nil, List.foldl_cons, resultsOf, resultList, resultOf, zBV, splice, PV.remade, St.freezeAt, St.freezeBox, St.freezeCap, PV.single, plain, act, dstOf, if_true, if_false, reduceCtorEq, St.get, St.put, St.pvOf, St.putRow, St.consume, St.freeze, St.row, St.elems, St.grab, St.takeRow, St.setRow, St.place, St.optPv, St.setCell, St.setCellRow, binPV, intBin, unPV, BV.val, Nat.reduceEqDiff, bound, consumeAll, buildParts, capsOf, capOf, List.append_nil, Nat.reduceAdd, Nat.reduceLT, Nat.reduceLeDiff, beq_self_eq_true, List.length_map, Nat.beq, dcall, dcallP, List.mapM_cons, St.snapFn, St.snap, St.layAll, St.lay, St.freezeArg, St.freezeArg1]

def endsOf (ls : List (List Exn)) : List End := sortE (rawFrom 0 ls)
theorem cal74 {ls : List (List Exn)} (ho : ∀ l ∈ ls, okEs l) (hr : ∀ l ∈ ls, l.length ≤ 10000) (hl : ls.length ≤ 2) (hsl : (endsOf ls).length = (rawFrom 0 ls).length) : cal env 74 [.list 1 (ls.map eExts)] = some [(.list 3 ((endsOf ls).map eEnd), true)] := by
  have hp := rawFrom_len (n := 10000) ls 0 hr
  have hp2 : (rawFrom 0 ls).length ≤ 1000000 := by
    have : 2 * 10000 * ls.length ≤ 2 * 10000 * 2 := Nat.mul_le_mul_left _ hl
    omega
  have h1 := sortEndsX_enc (g := 86) (l := rawFrom 0 ls) hp2
  have h2 : ((sortE (rawFrom 0 ls)).map eEnd).length = ((rawFrom 0 ls).map eEnd).length := by
    rw [List.length_map, List.length_map]; exact hsl
  unfold endsOf
  have hcond : (0 = 0 ∧ (rawFrom 0 ls).length = ((rawFrom 0 ls).map eEnd).length ∧ ((sortE (rawFrom 0 ls)).map eEnd).length = ((rawFrom 0 ls).map eEnd).length) = True := eq_true ⟨rfl, by simp, h2⟩
  rw [cal_code env74 rfl]; simp only [fn74, slAll, Nat.reduceBEq, Nat.reduceLeDiff, Nat.reduceAdd, List.length_cons, List.length_nil]
  simp only [List.length_map, env85, h1, hsl, slAll, Nat.reduceMul, Nat.reduceBEq, Nat.reduceLT, Nat.reduceLeDiff, Nat.zero_le, List.take_zero, List.take_nil, List.take_succ_cons, List.length_cons, List.length_nil, Nat.le_refl, List.isEmpty_nil, val_pvs, frozen_pvs, msnoc_len, msnoc_get, msnoc_set, msnoc_take, Int.le_refl, take_map_all, Nat.le_refl, St.freezeRows, BV.frozen, List.take_length, List.take_append_drop, z_repl_zero, Int.toNat_zero, true_and, and_true, and_self, eq_self, z_take_zero, List.drop_nil, List.take_nil, vAll, List.foldl_nil, List.foldl_cons, resultsOf, resultList, resultOf, zBV, splice, PV.remade, St.freezeAt, St.freezeBox, St.freezeCap, PV.single, plain, act, dstOf, if_true, if_false, reduceCtorEq, St.get, St.put, St.pvOf, St.putRow, St.consume, St.freeze, St.row, St.elems, St.grab, St.takeRow, St.setRow, St.place, St.optPv, St.setCell, St.setCellRow, binPV, intBin, unPV, BV.val, Nat.reduceEqDiff, bound, consumeAll, buildParts, capsOf, capOf, List.append_nil, Nat.reduceAdd, Nat.reduceLT, Nat.reduceLeDiff, beq_self_eq_true, List.length_map, Nat.beq, dcall, dcallP, List.mapM_cons, St.snapFn, St.snap, St.layAll, St.lay, St.freezeArg, St.freezeArg1]
  rw [loop74l3 ho (fun l h => by have := hr l h; omega) (by omega) (by simp only [z_take_zero, rawFrom, List.map_nil, slAll, Nat.reduceMul, Nat.reduceBEq, Nat.reduceLT, Nat.reduceLeDiff, Nat.zero_le, List.take_zero, List.take_nil, List.take_succ_cons, List.length_cons, List.length_nil, Nat.le_refl, List.isEmpty_nil, val_pvs, frozen_pvs, msnoc_len, msnoc_get, msnoc_set, msnoc_take, Int.le_refl, take_map_all, Nat.le_refl, St.freezeRows, BV.frozen, List.take_length, List.take_append_drop, z_repl_zero, Int.toNat_zero, true_and, and_true, and_self, eq_self, z_take_zero, List.drop_nil, List.take_nil, vAll, List.foldl_nil, List.foldl_cons, resultsOf, resultList, resultOf, zBV, splice, PV.remade, St.freezeAt, St.freezeBox, St.freezeCap, PV.single, plain, act, dstOf, if_true, if_false, reduceCtorEq, St.get, St.put, St.pvOf, St.putRow, St.consume, St.freeze, St.row, St.elems, St.grab, St.takeRow, St.setRow, St.place, St.optPv, St.setCell, St.setCellRow, binPV, intBin, unPV, BV.val, Nat.reduceEqDiff, bound, consumeAll, buildParts, capsOf, capOf, List.append_nil, Nat.reduceAdd, Nat.reduceLT, Nat.reduceLeDiff, beq_self_eq_true, List.length_map, Nat.beq, dcall, dcallP, List.mapM_cons, St.snapFn, St.snap, St.layAll, St.lay, St.freezeArg, St.freezeArg1] <;> rfl)]
  simp only [h2, List.length_map, env85, h1, hsl, slAll, Nat.reduceMul, Nat.reduceBEq, Nat.reduceLT, Nat.reduceLeDiff, Nat.zero_le, List.take_zero, List.take_nil, List.take_succ_cons, List.length_cons, List.length_nil, Nat.le_refl, List.isEmpty_nil, val_pvs, frozen_pvs, msnoc_len, msnoc_get, msnoc_set, msnoc_take, Int.le_refl, take_map_all, Nat.le_refl, St.freezeRows, BV.frozen, List.take_length, List.take_append_drop, z_repl_zero, Int.toNat_zero, true_and, and_true, and_self, eq_self, z_take_zero, List.drop_nil, List.take_nil, vAll, List.foldl_nil, List.foldl_cons, resultsOf, resultList, resultOf, zBV, splice, PV.remade, St.freezeAt, St.freezeBox, St.freezeCap, PV.single, plain, act, dstOf, if_true, if_false, reduceCtorEq, St.get, St.put, St.pvOf, St.putRow, St.consume, St.freeze, St.row, St.elems, St.grab, St.takeRow, St.setRow, St.place, St.optPv, St.setCell, St.setCellRow, binPV, intBin, unPV, BV.val, Nat.reduceEqDiff, bound, consumeAll, buildParts, capsOf, capOf, List.append_nil, Nat.reduceAdd, Nat.reduceLT, Nat.reduceLeDiff, beq_self_eq_true, List.length_map, Nat.beq, dcall, dcallP, List.mapM_cons, St.snapFn, St.snap, St.layAll, St.lay, St.freezeArg, St.freezeArg1]
  rw [← hsl]
  unfold endsOf
  rw [take_map_all]
end Go.Proofs.Ytncobemfpammfaa.V

namespace Go.Proofs
open Go.Shelf
def Try.sortEnd_ren : Go.Shelf.Ren := ⟨fun | 6 => 85 | 15 => 92 | 14 => 91 | 28 => 102 | 29 => 103 | 20 => 94 | 21 => 95 | 22 => 96 | 23 => 97 | 24 => 98 | 25 => 99 | 26 => 100 | 27 => 101 | 46 => 104 | 47 => 105 | 48 => 106 | 49 => 107 | 50 => 108 | 57 => 109 | n => n, fun | 22 => 110 | 24 => 114 | 25 => 125 | 3 => 3 | 39 => 130 | 0 => 0 | 53 => 140 | 55 => 142 | 4 => 4 | 46 => 133 | 45 => 132 | 50 => 137 | 5 => 5 | 9 => 9 | 66 => 143 | 70 => 147 | 76 => 149 | 77 => 43 | n => n, fun | n => n⟩
theorem Try.sortEnd : Go.Proofs.SlLaysF0.n6 Try.prog Try.sortEnd_ren := {
  mixed := by kernel_rfl
  f6 := ⟨Try.f85.name, by decide, Try.func85.trans (congrArg some (by kernel_rfl))⟩
  f14 := ⟨Try.f91.name, by decide, Try.func91.trans (congrArg some (by kernel_rfl))⟩
  f15 := Try.func92.trans (congrArg some (by kernel_rfl))
  f20 := ⟨Try.f94.name, by decide, Try.func94.trans (congrArg some (by kernel_rfl))⟩
  f21 := ⟨Try.f95.name, by decide, Try.func95.trans (congrArg some (by kernel_rfl))⟩
  f22 := ⟨Try.f96.name, by decide, Try.func96.trans (congrArg some (by kernel_rfl))⟩
  f23 := ⟨Try.f97.name, by decide, Try.func97.trans (congrArg some (by kernel_rfl))⟩
  f24 := ⟨Try.f98.name, by decide, Try.func98.trans (congrArg some (by kernel_rfl))⟩
  f25 := ⟨Try.f99.name, by decide, Try.func99.trans (congrArg some (by kernel_rfl))⟩
  f26 := ⟨Try.f100.name, by decide, Try.func100.trans (congrArg some (by kernel_rfl))⟩
  f27 := ⟨Try.f101.name, by decide, Try.func101.trans (congrArg some (by kernel_rfl))⟩
  f28 := Try.func102.trans (congrArg some (by kernel_rfl))
  f29 := Try.func103.trans (congrArg some (by kernel_rfl))
  f46 := ⟨Try.f104.name, by decide, Try.func104.trans (congrArg some (by kernel_rfl))⟩
  f47 := Try.func105.trans (congrArg some (by kernel_rfl))
  f48 := Try.func106.trans (congrArg some (by kernel_rfl))
  f49 := ⟨Try.f107.name, by decide, Try.func107.trans (congrArg some (by kernel_rfl))⟩
  f50 := ⟨Try.f108.name, by decide, Try.func108.trans (congrArg some (by kernel_rfl))⟩
  f57 := ⟨Try.f109.name, by decide, Try.func109.trans (congrArg some (by kernel_rfl))⟩
  t0 := Try.underlying0
  a0 := Try.isAgg0
  z0 := Try.sizeOf0
  v0 := Try.zeroValue0
  t3 := Try.underlying3
  a3 := Try.isAgg3
  z3 := Try.sizeOf3
  v3 := Try.zeroValue3
  t4 := Try.underlying4
  a4 := Try.isAgg4
  z4 := Try.sizeOf4
  v4 := Try.zeroValue4
  t5 := Try.underlying5
  a5 := Try.isAgg5
  z5 := Try.sizeOf5
  v5 := Try.zeroValue5
  t9 := Try.underlying9
  a9 := Try.isAgg9
  z9 := Try.sizeOf9
  v9 := Try.zeroValue9
  t22 := Try.underlying110
  a22 := Try.isAgg110
  z22 := Try.sizeOf110
  v22 := Try.zeroValue110
  t25 := Try.underlying125
  a25 := Try.isAgg125
  z25 := Try.sizeOf125
  v25 := Try.zeroValue125
  t39 := Try.underlying130
  a39 := Try.isAgg130
  z39 := Try.sizeOf130
  v39 := Try.zeroValue130
  t45 := Try.underlying132
  a45 := Try.isAgg132
  z45 := Try.sizeOf132
  v45 := Try.zeroValue132
  t46 := Try.underlying133
  a46 := Try.isAgg133
  z46 := Try.sizeOf133
  v46 := Try.zeroValue133
  t50 := Try.underlying137
  a50 := Try.isAgg137
  z50 := Try.sizeOf137
  v50 := Try.zeroValue137
  t53 := Try.underlying140
  a53 := Try.isAgg140
  z53 := Try.sizeOf140
  v53 := Try.zeroValue140
  t55 := Try.underlying142
  a55 := Try.isAgg142
  z55 := Try.sizeOf142
  v55 := Try.zeroValue142
  t66 := Try.underlying143
  a66 := Try.isAgg143
  z66 := Try.sizeOf143
  v66 := Try.zeroValue143
  t70 := Try.underlying147
  a70 := Try.isAgg147
  z70 := Try.sizeOf147
  v70 := Try.zeroValue147
  t76 := Try.underlying149
  a76 := Try.isAgg149
  z76 := Try.sizeOf149
  v76 := Try.zeroValue149
  t77 := Try.underlying43
  a77 := Try.isAgg43
  z77 := Try.sizeOf43
  v77 := Try.zeroValue43 }
def Try.cmpInt_ren : Go.Shelf.Ren := ⟨fun | 5 => 87 | 7 => 93 | n => n, fun | 22 => 3 | 3 => 3 | 4 => 4 | n => n, fun | n => n⟩
theorem Try.cmpInt : Go.Proofs.SlLaysC2.n5 Try.prog Try.cmpInt_ren := {
  mixed := by kernel_rfl
  f5 := ⟨Try.f87.name, by decide, Try.func87.trans (congrArg some (by kernel_rfl))⟩
  f7 := ⟨Try.f93.name, by decide, Try.func93.trans (congrArg some (by kernel_rfl))⟩
  t3 := Try.underlying3
  a3 := Try.isAgg3
  z3 := Try.sizeOf3
  v3 := Try.zeroValue3
  t4 := Try.underlying4
  a4 := Try.isAgg4
  z4 := Try.sizeOf4
  v4 := Try.zeroValue4
  t22 := Try.underlying3
  a22 := Try.isAgg3
  z22 := Try.sizeOf3
  v22 := Try.zeroValue3 }
end Go.Proofs
