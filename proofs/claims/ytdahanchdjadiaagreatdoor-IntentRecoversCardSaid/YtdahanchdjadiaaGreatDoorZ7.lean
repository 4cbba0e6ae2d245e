/-
  Part 7 of the texts that the statement stands on.
-/
import Derived.Test.YtdahanchdjadiaaGreatDoorZ6
set_option linter.all false
namespace Go.Proofs.YtdahanchdjadiaaGreatDoor.V
structure SwSt where
  d0 : Int
  d1 : Int
  st : Int
  ins : Bool
  out : List Exn
def swStep (keep : Bool → Bool → Bool) (x : End) (same : Bool) (s : SwSt) : SwSt :=
  if same then ⟨if x.list = 0 then s.d0 + x.step else s.d0, if x.list = 1 then s.d1 + x.step else s.d1, s.st, s.ins, s.out⟩
  else ⟨if x.list = 0 then s.d0 + x.step else s.d0, if x.list = 1 then s.d1 + x.step else s.d1,
    if keep (decide ((if x.list = 0 then s.d0 + x.step else s.d0) > 0)) (decide ((if x.list = 1 then s.d1 + x.step else s.d1) > 0)) && !s.ins then x.pos else s.st,
    keep (decide ((if x.list = 0 then s.d0 + x.step else s.d0) > 0)) (decide ((if x.list = 1 then s.d1 + x.step else s.d1) > 0)),
    s.out ++ (if !keep (decide ((if x.list = 0 then s.d0 + x.step else s.d0) > 0)) (decide ((if x.list = 1 then s.d1 + x.step else s.d1) > 0)) && s.ins then [⟨s.st, x.pos - s.st⟩] else [])⟩
def swAt (keep : Bool → Bool → Bool) (L : List End) : Nat → SwSt
  | 0 => ⟨0, 0, 0, false, []⟩
  | i + 1 => match L[i]? with
    | some x => swStep keep x (nextSame x (L.drop (i + 1))) (swAt keep L i)
    | none => swAt keep L i
theorem swAt_succ {keep : Bool → Bool → Bool} {L : List End} {i : Nat} {x : End} (h : L[i]? = some x) : swAt keep L (i + 1) = swStep keep x (nextSame x (L.drop (i + 1))) (swAt keep L i) := by
  show (match L[i]? with
    | some x => swStep keep x (nextSame x (L.drop (i + 1))) (swAt keep L i)
    | none => swAt keep L i) = _
  rw [h]
theorem swAt_go (keep : Bool → Bool → Bool) (L : List End) : ∀ i, i ≤ L.length → (swAt keep L i).out ++ swGo keep (L.drop i) (swAt keep L i).d0 (swAt keep L i).d1 (swAt keep L i).st (swAt keep L i).ins = swGo keep L 0 0 0 false
  | 0, _ => rfl
  | i + 1, hi => by
    have ih := swAt_go keep L i (by omega)
    have hx : L[i]? = some L[i] := List.getElem?_eq_getElem (by omega)
    rw [← ih, swAt_succ hx, List.drop_eq_getElem_cons (show i < L.length by omega)]
    generalize L[i] = x
    generalize swAt keep L i = s
    conv => rhs; unfold swGo
    unfold swStep
    cases nextSame x (L.drop (i + 1)) with
    | true => rfl
    | false => simp only [Bool.false_eq_true, if_false, List.append_assoc]
theorem swAt_end (keep : Bool → Bool → Bool) (L : List End) : (swAt keep L L.length).out = swGo keep L 0 0 0 false := by
  have := swAt_go keep L L.length (Nat.le_refl _)
  rw [List.drop_length] at this
  simpa [swGo] using this
theorem swAt_small {keep : Bool → Bool → Bool} {L : List End} (h : ∀ x ∈ L, (x.step = 1 ∨ x.step = -1) ∧ x.pos ≤ 4096) : ∀ i : Nat, (-(i : Int) ≤ (swAt keep L i).d0 ∧ (swAt keep L i).d0 ≤ i) ∧ (-(i : Int) ≤ (swAt keep L i).d1 ∧ (swAt keep L i).d1 ≤ i) ∧ (0 ≤ (swAt keep L i).st ∧ (swAt keep L i).st ≤ 4096)
  | 0 => by simp [swAt]
  | i + 1 => by
    obtain ⟨h1, h2, h3⟩ := swAt_small (keep := keep) h i
    cases hx : L[i]? with
    | none =>
      have : swAt keep L (i + 1) = swAt keep L i := by
        show (match L[i]? with
          | some x => swStep keep x (nextSame x (L.drop (i + 1))) (swAt keep L i)
          | none => swAt keep L i) = _
        rw [hx]
      rw [this]
      omega
    | some x =>
      rw [swAt_succ hx]
      obtain ⟨k1, k2⟩ := h x (List.mem_of_getElem? hx)
      generalize swAt keep L i = s at *
      unfold swStep
      split
      · simp only
        refine ⟨?_, ?_, h3⟩
        · split <;> omega
        · split <;> omega
      · simp only
        refine ⟨?_, ?_, ?_⟩
        · split <;> omega
        · split <;> omega
        · split <;> omega
def yE (l : List Exn) : List (List PV) := l.map fun x => [eExt x]
theorem yE_app (l m : List Exn) : yE (l ++ m) = yE l ++ yE m := by simp [yE]
theorem beq_nat (n m : Nat) : ((n : Int) == (m : Int)) = decide (n = m) := by
  by_cases h : n = m
  · subst h; simp
  · rw [decide_eq_false h]; simp; omega
set_option maxRecDepth 20000 in
set_option maxHeartbeats 2000000 in
theorem loop88 {keep : Bool → Bool → Bool} {kf : Nat} (hk : ∀ p q, cal env kf [.bool p, .bool q] = some [(.bool (keep p q), false)]) {L : List End} (hL : ∀ x ∈ L, ((x.step = 1 ∨ x.step = -1) ∧ x.pos ≤ 4096) ∧ x.list < 2) (hl : L.length ≤ 1000000)
   {st : St} (h : st.head [0, 3, 5, 6, 7, 8, 15, 16, 17, 18] st.boxes.length = some ⟨sl 80 [(0, .yld), (3, .pv (.iptr [.func kf []] 0)), (5, .row 3 (L.map eEnd)), (6, .pbox 0 0), (7, .pv (.int .i64 0)), (8, .pv (.bool false)), (15, .any), (16, .ref (.slot 5) 0 L.length), (17, .pv (.int .i64 L.length)), (18, .pv (.int .i64 (0 : Nat)))], [⟨false, [.pv (.int .i64 0), .pv (.int .i64 0)]⟩], [], some none⟩) :
   den env fn88_l1 st = some (.normal, ⟨sl 80 [], [⟨false, [.pv (.int .i64 (swAt keep L L.length).d0), .pv (.int .i64 (swAt keep L L.length).d1)]⟩], yE (swAt keep L L.length).out, some none⟩) := by
  unfold fn88_l1
  have hlim : lim = 1073741824 := rfl
  have hsm := swAt_small (keep := keep) fun x hx => (hL x hx).1
  refine clean_up (env := env) L.length (fun i => ⟨sl 80 [(0, .yld), (3, .pv (.iptr [.func kf []] 0)), (5, .row 3 (L.map eEnd)), (6, .pbox 0 0), (7, .pv (.int .i64 (swAt keep L i).st)), (8, .pv (.bool (swAt keep L i).ins)), (15, .any), (16, .ref (.slot 5) 0 L.length), (17, .pv (.int .i64 L.length)), (18, .pv (.int .i64 i))], [⟨false, [.pv (.int .i64 (swAt keep L i).d0), .pv (.int .i64 (swAt keep L i).d1)]⟩], yE (swAt keep L i).out, some none⟩) (fun _ => some (.normal, ⟨sl 80 [], [⟨false, [.pv (.int .i64 (swAt keep L L.length).d0), .pv (.int .i64 (swAt keep L L.length).d1)]⟩], yE (swAt keep L L.length).out, some none⟩)) h (fun _ => rfl) (fun _ => by simp only [slAll, slsAll, Nat.reduceMul, Nat.reduceBEq, Nat.reduceLT, Nat.reduceLeDiff, Nat.reduceAdd, decide_true, Bool.and_self, Bool.true_and]) ?_ ?_
  · intro i rb hi ih
    have hi1 := i64_next hi (by omega)
    have F1 : ((i : Int) < (L.length : Int)) = True := eq_true (by omega)
    have hx : L[i]? = some L[i] := List.getElem?_eq_getElem hi
    obtain ⟨⟨x1, x2⟩, x3⟩ := hL _ (List.getElem_mem hi)
    have hsuc := swAt_succ (keep := keep) hx
    obtain ⟨⟨s1, s2⟩, ⟨s3, s4⟩, s5, s6⟩ := hsm i
    rw [hsuc] at ih
    clear hsuc
    generalize L[i] = x at *
    generalize hs : swAt keep L i = s at *
    obtain ⟨d0, d1, sp, ins, out⟩ := s
    obtain ⟨p, k, t⟩ := x
    simp only at x1 x2 x3 s1 s2 s3 s4 s5 s6 ih
    have hlist : k = 0 ∨ k = 1 := by omega
    have W0 : IntKind.i64.wrap (d0 + t) = d0 + t := i64_fits (by omega)
    have W1 : IntKind.i64.wrap (d1 + t) = d1 + t := i64_fits (by omega)
    have W2 : IntKind.i64.wrap ((p : Int) - sp) = (p : Int) - sp := i64_fits (by omega)
    have I0 : index (.int .i64 0) 2 = some 0 := rfl
    have I1 : index (.int .i64 1) 2 = some 1 := rfl
    have IN0 : index (.int .i64 ((0 : Nat) : Int)) 2 = some 0 := rfl
    have IN1 : index (.int .i64 ((1 : Nat) : Int)) 2 = some 1 := rfl
    have P3 : ∀ a b c : PV, part [a, b, c] 0 (some 3) = some (.agg [a, b, c]) := fun a b c => rfl
    -- the next end
    have hnx : (∃ y, L[i + 1]? = some y ∧ nextSame ⟨p, k, t⟩ (L.drop (i + 1)) = decide (y.pos = p) ∧ (((i + 1 : Nat) : Int) < (L.length : Int)) ∧ index (.int .i64 ((i + 1 : Nat) : Int)) L.length = some (i + 1)) ∨ (nextSame ⟨p, k, t⟩ (L.drop (i + 1)) = false ∧ ¬ (((i + 1 : Nat) : Int) < (L.length : Int))) := by
      by_cases hlt : i + 1 < L.length
      · left
        refine ⟨L[i + 1], List.getElem?_eq_getElem hlt, ?_, by omega, index_nat hlt⟩
        rw [List.drop_eq_getElem_cons hlt]; rfl
      · right
        refine ⟨?_, by omega⟩
        rw [List.drop_eq_nil_of_le (by omega)]; rfl
    rcases hlist with rfl | rfl
    · -- list 0
      have e1 := hk (decide (d0 + t > 0)) (decide (d1 > 0))
      have same : swStep keep ⟨p, 0, t⟩ true ⟨d0, d1, sp, ins, out⟩ = ⟨d0 + t, d1, sp, ins, out⟩ := by simp [swStep]
      have diff : swStep keep ⟨p, 0, t⟩ false ⟨d0, d1, sp, ins, out⟩ = ⟨d0 + t, d1, if keep (decide (d0 + t > 0)) (decide (d1 > 0)) && !ins then (p : Int) else sp, keep (decide (d0 + t > 0)) (decide (d1 > 0)), out ++ (if !keep (decide (d0 + t > 0)) (decide (d1 > 0)) && ins then [⟨sp, (p : Int) - sp⟩] else [])⟩ := by simp [swStep]
      rcases hnx with ⟨y, hy, hns, hlt, hix⟩ | ⟨hns, hlt⟩
      · have F2 : (((i + 1 : Nat) : Int) < (L.length : Int)) = True := eq_true hlt
        rw [hns] at ih
        have B := beq_nat y.pos p
        generalize hb : decide (y.pos = p) = b at ih B
        cases b with
        | true =>
          rw [same] at ih
          simp only [fn88_b0, F1, hx, hi1, W0, W1, W2, I0, I1, IN0, IN1, P3, eEnd, index_nat hi, List.getElem?_map, Option.map_some, List.length_map, List.length_cons, List.length_nil, F2, hy, hix, B, slAll, slsAll, Nat.reduceMul, Nat.reduceBEq, Nat.reduceLT, Nat.reduceLeDiff, memAll, vAll, reduceCtorEq, Nat.reduceEqDiff, Nat.reduceAdd, Nat.reduceLT, Nat.reduceLeDiff, Nat.beq]
          rw [ih _ (by simp only [hi1, slAll, slsAll, Nat.reduceMul, Nat.reduceBEq, Nat.reduceLT, Nat.reduceLeDiff, memAll, vAll, reduceCtorEq, Nat.reduceEqDiff, Nat.reduceAdd, Nat.reduceLT, Nat.reduceLeDiff, Nat.beq] <;> rfl)]
        | false =>
          rw [diff] at ih
          generalize keep (decide (d0 + t > 0)) (decide (d1 > 0)) = now at *
          cases now <;> cases ins <;> simp only [Bool.not_true, Bool.not_false, Bool.and_true, Bool.and_false, Bool.and_self, Bool.false_eq_true, if_true, if_false, List.append_nil, yE_app] at ih <;> simp only [fn88_b0, F1, hx, hi1, W0, W1, W2, I0, I1, IN0, IN1, P3, eEnd, index_nat hi, List.getElem?_map, Option.map_some, List.length_map, List.length_cons, List.length_nil, F2, hy, hix, B, e1, slAll, slsAll, Nat.reduceMul, Nat.reduceBEq, Nat.reduceLT, Nat.reduceLeDiff, memAll, vAll, reduceCtorEq, Nat.reduceEqDiff, Nat.reduceAdd, Nat.reduceLT, Nat.reduceLeDiff, Nat.beq] <;> rw [ih _ (by simp only [hi1, yE, List.map_cons, List.map_nil, eExt, slAll, slsAll, Nat.reduceMul, Nat.reduceBEq, Nat.reduceLT, Nat.reduceLeDiff, memAll, vAll, reduceCtorEq, Nat.reduceEqDiff, Nat.reduceAdd, Nat.reduceLT, Nat.reduceLeDiff, Nat.beq] <;> rfl)]
      · have F2 : (((i + 1 : Nat) : Int) < (L.length : Int)) = False := eq_false hlt
        rw [hns, diff] at ih
        generalize keep (decide (d0 + t > 0)) (decide (d1 > 0)) = now at *
        cases now <;> cases ins <;> simp only [Bool.not_true, Bool.not_false, Bool.and_true, Bool.and_false, Bool.and_self, Bool.false_eq_true, if_true, if_false, List.append_nil, yE_app] at ih <;> simp only [fn88_b0, F1, hx, hi1, W0, W1, W2, I0, I1, IN0, IN1, P3, eEnd, index_nat hi, List.getElem?_map, Option.map_some, List.length_map, List.length_cons, List.length_nil, F2, e1, slAll, slsAll, Nat.reduceMul, Nat.reduceBEq, Nat.reduceLT, Nat.reduceLeDiff, memAll, vAll, reduceCtorEq, Nat.reduceEqDiff, Nat.reduceAdd, Nat.reduceLT, Nat.reduceLeDiff, Nat.beq] <;> rw [ih _ (by simp only [hi1, yE, List.map_cons, List.map_nil, eExt, slAll, slsAll, Nat.reduceMul, Nat.reduceBEq, Nat.reduceLT, Nat.reduceLeDiff, memAll, vAll, reduceCtorEq, Nat.reduceEqDiff, Nat.reduceAdd, Nat.reduceLT, Nat.reduceLeDiff, Nat.beq] <;> rfl)]
    · -- list 1
      have e1 := hk (decide (d0 > 0)) (decide (d1 + t > 0))
      have same : swStep keep ⟨p, 1, t⟩ true ⟨d0, d1, sp, ins, out⟩ = ⟨d0, d1 + t, sp, ins, out⟩ := by simp [swStep]
      have diff : swStep keep ⟨p, 1, t⟩ false ⟨d0, d1, sp, ins, out⟩ = ⟨d0, d1 + t, if keep (decide (d0 > 0)) (decide (d1 + t > 0)) && !ins then (p : Int) else sp, keep (decide (d0 > 0)) (decide (d1 + t > 0)), out ++ (if !keep (decide (d0 > 0)) (decide (d1 + t > 0)) && ins then [⟨sp, (p : Int) - sp⟩] else [])⟩ := by simp [swStep]
      rcases hnx with ⟨y, hy, hns, hlt, hix⟩ | ⟨hns, hlt⟩
      · have F2 : (((i + 1 : Nat) : Int) < (L.length : Int)) = True := eq_true hlt
        rw [hns] at ih
        have B := beq_nat y.pos p
        generalize hb : decide (y.pos = p) = b at ih B
        cases b with
        | true =>
          rw [same] at ih
          simp only [fn88_b0, F1, hx, hi1, W0, W1, W2, I0, I1, IN0, IN1, P3, eEnd, index_nat hi, List.getElem?_map, Option.map_some, List.length_map, List.length_cons, List.length_nil, F2, hy, hix, B, slAll, slsAll, Nat.reduceMul, Nat.reduceBEq, Nat.reduceLT, Nat.reduceLeDiff, memAll, vAll, reduceCtorEq, Nat.reduceEqDiff, Nat.reduceAdd, Nat.reduceLT, Nat.reduceLeDiff, Nat.beq]
          rw [ih _ (by simp only [hi1, slAll, slsAll, Nat.reduceMul, Nat.reduceBEq, Nat.reduceLT, Nat.reduceLeDiff, memAll, vAll, reduceCtorEq, Nat.reduceEqDiff, Nat.reduceAdd, Nat.reduceLT, Nat.reduceLeDiff, Nat.beq] <;> rfl)]
        | false =>
          rw [diff] at ih
          generalize keep (decide (d0 > 0)) (decide (d1 + t > 0)) = now at *
          cases now <;> cases ins <;> simp only [Bool.not_true, Bool.not_false, Bool.and_true, Bool.and_false, Bool.and_self, Bool.false_eq_true, if_true, if_false, List.append_nil, yE_app] at ih <;> simp only [fn88_b0, F1, hx, hi1, W0, W1, W2, I0, I1, IN0, IN1, P3, eEnd, index_nat hi, List.getElem?_map, Option.map_some, List.length_map, List.length_cons, List.length_nil, F2, hy, hix, B, e1, slAll, slsAll, Nat.reduceMul, Nat.reduceBEq, Nat.reduceLT, Nat.reduceLeDiff, memAll, vAll, reduceCtorEq, Nat.reduceEqDiff, Nat.reduceAdd, Nat.reduceLT, Nat.reduceLeDiff, Nat.beq] <;> rw [ih _ (by simp only [hi1, yE, List.map_cons, List.map_nil, eExt, slAll, slsAll, Nat.reduceMul, Nat.reduceBEq, Nat.reduceLT, Nat.reduceLeDiff, memAll, vAll, reduceCtorEq, Nat.reduceEqDiff, Nat.reduceAdd, Nat.reduceLT, Nat.reduceLeDiff, Nat.beq] <;> rfl)]
      · have F2 : (((i + 1 : Nat) : Int) < (L.length : Int)) = False := eq_false hlt
        rw [hns, diff] at ih
        generalize keep (decide (d0 > 0)) (decide (d1 + t > 0)) = now at *
        cases now <;> cases ins <;> simp only [Bool.not_true, Bool.not_false, Bool.and_true, Bool.and_false, Bool.and_self, Bool.false_eq_true, if_true, if_false, List.append_nil, yE_app] at ih <;> simp only [fn88_b0, F1, hx, hi1, W0, W1, W2, I0, I1, IN0, IN1, P3, eEnd, index_nat hi, List.getElem?_map, Option.map_some, List.length_map, List.length_cons, List.length_nil, F2, e1, slAll, slsAll, Nat.reduceMul, Nat.reduceBEq, Nat.reduceLT, Nat.reduceLeDiff, memAll, vAll, reduceCtorEq, Nat.reduceEqDiff, Nat.reduceAdd, Nat.reduceLT, Nat.reduceLeDiff, Nat.beq] <;> rw [ih _ (by simp only [hi1, yE, List.map_cons, List.map_nil, eExt, slAll, slsAll, Nat.reduceMul, Nat.reduceBEq, Nat.reduceLT, Nat.reduceLeDiff, memAll, vAll, reduceCtorEq, Nat.reduceEqDiff, Nat.reduceAdd, Nat.reduceLT, Nat.reduceLeDiff, Nat.beq] <;> rfl)]
  · intro rb
    simp only [fn88_b0, Int.lt_irrefl, slAll, slsAll, Nat.reduceMul, Nat.reduceBEq, Nat.reduceLT, Nat.reduceLeDiff, memAll, vAll, reduceCtorEq, Nat.reduceEqDiff, Nat.reduceAdd, Nat.reduceLT, Nat.reduceLeDiff, Nat.beq]
end Go.Proofs.YtdahanchdjadiaaGreatDoor.V

namespace Go.Proofs.YtdahanchdjadiaaGreatDoor.V
def inS (l : List Exn) (s : Nat) : Bool := l.any fun e => inE e s
def setOf (keep : Bool → Bool → Bool) (a b : List Exn) : List Exn := ext (fun s => keep (inS a s) (inS b s)) 4096
theorem two_mem {α : Type} {P : α → Prop} {a b : α} (ha : P a) (hb : P b) : ∀ l ∈ [a, b], P l := by
  intro l hl
  simp only [List.mem_cons, List.not_mem_nil, or_false] at hl
  rcases hl with rfl | rfl
  · exact ha
  · exact hb
theorem dep_perm {i s : Nat} {l m : List End} (h : l.Perm m) : dep i s l = dep i s m := by
  induction h with
  | nil => rfl
  | cons x _ ih => simp only [dep, ih]
  | swap x y l => simp only [dep]; omega
  | trans _ _ h1 h2 => exact h1.trans h2
theorem tot_perm {i : Nat} {l m : List End} (h : l.Perm m) : tot i l = tot i m := by
  induction h with
  | nil => rfl
  | cons x _ ih => simp only [tot, ih]
  | swap x y l => simp only [tot]; omega
  | trans _ _ h1 h2 => exact h1.trans h2
theorem rawOf_cons (i : Nat) (e : Exn) (l : List Exn) : rawOf i (e :: l) = (if (wX e).2.2 then [⟨(wX e).1.toNat, i, 1⟩, ⟨(wX e).2.1.toNat, i, -1⟩] else []) ++ rawOf i l := by simp [rawOf]
theorem rawOf_mem {i : Nat} : ∀ {l : List Exn} {x : End}, x ∈ rawOf i l → ((x.step = 1 ∨ x.step = -1) ∧ x.pos ≤ 4096) ∧ x.list = i
  | [], x, h => by simp [rawOf] at h
  | e :: l, x, h => by
    rw [rawOf_cons] at h
    rcases List.mem_append.1 h with h | h
    · cases hw : (wX e).2.2 with
      | false => rw [hw] at h; simp at h
      | true =>
        obtain ⟨n, m, hnm, h1, h2, -⟩ := wX_true hw
        rw [hnm] at h
        simp only [if_true, Int.toNat_natCast, List.mem_cons, List.not_mem_nil, or_false] at h
        rcases h with rfl | rfl
        · exact ⟨⟨.inl rfl, by simp only; omega⟩, rfl⟩
        · exact ⟨⟨.inr rfl, h2⟩, rfl⟩
    · exact rawOf_mem h
theorem tot_raw {i j : Nat} : ∀ l : List Exn, tot j (rawOf i l) = 0
  | [] => rfl
  | e :: l => by
    rw [rawOf_cons, tot_app, tot_raw l]
    split
    · simp only [tot]; split <;> omega
    · rfl
theorem dep_other {i j s : Nat} (h : i ≠ j) : ∀ l : List Exn, dep j s (rawOf i l) = 0
  | [] => rfl
  | e :: l => by
    rw [rawOf_cons, dep_app, dep_other h l]
    split
    · simp [dep, h]
    · rfl
theorem dep_raw {i s : Nat} (hs : s < 4096) : ∀ l : List Exn, 0 ≤ dep i s (rawOf i l) ∧ (dep i s (rawOf i l) > 0 ↔ inS l s = true)
  | [] => by simp [rawOf, dep, inS]
  | e :: l => by
    obtain ⟨h1, h2⟩ := dep_raw (i := i) hs l
    rw [rawOf_cons, dep_app]
    have h3 : inS (e :: l) s = (inE e s || inS l s) := rfl
    rw [h3]
    cases hw : (wX e).2.2 with
    | false =>
      rw [wX_false hw hs]
      simp only [Bool.false_eq_true, if_false, dep, Int.zero_add, Bool.false_or]
      exact ⟨h1, h2⟩
    | true =>
      obtain ⟨n, m, hnm, g1, g2, g3⟩ := wX_true hw
      have g4 := g3 s hs
      rw [hnm]
      simp only [if_true, Int.toNat_natCast, dep, true_and]
      cases hin : inE e s with
      | false =>
        rw [Bool.false_or, ← h2]
        have : ¬ (n ≤ s ∧ s < m) := fun h => by rw [g4.2 h] at hin; cases hin
        split <;> split <;> omega
      | true =>
        obtain ⟨k1, k2⟩ := g4.1 hin
        rw [if_pos k1, if_neg (by omega)]
        simp only [Bool.true_or, iff_true]
        omega
theorem asc_of : ∀ {l : List End}, (∀ i j : Nat, i < j → j < l.length → ¬ l[j]!.pos < l[i]!.pos) → Asc l
  | [], _ => trivial
  | [x], _ => trivial
  | x :: y :: l, h => by
    refine ⟨?_, asc_of fun i j hij hj => ?_⟩
    · have := h 0 1 (by omega) (by simp)
      simp at this
      omega
    · have := h (i + 1) (j + 1) (by omega) (by simp at hj ⊢; omega)
      simpa using this
theorem sweep_set {keep : Bool → Bool → Bool} (hk : keep false false = false) (a b : List Exn) : swGo keep (endsOf [a, b]) 0 0 0 false = setOf keep a b := by
  obtain ⟨h1, h2, h3⟩ := sortE_perm (rawFrom 0 [a, b])
  have hr : rawFrom 0 [a, b] = rawOf 0 a ++ rawOf 1 b := by simp [rawFrom]
  have hmem : ∀ x ∈ endsOf [a, b], x.pos ≤ 4096 := fun x hx => by
    have := h1.mem_iff.1 hx
    rw [hr] at this
    rcases List.mem_append.1 this with q | q
    · exact (rawOf_mem q).1.2
    · exact (rawOf_mem q).1.2
  have ht : ∀ j, tot j (endsOf [a, b]) = 0 := fun j => by
    unfold endsOf
    rw [tot_perm h1, hr, tot_app, tot_raw, tot_raw]; rfl
  have hasc : Asc (endsOf [a, b]) := asc_of fun i j hij hj => h3 i j hij (by unfold endsOf at hj; omega)
  rw [sweep_ok hk hasc hmem (ht 0) (ht 1)]
  unfold setOf
  apply ext_congr
  intro s hs
  unfold keepOf endsOf
  rw [dep_perm h1, dep_perm h1, hr, dep_app, dep_app, dep_other (i := 1) (j := 0) (by decide), dep_other (i := 0) (j := 1) (by decide), Int.add_zero, Int.zero_add]
  have e1 := (dep_raw (i := 0) hs a).2
  have e2 := (dep_raw (i := 1) hs b).2
  have f1 : decide (dep 0 s (rawOf 0 a) > 0) = inS a s := by
    cases h : inS a s
    · exact decide_eq_false fun q => by rw [e1.1 q] at h; cases h
    · exact decide_eq_true (e1.2 h)
  have f2 : decide (dep 1 s (rawOf 1 b) > 0) = inS b s := by
    cases h : inS b s
    · exact decide_eq_false fun q => by rw [e2.1 q] at h; cases h
    · exact decide_eq_true (e2.2 h)
  rw [f1, f2]
set_option maxRecDepth 20000 in
theorem iter88 {keep : Bool → Bool → Bool} (h0 : keep false false = false) {kf : Nat} (hk : ∀ p q, cal env kf [.bool p, .bool q] = some [(.bool (keep p q), false)]) {a b : List Exn} (ha : okEs a) (hb : okEs b) (la : a.length ≤ 10000) (lb : b.length ≤ 10000) :
    iter env 88 [.iptr [.list 2 (a.map eExt)] 0, .iptr [.list 2 (b.map eExt)] 0, .iptr [.func kf []] 0] none = some (yE (setOf keep a b)) := by
  have hlim : lim = 1073741824 := rfl
  obtain ⟨h1, h2, h3⟩ := sortE_perm (rawFrom 0 [a, b])
  have hr : rawFrom 0 [a, b] = rawOf 0 a ++ rawOf 1 b := by simp [rawFrom]
  have hp := rawFrom_len (n := 10000) [a, b] 0 (two_mem la lb)
  have e1 := cal89 (ls := [a, b]) (two_mem ha hb) (two_mem la lb) (by simp) h2
  have hE : (endsOf [a, b]).length ≤ 1000000 := by unfold endsOf; rw [h2]; simp at hp; omega
  have hm : ∀ x ∈ endsOf [a, b], ((x.step = 1 ∨ x.step = -1) ∧ x.pos ≤ 4096) ∧ x.list < 2 := fun x hx => by
    have := h1.mem_iff.1 hx
    rw [hr] at this
    rcases List.mem_append.1 this with q | q
    · have := rawOf_mem q; exact ⟨this.1, by omega⟩
    · have := rawOf_mem q; exact ⟨this.1, by omega⟩
  have hres := (swAt_end keep (endsOf [a, b])).trans (sweep_set h0 a b)
  simp only [List.map_cons, List.map_nil, eExts] at e1
  have L2 : (2 ≤ lim) = True := eq_true (by omega)
  rw [iter_code env88 rfl rfl]
  have hy : ystart 80 [.iptr [.list 2 (a.map eExt)] 0, .iptr [.list 2 (b.map eExt)] 0, .iptr [.func kf []] 0] none = ⟨sl 80 [(0, .yld), (1, .pv (.iptr [.list 2 (a.map eExt)] 0)), (2, .pv (.iptr [.list 2 (b.map eExt)] 0)), (3, .pv (.iptr [.func kf []] 0))], [], [], some none⟩ := rfl
  simp only [fn88]
  rw [hy]
  simp only [e1, L2, List.length_map, slAll, slsAll, Nat.reduceMul, Nat.reduceBEq, Nat.reduceLT, Nat.reduceLeDiff, memAll, vAll, reduceCtorEq, Nat.reduceEqDiff, Nat.reduceAdd, Nat.reduceLT, Nat.reduceLeDiff, Nat.beq]
  rw [loop88 hk hm hE (by simp only [slAll, slsAll, Nat.reduceMul, Nat.reduceBEq, Nat.reduceLT, Nat.reduceLeDiff, memAll, vAll, reduceCtorEq, Nat.reduceEqDiff, Nat.reduceAdd, Nat.reduceLT, Nat.reduceLeDiff, Nat.beq] <;> rfl)]
  rw [hres]
  rfl
theorem cal87 {g : Nat} {caps : List PV} {l : List Exn} (hi : iter env g caps none = some (yE l)) (hl : l.length ≤ 1000000) : cal env 87 [.nils 2, .func g caps] = some [(.list 2 (l.map eExt), true)] := by
  have hlim : lim = 1073741824 := rfl
  rw [cal_code env87 rfl]; simp only [fn87]; simp only [start, z_map_cons, z_map_nil, z_len_cons, z_len_nil, z_repl_zero, z_repl_succ, z_cons_app, z_nil_app, Nat.reduceAdd, Nat.reduceSub]
  simp only [ memAll, vAll, reduceCtorEq, Nat.reduceEqDiff, Nat.reduceAdd, Nat.reduceLT, Nat.reduceLeDiff, Nat.beq]
  rw [rng_idx (env := env) (fun j => [⟨false, [.row 2 ((l.take j).map eExt)]⟩]) (xs := yE l) rfl hi rfl ?_]
  · simp only [yE, List.length_map, List.take_length, vRng, memAll, vAll, reduceCtorEq, Nat.reduceEqDiff, Nat.reduceAdd, Nat.reduceLT, Nat.reduceLeDiff, Nat.beq]
  · intro j x hx sl0
    simp only [yE, List.getElem?_map, Option.map_eq_some_iff] at hx
    obtain ⟨e, he, rfl⟩ := hx
    have hj := (List.getElem?_eq_some_iff.1 he).1
    have F3 : ((l.take j).length + 1 ≤ lim) = True := eq_true (by rw [List.length_take]; omega)
    have ht : l.take (j + 1) = l.take j ++ [e] := by rw [List.take_add_one, he]; rfl
    rw [ht]
    refine ⟨?_, ?_⟩
    rotate_left
    · simp only [fn87_b0, fn87_b1, F3, eExt, List.map_append, List.map_cons, List.map_nil, vRng, memAll, vAll, reduceCtorEq, Nat.reduceEqDiff, Nat.reduceAdd, Nat.reduceLT, Nat.reduceLeDiff, Nat.beq]
      rfl
theorem cal69 {g : Nat} {caps : List PV} {l : List Exn} (hi : iter env g caps none = some (yE l)) (hl : l.length ≤ 1000000) : cal env 69 [.func g caps] = some [(.list 2 (l.map eExt), true)] := by
  have e1 := cal87 hi hl
  rw [cal_code env69 rfl]; simp only [fn69]; simp only [start, z_map_cons, z_map_nil, z_len_cons, z_len_nil, z_repl_zero, z_repl_succ, z_cons_app, z_nil_app, Nat.reduceAdd, Nat.reduceSub]
  simp only [e1, memAll, vAll, reduceCtorEq, Nat.reduceEqDiff, Nat.reduceAdd, Nat.reduceLT, Nat.reduceLeDiff, Nat.beq]
end Go.Proofs.YtdahanchdjadiaaGreatDoor.V

namespace Go.Proofs.YtdahanchdjadiaaGreatDoor.V
def orB (p q : Bool) : Bool := p || q
theorem addAt_len (l : List Exn) (i : Nat) : (addAt l i).length ≤ l.length + 1 := by
  rcases snoc_cases l with rfl | ⟨p, x, rfl⟩
  · simp [addAt]
  · rw [addAt_snoc]; split <;> simp
theorem ext_len (p : Nat → Bool) : ∀ n, (ext p n).length ≤ n
  | 0 => Nat.le_refl _
  | n + 1 => by
    rw [ext_succ]
    have := ext_len p n
    have := addAt_len (ext p n) n
    split <;> omega
theorem setOf_len (keep : Bool → Bool → Bool) (a b : List Exn) : (setOf keep a b).length ≤ 4096 := ext_len _ _
theorem cal70 {a b : List PV} {kf : Nat} : cal env 70 [.list 2 a, .list 2 b, .func kf []] = some [(.func 88 [.iptr [.list 2 a] 0, .iptr [.list 2 b] 0, .iptr [.func kf []] 0], false)] := by
  rw [cal_code env70 rfl]; simp only [fn70, slAll, Nat.reduceBEq, Nat.reduceLeDiff, Nat.reduceAdd, List.length_cons, List.length_nil]
  simp only [ slAll, slsAll, Nat.reduceMul, Nat.reduceBEq, Nat.reduceLT, Nat.reduceLeDiff, memAll, vAll, reduceCtorEq, Nat.reduceEqDiff, Nat.reduceAdd, Nat.reduceLT, Nat.reduceLeDiff, Nat.beq]
theorem cal71 (p q : Bool) : cal env 71 [.bool p, .bool q] = some [(.bool (orB p q), false)] := by
  cases p <;> cases q <;> (rw [cal_code env71 rfl]; simp only [fn71, slAll, Nat.reduceBEq, Nat.reduceLeDiff, Nat.reduceAdd, List.length_cons, List.length_nil]; simp only [ slAll, slsAll, Nat.reduceMul, Nat.reduceBEq, Nat.reduceLT, Nat.reduceLeDiff, memAll, vAll, reduceCtorEq, Nat.reduceEqDiff, Nat.reduceAdd, Nat.reduceLT, Nat.reduceLeDiff, Nat.beq] <;> rfl)
theorem cal45 {a b : List Exn} (ha : okEs a) (hb : okEs b) (la : a.length ≤ 10000) (lb : b.length ≤ 10000) : cal env 45 [.list 2 (a.map eExt), .list 2 (b.map eExt)] = some [(.list 2 ((setOf orB a b).map eExt), true)] := by
  have e1 := cal70 (a := a.map eExt) (b := b.map eExt) (kf := 71)
  have hi := iter88 (keep := orB) rfl (kf := 71) (fun p q => cal71 p q) ha hb la lb
  have hlen := setOf_len orB a b
  have e2 := cal69 hi (by omega)
  rw [cal_code env45 rfl]; simp only [fn45, slAll, Nat.reduceBEq, Nat.reduceLeDiff, Nat.reduceAdd, List.length_cons, List.length_nil]
  simp only [e1, e2, slAll, slsAll, Nat.reduceMul, Nat.reduceBEq, Nat.reduceLT, Nat.reduceLeDiff, memAll, vAll, reduceCtorEq, Nat.reduceEqDiff, Nat.reduceAdd, Nat.reduceLT, Nat.reduceLeDiff, Nat.beq]
def orS (l : List Exn) : List Exn := setOf orB l []
end Go.Proofs.YtdahanchdjadiaaGreatDoor.V

namespace Go.Proofs.YtdahanchdjadiaaGreatDoor.V
theorem bmX_le (b : Bm) : (bmX b).length ≤ 4096 := by
  unfold bmX
  split
  · rename_i c
    have h := okB_size c
    have := ext_len (bit b.ws) b.size.toNat
    unfold bmExts
    omega
  · simp
def encO (i : Itn) : List Nat := if okItn i then encI i.size ++ encI i.gran ++ encX (bmX i.bm) else []
theorem cal20 {i : Itn} (hl : i.act.length ≤ lim) : cal env 20 [eItn i] = some [(.list 1 ((encO i).map eY), true)] := by
  have e0 := cal10 (i := i) hl
  have eI5 : ∀ i : Itn, eItn i = .agg [.int .i64 i.size, .int .i64 i.gran, .list 1 (i.act.map eI), .int .i64 i.bm.size, .list 1 (i.bm.ws.map eW)] := fun _ => rfl
  have P5 : ∀ a b c d e : PV, part [a, b, c, d, e] 0 (some 5) = some (.agg [a, b, c, d, e]) := fun _ _ _ _ _ => rfl
  have Z0 : ((0 : Int) != 0) = false := rfl
  have Z3 : ((3 : Int) != 0) = true := rfl
  unfold chkI at e0
  unfold encO
  cases c0 : okItn i with
  | false =>
    rw [c0, if_neg (by decide)] at e0
    rw [if_neg (by decide)]
    rw [eI5] at e0 ⊢
    rw [cal_code env20 rfl]; simp only [fn20, slAll, Nat.reduceBEq, Nat.reduceLeDiff, Nat.reduceAdd, List.length_cons, List.length_nil]
    simp only [e0, Z3, P5, slAll, slsAll, Nat.reduceMul, Nat.reduceBEq, Nat.reduceLT, Nat.reduceLeDiff, memAll, vAll, reduceCtorEq, Nat.reduceEqDiff, Nat.reduceAdd, Nat.reduceLT, Nat.reduceLeDiff, Nat.beq]
  | true =>
    rw [c0, if_pos rfl] at e0
    rw [if_pos rfl]
    have e1 := cal52 (l := []) (n := i.size) (by simp)
    have q1 := encI_len i.size
    have q2 := encI_len i.gran
    have e2 := cal52 (l := encI i.size) (n := i.gran) (by omega)
    have e3 := cal54 (b := i.bm)
    have e4 := cal53 (l := encI i.size ++ encI i.gran) (es := bmX i.bm) (by rw [List.length_append]; omega) (by have := bmX_le i.bm; omega)
    have eA : ∀ b : Bm, eBm b = .agg [.int .i64 b.size, .list 1 (b.ws.map eW)] := fun _ => rfl
    rw [List.map_nil, List.nil_append] at e1
    rw [eA] at e3
    rw [eI5] at e0 ⊢
    rw [cal_code env20 rfl]; simp only [fn20, slAll, Nat.reduceBEq, Nat.reduceLeDiff, Nat.reduceAdd, List.length_cons, List.length_nil]
    simp only [e0, e1, e2, e3, e4, Z0, P5, part_bm, slAll, slsAll, Nat.reduceMul, Nat.reduceBEq, Nat.reduceLT, Nat.reduceLeDiff, memAll, vAll, reduceCtorEq, Nat.reduceEqDiff, Nat.reduceAdd, Nat.reduceLT, Nat.reduceLeDiff, Nat.beq]
def frB (b : Bm) (l : List Exn) : Bm := l.foldl (fun b e => chO orW b e) b
def frE : Bm → List Exn → Int
  | _, [] => 0
  | b, e :: l => if chE b e = 0 then frE (chO orW b e) l else chE b e
def fxE (n : Int) (l : List Exn) : Int := if newE n = 0 then frE (newO n) l else newE n
def fxO (n : Int) (l : List Exn) : Bm := if fxE n l = 0 then frB (newO n) l else ⟨0, []⟩
theorem frE_step {b : Bm} {l : List Exn} {k : Nat} (h : k < l.length) : frE (frB b (l.take k)) (l.drop k) = if chE (frB b (l.take k)) l[k] = 0 then frE (frB b (l.take (k + 1))) (l.drop (k + 1)) else chE (frB b (l.take k)) l[k] := by
  rw [List.drop_eq_getElem_cons h, frE]
  congr 2
  unfold frB
  rw [List.take_succ_eq_append_getElem h, List.foldl_append]
  rfl
def resF (n : Nat) (b0 : Bm) (l : List Exn) (e : Int) : Option (Ex × St) :=
  if e = 0 then some (.normal, ⟨sl n [(4, .pbox 0 0), (5, .any), (6, .pbox 1 0)], [⟨false, [.pv (.int .i64 0), .row 1 []]⟩, ⟨false, [.pv (.int .i64 (frB b0 l).size), .pv (.list 1 ((frB b0 l).ws.map eW))]⟩], [], none⟩)
  else some (.ret, ⟨sl n [(4, .pbox 0 0), (5, .pv (.int .i64 e)), (6, .pbox 1 0)], [⟨false, [.pv (.int .i64 0), .pv (.list 1 [])]⟩, ⟨false, [.pv (.int .i64 0), .pv (.list 1 [])]⟩], [], none⟩)
theorem loop44 {l : List Exn} {b0 : Bm} (hl : l.length ≤ lim) {st : St} (h : st.head [1, 4, 6, 19, 20, 21] st.boxes.length = some ⟨sl 37 [(1, .pv (.list 2 (l.map eExt))), (4, .pbox 0 0), (6, .pbox 1 0), (19, .pv (.list 2 (l.map eExt))), (20, .pv (.int .i64 l.length)), (21, .pv (.int .i64 (0 : Nat)))], [⟨false, [.pv (.int .i64 0), .row 1 []]⟩, ⟨false, [.pv (.int .i64 (frB b0 (l.take ((0 : Nat)))).size), .pv (.list 1 ((frB b0 (l.take ((0 : Nat)))).ws.map eW))]⟩], [], none⟩) :
   den env fn44_l1 st = resF 37 b0 l (frE (frB b0 (l.take ((0 : Nat)))) (l.drop ((0 : Nat)))) := by
  unfold fn44_l1
  refine clean_up (env := env) (nb := 2) (l.length) (fun i => ⟨sl 37 [(1, .pv (.list 2 (l.map eExt))), (4, .pbox 0 0), (6, .pbox 1 0), (19, .pv (.list 2 (l.map eExt))), (20, .pv (.int .i64 l.length)), (21, .pv (.int .i64 i))], [⟨false, [.pv (.int .i64 0), .row 1 []]⟩, ⟨false, [.pv (.int .i64 (frB b0 (l.take (i))).size), .pv (.list 1 ((frB b0 (l.take (i))).ws.map eW))]⟩], [], none⟩) (fun i => resF 37 b0 l (frE (frB b0 (l.take (i))) (l.drop (i)))) h (fun _ => rfl) (fun _ => by simp only [slAll, slsAll, Nat.reduceMul, Nat.reduceBEq, Nat.reduceLT, Nat.reduceLeDiff, Nat.reduceAdd, decide_true, Bool.and_self, Bool.true_and]) ?_ ?_
  · intro i rb hi ih

    have hi1 := i64_next hi hl
    have F1 : ((i : Int) < (l.length : Int)) = True := eq_true (by omega)
    have eA : ∀ b : Bm, eBm b = .agg [.int .i64 b.size, .list 1 (b.ws.map eW)] := fun _ => rfl
    have eX : ∀ e : Exn, eExt e = .agg [.int .i64 e.start, .int .i64 e.count] := fun _ => rfl
    have P2 : ∀ a b : PV, part [a, b] 0 (some 2) = some (.agg [a, b]) := fun _ _ => rfl
    have e2 := cal26 (b := frB b0 (l.take i)) (e := l[i])
    have hx : (l.map eExt)[i]? = some (eExt l[i]) := by rw [List.getElem?_map, List.getElem?_eq_getElem hi]; rfl
    have hs : frB b0 (l.take (i + 1)) = chO orW (frB b0 (l.take i)) l[i] := by unfold frB; rw [List.take_succ_eq_append_getElem hi, List.foldl_append]; rfl
    rw [frE_step hi]
    by_cases c0 : chE (frB b0 (l.take i)) l[i] = 0
    · have Z : ((0 : Int) != 0) = false := rfl
      rw [if_pos c0]
      rw [c0, ← hs] at e2
      generalize frB b0 (l.take i) = p at *
      generalize frB b0 (l.take (i + 1)) = q at *
      rw [eA, eA, eX] at e2
      rw [eX] at hx
      simp only [fn44_b0, F1, Z, hx, e2, P2, index_nat hi, List.length_map, slAll, slsAll, Nat.reduceMul, Nat.reduceBEq, Nat.reduceLT, Nat.reduceLeDiff, memAll, vAll, reduceCtorEq, Nat.reduceEqDiff, Nat.reduceAdd, Nat.reduceLT, Nat.reduceLeDiff, Nat.beq]
      rw [ih _ (by simp only [hi1, slAll, slsAll, Nat.reduceMul, Nat.reduceBEq, Nat.reduceLT, Nat.reduceLeDiff, memAll, vAll, reduceCtorEq, Nat.reduceEqDiff, Nat.reduceAdd, Nat.reduceLT, Nat.reduceLeDiff, Nat.beq] <;> rfl)]
    · have Z : (chE (frB b0 (l.take i)) l[i] != 0) = true := by simpa using c0
      rw [if_neg c0]
      unfold resF
      rw [if_neg c0]
      have hz : chO orW (frB b0 (l.take i)) l[i] = ⟨0, []⟩ := by unfold chO; rw [if_neg c0]
      have hz2 : eBm ⟨0, []⟩ = .agg [.int .i64 0, .list 1 []] := rfl
      rw [hz, hz2] at e2
      generalize frB b0 (l.take i) = p at *
      rw [eA, eX] at e2
      rw [eX] at hx
      simp only [fn44_b0, F1, Z, hx, e2, P2, index_nat hi, List.length_map, slAll, slsAll, Nat.reduceMul, Nat.reduceBEq, Nat.reduceLT, Nat.reduceLeDiff, memAll, vAll, reduceCtorEq, Nat.reduceEqDiff, Nat.reduceAdd, Nat.reduceLT, Nat.reduceLeDiff, Nat.beq]
  · intro rb

    unfold resF
    rw [List.drop_length, List.take_length, frE, if_pos rfl]
    simp only [fn44_b0, Int.lt_irrefl, slAll, slsAll, Nat.reduceMul, Nat.reduceBEq, Nat.reduceLT, Nat.reduceLeDiff, memAll, vAll, reduceCtorEq, Nat.reduceEqDiff, Nat.reduceAdd, Nat.reduceLT, Nat.reduceLeDiff, Nat.beq]

theorem cal44 {l : List Exn} {n : Int} (hl : l.length ≤ lim) : cal env 44 [.int .i64 n, .list 2 (l.map eExt)] = some [(eBm (fxO n l), false), (.int .i64 (fxE n l), false)] := by
  have e0 := cal51 (n := n)
  have eA : ∀ b : Bm, eBm b = .agg [.int .i64 b.size, .list 1 (b.ws.map eW)] := fun _ => rfl
  have hz2 : eBm ⟨0, []⟩ = .agg [.int .i64 0, .list 1 []] := rfl
  have P2 : ∀ a b : PV, part [a, b] 0 (some 2) = some (.agg [a, b]) := fun _ _ => rfl
  have Z : ((0 : Int) != 0) = false := rfl
  by_cases c0 : newE n = 0
  · have hE : fxE n l = frE (newO n) l := by unfold fxE; rw [if_pos c0]
    unfold fxO
    rw [hE]
    rw [c0] at e0
    rw [eA] at e0
    generalize hb : newO n = b0 at *
    by_cases c1 : frE b0 l = 0
    · rw [if_pos c1, c1, eA]
      rw [cal_code env44 rfl]; simp only [fn44, slAll, Nat.reduceBEq, Nat.reduceLeDiff, Nat.reduceAdd, List.length_cons, List.length_nil]
      simp only [e0, Z, P2, List.length_map, slAll, slsAll, Nat.reduceMul, Nat.reduceBEq, Nat.reduceLT, Nat.reduceLeDiff, memAll, vAll, reduceCtorEq, Nat.reduceEqDiff, Nat.reduceAdd, Nat.reduceLT, Nat.reduceLeDiff, Nat.beq]
      rw [loop44 (l := l) (b0 := b0) hl]
      rotate_left
      · rw [List.take_zero]
        simp only [slAll, slsAll, Nat.reduceMul, Nat.reduceBEq, Nat.reduceLT, Nat.reduceLeDiff, Nat.reduceAdd, decide_true, Bool.and_self, Bool.true_and] <;> rfl
      · rw [List.take_zero, List.drop_zero]
        unfold resF
        rw [show frB b0 [] = b0 from rfl, if_pos c1]
        simp only [e0, Z, P2, List.length_map, slAll, slsAll, Nat.reduceMul, Nat.reduceBEq, Nat.reduceLT, Nat.reduceLeDiff, memAll, vAll, reduceCtorEq, Nat.reduceEqDiff, Nat.reduceAdd, Nat.reduceLT, Nat.reduceLeDiff, Nat.beq]
    · rw [if_neg c1, hz2]
      rw [cal_code env44 rfl]; simp only [fn44, slAll, Nat.reduceBEq, Nat.reduceLeDiff, Nat.reduceAdd, List.length_cons, List.length_nil]
      simp only [e0, Z, P2, List.length_map, slAll, slsAll, Nat.reduceMul, Nat.reduceBEq, Nat.reduceLT, Nat.reduceLeDiff, memAll, vAll, reduceCtorEq, Nat.reduceEqDiff, Nat.reduceAdd, Nat.reduceLT, Nat.reduceLeDiff, Nat.beq]
      rw [loop44 (l := l) (b0 := b0) hl]
      rotate_left
      · rw [List.take_zero]
        simp only [slAll, slsAll, Nat.reduceMul, Nat.reduceBEq, Nat.reduceLT, Nat.reduceLeDiff, Nat.reduceAdd, decide_true, Bool.and_self, Bool.true_and] <;> rfl
      · rw [List.take_zero, List.drop_zero]
        unfold resF
        rw [show frB b0 [] = b0 from rfl, if_neg c1]
        simp only [e0, Z, P2, List.length_map, slAll, slsAll, Nat.reduceMul, Nat.reduceBEq, Nat.reduceLT, Nat.reduceLeDiff, memAll, vAll, reduceCtorEq, Nat.reduceEqDiff, Nat.reduceAdd, Nat.reduceLT, Nat.reduceLeDiff, Nat.beq]
  · have hE : fxE n l = newE n := by unfold fxE; rw [if_neg c0]
    unfold fxO
    rw [hE, if_neg c0, hz2]
    have Zn : (newE n != 0) = true := by simpa using c0
    rw [eA] at e0
    rw [cal_code env44 rfl]; simp only [fn44, slAll, Nat.reduceBEq, Nat.reduceLeDiff, Nat.reduceAdd, List.length_cons, List.length_nil]
    simp only [e0, Zn, P2, List.length_map, slAll, slsAll, Nat.reduceMul, Nat.reduceBEq, Nat.reduceLT, Nat.reduceLeDiff, memAll, vAll, reduceCtorEq, Nat.reduceEqDiff, Nat.reduceAdd, Nat.reduceLT, Nat.reduceLeDiff, Nat.beq]
end Go.Proofs.YtdahanchdjadiaaGreatDoor.V

namespace Go.Proofs.YtdahanchdjadiaaGreatDoor.V
def inM (e : Exn) : Prop := (0 ≤ e.start ∧ e.start ≤ (most : Int)) ∧ (0 ≤ e.count ∧ e.count ≤ (most : Int))
theorem inM_ok {e : Exn} (h : inM e) : okE e := by
  have : most = 9007199254740991 := rfl
  unfold inM at h
  unfold okE
  omega
theorem decR_lt {l : List Nat} (h : (decN l).1 = 0) : (decR l).length + 1 ≤ l.length := by
  obtain ⟨h1, h2, _⟩ := decN_used h
  unfold decR
  rw [List.length_drop]
  omega
theorem pairD_ok {l : List Nat} (h : (pairD l).1 = 0) : inM (pairD l).2.1 ∧ (pairD l).2.2.length + 2 ≤ l.length := by
  unfold pairD at h ⊢
  split at h
  · rename_i c
    rw [if_pos c]
    simp only at h ⊢
    have h1 := decR_lt c
    have h2 := decR_lt h
    have m1 := decN_most l
    have m2 := decN_most (decR l)
    unfold inM
    simp only
    omega
  · rename_i c
    simp only at h
    exact absurd h c
theorem lstD_ok : ∀ (k : Nat) (l : List Nat) (acc : List Exn), (∀ e ∈ acc, inM e) → (lstD k l acc).1 = 0 → (∀ e ∈ (lstD k l acc).2.1, inM e) ∧ 2 * (lstD k l acc).2.1.length ≤ l.length + 2 * acc.length
  | 0, l, acc, ha, _ => ⟨ha, by simp only [lstD]; omega⟩
  | k + 1, l, acc, ha, h => by
    unfold lstD at h ⊢
    split at h
    · rename_i c
      rw [if_pos c]
      obtain ⟨h1, h2⟩ := pairD_ok c
      obtain ⟨g1, g2⟩ := lstD_ok k _ _ (by
        intro e he
        rcases List.mem_append.1 he with he | he
        · exact ha e he
        · rw [List.mem_singleton.1 he]; exact h1) h
      refine ⟨g1, ?_⟩
      rw [List.length_append] at g2
      simp only [List.length_singleton] at g2
      omega
    · rename_i c
      exact absurd h c
theorem lisD_ok {l : List Nat} (h : (lisD l).1 = 0) : (∀ e ∈ (lisD l).2.1, inM e) ∧ 2 * (lisD l).2.1.length ≤ l.length := by
  unfold lisD at h ⊢
  split at h
  · rename_i c
    rw [if_pos c]
    unfold offE at h ⊢
    simp only at h ⊢
    rw [if_pos h]
    obtain ⟨g1, g2⟩ := lstD_ok _ _ _ (by simp) h
    refine ⟨g1, ?_⟩
    have := decR_len l
    simp only [List.length_nil] at g2
    omega
  · rename_i c
    simp only at h
    exact absurd h c
def decT (b : List Nat) : Nat × Int × Int × List Exn :=
  if (decN b).1 = 0 then
    if (decN (decR b)).1 = 0 then
      if (lisD (decR (decR b))).1 = 0 then
        (if (lisD (decR (decR b))).2.2 = [] then 0 else 3, (decN b).2.1, (decN (decR b)).2.1, (lisD (decR (decR b))).2.1)
      else ((lisD (decR (decR b))).1, (decN b).2.1, (decN (decR b)).2.1, [])
    else ((decN (decR b)).1, 0, 0, [])
  else ((decN b).1, 0, 0, [])
theorem decT_ok (b : List Nat) : (∀ e ∈ (decT b).2.2.2, inM e) ∧ 2 * (decT b).2.2.2.length ≤ b.length := by
  unfold decT
  split
  · split
    · split
      · rename_i c1 c2 c3
        obtain ⟨g1, g2⟩ := lisD_ok c3
        have h1 := decR_len b
        have h2 := decR_len (decR b)
        refine ⟨g1, ?_⟩
        simp only
        omega
      · simp
    · simp
  · simp
end Go.Proofs.YtdahanchdjadiaaGreatDoor.V

namespace Go.Proofs.YtdahanchdjadiaaGreatDoor.V
theorem new_ok {n : Nat} (h : n ≤ 4096) : newE (n : Int) = 0 ∧ okB (newO (n : Int)) = true ∧ (newO (n : Int)).size = (n : Int) ∧ ∀ s, bit (newO (n : Int)).ws s = false := by
  have e1 : newE (n : Int) = 0 := by unfold newE; rw [if_neg (by omega)]
  have e2 : newO (n : Int) = ⟨n, List.replicate (wdsN n).toNat 0⟩ := by unfold newO; rw [if_neg (by omega)]
  have hb : ∀ s, bit (List.replicate (wdsN n).toNat (0 : Wd)) s = false := fun s => by
    unfold bit
    rw [List.getD_eq_getElem?_getD, List.getElem?_replicate]
    split <;> simp
  rw [e2]
  refine ⟨e1, okB_iff.2 ⟨⟨by show (0 : Int) ≤ (n : Int); omega, by show (n : Int) ≤ 4096; omega, ?_⟩, fun i _ => hb i⟩, rfl, hb⟩
  show ((List.replicate (wdsN n).toNat (0 : Wd)).length : Int) = wdsN n
  rw [List.length_replicate]
  exact wds_nat (by omega)
theorem chW_set (ws : List Wd) (e : Exn) : chW orW ws e = setW ws e.start (e.start + e.count) := rfl
theorem set_ok {b : Bm} {e : Exn} (h : okB b = true) (hf : bmFit b.size e = true) : chE b e = 0 ∧ okB (chO orW b e) = true ∧ (chO orW b e).size = b.size ∧ ∀ s : Nat, (s : Int) < b.size → bit (chO orW b e).ws s = (bit b.ws s || decide (e.start ≤ (s : Int) ∧ (s : Int) < e.start + e.count)) := by
  have hE : chE b e = 0 := by unfold chE; rw [if_neg (by rw [h]; decide), if_neg (by rw [hf]; decide)]
  have hO : chO orW b e = ⟨b.size, setW b.ws e.start (e.start + e.count)⟩ := by unfold chO; rw [if_pos hE, chW_set]
  have hs := okB_size h
  have hf := bmFit_iff.1 hf
  rw [hO]
  have hl : (setW b.ws e.start (e.start + e.count)).length = b.ws.length := by simp [setW]
  refine ⟨hE, okB_iff.2 ⟨⟨hs.1, hs.2.1, ?_⟩, fun i hi => ?_⟩, rfl, fun s hlt => bit_set (by omega)⟩
  · show ((setW b.ws e.start (e.start + e.count)).length : Int) = _
    rw [hl]; exact (okB_iff.1 h).1.2.2
  · have hi : b.size ≤ (i : Int) := hi
    by_cases c : i < 64 * b.ws.length
    · show bit (setW b.ws e.start (e.start + e.count)) i = false
      rw [bit_set c, (okB_iff.1 h).2 i hi, decide_eq_false (by omega)]
      rfl
    · exact bit_out (by show 64 * (setW b.ws e.start (e.start + e.count)).length ≤ i; rw [hl]; omega)
end Go.Proofs.YtdahanchdjadiaaGreatDoor.V

namespace Go.Proofs.YtdahanchdjadiaaGreatDoor.V
end Go.Proofs.YtdahanchdjadiaaGreatDoor.V

namespace Go.Proofs.YtdahanchdjadiaaGreatDoor

end Go.Proofs.YtdahanchdjadiaaGreatDoor

namespace Go.Proofs.YtdahanchdjadiaaGreatDoor.V
def mk (f : Nat → Bool) : List Bool := (List.range 4096).map f
end Go.Proofs.YtdahanchdjadiaaGreatDoor.V

namespace Go.Proofs.YtdahanchdjadiaaGreatDoor.V
end Go.Proofs.YtdahanchdjadiaaGreatDoor.V

namespace Go.Proofs.YtdahanchdjadiaaGreatDoor.V
theorem eqCells_ext (x y : Exn) : eqCells [.int .i64 x.start, .int .i64 x.count] [.int .i64 y.start, .int .i64 y.count] = some (decide (x = y)) := by
  simp only [eqCells, if_true, Option.map_some]
  congr 1
  obtain ⟨a, b⟩ := x
  obtain ⟨c, d⟩ := y
  by_cases h1 : a = c <;> by_cases h2 : b = d <;> simp [h1, h2]
--+
theorem loop18 {a b : List Exn} (hl : a.length ≤ lim) (hab : a.length = b.length) {st : St} (h : st.head [0, 1, 5] st.boxes.length = some ⟨[.pv (.list 2 (a.map eExt)), .pv (.list 2 (b.map eExt)), .any, .any, .any, .pv (.int .i64 (0 : Nat)), .any, .any, .any, .any, .any, .any, .any, .any, .any, .any, .any, .any, .any, .any, .any, .any, .any, .any, .any, .any], [], [], none⟩) :
   den env fn18_l1 st = if a = b then some (.normal, ⟨[.any, .any, .any, .any, .any, .any, .any, .any, .any, .any, .any, .any, .any, .any, .any, .any, .any, .any, .any, .any, .any, .any, .any, .any, .any, .any], [], [], none⟩) else some (.ret, ⟨[.any, .any, .any, .any, .pv (.bool false), .any, .any, .any, .any, .any, .any, .any, .any, .any, .any, .any, .any, .any, .any, .any, .any, .any, .any, .any, .any, .any], [], [], none⟩) := by
  unfold fn18_l1
  rw [ clean_up (env := env) (a.length) (fun i => ⟨[.pv (.list 2 (a.map eExt)), .pv (.list 2 (b.map eExt)), .any, .any, .any, .pv (.int .i64 i), .any, .any, .any, .any, .any, .any, .any, .any, .any, .any, .any, .any, .any, .any, .any, .any, .any, .any, .any, .any], [], [], none⟩) (fun i => if a.drop i = b.drop i then some (.normal, ⟨[.any, .any, .any, .any, .any, .any, .any, .any, .any, .any, .any, .any, .any, .any, .any, .any, .any, .any, .any, .any, .any, .any, .any, .any, .any, .any], [], [], none⟩) else some (.ret, ⟨[.any, .any, .any, .any, .pv (.bool false), .any, .any, .any, .any, .any, .any, .any, .any, .any, .any, .any, .any, .any, .any, .any, .any, .any, .any, .any, .any, .any], [], [], none⟩)) h (fun _ => rfl) (fun _ => rfl) ?_ ?_]
  · first | rfl | simp only [List.drop_zero, List.take_zero, List.map_nil, Nat.zero_add, List.nil_append, List.foldl_nil]
  · intro i rb hi ih

    have hi1 := i64_next hi hl
    have hj : i < b.length := by omega
    have F1 : ((i : Int) < (a.length : Int)) = True := eq_true (by omega)
    have P : ∀ x : Exn, part [PV.int .i64 x.start, .int .i64 x.count] 0 (some 2) = some (.agg [.int .i64 x.start, .int .i64 x.count]) := fun x => rfl
    simp only [fn18_b0, F1, eExt, index_nat hi, index_nat hj, List.getElem?_map, List.getElem?_eq_getElem hi, List.getElem?_eq_getElem hj, P, eqCells_ext, List.length_cons, List.length_nil, memAll, vAll, reduceCtorEq, Nat.reduceEqDiff, Nat.reduceAdd, Nat.reduceLT, Nat.reduceLeDiff, Nat.beq]
    rw [List.drop_eq_getElem_cons hi, List.drop_eq_getElem_cons hj]
    (try simp only [bcase_bind, bcase_map, tail_bcase]); refine bcase_split (fun hb => ?_) (fun hb => ?_) <;> try simp only [hb,  memAll, vAll, reduceCtorEq, Nat.reduceEqDiff, Nat.reduceAdd, Nat.reduceLT, Nat.reduceLeDiff, Nat.beq]
    · rw [ih _ (by simp only [hi1]; rfl)]
      simp only [decide_eq_true_eq] at hb
      simp only [hb, List.cons.injEq, true_and]
    · simp only [decide_eq_false_iff_not] at hb
      simp only [hb, List.cons.injEq, false_and, if_false]
      rfl
  · intro rb

    simp only [fn18_b0, Int.lt_irrefl,  memAll, vAll, reduceCtorEq, Nat.reduceEqDiff, Nat.reduceAdd, Nat.reduceLT, Nat.reduceLeDiff, Nat.beq]
    rw [List.drop_length, hab, List.drop_length, if_pos rfl]
    rfl

theorem cal18 {a b : List Exn} (hl : a.length ≤ lim) : cal env 18 [.list 2 (a.map eExt), .list 2 (b.map eExt)] = some [(.bool (decide (a = b)), false)] := by
  rw [cal_code env18 rfl]; simp only [fn18]; simp only [start, z_map_cons, z_map_nil, z_len_cons, z_len_nil, z_repl_zero, z_repl_succ, z_cons_app, z_nil_app, Nat.reduceAdd, Nat.reduceSub]
  simp only [ memAll, vAll, reduceCtorEq, Nat.reduceEqDiff, Nat.reduceAdd, Nat.reduceLT, Nat.reduceLeDiff, Nat.beq]
  (try simp only [bcase_bind, bcase_map, tail_bcase]); refine bcase_split (fun hb => ?_) (fun hb => ?_) <;> try simp only [hb,  memAll, vAll, reduceCtorEq, Nat.reduceEqDiff, Nat.reduceAdd, Nat.reduceLT, Nat.reduceLeDiff, Nat.beq]
  · have hab : a.length = b.length := by simp at hb; omega
    rw [loop18 hl hab]
    rotate_left
    · rfl
    · by_cases e : a = b <;> simp only [e, vAll, reduceCtorEq, Nat.reduceEqDiff, Nat.reduceAdd, Nat.reduceLT, Nat.reduceLeDiff, Nat.beq]
  · have : a ≠ b := fun e => by subst e; simp at hb
    simp only [this, vAll, reduceCtorEq, Nat.reduceEqDiff, Nat.reduceAdd, Nat.reduceLT, Nat.reduceLeDiff, Nat.beq]
end Go.Proofs.YtdahanchdjadiaaGreatDoor.V

namespace Go.Proofs.YtdahanchdjadiaaGreatDoor.V
end Go.Proofs.YtdahanchdjadiaaGreatDoor.V

namespace Go.Proofs.YtdahanchdjadiaaGreatDoor.V
end Go.Proofs.YtdahanchdjadiaaGreatDoor.V

namespace Go.Proofs.YtdahanchdjadiaaGreatDoor.V
def chkGo (size : Int) : Int → List Exn → Int
  | _, [] => 0
  | nx, e :: l => if e.count ≤ 0 then 1 else if e.start < 0 ∨ e.count > size - e.start then 2 else if e.start < nx then 3 else chkGo size (e.start + e.count + 1) l
def chkX (l : List Exn) (size : Int) : Int := if size < 0 ∨ 4096 < size then 2 else chkGo size 0 l
def nxt (l : List Exn) : Nat → Int
  | 0 => 0
  | i + 1 => match l[i]? with
    | some e => e.start + e.count + 1
    | none => 0
theorem nxt_succ {l : List Exn} {i : Nat} {e : Exn} (h : l[i]? = some e) : nxt l (i + 1) = e.start + e.count + 1 := by
  show (match l[i]? with
    | some e => e.start + e.count + 1
    | none => 0) = _
  rw [h]
set_option maxRecDepth 20000 in
theorem loop43 {l : List Exn} {size : Int} (hs : 0 ≤ size ∧ size ≤ 4096) (ho : okEs l) (hl : l.length ≤ 10000) {st : St} (h : st.head [0, 1, 5, 14, 15, 16] st.boxes.length = some ⟨sl 49 [(0, .pv (.list 2 (l.map eExt))), (1, .pv (.int .i64 size)), (5, .pv (.int .i64 (nxt l ((0 : Nat))))), (14, .pv (.list 2 (l.map eExt))), (15, .pv (.int .i64 l.length)), (16, .pv (.int .i64 (0 : Nat)))], [], [], none⟩) :
   den env fn43_l1 st = if chkGo size (nxt l ((0 : Nat))) (l.drop ((0 : Nat))) = 0 then some (.normal, ⟨sl 49 [(4, .any)], [], [], none⟩) else some (.ret, ⟨sl 49 [(4, .pv (.int .i64 (chkGo size (nxt l ((0 : Nat))) (l.drop ((0 : Nat))))))], [], [], none⟩) := by
  unfold fn43_l1
  refine clean_up (env := env) (l.length) (fun i => ⟨sl 49 [(0, .pv (.list 2 (l.map eExt))), (1, .pv (.int .i64 size)), (5, .pv (.int .i64 (nxt l (i)))), (14, .pv (.list 2 (l.map eExt))), (15, .pv (.int .i64 l.length)), (16, .pv (.int .i64 i))], [], [], none⟩) (fun i => if chkGo size (nxt l (i)) (l.drop (i)) = 0 then some (.normal, ⟨sl 49 [(4, .any)], [], [], none⟩) else some (.ret, ⟨sl 49 [(4, .pv (.int .i64 (chkGo size (nxt l (i)) (l.drop (i)))))], [], [], none⟩)) h (fun _ => rfl) (fun _ => by simp only [slAll, slsAll, Nat.reduceMul, Nat.reduceBEq, Nat.reduceLT, Nat.reduceLeDiff, Nat.reduceAdd, decide_true, Bool.and_self, Bool.true_and]) ?_ ?_
  · intro i rb hi ih

    have hlim : lim = 1073741824 := rfl
    have hi1 := i64_next hi (by omega)
    have F1 : ((i : Int) < (l.length : Int)) = True := eq_true (by omega)
    have hx : l[i]? = some l[i] := List.getElem?_eq_getElem hi
    obtain ⟨⟨o1, o2⟩, o3, o4⟩ := ho _ (List.getElem_mem hi)
    rw [nxt_succ hx] at ih
    rw [List.drop_eq_getElem_cons hi]
    generalize l[i] = x at *
    have P2 : part [PV.int .i64 x.start, .int .i64 x.count] 0 (some 2) = some (.agg [.int .i64 x.start, .int .i64 x.count]) := rfl
    have ch : chkGo size (nxt l i) (x :: l.drop (i + 1)) = if x.count ≤ 0 then 1 else if x.start < 0 ∨ x.count > size - x.start then 2 else if x.start < nxt l i then 3 else chkGo size (x.start + x.count + 1) (l.drop (i + 1)) := rfl
    by_cases c1 : x.count ≤ 0
    · rw [ch, if_pos c1]
      simp only [fn43_b0, F1, hx, eExt, P2, c1, index_nat hi, List.getElem?_map, Option.map_some, List.length_map, slAll, slsAll, Nat.reduceMul, Nat.reduceBEq, Nat.reduceLT, Nat.reduceLeDiff, memAll, vAll, reduceCtorEq, Nat.reduceEqDiff, Nat.reduceAdd, Nat.reduceLT, Nat.reduceLeDiff, Nat.beq]
      rfl
    · by_cases c2 : x.start < 0
      · have hv : chkGo size (nxt l i) (x :: l.drop (i + 1)) = 2 := by rw [ch, if_neg c1, if_pos (.inl c2)]
        rw [hv]
        simp only [fn43_b0, F1, hx, eExt, P2, c1, c2, index_nat hi, List.getElem?_map, Option.map_some, List.length_map, slAll, slsAll, Nat.reduceMul, Nat.reduceBEq, Nat.reduceLT, Nat.reduceLeDiff, memAll, vAll, reduceCtorEq, Nat.reduceEqDiff, Nat.reduceAdd, Nat.reduceLT, Nat.reduceLeDiff, Nat.beq]
        rfl
      · have W1 : IntKind.i64.wrap (size - x.start) = size - x.start := i64_fits (by omega)
        by_cases c3 : x.count > size - x.start
        · have hv : chkGo size (nxt l i) (x :: l.drop (i + 1)) = 2 := by rw [ch, if_neg c1, if_pos (.inr c3)]
          rw [hv]
          have c3' : (x.count > size - x.start) = True := eq_true c3
          simp only [fn43_b0, F1, hx, eExt, P2, c1, c2, c3', W1, index_nat hi, List.getElem?_map, Option.map_some, List.length_map, slAll, slsAll, Nat.reduceMul, Nat.reduceBEq, Nat.reduceLT, Nat.reduceLeDiff, memAll, vAll, reduceCtorEq, Nat.reduceEqDiff, Nat.reduceAdd, Nat.reduceLT, Nat.reduceLeDiff, Nat.beq]
          rfl
        · have c3' : (x.count > size - x.start) = False := eq_false c3
          by_cases c4 : x.start < nxt l i
          · have hv : chkGo size (nxt l i) (x :: l.drop (i + 1)) = 3 := by rw [ch, if_neg c1, if_neg (by omega), if_pos c4]
            rw [hv]
            simp only [fn43_b0, F1, hx, eExt, P2, c1, c2, c3', c4, W1, index_nat hi, List.getElem?_map, Option.map_some, List.length_map, slAll, slsAll, Nat.reduceMul, Nat.reduceBEq, Nat.reduceLT, Nat.reduceLeDiff, memAll, vAll, reduceCtorEq, Nat.reduceEqDiff, Nat.reduceAdd, Nat.reduceLT, Nat.reduceLeDiff, Nat.beq]
            rfl
          · have hv : chkGo size (nxt l i) (x :: l.drop (i + 1)) = chkGo size (x.start + x.count + 1) (l.drop (i + 1)) := by rw [ch, if_neg c1, if_neg (by omega), if_neg c4]
            rw [hv]
            have W2 : IntKind.i64.wrap (x.start + x.count) = x.start + x.count := i64_fits (by omega)
            have W3 : IntKind.i64.wrap (x.start + x.count + 1) = x.start + x.count + 1 := i64_fits (by omega)
            simp only [fn43_b0, F1, hx, eExt, P2, c1, c2, c3', c4, W1, W2, W3, index_nat hi, List.getElem?_map, Option.map_some, List.length_map, slAll, slsAll, Nat.reduceMul, Nat.reduceBEq, Nat.reduceLT, Nat.reduceLeDiff, memAll, vAll, reduceCtorEq, Nat.reduceEqDiff, Nat.reduceAdd, Nat.reduceLT, Nat.reduceLeDiff, Nat.beq]
            have hn : nxt l (i + 1) = x.start + x.count + 1 := nxt_succ hx
            rw [ih _ (by simp only [hi1, hn, slAll, slsAll, Nat.reduceMul, Nat.reduceBEq, Nat.reduceLT, Nat.reduceLeDiff, memAll, vAll, reduceCtorEq, Nat.reduceEqDiff, Nat.reduceAdd, Nat.reduceLT, Nat.reduceLeDiff, Nat.beq] <;> rfl)]
  · intro rb

    simp only [fn43_b0, Int.lt_irrefl, List.length_map, List.drop_length, chkGo, if_true, slAll, slsAll, Nat.reduceMul, Nat.reduceBEq, Nat.reduceLT, Nat.reduceLeDiff, memAll, vAll, reduceCtorEq, Nat.reduceEqDiff, Nat.reduceAdd, Nat.reduceLT, Nat.reduceLeDiff, Nat.beq]

theorem cal43 {l : List Exn} {size : Int} (ho : okEs l) (hl : l.length ≤ 10000) : cal env 43 [.list 2 (l.map eExt), .int .i64 size] = some [(.int .i64 (chkX l size), false)] := by
  unfold chkX
  by_cases c1 : size < 0
  · rw [if_pos (.inl c1)]
    rw [cal_code env43 rfl]; simp only [fn43, slAll, Nat.reduceBEq, Nat.reduceLeDiff, Nat.reduceAdd, List.length_cons, List.length_nil]
    simp only [c1, slAll, slsAll, Nat.reduceMul, Nat.reduceBEq, Nat.reduceLT, Nat.reduceLeDiff, memAll, vAll, reduceCtorEq, Nat.reduceEqDiff, Nat.reduceAdd, Nat.reduceLT, Nat.reduceLeDiff, Nat.beq]
  · by_cases c2 : 4096 < size
    · rw [if_pos (.inr c2)]
      have c2' : (size > 4096) = True := eq_true c2
      rw [cal_code env43 rfl]; simp only [fn43, slAll, Nat.reduceBEq, Nat.reduceLeDiff, Nat.reduceAdd, List.length_cons, List.length_nil]
      simp only [c1, c2', slAll, slsAll, Nat.reduceMul, Nat.reduceBEq, Nat.reduceLT, Nat.reduceLeDiff, memAll, vAll, reduceCtorEq, Nat.reduceEqDiff, Nat.reduceAdd, Nat.reduceLT, Nat.reduceLeDiff, Nat.beq]
    · rw [if_neg (by omega)]
      have c2' : (size > 4096) = False := eq_false c2
      rw [cal_code env43 rfl]; simp only [fn43, slAll, Nat.reduceBEq, Nat.reduceLeDiff, Nat.reduceAdd, List.length_cons, List.length_nil]
      simp only [c1, c2', List.length_map, slAll, slsAll, Nat.reduceMul, Nat.reduceBEq, Nat.reduceLT, Nat.reduceLeDiff, memAll, vAll, reduceCtorEq, Nat.reduceEqDiff, Nat.reduceAdd, Nat.reduceLT, Nat.reduceLeDiff, Nat.beq]
      rw [loop43 (size := size) ⟨by omega, by omega⟩ ho hl (by simp only [nxt, slAll, slsAll, Nat.reduceMul, Nat.reduceBEq, Nat.reduceLT, Nat.reduceLeDiff, memAll, vAll, reduceCtorEq, Nat.reduceEqDiff, Nat.reduceAdd, Nat.reduceLT, Nat.reduceLeDiff, Nat.beq] <;> rfl)]
      rw [List.drop_zero]
      have h0 : nxt l 0 = 0 := rfl
      rw [h0]
      split
      · rename_i h
        rw [h]
        simp only [c1, c2', List.length_map, slAll, slsAll, Nat.reduceMul, Nat.reduceBEq, Nat.reduceLT, Nat.reduceLeDiff, memAll, vAll, reduceCtorEq, Nat.reduceEqDiff, Nat.reduceAdd, Nat.reduceLT, Nat.reduceLeDiff, Nat.beq]
      · simp only [c1, c2', List.length_map, slAll, slsAll, Nat.reduceMul, Nat.reduceBEq, Nat.reduceLT, Nat.reduceLeDiff, memAll, vAll, reduceCtorEq, Nat.reduceEqDiff, Nat.reduceAdd, Nat.reduceLT, Nat.reduceLeDiff, Nat.beq]
theorem cal74 {e : Exn} {size : Int} (ho : okE e) (hs : 0 ≤ size ∧ size ≤ 4096) (hc : 0 < e.count) : cal env 74 [eExt e, .int .i64 size] = some [(.bool (!decide (e.start < 0 ∨ e.count > size - e.start)), false)] := by
  obtain ⟨⟨o1, o2⟩, o3, o4⟩ := ho
  simp only [eExt]
  by_cases c1 : e.start ≥ 0
  · have G1 : (e.start ≥ 0) = True := eq_true c1
    by_cases c2 : e.count ≤ size
    · have G2 : (e.count ≤ size) = True := eq_true c2
      have W : IntKind.i64.wrap (size - e.count) = size - e.count := i64_fits (by omega)
      have hd : (!decide (e.start < 0 ∨ e.count > size - e.start)) = decide (e.start ≤ size - e.count) := by
        by_cases h : e.start ≤ size - e.count
        · rw [decide_eq_true h, decide_eq_false (by omega)]; rfl
        · rw [decide_eq_false h, decide_eq_true (by omega)]; rfl
      rw [hd]
      rw [cal_code env74 rfl]; simp only [fn74, slAll, Nat.reduceBEq, Nat.reduceLeDiff, Nat.reduceAdd, List.length_cons, List.length_nil]
      simp only [G1, G2, W, slAll, slsAll, Nat.reduceMul, Nat.reduceBEq, Nat.reduceLT, Nat.reduceLeDiff, memAll, vAll, reduceCtorEq, Nat.reduceEqDiff, Nat.reduceAdd, Nat.reduceLT, Nat.reduceLeDiff, Nat.beq]
    · have G2 : (e.count ≤ size) = False := eq_false c2
      rw [decide_eq_true (show e.start < 0 ∨ e.count > size - e.start by omega)]
      rw [cal_code env74 rfl]; simp only [fn74, slAll, Nat.reduceBEq, Nat.reduceLeDiff, Nat.reduceAdd, List.length_cons, List.length_nil]
      simp only [G1, G2, slAll, slsAll, Nat.reduceMul, Nat.reduceBEq, Nat.reduceLT, Nat.reduceLeDiff, memAll, vAll, reduceCtorEq, Nat.reduceEqDiff, Nat.reduceAdd, Nat.reduceLT, Nat.reduceLeDiff, Nat.beq]
  · have G1 : (e.start ≥ 0) = False := eq_false c1
    rw [decide_eq_true (show e.start < 0 ∨ e.count > size - e.start by omega)]
    rw [cal_code env74 rfl]; simp only [fn74, slAll, Nat.reduceBEq, Nat.reduceLeDiff, Nat.reduceAdd, List.length_cons, List.length_nil]
    simp only [G1, slAll, slsAll, Nat.reduceMul, Nat.reduceBEq, Nat.reduceLT, Nat.reduceLeDiff, memAll, vAll, reduceCtorEq, Nat.reduceEqDiff, Nat.reduceAdd, Nat.reduceLT, Nat.reduceLeDiff, Nat.beq]
set_option maxRecDepth 20000 in
theorem loop48 {l : List Exn} {size : Int} (hs : 0 ≤ size ∧ size ≤ 4096) (ho : okEs l) (hl : l.length ≤ 10000) (hI0 : -10 ≤ nxt l 0 ∧ nxt l 0 ≤ 5000) {st : St} (h : st.head [0, 1, 5, 6] st.boxes.length = some ⟨sl 52 [(0, .pv (.list 2 (l.map eExt))), (1, .pv (.int .i64 size)), (5, .pv (.int .i64 (nxt l ((0 : Nat)) - 2))), (6, .pv (.int .i64 (0 : Nat)))], [], [], none⟩) :
   den env fn48_l1 st = if chkGo size (nxt l ((0 : Nat))) (l.drop ((0 : Nat))) = 0 then some (.normal, ⟨sl 52 [(4, .any)], [], [], none⟩) else some (.ret, ⟨sl 52 [(4, .pv (.int .i64 (chkGo size (nxt l ((0 : Nat))) (l.drop ((0 : Nat))))))], [], [], none⟩) := by
  unfold fn48_l1
  refine clean_upP (env := env) (l.length) (fun i => -10 ≤ nxt l (i) ∧ nxt l (i) ≤ 5000) (fun i => ⟨sl 52 [(0, .pv (.list 2 (l.map eExt))), (1, .pv (.int .i64 size)), (5, .pv (.int .i64 (nxt l (i) - 2))), (6, .pv (.int .i64 i))], [], [], none⟩) (fun i => if chkGo size (nxt l (i)) (l.drop (i)) = 0 then some (.normal, ⟨sl 52 [(4, .any)], [], [], none⟩) else some (.ret, ⟨sl 52 [(4, .pv (.int .i64 (chkGo size (nxt l (i)) (l.drop (i)))))], [], [], none⟩)) h hI0 (fun _ => rfl) (fun _ => by simp only [slAll, slsAll, Nat.reduceMul, Nat.reduceBEq, Nat.reduceLT, Nat.reduceLeDiff, Nat.reduceAdd, decide_true, Bool.and_self, Bool.true_and]) ?_ ?_
  · intro i rb hi hp ih

    have hlim : lim = 1073741824 := rfl
    have hi1 := i64_next hi (by omega)
    have F1 : ((i : Int) < (l.length : Int)) = True := eq_true (by omega)
    have hx : l[i]? = some l[i] := List.getElem?_eq_getElem hi
    have hox := ho _ (List.getElem_mem hi)
    rw [nxt_succ hx] at ih
    rw [List.drop_eq_getElem_cons hi]
    generalize l[i] = x at *
    obtain ⟨⟨o1, o2⟩, o3, o4⟩ := hox
    have P2 : part [PV.int .i64 x.start, .int .i64 x.count] 0 (some 2) = some (.agg [.int .i64 x.start, .int .i64 x.count]) := rfl
    have ch : chkGo size (nxt l i) (x :: l.drop (i + 1)) = if x.count ≤ 0 then 1 else if x.start < 0 ∨ x.count > size - x.start then 2 else if x.start < nxt l i then 3 else chkGo size (x.start + x.count + 1) (l.drop (i + 1)) := rfl
    have hn : nxt l (i + 1) = x.start + x.count + 1 := nxt_succ hx
    have W0 : IntKind.i64.wrap (nxt l i - 2 + 2) = nxt l i := by rw [i64_fits (by omega)]; omega
    by_cases c1 : x.count ≤ 0
    · have hv : chkGo size (nxt l i) (x :: l.drop (i + 1)) = 1 := by rw [ch, if_pos c1]
      rw [hv]
      simp only [fn48_b0, F1, hx, eExt, P2, c1, index_nat hi, List.getElem?_map, Option.map_some, List.length_map, slAll, slsAll, Nat.reduceMul, Nat.reduceBEq, Nat.reduceLT, Nat.reduceLeDiff, memAll, vAll, reduceCtorEq, Nat.reduceEqDiff, Nat.reduceAdd, Nat.reduceLT, Nat.reduceLeDiff, Nat.beq]
      rfl
    · have e1 := cal74 (e := x) (size := size) ⟨⟨o1, o2⟩, o3, o4⟩ hs (by omega)
      simp only [eExt] at e1
      by_cases c2 : x.start < 0 ∨ x.count > size - x.start
      · have hv : chkGo size (nxt l i) (x :: l.drop (i + 1)) = 2 := by rw [ch, if_neg c1, if_pos c2]
        rw [hv]
        rw [decide_eq_true c2] at e1
        simp only [fn48_b0, F1, hx, eExt, P2, c1, e1, index_nat hi, List.getElem?_map, Option.map_some, List.length_map, slAll, slsAll, Nat.reduceMul, Nat.reduceBEq, Nat.reduceLT, Nat.reduceLeDiff, memAll, vAll, reduceCtorEq, Nat.reduceEqDiff, Nat.reduceAdd, Nat.reduceLT, Nat.reduceLeDiff, Nat.beq]
        rfl
      · rw [decide_eq_false c2] at e1
        by_cases c4 : x.start < nxt l i
        · have hv : chkGo size (nxt l i) (x :: l.drop (i + 1)) = 3 := by rw [ch, if_neg c1, if_neg c2, if_pos c4]
          rw [hv]
          simp only [fn48_b0, F1, hx, eExt, P2, c1, e1, c4, W0, index_nat hi, List.getElem?_map, Option.map_some, List.length_map, slAll, slsAll, Nat.reduceMul, Nat.reduceBEq, Nat.reduceLT, Nat.reduceLeDiff, memAll, vAll, reduceCtorEq, Nat.reduceEqDiff, Nat.reduceAdd, Nat.reduceLT, Nat.reduceLeDiff, Nat.beq]
          rfl
        · have hv : chkGo size (nxt l i) (x :: l.drop (i + 1)) = chkGo size (x.start + x.count + 1) (l.drop (i + 1)) := by rw [ch, if_neg c1, if_neg c2, if_neg c4]
          rw [hv]
          have W2 : IntKind.i64.wrap (x.start + x.count) = x.start + x.count := i64_fits (by omega)
          have W3 : IntKind.i64.wrap (x.start + x.count - 1) = x.start + x.count + 1 - 2 := by rw [i64_fits (by omega)]; omega
          simp only [fn48_b0, F1, hx, eExt, P2, c1, e1, c4, W0, W2, W3, index_nat hi, List.getElem?_map, Option.map_some, List.length_map, slAll, slsAll, Nat.reduceMul, Nat.reduceBEq, Nat.reduceLT, Nat.reduceLeDiff, memAll, vAll, reduceCtorEq, Nat.reduceEqDiff, Nat.reduceAdd, Nat.reduceLT, Nat.reduceLeDiff, Nat.beq]
          rw [ih (by omega) _ (by simp only [hi1, hn, slAll, slsAll, Nat.reduceMul, Nat.reduceBEq, Nat.reduceLT, Nat.reduceLeDiff, memAll, vAll, reduceCtorEq, Nat.reduceEqDiff, Nat.reduceAdd, Nat.reduceLT, Nat.reduceLeDiff, Nat.beq] <;> rfl)]
  · intro rb hp

    simp only [fn48_b0, Int.lt_irrefl, List.length_map, List.drop_length, chkGo, if_true, slAll, slsAll, Nat.reduceMul, Nat.reduceBEq, Nat.reduceLT, Nat.reduceLeDiff, memAll, vAll, reduceCtorEq, Nat.reduceEqDiff, Nat.reduceAdd, Nat.reduceLT, Nat.reduceLeDiff, Nat.beq]

theorem cal48 {l : List Exn} {size : Int} (ho : okEs l) (hl : l.length ≤ 10000) : cal env 48 [.list 2 (l.map eExt), .int .i64 size] = some [(.int .i64 (chkX l size), false)] := by
  unfold chkX
  by_cases c1 : size < 0
  · rw [if_pos (.inl c1)]
    rw [cal_code env48 rfl]; simp only [fn48, slAll, Nat.reduceBEq, Nat.reduceLeDiff, Nat.reduceAdd, List.length_cons, List.length_nil]
    simp only [c1, slAll, slsAll, Nat.reduceMul, Nat.reduceBEq, Nat.reduceLT, Nat.reduceLeDiff, memAll, vAll, reduceCtorEq, Nat.reduceEqDiff, Nat.reduceAdd, Nat.reduceLT, Nat.reduceLeDiff, Nat.beq]
  · by_cases c2 : 4096 < size
    · rw [if_pos (.inr c2)]
      have c2' : (size > 4096) = True := eq_true c2
      rw [cal_code env48 rfl]; simp only [fn48, slAll, Nat.reduceBEq, Nat.reduceLeDiff, Nat.reduceAdd, List.length_cons, List.length_nil]
      simp only [c1, c2', slAll, slsAll, Nat.reduceMul, Nat.reduceBEq, Nat.reduceLT, Nat.reduceLeDiff, memAll, vAll, reduceCtorEq, Nat.reduceEqDiff, Nat.reduceAdd, Nat.reduceLT, Nat.reduceLeDiff, Nat.beq]
    · rw [if_neg (by omega)]
      have c2' : (size > 4096) = False := eq_false c2
      have h0 : nxt l 0 = 0 := rfl
      have h2 : ((0 : Int) - 2) = -2 := rfl
      rw [cal_code env48 rfl]; simp only [fn48, slAll, Nat.reduceBEq, Nat.reduceLeDiff, Nat.reduceAdd, List.length_cons, List.length_nil]
      simp only [c1, c2', List.length_map, slAll, slsAll, Nat.reduceMul, Nat.reduceBEq, Nat.reduceLT, Nat.reduceLeDiff, memAll, vAll, reduceCtorEq, Nat.reduceEqDiff, Nat.reduceAdd, Nat.reduceLT, Nat.reduceLeDiff, Nat.beq]
      rw [loop48 (size := size) ⟨by omega, by omega⟩ ho hl (by rw [h0]; omega) (by simp only [h0, h2, slAll, slsAll, Nat.reduceMul, Nat.reduceBEq, Nat.reduceLT, Nat.reduceLeDiff, memAll, vAll, reduceCtorEq, Nat.reduceEqDiff, Nat.reduceAdd, Nat.reduceLT, Nat.reduceLeDiff, Nat.beq] <;> rfl)]
      rw [List.drop_zero, h0]
      split
      · rename_i h
        rw [h]
        simp only [c1, c2', List.length_map, slAll, slsAll, Nat.reduceMul, Nat.reduceBEq, Nat.reduceLT, Nat.reduceLeDiff, memAll, vAll, reduceCtorEq, Nat.reduceEqDiff, Nat.reduceAdd, Nat.reduceLT, Nat.reduceLeDiff, Nat.beq]
      · simp only [c1, c2', List.length_map, slAll, slsAll, Nat.reduceMul, Nat.reduceBEq, Nat.reduceLT, Nat.reduceLeDiff, memAll, vAll, reduceCtorEq, Nat.reduceEqDiff, Nat.reduceAdd, Nat.reduceLT, Nat.reduceLeDiff, Nat.beq]
end Go.Proofs.YtdahanchdjadiaaGreatDoor.V

namespace Go.Proofs.YtdahanchdjadiaaGreatDoor.V
theorem chkGo_in {size : Int} : ∀ (l : List Exn) (nx : Int), chkGo size nx l = 0 → ∀ e ∈ l, 0 ≤ e.start ∧ 1 ≤ e.count ∧ e.start + e.count ≤ size
  | [], _, _, e, he => by cases he
  | x :: l, nx, h, e, he => by
    unfold chkGo at h
    split at h
    · omega
    · split at h
      · omega
      · split at h
        · omega
        · rcases List.mem_cons.1 he with rfl | he
          · omega
          · exact chkGo_in l _ h e he
theorem chkX_in {l : List Exn} {size : Int} (h : chkX l size = 0) : ∀ e ∈ l, 0 ≤ e.start ∧ 1 ≤ e.count ∧ e.start + e.count ≤ size := by
  unfold chkX at h
  split at h
  · omega
  · exact chkGo_in l 0 h
end Go.Proofs.YtdahanchdjadiaaGreatDoor.V

namespace Go.Proofs.YtdahanchdjadiaaGreatDoor.V
theorem inE_fit {size : Int} {e : Exn} (h : bmFit size e = true) (s : Nat) : inE e s = decide (e.start ≤ (s : Int) ∧ (s : Int) < e.start + e.count) := by
  have h := bmFit_iff.1 h
  unfold inE
  rw [Bool.eq_iff_iff]
  simp only [Bool.and_eq_true, decide_eq_true_eq]
  omega
theorem fr_ok : ∀ (l : List Exn) {b : Bm}, okB b = true → (∀ e ∈ l, bmFit b.size e = true) → frE b l = 0 ∧ okB (frB b l) = true ∧ (frB b l).size = b.size ∧ ∀ s : Nat, (s : Int) < b.size → bit (frB b l).ws s = (bit b.ws s || inS l s)
  | [], b, h, _ => ⟨rfl, h, rfl, fun s _ => by simp [frB, inS]⟩
  | e :: l, b, h, hf => by
    obtain ⟨k1, k2, k3, k4⟩ := set_ok h (hf e (by simp))
    obtain ⟨g1, g2, g3, g4⟩ := fr_ok l k2 (fun x hx => by rw [k3]; exact hf x (by simp [hx]))
    refine ⟨?_, g2, g3.trans k3, fun s hs => ?_⟩
    · unfold frE
      rw [if_pos k1]
      exact g1
    · have := g4 s (by rw [k3]; exact hs)
      show bit (frB (chO orW b e) l).ws s = _
      rw [this, k4 s hs, ← inE_fit (hf e (by simp)) s, Bool.or_assoc]
      rfl
theorem fx_ok {n : Nat} {l : List Exn} (hn : n ≤ 4096) (h : ∀ e ∈ l, 0 ≤ e.start ∧ 1 ≤ e.count ∧ e.start + e.count ≤ (n : Int)) : fxE n l = 0 ∧ fxO n l = frB (newO n) l ∧ okB (fxO n l) = true ∧ (fxO n l).size = (n : Int) ∧ ∀ s : Nat, s < n → bit (fxO n l).ws s = inS l s := by
  obtain ⟨h1, h2, h3, h4⟩ := new_ok hn
  obtain ⟨g1, g2, g3, g4⟩ := fr_ok l h2 (fun e he => by
    obtain ⟨q1, q2, q3⟩ := h e he
    rw [h3]
    exact bmFit_iff.2 (by omega))
  have e1 : fxE n l = 0 := by unfold fxE; rw [if_pos h1]; exact g1
  have e2 : fxO n l = frB (newO n) l := by unfold fxO; rw [if_pos e1]
  rw [e2]
  refine ⟨e1, rfl, g2, g3.trans h3, fun s hs => ?_⟩
  rw [g4 s (by rw [h3]; omega), h4 s, Bool.false_or]
end Go.Proofs.YtdahanchdjadiaaGreatDoor.V

namespace Go.Proofs.YtdahanchdjadiaaGreatDoor.V
def secX (s g : Int) (x : Exn) : Exn := ⟨x.start * g, (if s < (x.start + x.count) * g then s else (x.start + x.count) * g) - x.start * g⟩
def rcE (s g : Int) (b : List Nat) : Int :=
  if newIE s g = 0 then
    if (decT b).1 = 0 then
      if (decT b).2.1 = s ∧ (decT b).2.2.1 = g then
        if chkX (decT b).2.2.2 (grN s g) = 0 then 0 else 3
      else 22
    else ((decT b).1 : Int)
  else newIE s g
def rcI (s g : Int) (b : List Nat) : Itn := if rcE s g b = 0 then { newI s g with bm := fxO (grN s g) (decT b).2.2.2 } else zItn
def rcL (s g : Int) (b : List Nat) : List Exn := if rcE s g b = 0 then orS ((decT b).2.2.2.map (secX s g)) else []
theorem sec_arith {n k : Int} {x : Exn} (hn : 1 ≤ n ∧ n ≤ 4096) (hk : 1 ≤ k ∧ k ≤ 4096) (hx : 0 ≤ x.start ∧ 1 ≤ x.count ∧ x.start + x.count ≤ grN n k) : (0 ≤ x.start * k ∧ x.start * k ≤ 16777216) ∧ (0 ≤ (x.start + x.count) * k ∧ (x.start + x.count) * k ≤ 16777216) ∧ x.start * k < n ∧ x.start * k + k ≤ (x.start + x.count) * k := by
  have hg : grN n k ≤ 4096 := by have := (grN_le (szOkI_iff.2 ⟨hn.1, hn.2, hk.1, hk.2⟩)).2; omega
  have h1 : x.start * k ≤ 4096 * 4096 := Int.mul_le_mul (by omega) (by omega) (by omega) (by omega)
  have h2 : (x.start + x.count) * k ≤ 4096 * 4096 := Int.mul_le_mul (by omega) (by omega) (by omega) (by omega)
  have h3 : 0 ≤ x.start * k := Int.mul_nonneg (by omega) (by omega)
  have h4 : 0 ≤ (x.start + x.count) * k := Int.mul_nonneg (by omega) (by omega)
  have h5 : grN n k * k ≤ n + k - 1 := by unfold grN; exact Int.ediv_mul_le _ (by omega)
  have h6 : (x.start + 1) * k ≤ grN n k * k := Int.mul_le_mul_of_nonneg_right (by omega) (by omega)
  have h7 : (x.start + 1) * k ≤ (x.start + x.count) * k := Int.mul_le_mul_of_nonneg_right (by omega) (by omega)
  rw [Int.add_mul, Int.one_mul] at h6 h7
  omega
def boxI (o : Itn) (b : Bm) : List BV := [.pv (.int .i64 o.size), .pv (.int .i64 o.gran), .pv (.list 1 (o.act.map eI)), .pv (.int .i64 b.size), .pv (.list 1 (b.ws.map eW))]
theorem boxI_eq (o : Itn) (b : Bm) : boxI o b = [.pv (.int .i64 o.size), .pv (.int .i64 o.gran), .pv (.list 1 (o.act.map eI)), .pv (.int .i64 b.size), .pv (.list 1 (b.ws.map eW))] := rfl
theorem loop16 {n k : Int} {l : List Exn} {o : Itn} {b : Bm} (hn : 1 ≤ n ∧ n ≤ 4096) (hk : 1 ≤ k ∧ k ≤ 4096) (hx : ∀ x ∈ l, 0 ≤ x.start ∧ 1 ≤ x.count ∧ x.start + x.count ≤ grN n k) (hl : l.length ≤ lim) {st : St} (h : st.head [0, 1, 6, 9, 10, 13, 14, 51, 89, 90, 91, 114] st.boxes.length = some ⟨sl 120 [(0, .pv (.int .i64 n)), (1, .pv (.int .i64 k)), (6, .pbox 0 0), (9, .pbox 1 0), (10, .pv (.int .i64 0)), (13, .pv (.list 2 (l.map eExt))), (14, .row 2 (((l.take ((0 : Nat))).map (secX n k)).map eExt)), (51, .any), (89, .pv (.list 2 (l.map eExt))), (90, .pv (.int .i64 l.length)), (91, .pv (.int .i64 (0 : Nat))), (114, .any)], [⟨false, [.pv (.int .i64 0), .pv (.int .i64 0), .row 1 [], .pv (.int .i64 0), .row 1 []]⟩, ⟨false, boxI o b⟩], [], none⟩) :
   den env fn16_l1 st = some (.normal, ⟨sl 120 [(6, .pbox 0 0), (7, .any), (8, .any), (9, .pbox 1 0), (10, .pv (.int .i64 0)), (14, .row 2 ((l.map (secX n k)).map eExt))], [⟨false, [.pv (.int .i64 0), .pv (.int .i64 0), .row 1 [], .pv (.int .i64 0), .row 1 []]⟩, ⟨false, boxI o b⟩], [], none⟩) := by
  unfold fn16_l1
  refine clean_up (env := env) (nb := 2) (l.length) (fun i => ⟨sl 120 [(0, .pv (.int .i64 n)), (1, .pv (.int .i64 k)), (6, .pbox 0 0), (9, .pbox 1 0), (10, .pv (.int .i64 0)), (13, .pv (.list 2 (l.map eExt))), (14, .row 2 (((l.take (i)).map (secX n k)).map eExt)), (51, .any), (89, .pv (.list 2 (l.map eExt))), (90, .pv (.int .i64 l.length)), (91, .pv (.int .i64 i)), (114, .any)], [⟨false, [.pv (.int .i64 0), .pv (.int .i64 0), .row 1 [], .pv (.int .i64 0), .row 1 []]⟩, ⟨false, boxI o b⟩], [], none⟩) (fun i => some (.normal, ⟨sl 120 [(6, .pbox 0 0), (7, .any), (8, .any), (9, .pbox 1 0), (10, .pv (.int .i64 0)), (14, .row 2 ((l.map (secX n k)).map eExt))], [⟨false, [.pv (.int .i64 0), .pv (.int .i64 0), .row 1 [], .pv (.int .i64 0), .row 1 []]⟩, ⟨false, boxI o b⟩], [], none⟩)) h (fun _ => rfl) (fun _ => by simp only [slAll, slsAll, Nat.reduceMul, Nat.reduceBEq, Nat.reduceLT, Nat.reduceLeDiff, Nat.reduceAdd, decide_true, Bool.and_self, Bool.true_and]) ?_ ?_
  · intro i rb hi ih

    have hi1 := i64_next hi hl
    have F1 : ((i : Int) < (l.length : Int)) = True := eq_true (by omega)
    have eX : ∀ e : Exn, eExt e = .agg [.int .i64 e.start, .int .i64 e.count] := fun _ => rfl
    have hg : (l.map eExt)[i]? = some (eExt l[i]) := by rw [List.getElem?_map, List.getElem?_eq_getElem hi]; rfl
    obtain ⟨a1, a2, a3, a4⟩ := sec_arith hn hk (hx _ (List.getElem_mem hi))
    have q := hx _ (List.getElem_mem hi)
    have hgl := (grN_le (szOkI_iff.2 ⟨hn.1, hn.2, hk.1, hk.2⟩)).2
    have W1 : IntKind.i64.wrap (l[i].start * k) = l[i].start * k := i64_fits (by omega)
    have W2 : IntKind.i64.wrap (l[i].start + l[i].count) = l[i].start + l[i].count := i64_fits (by omega)
    have W3 : IntKind.i64.wrap ((l[i].start + l[i].count) * k) = (l[i].start + l[i].count) * k := i64_fits (by omega)
    have W4 : IntKind.i64.wrap ((if n < (l[i].start + l[i].count) * k then n else (l[i].start + l[i].count) * k) - l[i].start * k) = (if n < (l[i].start + l[i].count) * k then n else (l[i].start + l[i].count) * k) - l[i].start * k := i64_fits (by split <;> omega)
    have hs : ((l.take (i + 1)).map (secX n k)).map eExt = ((l.take i).map (secX n k)).map eExt ++ [.agg [.int .i64 (l[i].start * k), .int .i64 ((if n < (l[i].start + l[i].count) * k then n else (l[i].start + l[i].count) * k) - l[i].start * k)]] := by
      rw [List.take_succ_eq_append_getElem hi, List.map_append, List.map_append]; rfl
    have F3 : ((((l.take i).map (secX n k)).map eExt).length + 1 ≤ lim) = True := eq_true (by rw [List.length_map, List.length_map, List.length_take]; omega)
    rw [eX] at hg
    rw [hs] at ih
    generalize ((l.take i).map (secX n k)).map eExt = m at *
    simp only [fn16_b0, F1, F3, hg, W1, W2, W3, W4, index_nat hi, List.length_map, List.take_length, slAll, slsAll, Nat.reduceMul, Nat.reduceBEq, Nat.reduceLT, Nat.reduceLeDiff, memAll, vAll, reduceCtorEq, Nat.reduceEqDiff, Nat.reduceAdd, Nat.reduceLT, Nat.reduceLeDiff, Nat.beq]
    rw [ih _ (by simp only [hi1, slAll, slsAll, Nat.reduceMul, Nat.reduceBEq, Nat.reduceLT, Nat.reduceLeDiff, memAll, vAll, reduceCtorEq, Nat.reduceEqDiff, Nat.reduceAdd, Nat.reduceLT, Nat.reduceLeDiff, Nat.beq] <;> rfl)]
  · intro rb

    rw [List.take_length]
    simp only [fn16_b0, Int.lt_irrefl, slAll, slsAll, Nat.reduceMul, Nat.reduceBEq, Nat.reduceLT, Nat.reduceLeDiff, memAll, vAll, reduceCtorEq, Nat.reduceEqDiff, Nat.reduceAdd, Nat.reduceLT, Nat.reduceLeDiff, Nat.beq]

theorem cal16 {s g : Int} {b : List Nat} (hb : ∀ c ∈ b, c < 256) (hl : b.length ≤ 10000) : cal env 16 [.int .i64 s, .int .i64 g, .list 1 (b.map eY)] = some [(eItn (rcI s g b), false), (.list 2 ((rcL s g b).map eExt), true), (.int .i64 (rcE s g b), false)] := by
  have e0 := cal19 (s := s) (g := g)
  have e1 := cal41 hb (show b.length ≤ 1000000 by omega)
  have eI5 : ∀ i : Itn, eItn i = .agg [.int .i64 i.size, .int .i64 i.gran, .list 1 (i.act.map eI), .int .i64 i.bm.size, .list 1 (i.bm.ws.map eW)] := fun _ => rfl
  have eA : ∀ b : Bm, eBm b = .agg [.int .i64 b.size, .list 1 (b.ws.map eW)] := fun _ => rfl
  have P5 : ∀ a b c d e : PV, part [a, b, c, d, e] 0 (some 5) = some (.agg [a, b, c, d, e]) := fun _ _ _ _ _ => rfl
  have Z0 : ((0 : Int) != 0) = false := rfl
  have Zn : (((0 : Nat) : Int) != 0) = false := rfl
  have Z3 : ((3 : Int) != 0) = true := rfl
  have Zl : (((0 : Nat) : Int) > 0) = False := eq_false (by omega)
  unfold rcI rcL
  by_cases c0 : newIE s g = 0
  · have h0 : szOkI s g = true := by
      unfold newIE at c0
      split at c0
      · assumption
      · cases c0
    have hgl := grN_le h0
    obtain ⟨z1, z2, z3, z4⟩ := szOkI_iff.1 h0
    rw [c0, eI5] at e0
    by_cases c1 : (decN b).1 = 0
    · rw [c1, if_pos rfl] at e1
      have e2 := cal41 (l := decR b) (fun c h => hb c (decR_mem h)) (by have := decR_len b; omega)
      by_cases c2 : (decN (decR b)).1 = 0
      · rw [c2, if_pos rfl] at e2
        have e3 := cal42 (l := decR (decR b)) (fun c h => hb c (decR_mem (decR_mem h))) (by have := decR_len b; have := decR_len (decR b); omega)
        by_cases c3 : (lisD (decR (decR b))).1 = 0
        · rw [c3, if_pos rfl, if_pos rfl] at e3
          by_cases c4 : (lisD (decR (decR b))).2.2 = []
          · rw [c4, List.map_nil] at e3
            have hD : decT b = (0, ((decN b).2.1 : Int), ((decN (decR b)).2.1 : Int), (lisD (decR (decR b))).2.1) := by
              unfold decT; rw [if_pos c1, if_pos c2, if_pos c3, if_pos c4]
            obtain ⟨k1, k2⟩ := decT_ok b
            rw [hD] at k1 k2
            simp only at k1 k2
            have hR : rcE s g b = if ((decN b).2.1 : Int) = s ∧ ((decN (decR b)).2.1 : Int) = g then if chkX (lisD (decR (decR b))).2.1 (grN s g) = 0 then 0 else 3 else 22 := by
              unfold rcE; rw [if_pos c0, hD]; simp only; rw [if_pos trivial]
            rw [hD]
            simp only
            generalize rcE s g b = E at *
            generalize ((decN b).2.1 : Int) = n at *
            generalize ((decN (decR b)).2.1 : Int) = k at *
            generalize (lisD (decR (decR b))).2.1 = l at *
            by_cases c5 : n = s ∧ k = g
            · rw [if_pos c5] at hR
              obtain ⟨rfl, rfl⟩ := c5
              have B1 : (n != n) = false := by simp
              have B2 : (k != k) = false := by simp
              have hact : ((newI n k).act.length : Int) = grN n k := by
                unfold newI; rw [if_pos h0, List.length_replicate]; omega
              have e4 := cal43 (l := l) (size := grN n k) (fun x hx => inM_ok (k1 x hx)) (by omega)
              by_cases c6 : chkX l (grN n k) = 0
              · rw [if_pos c6] at hR
                rw [c6] at e4
                subst hR
                rw [if_pos rfl, if_pos rfl]
                have e5 := cal44 (l := l) (n := grN n k) (by unfold lim; omega)
                have hin := chkX_in c6
                have hfx : fxE (grN n k) l = 0 := by
                  have := (fx_ok (n := (grN n k).toNat) (l := l) (by omega) (fun e he => by obtain ⟨q1, q2, q3⟩ := hin e he; omega)).1
                  rwa [show (((grN n k).toNat : Nat) : Int) = grN n k by omega] at this
                rw [eA, hfx] at e5
                have e6 := cal45 (a := l.map (secX n k)) (b := []) (fun x hx => by
                  obtain ⟨y, hy, rfl⟩ := List.mem_map.1 hx
                  obtain ⟨a1, a2, a3, a4⟩ := sec_arith ⟨z1, z2⟩ ⟨z3, z4⟩ (hin y hy)
                  unfold secX okE
                  simp only
                  split <;> omega) (fun x hx => by cases hx) (by rw [List.length_map]; omega) (by simp)
                rw [List.map_nil] at e6
                unfold orS
                generalize newI n k = o at *
                generalize fxO (grN n k) l = b2 at *
                have hsc : (PV.agg [.int .i64 b2.size, .list 1 (b2.ws.map eW)]).scalar = false := rfl
                simp only [eI5]
                rw [cal_code env16 rfl]; simp only [fn16, slAll, Nat.reduceBEq, Nat.reduceLeDiff, Nat.reduceAdd, List.length_cons, List.length_nil]
                simp only [e0, e1, e2, e3, e4, e5, hsc, Z0, Zn, Z3, Zl, B1, B2, P5, part_bm, hact, List.length_map, List.length_nil, slAll, slsAll, Nat.reduceMul, Nat.reduceBEq, Nat.reduceLT, Nat.reduceLeDiff, memAll, vAll, reduceCtorEq, Nat.reduceEqDiff, Nat.reduceAdd, Nat.reduceLT, Nat.reduceLeDiff, Nat.beq]
                rw [loop16 (n := n) (k := k) (l := l) (o := o) (b := b2) ⟨z1, z2⟩ ⟨z3, z4⟩ hin (by unfold lim; omega)]
                rotate_left
                · rw [List.take_zero, List.map_nil, List.map_nil, boxI_eq]
                  simp only [slAll, slsAll, Nat.reduceMul, Nat.reduceBEq, Nat.reduceLT, Nat.reduceLeDiff, Nat.reduceAdd, decide_true, Bool.and_self, Bool.true_and] <;> rfl
                · rw [boxI_eq]
                  generalize (l.map (secX n k)).map eExt = m at *
                  simp only [e6, P5, List.take_length, slAll, slsAll, Nat.reduceMul, Nat.reduceBEq, Nat.reduceLT, Nat.reduceLeDiff, memAll, vAll, reduceCtorEq, Nat.reduceEqDiff, Nat.reduceAdd, Nat.reduceLT, Nat.reduceLeDiff, Nat.beq]
              · rw [if_neg c6] at hR
                have G : (chkX l (grN n k) != 0) = true := by simpa using c6
                rw [if_neg (by rw [hR]; decide), if_neg (by rw [hR]; decide), hR, eItn_zero]
                generalize newI n k = o at *
                rw [cal_code env16 rfl]; simp only [fn16, slAll, Nat.reduceBEq, Nat.reduceLeDiff, Nat.reduceAdd, List.length_cons, List.length_nil]
                simp only [e0, e1, e2, e3, e4, Z0, Zn, Z3, Zl, B1, B2, G, P5, part_bm, hact, List.length_map, List.length_nil, slAll, slsAll, Nat.reduceMul, Nat.reduceBEq, Nat.reduceLT, Nat.reduceLeDiff, memAll, vAll, reduceCtorEq, Nat.reduceEqDiff, Nat.reduceAdd, Nat.reduceLT, Nat.reduceLeDiff, Nat.beq]
            · rw [if_neg c5] at hR
              rw [if_neg (by rw [hR]; decide), if_neg (by rw [hR]; decide), hR, eItn_zero]
              generalize newI s g = o at *
              by_cases c6 : n = s
              · have B1 : (n != s) = false := by simpa using c6
                have B2 : (k != g) = true := by
                  have : k ≠ g := fun h => c5 ⟨c6, h⟩
                  simpa using this
                rw [cal_code env16 rfl]; simp only [fn16, slAll, Nat.reduceBEq, Nat.reduceLeDiff, Nat.reduceAdd, List.length_cons, List.length_nil]
                simp only [e0, e1, e2, e3, Z0, Zn, Z3, Zl, B1, B2, P5, part_bm, List.length_map, List.length_nil, slAll, slsAll, Nat.reduceMul, Nat.reduceBEq, Nat.reduceLT, Nat.reduceLeDiff, memAll, vAll, reduceCtorEq, Nat.reduceEqDiff, Nat.reduceAdd, Nat.reduceLT, Nat.reduceLeDiff, Nat.beq]
              · have B1 : (n != s) = true := by simpa using c6
                rw [cal_code env16 rfl]; simp only [fn16, slAll, Nat.reduceBEq, Nat.reduceLeDiff, Nat.reduceAdd, List.length_cons, List.length_nil]
                simp only [e0, e1, e2, e3, Z0, Zn, Z3, Zl, B1, P5, part_bm, List.length_map, List.length_nil, slAll, slsAll, Nat.reduceMul, Nat.reduceBEq, Nat.reduceLT, Nat.reduceLeDiff, memAll, vAll, reduceCtorEq, Nat.reduceEqDiff, Nat.reduceAdd, Nat.reduceLT, Nat.reduceLeDiff, Nat.beq]
          · have hR : rcE s g b = 3 := by
              unfold rcE decT; rw [if_pos c0, if_pos c1, if_pos c2, if_pos c3, if_neg c4]; rfl
            have Zl2 : ((((lisD (decR (decR b))).2.2.length : Nat) : Int) > 0) = True := eq_true (by
              have : (lisD (decR (decR b))).2.2.length ≠ 0 := fun h => c4 (List.length_eq_zero_iff.1 h)
              omega)
            rw [if_neg (by rw [hR]; decide), if_neg (by rw [hR]; decide), hR, eItn_zero]
            generalize newI s g = o at *
            generalize (decN (decR b)).2.1 = k at *
            generalize (decN b).2.1 = n at *
            rw [cal_code env16 rfl]; simp only [fn16, slAll, Nat.reduceBEq, Nat.reduceLeDiff, Nat.reduceAdd, List.length_cons, List.length_nil]
            simp only [e0, e1, e2, e3, Z0, Zn, Z3, Zl2, P5, part_bm, List.length_map, List.length_nil, slAll, slsAll, Nat.reduceMul, Nat.reduceBEq, Nat.reduceLT, Nat.reduceLeDiff, memAll, vAll, reduceCtorEq, Nat.reduceEqDiff, Nat.reduceAdd, Nat.reduceLT, Nat.reduceLeDiff, Nat.beq]
        · have hR : rcE s g b = ((lisD (decR (decR b))).1 : Int) := by
            unfold rcE decT; rw [if_pos c0, if_pos c1, if_pos c2, if_neg c3]; exact if_neg c3
          have Zr : (((lisD (decR (decR b))).1 : Int) != 0) = true := by simpa using c3
          rw [if_neg (by rw [hR]; omega), if_neg (by rw [hR]; omega), hR, eItn_zero]
          generalize newI s g = o at *
          generalize (decN (decR b)).2.1 = k at *
          generalize (decN b).2.1 = n at *
          rw [cal_code env16 rfl]; simp only [fn16, slAll, Nat.reduceBEq, Nat.reduceLeDiff, Nat.reduceAdd, List.length_cons, List.length_nil]
          simp only [e0, e1, e2, e3, Z0, Zn, Zr, P5, part_bm, List.length_map, List.length_nil, slAll, slsAll, Nat.reduceMul, Nat.reduceBEq, Nat.reduceLT, Nat.reduceLeDiff, memAll, vAll, reduceCtorEq, Nat.reduceEqDiff, Nat.reduceAdd, Nat.reduceLT, Nat.reduceLeDiff, Nat.beq]
      · have hR : rcE s g b = ((decN (decR b)).1 : Int) := by
          unfold rcE decT; rw [if_pos c0, if_pos c1, if_neg c2]; exact if_neg c2
        have Zr : (((decN (decR b)).1 : Int) != 0) = true := by simpa using c2
        rw [if_neg (by rw [hR]; omega), if_neg (by rw [hR]; omega), hR, eItn_zero]
        generalize newI s g = o at *
        generalize (decN b).2.1 = n at *
        rw [cal_code env16 rfl]; simp only [fn16, slAll, Nat.reduceBEq, Nat.reduceLeDiff, Nat.reduceAdd, List.length_cons, List.length_nil]
        simp only [e0, e1, e2, Z0, Zn, Zr, P5, part_bm, List.length_map, List.length_nil, slAll, slsAll, Nat.reduceMul, Nat.reduceBEq, Nat.reduceLT, Nat.reduceLeDiff, memAll, vAll, reduceCtorEq, Nat.reduceEqDiff, Nat.reduceAdd, Nat.reduceLT, Nat.reduceLeDiff, Nat.beq]
    · have hR : rcE s g b = ((decN b).1 : Int) := by
        unfold rcE decT; rw [if_pos c0, if_neg c1]; exact if_neg c1
      have Zr : (((decN b).1 : Int) != 0) = true := by simpa using c1
      rw [if_neg (by rw [hR]; omega), if_neg (by rw [hR]; omega), hR, eItn_zero]
      generalize newI s g = o at *
      rw [cal_code env16 rfl]; simp only [fn16, slAll, Nat.reduceBEq, Nat.reduceLeDiff, Nat.reduceAdd, List.length_cons, List.length_nil]
      simp only [e0, e1, Z0, Zr, P5, part_bm, List.length_map, List.length_nil, slAll, slsAll, Nat.reduceMul, Nat.reduceBEq, Nat.reduceLT, Nat.reduceLeDiff, memAll, vAll, reduceCtorEq, Nat.reduceEqDiff, Nat.reduceAdd, Nat.reduceLT, Nat.reduceLeDiff, Nat.beq]
  · have hR : rcE s g b = newIE s g := by
      unfold rcE; rw [if_neg c0]
    have Zr : (newIE s g != 0) = true := by simpa using c0
    rw [if_neg (by rw [hR]; exact c0), if_neg (by rw [hR]; exact c0), hR, eItn_zero]
    rw [eI5] at e0
    generalize newI s g = o at *
    rw [cal_code env16 rfl]; simp only [fn16, slAll, Nat.reduceBEq, Nat.reduceLeDiff, Nat.reduceAdd, List.length_cons, List.length_nil]
    simp only [e0, Zr, P5, part_bm, List.length_map, List.length_nil, slAll, slsAll, Nat.reduceMul, Nat.reduceBEq, Nat.reduceLT, Nat.reduceLeDiff, memAll, vAll, reduceCtorEq, Nat.reduceEqDiff, Nat.reduceAdd, Nat.reduceLT, Nat.reduceLeDiff, Nat.beq]
end Go.Proofs.YtdahanchdjadiaaGreatDoor.V

namespace Go.Proofs.YtdahanchdjadiaaGreatDoor.V
theorem cal50 {n : Int} : cal env 50 [.int .i64 n] = some [(eBm (newO n), false), (.int .i64 (newE n), false)] := by
  have hz := eBm_zero
  unfold newE newO
  by_cases c0 : n < 0
  · rw [if_pos (.inl c0), if_pos (.inl c0), hz]
    have F0 : (n < 0) = True := eq_true c0
    rw [cal_code env50 rfl]; simp only [fn50, slAll, Nat.reduceBEq, Nat.reduceLeDiff, Nat.reduceAdd, List.length_cons, List.length_nil]
    simp only [F0, slAll, slsAll, Nat.reduceMul, Nat.reduceBEq, Nat.reduceLT, Nat.reduceLeDiff, memAll, vAll, reduceCtorEq, Nat.reduceEqDiff, Nat.reduceAdd, Nat.reduceLT, Nat.reduceLeDiff, Nat.beq]
  · have F0 : (n < 0) = False := eq_false c0
    by_cases c1 : n > 4096
    · rw [if_pos (.inr c1), if_pos (.inr c1), hz]
      have F1 : (n > 4096) = True := eq_true c1
      rw [cal_code env50 rfl]; simp only [fn50, slAll, Nat.reduceBEq, Nat.reduceLeDiff, Nat.reduceAdd, List.length_cons, List.length_nil]
      simp only [F0, F1, slAll, slsAll, Nat.reduceMul, Nat.reduceBEq, Nat.reduceLT, Nat.reduceLeDiff, memAll, vAll, reduceCtorEq, Nat.reduceEqDiff, Nat.reduceAdd, Nat.reduceLT, Nat.reduceLeDiff, Nat.beq]
    · have F1 : (n > 4096) = False := eq_false c1
      rw [if_neg (by omega), if_neg (by omega)]
      have W1 : IntKind.i64.wrap (n + 63) = n + 63 := i64_fits (by omega)
      have Q1 : (n + 63).tdiv 64 = wdsN n := by unfold wdsN; exact Int.tdiv_eq_ediv_of_nonneg (by omega)
      have hw : 0 ≤ wdsN n ∧ wdsN n ≤ 64 := by unfold wdsN; omega
      have W2 : IntKind.i64.wrap (wdsN n) = wdsN n := i64_fits (by omega)
      have F3 : (0 ≤ wdsN n) = True := eq_true hw.1
      have F4 : (wdsN n ≤ (lim : Int)) = True := eq_true (by unfold lim; omega)
      have F5 : (wdsN n ≤ wdsN n) = True := eq_true (Int.le_refl _)
      have z0 : eW 0 = .int .u64 0 := rfl
      have z64 : ((64 : Int) = 0) = False := eq_false (by omega)
      unfold eBm
      rw [List.map_replicate, z0]
      rw [cal_code env50 rfl]; simp only [fn50, slAll, Nat.reduceBEq, Nat.reduceLeDiff, Nat.reduceAdd, List.length_cons, List.length_nil]
      simp only [F0, F1, W1, W2, Q1, F3, F4, F5, z64, slAll, slsAll, Nat.reduceMul, Nat.reduceBEq, Nat.reduceLT, Nat.reduceLeDiff, memAll, vAll, reduceCtorEq, Nat.reduceEqDiff, Nat.reduceAdd, Nat.reduceLT, Nat.reduceLeDiff, Nat.beq]
theorem cal46 {s g : Int} : cal env 46 [.int .i64 s, .int .i64 g] = some [(eItn (newI s g), false), (.int .i64 (newIE s g), false)] := by
  have e0 := cal34 (s := s) (g := g)
  unfold newI newIE
  cases c : szOkI s g with
  | false =>
    rw [if_neg (by decide), if_neg (by decide), eItn_zero]
    rw [c] at e0
    rw [cal_code env46 rfl]; simp only [fn46, slAll, Nat.reduceBEq, Nat.reduceLeDiff, Nat.reduceAdd, List.length_cons, List.length_nil]
    simp only [e0, slAll, slsAll, Nat.reduceMul, Nat.reduceBEq, Nat.reduceLT, Nat.reduceLeDiff, memAll, vAll, reduceCtorEq, Nat.reduceEqDiff, Nat.reduceAdd, Nat.reduceLT, Nat.reduceLeDiff, Nat.beq]
  | true =>
    rw [if_pos rfl, if_pos rfl]
    rw [c] at e0
    have hg := grN_le c
    obtain ⟨_, h2, _, _⟩ := szOkI_iff.1 c
    have e1 := cal35 c
    have e2 := cal50 (n := grN s g)
    have hE : newE (grN s g) = 0 := by unfold newE; rw [if_neg (by omega)]
    rw [hE] at e2
    have F3 : (0 ≤ grN s g) = True := eq_true (by omega)
    have F4 : (grN s g ≤ (lim : Int)) = True := eq_true (by unfold lim; omega)
    have F5 : (grN s g ≤ grN s g) = True := eq_true (Int.le_refl _)
    have eA : eBm (newO (grN s g)) = .agg [.int .i64 (newO (grN s g)).size, .list 1 ((newO (grN s g)).ws.map eW)] := rfl
    have P2 : ∀ a b : PV, part [a, b] 0 (some 2) = some (.agg [a, b]) := fun _ _ => rfl
    rw [eA] at e2
    unfold eItn
    rw [List.map_replicate, show eI 0 = .int .i64 0 from rfl]
    rw [cal_code env46 rfl]; simp only [fn46, slAll, Nat.reduceBEq, Nat.reduceLeDiff, Nat.reduceAdd, List.length_cons, List.length_nil]
    simp only [e0, e1, e2, F3, F4, F5, P2, slAll, slsAll, Nat.reduceMul, Nat.reduceBEq, Nat.reduceLT, Nat.reduceLeDiff, memAll, vAll, reduceCtorEq, Nat.reduceEqDiff, Nat.reduceAdd, Nat.reduceLT, Nat.reduceLeDiff, Nat.beq]
def resS (n : Nat) (t : Bool) (bx : List Box) : Option (Ex × St) := if t then some (.normal, ⟨sl n [(4, .any)], bx, [], none⟩) else some (.ret, ⟨sl n [(4, .pv (.bool false))], bx, [], none⟩)
theorem resS_t (n : Nat) (bx : List Box) : resS n true bx = some (.normal, ⟨sl n [(4, .any)], bx, [], none⟩) := rfl
theorem resS_f (n : Nat) (bx : List Box) : resS n false bx = some (.ret, ⟨sl n [(4, .pv (.bool false))], bx, [], none⟩) := rfl
theorem drop_dec {α : Type} [DecidableEq α] {a b : List α} {i : Nat} (hi : i < a.length) (hj : i < b.length) : decide (a.drop i = b.drop i) = (decide (a[i] = b[i]) && decide (a.drop (i + 1) = b.drop (i + 1))) := by
  rw [List.drop_eq_getElem_cons hi, List.drop_eq_getElem_cons hj, Bool.eq_iff_iff]
  simp only [List.cons.injEq, decide_eq_true_eq, Bool.and_eq_true]
def sameB (a b : Bm) : Bool := decide (a.size = b.size) && decide (a.ws = b.ws)
theorem sameB_iff {a b : Bm} : sameB a b = true ↔ a = b := by
  unfold sameB
  obtain ⟨x, y⟩ := a
  obtain ⟨z, w⟩ := b
  simp
theorem loop30 {a b : Bm} (hl : a.ws.length ≤ lim) (hab : a.ws.length = b.ws.length) {st : St} (h : st.head [2, 3, 5] st.boxes.length = some ⟨sl 38 [(2, .pbox 0 0), (3, .pbox 1 0), (5, .pv (.int .i64 (0 : Nat)))], [⟨false, [.pv (.int .i64 a.size), .pv (.list 1 (a.ws.map eW))]⟩, ⟨false, [.pv (.int .i64 b.size), .pv (.list 1 (b.ws.map eW))]⟩], [], none⟩) :
   den env fn30_l1 st = resS 38 (decide (a.ws.drop ((0 : Nat)) = b.ws.drop ((0 : Nat)))) [⟨false, [.pv (.int .i64 a.size), .pv (.list 1 (a.ws.map eW))]⟩, ⟨false, [.pv (.int .i64 b.size), .pv (.list 1 (b.ws.map eW))]⟩] := by
  unfold fn30_l1
  refine clean_up (env := env) (nb := 2) (a.ws.length) (fun i => ⟨sl 38 [(2, .pbox 0 0), (3, .pbox 1 0), (5, .pv (.int .i64 i))], [⟨false, [.pv (.int .i64 a.size), .pv (.list 1 (a.ws.map eW))]⟩, ⟨false, [.pv (.int .i64 b.size), .pv (.list 1 (b.ws.map eW))]⟩], [], none⟩) (fun i => resS 38 (decide (a.ws.drop (i) = b.ws.drop (i))) [⟨false, [.pv (.int .i64 a.size), .pv (.list 1 (a.ws.map eW))]⟩, ⟨false, [.pv (.int .i64 b.size), .pv (.list 1 (b.ws.map eW))]⟩]) h (fun _ => rfl) (fun _ => by simp only [slAll, slsAll, Nat.reduceMul, Nat.reduceBEq, Nat.reduceLT, Nat.reduceLeDiff, Nat.reduceAdd, decide_true, Bool.and_self, Bool.true_and]) ?_ ?_
  · intro i rb hi ih

    have hi1 := i64_next hi hl
    have hj : i < b.ws.length := by omega
    have F1 : ((i : Int) < (a.ws.length : Int)) = True := eq_true (by omega)
    have B := w_beq a.ws[i] b.ws[i]
    have B' : ((a.ws[i].toNat : Int) != (b.ws[i].toNat : Int)) = !decide (a.ws[i] = b.ws[i]) := by unfold bne; rw [B]
    rw [drop_dec hi hj]
    have gx : (a.ws.map eW)[i]? = some (.int .u64 (a.ws[i].toNat : Int)) := by rw [List.getElem?_map, List.getElem?_eq_getElem hi]; rfl
    have gy : (b.ws.map eW)[i]? = some (.int .u64 (b.ws[i].toNat : Int)) := by rw [List.getElem?_map, List.getElem?_eq_getElem hj]; rfl
    cases c : decide (a.ws[i] = b.ws[i]) with
    | true =>
      rw [c] at B'
      rw [Bool.true_and]
      simp only [fn30_b0, F1, B', gx, gy, index_nat hi, index_nat hj, List.length_map, slAll, slsAll, Nat.reduceMul, Nat.reduceBEq, Nat.reduceLT, Nat.reduceLeDiff, memAll, vAll, reduceCtorEq, Nat.reduceEqDiff, Nat.reduceAdd, Nat.reduceLT, Nat.reduceLeDiff, Nat.beq]
      rw [ih _ (by simp only [hi1, slAll, slsAll, Nat.reduceMul, Nat.reduceBEq, Nat.reduceLT, Nat.reduceLeDiff, memAll, vAll, reduceCtorEq, Nat.reduceEqDiff, Nat.reduceAdd, Nat.reduceLT, Nat.reduceLeDiff, Nat.beq] <;> rfl)]
    | false =>
      rw [c] at B'
      rw [Bool.false_and, resS_f]
      simp only [fn30_b0, F1, B', gx, gy, index_nat hi, index_nat hj, List.length_map, slAll, slsAll, Nat.reduceMul, Nat.reduceBEq, Nat.reduceLT, Nat.reduceLeDiff, memAll, vAll, reduceCtorEq, Nat.reduceEqDiff, Nat.reduceAdd, Nat.reduceLT, Nat.reduceLeDiff, Nat.beq]
  · intro rb

    rw [List.drop_length, hab, List.drop_length, decide_eq_true rfl, resS_t]
    simp only [fn30_b0, Int.lt_irrefl, List.length_map, hab, slAll, slsAll, Nat.reduceMul, Nat.reduceBEq, Nat.reduceLT, Nat.reduceLeDiff, memAll, vAll, reduceCtorEq, Nat.reduceEqDiff, Nat.reduceAdd, Nat.reduceLT, Nat.reduceLeDiff, Nat.beq]

theorem cal30 {a b : Bm} (hl : a.ws.length ≤ lim) : cal env 30 [eBm a, eBm b] = some [(.bool (sameB a b), false)] := by
  have eA : ∀ b : Bm, eBm b = .agg [.int .i64 b.size, .list 1 (b.ws.map eW)] := fun _ => rfl
  rw [eA, eA]
  unfold sameB
  by_cases c0 : a.size = b.size
  · have F0 : (a.size != b.size) = false := by simp [c0]
    rw [decide_eq_true c0, Bool.true_and]
    by_cases c1 : a.ws.length = b.ws.length
    · have F1 : ((a.ws.length : Int) != (b.ws.length : Int)) = false := by simp [c1]
      rw [cal_code env30 rfl]; simp only [fn30, slAll, Nat.reduceBEq, Nat.reduceLeDiff, Nat.reduceAdd, List.length_cons, List.length_nil]
      simp only [F0, F1, List.length_map, slAll, slsAll, Nat.reduceMul, Nat.reduceBEq, Nat.reduceLT, Nat.reduceLeDiff, memAll, vAll, reduceCtorEq, Nat.reduceEqDiff, Nat.reduceAdd, Nat.reduceLT, Nat.reduceLeDiff, Nat.beq]
      rw [loop30 (a := a) (b := b) hl c1]
      rotate_left
      · simp only [slAll, slsAll, Nat.reduceMul, Nat.reduceBEq, Nat.reduceLT, Nat.reduceLeDiff, Nat.reduceAdd, decide_true, Bool.and_self, Bool.true_and] <;> rfl
      · rw [List.drop_zero, List.drop_zero]
        cases decide (a.ws = b.ws) with
        | true => rw [resS_t]; simp only [F0, F1, List.length_map, slAll, slsAll, Nat.reduceMul, Nat.reduceBEq, Nat.reduceLT, Nat.reduceLeDiff, memAll, vAll, reduceCtorEq, Nat.reduceEqDiff, Nat.reduceAdd, Nat.reduceLT, Nat.reduceLeDiff, Nat.beq]
        | false => rw [resS_f]; simp only [F0, F1, List.length_map, slAll, slsAll, Nat.reduceMul, Nat.reduceBEq, Nat.reduceLT, Nat.reduceLeDiff, memAll, vAll, reduceCtorEq, Nat.reduceEqDiff, Nat.reduceAdd, Nat.reduceLT, Nat.reduceLeDiff, Nat.beq]
    · have F1 : ((a.ws.length : Int) != (b.ws.length : Int)) = true := by rw [bne_iff_ne]; omega
      rw [decide_eq_false (fun h => c1 (by rw [h]))]
      rw [cal_code env30 rfl]; simp only [fn30, slAll, Nat.reduceBEq, Nat.reduceLeDiff, Nat.reduceAdd, List.length_cons, List.length_nil]
      simp only [F0, F1, List.length_map, slAll, slsAll, Nat.reduceMul, Nat.reduceBEq, Nat.reduceLT, Nat.reduceLeDiff, memAll, vAll, reduceCtorEq, Nat.reduceEqDiff, Nat.reduceAdd, Nat.reduceLT, Nat.reduceLeDiff, Nat.beq]
  · have F0 : (a.size != b.size) = true := by simpa using c0
    rw [decide_eq_false c0, Bool.false_and]
    rw [cal_code env30 rfl]; simp only [fn30, slAll, Nat.reduceBEq, Nat.reduceLeDiff, Nat.reduceAdd, List.length_cons, List.length_nil]
    simp only [F0, slAll, slsAll, Nat.reduceMul, Nat.reduceBEq, Nat.reduceLT, Nat.reduceLeDiff, memAll, vAll, reduceCtorEq, Nat.reduceEqDiff, Nat.reduceAdd, Nat.reduceLT, Nat.reduceLeDiff, Nat.beq]
def sameI (a b : Itn) : Bool := decide (a.size = b.size) && (decide (a.gran = b.gran) && (decide (a.act.length = b.act.length) && (sameB a.bm b.bm && decide (a.act = b.act))))
theorem sameI_iff {a b : Itn} : sameI a b = true ↔ a = b := by
  unfold sameI
  obtain ⟨x, y, z, w⟩ := a
  obtain ⟨x', y', z', w'⟩ := b
  simp only [Bool.and_eq_true, decide_eq_true_eq, sameB_iff, Itn.mk.injEq]
  constructor
  · rintro ⟨h1, h2, _, h3, h4⟩; exact ⟨h1, h2, h4, h3⟩
  · rintro ⟨h1, h2, h4, h3⟩; exact ⟨h1, h2, by rw [h4], h3, h4⟩
theorem loop9 {a b : Itn} (hl : a.act.length ≤ lim) (hab : a.act.length = b.act.length) {st : St} (h : st.head [2, 3, 5] st.boxes.length = some ⟨sl 53 [(2, .pbox 0 0), (3, .pbox 1 0), (5, .pv (.int .i64 (0 : Nat)))], [⟨false, cellsI a⟩, ⟨false, cellsI b⟩], [], none⟩) :
   den env fn9_l1 st = resS 53 (decide (a.act.drop ((0 : Nat)) = b.act.drop ((0 : Nat)))) [⟨false, cellsI a⟩, ⟨false, cellsI b⟩] := by
  unfold fn9_l1
  refine clean_up (env := env) (nb := 2) (a.act.length) (fun i => ⟨sl 53 [(2, .pbox 0 0), (3, .pbox 1 0), (5, .pv (.int .i64 i))], [⟨false, cellsI a⟩, ⟨false, cellsI b⟩], [], none⟩) (fun i => resS 53 (decide (a.act.drop (i) = b.act.drop (i))) [⟨false, cellsI a⟩, ⟨false, cellsI b⟩]) h (fun _ => rfl) (fun _ => by simp only [slAll, slsAll, Nat.reduceMul, Nat.reduceBEq, Nat.reduceLT, Nat.reduceLeDiff, Nat.reduceAdd, decide_true, Bool.and_self, Bool.true_and]) ?_ ?_
  · intro i rb hi ih

    have hi1 := i64_next hi hl
    have hj : i < b.act.length := by omega
    have F1 : ((i : Int) < (a.act.length : Int)) = True := eq_true (by omega)
    rw [drop_dec hi hj]
    have gx : (a.act.map eI)[i]? = some (.int .i64 a.act[i]) := by rw [List.getElem?_map, List.getElem?_eq_getElem hi]; rfl
    have gy : (b.act.map eI)[i]? = some (.int .i64 b.act[i]) := by rw [List.getElem?_map, List.getElem?_eq_getElem hj]; rfl
    by_cases c : a.act[i] = b.act[i]
    · have B' : (a.act[i] != b.act[i]) = false := by simp [c]
      rw [decide_eq_true c, Bool.true_and]
      simp only [fn9_b0, F1, B', gx, gy, index_nat hi, index_nat hj, List.length_map, cellsI_eq, slAll, slsAll, Nat.reduceMul, Nat.reduceBEq, Nat.reduceLT, Nat.reduceLeDiff, memAll, vAll, reduceCtorEq, Nat.reduceEqDiff, Nat.reduceAdd, Nat.reduceLT, Nat.reduceLeDiff, Nat.beq]
      rw [ih _ (by simp only [hi1, cellsI_eq, slAll, slsAll, Nat.reduceMul, Nat.reduceBEq, Nat.reduceLT, Nat.reduceLeDiff, memAll, vAll, reduceCtorEq, Nat.reduceEqDiff, Nat.reduceAdd, Nat.reduceLT, Nat.reduceLeDiff, Nat.beq] <;> rfl)]
      rfl
    · have B' : (a.act[i] != b.act[i]) = true := by simpa using c
      rw [decide_eq_false c, Bool.false_and, resS_f]
      simp only [fn9_b0, F1, B', gx, gy, index_nat hi, index_nat hj, List.length_map, cellsI_eq, slAll, slsAll, Nat.reduceMul, Nat.reduceBEq, Nat.reduceLT, Nat.reduceLeDiff, memAll, vAll, reduceCtorEq, Nat.reduceEqDiff, Nat.reduceAdd, Nat.reduceLT, Nat.reduceLeDiff, Nat.beq]
  · intro rb

    rw [List.drop_length, hab, List.drop_length, decide_eq_true rfl, resS_t]
    simp only [fn9_b0, Int.lt_irrefl, List.length_map, hab, cellsI_eq, slAll, slsAll, Nat.reduceMul, Nat.reduceBEq, Nat.reduceLT, Nat.reduceLeDiff, memAll, vAll, reduceCtorEq, Nat.reduceEqDiff, Nat.reduceAdd, Nat.reduceLT, Nat.reduceLeDiff, Nat.beq]

theorem cal9 {a b : Itn} (hl : a.act.length ≤ lim) (hw : a.bm.ws.length ≤ lim) : cal env 9 [eItn a, eItn b] = some [(.bool (sameI a b), false)] := by
  have eI5 : ∀ i : Itn, eItn i = .agg [.int .i64 i.size, .int .i64 i.gran, .list 1 (i.act.map eI), .int .i64 i.bm.size, .list 1 (i.bm.ws.map eW)] := fun _ => rfl
  have eA : ∀ b : Bm, eBm b = .agg [.int .i64 b.size, .list 1 (b.ws.map eW)] := fun _ => rfl
  have e1 := cal30 (a := a.bm) (b := b.bm) hw
  rw [eA, eA] at e1
  rw [eI5, eI5]
  unfold sameI
  by_cases c0 : a.size = b.size
  · have F0 : (a.size != b.size) = false := by simp [c0]
    rw [decide_eq_true c0, Bool.true_and]
    by_cases c1 : a.gran = b.gran
    · have F1 : (a.gran != b.gran) = false := by simp [c1]
      rw [decide_eq_true c1, Bool.true_and]
      by_cases c2 : a.act.length = b.act.length
      · have F2 : ((a.act.length : Int) != (b.act.length : Int)) = false := by simp [c2]
        rw [decide_eq_true c2, Bool.true_and]
        cases c3 : sameB a.bm b.bm with
        | true =>
          rw [c3] at e1
          rw [Bool.true_and]
          rw [cal_code env9 rfl]; simp only [fn9, slAll, Nat.reduceBEq, Nat.reduceLeDiff, Nat.reduceAdd, List.length_cons, List.length_nil]
          simp only [F0, F1, F2, e1, part_bm, List.length_map, slAll, slsAll, Nat.reduceMul, Nat.reduceBEq, Nat.reduceLT, Nat.reduceLeDiff, memAll, vAll, reduceCtorEq, Nat.reduceEqDiff, Nat.reduceAdd, Nat.reduceLT, Nat.reduceLeDiff, Nat.beq]
          rw [loop9 (a := a) (b := b) hl c2]
          rotate_left
          · rw [cellsI_eq, cellsI_eq]
            simp only [slAll, slsAll, Nat.reduceMul, Nat.reduceBEq, Nat.reduceLT, Nat.reduceLeDiff, Nat.reduceAdd, decide_true, Bool.and_self, Bool.true_and] <;> rfl
          · rw [List.drop_zero, List.drop_zero]
            cases decide (a.act = b.act) with
            | true => rw [resS_t, cellsI_eq, cellsI_eq]; simp only [F0, F1, F2, e1, part_bm, List.length_map, slAll, slsAll, Nat.reduceMul, Nat.reduceBEq, Nat.reduceLT, Nat.reduceLeDiff, memAll, vAll, reduceCtorEq, Nat.reduceEqDiff, Nat.reduceAdd, Nat.reduceLT, Nat.reduceLeDiff, Nat.beq]
            | false => rw [resS_f, cellsI_eq, cellsI_eq]; simp only [F0, F1, F2, e1, part_bm, List.length_map, slAll, slsAll, Nat.reduceMul, Nat.reduceBEq, Nat.reduceLT, Nat.reduceLeDiff, memAll, vAll, reduceCtorEq, Nat.reduceEqDiff, Nat.reduceAdd, Nat.reduceLT, Nat.reduceLeDiff, Nat.beq]
        | false =>
          rw [c3] at e1
          rw [Bool.false_and]
          rw [cal_code env9 rfl]; simp only [fn9, slAll, Nat.reduceBEq, Nat.reduceLeDiff, Nat.reduceAdd, List.length_cons, List.length_nil]
          simp only [F0, F1, F2, e1, part_bm, List.length_map, slAll, slsAll, Nat.reduceMul, Nat.reduceBEq, Nat.reduceLT, Nat.reduceLeDiff, memAll, vAll, reduceCtorEq, Nat.reduceEqDiff, Nat.reduceAdd, Nat.reduceLT, Nat.reduceLeDiff, Nat.beq]
      · have F2 : ((a.act.length : Int) != (b.act.length : Int)) = true := by rw [bne_iff_ne]; omega
        rw [decide_eq_false c2, Bool.false_and]
        rw [cal_code env9 rfl]; simp only [fn9, slAll, Nat.reduceBEq, Nat.reduceLeDiff, Nat.reduceAdd, List.length_cons, List.length_nil]
        simp only [F0, F1, F2, List.length_map, slAll, slsAll, Nat.reduceMul, Nat.reduceBEq, Nat.reduceLT, Nat.reduceLeDiff, memAll, vAll, reduceCtorEq, Nat.reduceEqDiff, Nat.reduceAdd, Nat.reduceLT, Nat.reduceLeDiff, Nat.beq]
    · have F1 : (a.gran != b.gran) = true := by simpa using c1
      rw [decide_eq_false c1, Bool.false_and]
      rw [cal_code env9 rfl]; simp only [fn9, slAll, Nat.reduceBEq, Nat.reduceLeDiff, Nat.reduceAdd, List.length_cons, List.length_nil]
      simp only [F0, F1, slAll, slsAll, Nat.reduceMul, Nat.reduceBEq, Nat.reduceLT, Nat.reduceLeDiff, memAll, vAll, reduceCtorEq, Nat.reduceEqDiff, Nat.reduceAdd, Nat.reduceLT, Nat.reduceLeDiff, Nat.beq]
  · have F0 : (a.size != b.size) = true := by simpa using c0
    rw [decide_eq_false c0, Bool.false_and]
    rw [cal_code env9 rfl]; simp only [fn9, slAll, Nat.reduceBEq, Nat.reduceLeDiff, Nat.reduceAdd, List.length_cons, List.length_nil]
    simp only [F0, slAll, slsAll, Nat.reduceMul, Nat.reduceBEq, Nat.reduceLT, Nat.reduceLeDiff, memAll, vAll, reduceCtorEq, Nat.reduceEqDiff, Nat.reduceAdd, Nat.reduceLT, Nat.reduceLeDiff, Nat.beq]
end Go.Proofs.YtdahanchdjadiaaGreatDoor.V

namespace Go.Proofs.YtdahanchdjadiaaGreatDoor.V
def bmN (b : Bm) (n : Nat) : List Nat := (List.range n).filter (bit b.ws)
theorem bmN_succ (b : Bm) (n : Nat) : bmN b (n + 1) = if bit b.ws n then bmN b n ++ [n] else bmN b n := by
  unfold bmN
  rw [List.range_succ, List.filter_append]
  cases h : bit b.ws n <;> simp [h]
theorem bmN_lt {b : Bm} {n i : Nat} (h : i ∈ bmN b n) : i < n := by
  simp only [bmN, List.mem_filter, List.mem_range] at h; exact h.1
theorem bmN_len (b : Bm) (n : Nat) : (bmN b n).length ≤ n := by
  have := List.length_filter_le (bit b.ws) (List.range n); simpa [bmN] using this
theorem loop21 {b : Bm} {n : Nat} (hs : b.size = (n : Int)) (hn : n ≤ 4096) (hw : n ≤ 64 * b.ws.length) {st : St} (h : st.head [1, 3, 4, 53] st.boxes.length = some ⟨[.any, .pbox 0 0, .any, .row 2 ((exts (bmN b (0 : Nat))).map eExt), .pv (.int .i64 (0 : Nat)), .any, .any, .any, .any, .any, .any, .any, .any, .any, .any, .any, .any, .any, .any, .any, .any, .any, .any, .any, .any, .any, .any, .any, .any, .any, .any, .any, .any, .any, .any, .any, .any, .any, .any, .any, .any, .any, .any, .any, .any, .any, .any, .any, .any, .any, .any, .any, .any, .any, .any], [⟨false, [.pv (.int .i64 b.size), .pv (.list 1 (b.ws.map eW))]⟩], [], none⟩) :
   den env fn21_l1 st = some (.normal, ⟨[.any, .any, .any, .row 2 ((exts (bmN b n)).map eExt), .any, .any, .any, .any, .any, .any, .any, .any, .any, .any, .any, .any, .any, .any, .any, .any, .any, .any, .any, .any, .any, .any, .any, .any, .any, .any, .any, .any, .any, .any, .any, .any, .any, .any, .any, .any, .any, .any, .any, .any, .any, .any, .any, .any, .any, .any, .any, .any, .any, .any, .any], [⟨false, [.pv (.int .i64 b.size), .pv (.list 1 (b.ws.map eW))]⟩], [], none⟩) := by
  unfold fn21_l1
  refine clean_up (env := env) (n) (fun i => ⟨[.any, .pbox 0 0, .any, .row 2 ((exts (bmN b i)).map eExt), .pv (.int .i64 i), .any, .any, .any, .any, .any, .any, .any, .any, .any, .any, .any, .any, .any, .any, .any, .any, .any, .any, .any, .any, .any, .any, .any, .any, .any, .any, .any, .any, .any, .any, .any, .any, .any, .any, .any, .any, .any, .any, .any, .any, .any, .any, .any, .any, .any, .any, .any, .any, .any, .any], [⟨false, [.pv (.int .i64 b.size), .pv (.list 1 (b.ws.map eW))]⟩], [], none⟩) (fun i => some (.normal, ⟨[.any, .any, .any, .row 2 ((exts (bmN b n)).map eExt), .any, .any, .any, .any, .any, .any, .any, .any, .any, .any, .any, .any, .any, .any, .any, .any, .any, .any, .any, .any, .any, .any, .any, .any, .any, .any, .any, .any, .any, .any, .any, .any, .any, .any, .any, .any, .any, .any, .any, .any, .any, .any, .any, .any, .any, .any, .any, .any, .any, .any, .any], [⟨false, [.pv (.int .i64 b.size), .pv (.list 1 (b.ws.map eW))]⟩], [], none⟩)) h (fun _ => rfl) (fun _ => rfl) ?_ ?_
  · intro i rb hi ih

    have hi1 := i64_next hi (by unfold lim; omega)
    have hlim : lim = 1073741824 := rfl
    have F1 : ((i : Int) < b.size) = True := eq_true (by omega)
    have e1 := cal55 (b := b) (i := i) (by omega) (by omega)
    have P2 : part [PV.int .i64 b.size, .list 1 (b.ws.map eW)] 0 (some 2) = some (.agg [PV.int .i64 b.size, .list 1 (b.ws.map eW)]) := rfl
    unfold eBm at e1
    cases c : bit b.ws i with
    | false =>
      rw [c] at e1
      simp only [fn21_b0, F1, e1, P2, memAll, vAll, reduceCtorEq, Nat.reduceEqDiff, Nat.reduceAdd, Nat.reduceLT, Nat.reduceLeDiff, Nat.beq]
      rw [ih _ (by simp only [hi1]; rw [bmN_succ, if_neg (by rw [c]; decide)]; rfl)]
    | true =>
      rw [c] at e1
      rcases snoc_cases (bmN b i) with h0 | ⟨p, j, h0⟩
      · have e0 : exts (bmN b i) = [] := by rw [h0]; rfl
        have F2 : (((0 : Nat) : Int) > 0) = False := eq_false (by omega)
        have F3 : (0 + 1 ≤ lim) = True := eq_true (by unfold lim; omega)
        simp only [fn21_b0, F1, e1, P2, e0, eExt, List.map_nil, F2, F3, memAll, vAll, reduceCtorEq, Nat.reduceEqDiff, Nat.reduceAdd, Nat.reduceLT, Nat.reduceLeDiff, Nat.beq]
        rw [ih _ (by simp only [hi1]; rw [bmN_succ, if_pos c, exts_snoc, e0]; rfl)]
      · obtain ⟨pre, ⟨s, q⟩, e0, h1, h2, h3, h4⟩ := exts_last _ p rfl j
        rw [← h0] at e0
        have hji : j < i := bmN_lt (show j ∈ bmN b i by rw [h0]; simp)
        have hpl : p.length + 1 ≤ i := by have := bmN_len b i; rw [h0] at this; simpa using this
        simp only at h1 h2 h3
        have F2 : (((pre.length + 1 : Nat) : Int) > 0) = True := eq_true (by omega)
        have F3 := wrap_pred (n := pre.length) (by omega)
        have F4 : IntKind.i64.wrap (s + q) = s + q := i64_fits (by omega)
        have F5 : IntKind.i64.wrap (q + 1) = q + 1 := i64_fits (by omega)
        have F6 : (pre.length + 1 + 1 ≤ lim) = True := eq_true (by omega)
        have F7 : index (.int .i64 (pre.length : Int)) (pre.length + 1) = some pre.length := index_nat (by omega)
        simp only [fn21_b0, F1, e1, P2, e0, List.map_append, List.map_cons, List.map_nil, eExt, F2, F3, F4, F5, F6, F7, memAll, vAll, reduceCtorEq, Nat.reduceEqDiff, Nat.reduceAdd, Nat.reduceLT, Nat.reduceLeDiff, Nat.beq]
        (try simp only [bcase_bind, bcase_map, tail_bcase]); refine bcase_split (fun hb => ?_) (fun hb => ?_) <;> try simp only [hb, eExt, memAll, vAll, reduceCtorEq, Nat.reduceEqDiff, Nat.reduceAdd, Nat.reduceLT, Nat.reduceLeDiff, Nat.beq]
        · rw [ih _ (by simp only [hi1]; rw [bmN_succ, if_pos c, exts_snoc, e0, addAt_snoc, if_pos (by simpa using hb)]; simp only [List.map_append, List.map_cons, List.map_nil, eExt]; rfl)]
        · rw [ih _ (by simp only [hi1]; rw [bmN_succ, if_pos c, exts_snoc, e0, addAt_snoc, if_neg (by simpa using hb)]; simp only [List.map_append, List.map_cons, List.map_nil, eExt]; rfl)]
  · intro rb

    have F1 : ((n : Int) < b.size) = False := eq_false (by omega)
    simp only [fn21_b0, F1, memAll, vAll, reduceCtorEq, Nat.reduceEqDiff, Nat.reduceAdd, Nat.reduceLT, Nat.reduceLeDiff, Nat.beq]
    rfl

theorem cal21 {b : Bm} : cal env 21 [eBm b] = some [(.list 2 ((bmX b).map eExt), true)] := by
  have e1 := cal36 (b := b)
  have eA : ∀ a : Bm, eBm a = .agg [.int .i64 a.size, .list 1 (a.ws.map eW)] := fun _ => rfl
  unfold bmX
  cases c : okB b with
  | false =>
    rw [bmE_no c] at e1
    rw [if_neg Bool.false_ne_true]
    rw [eA] at e1 ⊢
    have Z3 : ((3 : Int) != 0) = true := rfl
    rw [cal_code env21 rfl]; simp only [fn21]; simp only [start, z_map_cons, z_map_nil, z_len_cons, z_len_nil, z_repl_zero, z_repl_succ, z_cons_app, z_nil_app, Nat.reduceAdd, Nat.reduceSub]
    simp only [e1, Z3, List.map_nil, memAll, vAll, reduceCtorEq, Nat.reduceEqDiff, Nat.reduceAdd, Nat.reduceLT, Nat.reduceLeDiff, Nat.beq]
  | true =>
    rw [bmE_ok c] at e1
    rw [if_pos rfl]
    rw [eA] at e1 ⊢
    have Z0 : ((0 : Int) != 0) = false := rfl
    obtain ⟨h1, h2, h3, h4, h5⟩ := okB_size c
    rw [cal_code env21 rfl]; simp only [fn21]; simp only [start, z_map_cons, z_map_nil, z_len_cons, z_len_nil, z_repl_zero, z_repl_succ, z_cons_app, z_nil_app, Nat.reduceAdd, Nat.reduceSub]
    simp only [e1, Z0, List.map_nil, memAll, vAll, reduceCtorEq, Nat.reduceEqDiff, Nat.reduceAdd, Nat.reduceLT, Nat.reduceLeDiff, Nat.beq]
    rw [loop21 (b := b) (n := b.size.toNat) (by omega) (by omega) (by omega)]
    rotate_left
    · rfl
    · simp only [e1, Z0, List.map_nil, memAll, vAll, reduceCtorEq, Nat.reduceEqDiff, Nat.reduceAdd, Nat.reduceLT, Nat.reduceLeDiff, Nat.beq]
      rfl
end Go.Proofs.YtdahanchdjadiaaGreatDoor.V
