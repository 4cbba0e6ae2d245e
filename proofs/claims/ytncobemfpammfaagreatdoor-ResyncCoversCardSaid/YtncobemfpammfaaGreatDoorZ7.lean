/-
  Part 7 of the texts that the statement stands on.
-/
import Derived.Test.YtncobemfpammfaaGreatDoorZ6
import Derived.ProofKit
import Derived.SizedLaws
import Derived.OpenShut
import Derived.Deep.Strs
set_option linter.all false
namespace Go.Proofs.YtncobemfpammfaaGreatDoor.V
structure SwSt where
  d0 : Int
  d1 : Int
  st : Int
  ins : Bool
  out : List Exn
def swStep (keep : Bool → Bool → Bool) (x : End) (same : Bool) (s : SwSt) : SwSt :=
  if same then ⟨if x.list = 0 then s.d0 + x.step else s.d0, if x.list = 1 then s.d1 + x.step else s.d1, s.st, s.ins, s.out⟩
  else ⟨if x.list = 0 then s.d0 + x.step else s.d0, if x.list = 1 then s.d1 + x.step else s.d1,
    if keep (decide ((if x.list = 0 then s.d0 + x.step else s.d0) > 0)) (decide ((if x.list = 1 then s.d1 + x.step else s.d1) > 0)) && !s.ins then x.pos else s.st,
    keep (decide ((if x.list = 0 then s.d0 + x.step else s.d0) > 0)) (decide ((if x.list = 1 then s.d1 + x.step else s.d1) > 0)),
    s.out ++ (if !keep (decide ((if x.list = 0 then s.d0 + x.step else s.d0) > 0)) (decide ((if x.list = 1 then s.d1 + x.step else s.d1) > 0)) && s.ins then [⟨s.st, x.pos - s.st⟩] else [])⟩
def swAt (keep : Bool → Bool → Bool) (L : List End) : Nat → SwSt
  | 0 => ⟨0, 0, 0, false, []⟩
  | i + 1 => match L[i]? with
    | some x => swStep keep x (nextSame x (L.drop (i + 1))) (swAt keep L i)
    | none => swAt keep L i
theorem swAt_succ {keep : Bool → Bool → Bool} {L : List End} {i : Nat} {x : End} (h : L[i]? = some x) : swAt keep L (i + 1) = swStep keep x (nextSame x (L.drop (i + 1))) (swAt keep L i) := by
  show (match L[i]? with
    | some x => swStep keep x (nextSame x (L.drop (i + 1))) (swAt keep L i)
    | none => swAt keep L i) = _
  rw [h]
theorem swAt_go (keep : Bool → Bool → Bool) (L : List End) : ∀ i, i ≤ L.length → (swAt keep L i).out ++ swGo keep (L.drop i) (swAt keep L i).d0 (swAt keep L i).d1 (swAt keep L i).st (swAt keep L i).ins = swGo keep L 0 0 0 false
  | 0, _ => rfl
  | i + 1, hi => by
    have ih := swAt_go keep L i (by omega)
    have hx : L[i]? = some L[i] := List.getElem?_eq_getElem (by omega)
    rw [← ih, swAt_succ hx, List.drop_eq_getElem_cons (show i < L.length by omega)]
    generalize L[i] = x
    generalize swAt keep L i = s
    conv => rhs; unfold swGo
    unfold swStep
    cases nextSame x (L.drop (i + 1)) with
    | true => rfl
    | false => simp only [Bool.false_eq_true, if_false, List.append_assoc]
theorem swAt_end (keep : Bool → Bool → Bool) (L : List End) : (swAt keep L L.length).out = swGo keep L 0 0 0 false := by
  have := swAt_go keep L L.length (Nat.le_refl _)
  rw [List.drop_length] at this
  simpa [swGo] using this
theorem swAt_small {keep : Bool → Bool → Bool} {L : List End} (h : ∀ x ∈ L, (x.step = 1 ∨ x.step = -1) ∧ x.pos ≤ 4096) : ∀ i : Nat, (-(i : Int) ≤ (swAt keep L i).d0 ∧ (swAt keep L i).d0 ≤ i) ∧ (-(i : Int) ≤ (swAt keep L i).d1 ∧ (swAt keep L i).d1 ≤ i) ∧ (0 ≤ (swAt keep L i).st ∧ (swAt keep L i).st ≤ 4096)
  | 0 => by simp [swAt]
  | i + 1 => by
    obtain ⟨h1, h2, h3⟩ := swAt_small (keep := keep) h i
    cases hx : L[i]? with
    | none =>
      have : swAt keep L (i + 1) = swAt keep L i := by
        show (match L[i]? with
          | some x => swStep keep x (nextSame x (L.drop (i + 1))) (swAt keep L i)
          | none => swAt keep L i) = _
        rw [hx]
      rw [this]
      omega
    | some x =>
      rw [swAt_succ hx]
      obtain ⟨k1, k2⟩ := h x (List.mem_of_getElem? hx)
      generalize swAt keep L i = s at *
      unfold swStep
      split
      · simp only
        refine ⟨?_, ?_, h3⟩
        · split <;> omega
        · split <;> omega
      · simp only
        refine ⟨?_, ?_, ?_⟩
        · split <;> omega
        · split <;> omega
        · split <;> omega
def yE (l : List Exn) : List (List PV) := l.map fun x => [eExt x]
theorem yE_app (l m : List Exn) : yE (l ++ m) = yE l ++ yE m := by simp [yE]
theorem beq_nat (n m : Nat) : ((n : Int) == (m : Int)) = decide (n = m) := by
  by_cases h : n = m
  · subst h; simp
  · rw [decide_eq_false h]; simp; omega
set_option maxRecDepth 20000 in
set_option maxHeartbeats 2000000 in
theorem loop83 {keep : Bool → Bool → Bool} {kf : Nat} (hk : ∀ p q, cal env kf [.bool p, .bool q] = some [(.bool (keep p q), false)]) {L : List End} (hL : ∀ x ∈ L, ((x.step = 1 ∨ x.step = -1) ∧ x.pos ≤ 4096) ∧ x.list < 2) (hl : L.length ≤ 1000000)
   {st : St} (h : st.head [0, 3, 5, 6, 7, 8, 15, 16, 17, 18] st.boxes.length = some ⟨sl 80 [(0, .yld), (3, .pv (.iptr [.func kf []] 0)), (5, .row 3 (L.map eEnd)), (6, .pbox 0 0), (7, .pv (.int .i64 0)), (8, .pv (.bool false)), (15, .any), (16, .ref (.slot 5) 0 L.length), (17, .pv (.int .i64 L.length)), (18, .pv (.int .i64 (0 : Nat)))], [⟨false, [.pv (.int .i64 0), .pv (.int .i64 0)]⟩], [], some none⟩) :
   den env fn83_l1 st = some (.normal, ⟨sl 80 [], [⟨false, [.pv (.int .i64 (swAt keep L L.length).d0), .pv (.int .i64 (swAt keep L L.length).d1)]⟩], yE (swAt keep L L.length).out, some none⟩) := by
  unfold fn83_l1
  have hlim : lim = 1073741824 := rfl
  have hsm := swAt_small (keep := keep) fun x hx => (hL x hx).1
  refine clean_up (env := env) L.length (fun i => ⟨sl 80 [(0, .yld), (3, .pv (.iptr [.func kf []] 0)), (5, .row 3 (L.map eEnd)), (6, .pbox 0 0), (7, .pv (.int .i64 (swAt keep L i).st)), (8, .pv (.bool (swAt keep L i).ins)), (15, .any), (16, .ref (.slot 5) 0 L.length), (17, .pv (.int .i64 L.length)), (18, .pv (.int .i64 i))], [⟨false, [.pv (.int .i64 (swAt keep L i).d0), .pv (.int .i64 (swAt keep L i).d1)]⟩], yE (swAt keep L i).out, some none⟩) (fun _ => some (.normal, ⟨sl 80 [], [⟨false, [.pv (.int .i64 (swAt keep L L.length).d0), .pv (.int .i64 (swAt keep L L.length).d1)]⟩], yE (swAt keep L L.length).out, some none⟩)) h (fun _ => rfl) (fun _ => by simp only [slAll, slsAll, Nat.reduceMul, Nat.reduceBEq, Nat.reduceLT, Nat.reduceLeDiff, Nat.reduceAdd, decide_true, Bool.and_self, Bool.true_and]) ?_ ?_
  · intro i rb hi ih
    have hi1 := i64_next hi (by omega)
    have F1 : ((i : Int) < (L.length : Int)) = True := eq_true (by omega)
    have hx : L[i]? = some L[i] := List.getElem?_eq_getElem hi
    obtain ⟨⟨x1, x2⟩, x3⟩ := hL _ (List.getElem_mem hi)
    have hsuc := swAt_succ (keep := keep) hx
    obtain ⟨⟨s1, s2⟩, ⟨s3, s4⟩, s5, s6⟩ := hsm i
    rw [hsuc] at ih
    clear hsuc
    generalize L[i] = x at *
    generalize hs : swAt keep L i = s at *
    obtain ⟨d0, d1, sp, ins, out⟩ := s
    obtain ⟨p, k, t⟩ := x
    simp only at x1 x2 x3 s1 s2 s3 s4 s5 s6 ih
    have hlist : k = 0 ∨ k = 1 := by omega
    have W0 : IntKind.i64.wrap (d0 + t) = d0 + t := i64_fits (by omega)
    have W1 : IntKind.i64.wrap (d1 + t) = d1 + t := i64_fits (by omega)
    have W2 : IntKind.i64.wrap ((p : Int) - sp) = (p : Int) - sp := i64_fits (by omega)
    have I0 : index (.int .i64 0) 2 = some 0 := rfl
    have I1 : index (.int .i64 1) 2 = some 1 := rfl
    have IN0 : index (.int .i64 ((0 : Nat) : Int)) 2 = some 0 := rfl
    have IN1 : index (.int .i64 ((1 : Nat) : Int)) 2 = some 1 := rfl
    have P3 : ∀ a b c : PV, part [a, b, c] 0 (some 3) = some (.agg [a, b, c]) := fun a b c => rfl
    -- the next end
    have hnx : (∃ y, L[i + 1]? = some y ∧ nextSame ⟨p, k, t⟩ (L.drop (i + 1)) = decide (y.pos = p) ∧ (((i + 1 : Nat) : Int) < (L.length : Int)) ∧ index (.int .i64 ((i + 1 : Nat) : Int)) L.length = some (i + 1)) ∨ (nextSame ⟨p, k, t⟩ (L.drop (i + 1)) = false ∧ ¬ (((i + 1 : Nat) : Int) < (L.length : Int))) := by
      by_cases hlt : i + 1 < L.length
      · left
        refine ⟨L[i + 1], List.getElem?_eq_getElem hlt, ?_, by omega, index_nat hlt⟩
        rw [List.drop_eq_getElem_cons hlt]; rfl
      · right
        refine ⟨?_, by omega⟩
        rw [List.drop_eq_nil_of_le (by omega)]; rfl
    rcases hlist with rfl | rfl
    · -- list 0
      have e1 := hk (decide (d0 + t > 0)) (decide (d1 > 0))
      have same : swStep keep ⟨p, 0, t⟩ true ⟨d0, d1, sp, ins, out⟩ = ⟨d0 + t, d1, sp, ins, out⟩ := by simp [swStep]
      have diff : swStep keep ⟨p, 0, t⟩ false ⟨d0, d1, sp, ins, out⟩ = ⟨d0 + t, d1, if keep (decide (d0 + t > 0)) (decide (d1 > 0)) && !ins then (p : Int) else sp, keep (decide (d0 + t > 0)) (decide (d1 > 0)), out ++ (if !keep (decide (d0 + t > 0)) (decide (d1 > 0)) && ins then [⟨sp, (p : Int) - sp⟩] else [])⟩ := by simp [swStep]
      rcases hnx with ⟨y, hy, hns, hlt, hix⟩ | ⟨hns, hlt⟩
      · have F2 : (((i + 1 : Nat) : Int) < (L.length : Int)) = True := eq_true hlt
        rw [hns] at ih
        have B := beq_nat y.pos p
        generalize hb : decide (y.pos = p) = b at ih B
        cases b with
        | true =>
          rw [same] at ih
          simp only [fn83_b0, F1, hx, hi1, W0, W1, W2, I0, I1, IN0, IN1, P3, eEnd, index_nat hi, List.getElem?_map, Option.map_some, List.length_map, List.length_cons, List.length_nil, F2, hy, hix, B, slAll, slsAll, Nat.reduceMul, Nat.reduceBEq, Nat.reduceLT, Nat.reduceLeDiff, memAll, vAll, reduceCtorEq, Nat.reduceEqDiff, Nat.reduceAdd, Nat.reduceLT, Nat.reduceLeDiff, Nat.beq]
          rw [ih _ (by simp only [hi1, slAll, slsAll, Nat.reduceMul, Nat.reduceBEq, Nat.reduceLT, Nat.reduceLeDiff, memAll, vAll, reduceCtorEq, Nat.reduceEqDiff, Nat.reduceAdd, Nat.reduceLT, Nat.reduceLeDiff, Nat.beq] <;> rfl)]
        | false =>
          rw [diff] at ih
          generalize keep (decide (d0 + t > 0)) (decide (d1 > 0)) = now at *
          cases now <;> cases ins <;> simp only [Bool.not_true, Bool.not_false, Bool.and_true, Bool.and_false, Bool.and_self, Bool.false_eq_true, if_true, if_false, List.append_nil, yE_app] at ih <;> simp only [fn83_b0, F1, hx, hi1, W0, W1, W2, I0, I1, IN0, IN1, P3, eEnd, index_nat hi, List.getElem?_map, Option.map_some, List.length_map, List.length_cons, List.length_nil, F2, hy, hix, B, e1, slAll, slsAll, Nat.reduceMul, Nat.reduceBEq, Nat.reduceLT, Nat.reduceLeDiff, memAll, vAll, reduceCtorEq, Nat.reduceEqDiff, Nat.reduceAdd, Nat.reduceLT, Nat.reduceLeDiff, Nat.beq] <;> rw [ih _ (by simp only [hi1, yE, List.map_cons, List.map_nil, eExt, slAll, slsAll, Nat.reduceMul, Nat.reduceBEq, Nat.reduceLT, Nat.reduceLeDiff, memAll, vAll, reduceCtorEq, Nat.reduceEqDiff, Nat.reduceAdd, Nat.reduceLT, Nat.reduceLeDiff, Nat.beq] <;> rfl)]
      · have F2 : (((i + 1 : Nat) : Int) < (L.length : Int)) = False := eq_false hlt
        rw [hns, diff] at ih
        generalize keep (decide (d0 + t > 0)) (decide (d1 > 0)) = now at *
        cases now <;> cases ins <;> simp only [Bool.not_true, Bool.not_false, Bool.and_true, Bool.and_false, Bool.and_self, Bool.false_eq_true, if_true, if_false, List.append_nil, yE_app] at ih <;> simp only [fn83_b0, F1, hx, hi1, W0, W1, W2, I0, I1, IN0, IN1, P3, eEnd, index_nat hi, List.getElem?_map, Option.map_some, List.length_map, List.length_cons, List.length_nil, F2, e1, slAll, slsAll, Nat.reduceMul, Nat.reduceBEq, Nat.reduceLT, Nat.reduceLeDiff, memAll, vAll, reduceCtorEq, Nat.reduceEqDiff, Nat.reduceAdd, Nat.reduceLT, Nat.reduceLeDiff, Nat.beq] <;> rw [ih _ (by simp only [hi1, yE, List.map_cons, List.map_nil, eExt, slAll, slsAll, Nat.reduceMul, Nat.reduceBEq, Nat.reduceLT, Nat.reduceLeDiff, memAll, vAll, reduceCtorEq, Nat.reduceEqDiff, Nat.reduceAdd, Nat.reduceLT, Nat.reduceLeDiff, Nat.beq] <;> rfl)]
    · -- list 1
      have e1 := hk (decide (d0 > 0)) (decide (d1 + t > 0))
      have same : swStep keep ⟨p, 1, t⟩ true ⟨d0, d1, sp, ins, out⟩ = ⟨d0, d1 + t, sp, ins, out⟩ := by simp [swStep]
      have diff : swStep keep ⟨p, 1, t⟩ false ⟨d0, d1, sp, ins, out⟩ = ⟨d0, d1 + t, if keep (decide (d0 > 0)) (decide (d1 + t > 0)) && !ins then (p : Int) else sp, keep (decide (d0 > 0)) (decide (d1 + t > 0)), out ++ (if !keep (decide (d0 > 0)) (decide (d1 + t > 0)) && ins then [⟨sp, (p : Int) - sp⟩] else [])⟩ := by simp [swStep]
      rcases hnx with ⟨y, hy, hns, hlt, hix⟩ | ⟨hns, hlt⟩
      · have F2 : (((i + 1 : Nat) : Int) < (L.length : Int)) = True := eq_true hlt
        rw [hns] at ih
        have B := beq_nat y.pos p
        generalize hb : decide (y.pos = p) = b at ih B
        cases b with
        | true =>
          rw [same] at ih
          simp only [fn83_b0, F1, hx, hi1, W0, W1, W2, I0, I1, IN0, IN1, P3, eEnd, index_nat hi, List.getElem?_map, Option.map_some, List.length_map, List.length_cons, List.length_nil, F2, hy, hix, B, slAll, slsAll, Nat.reduceMul, Nat.reduceBEq, Nat.reduceLT, Nat.reduceLeDiff, memAll, vAll, reduceCtorEq, Nat.reduceEqDiff, Nat.reduceAdd, Nat.reduceLT, Nat.reduceLeDiff, Nat.beq]
          rw [ih _ (by simp only [hi1, slAll, slsAll, Nat.reduceMul, Nat.reduceBEq, Nat.reduceLT, Nat.reduceLeDiff, memAll, vAll, reduceCtorEq, Nat.reduceEqDiff, Nat.reduceAdd, Nat.reduceLT, Nat.reduceLeDiff, Nat.beq] <;> rfl)]
        | false =>
          rw [diff] at ih
          generalize keep (decide (d0 > 0)) (decide (d1 + t > 0)) = now at *
          cases now <;> cases ins <;> simp only [Bool.not_true, Bool.not_false, Bool.and_true, Bool.and_false, Bool.and_self, Bool.false_eq_true, if_true, if_false, List.append_nil, yE_app] at ih <;> simp only [fn83_b0, F1, hx, hi1, W0, W1, W2, I0, I1, IN0, IN1, P3, eEnd, index_nat hi, List.getElem?_map, Option.map_some, List.length_map, List.length_cons, List.length_nil, F2, hy, hix, B, e1, slAll, slsAll, Nat.reduceMul, Nat.reduceBEq, Nat.reduceLT, Nat.reduceLeDiff, memAll, vAll, reduceCtorEq, Nat.reduceEqDiff, Nat.reduceAdd, Nat.reduceLT, Nat.reduceLeDiff, Nat.beq] <;> rw [ih _ (by simp only [hi1, yE, List.map_cons, List.map_nil, eExt, slAll, slsAll, Nat.reduceMul, Nat.reduceBEq, Nat.reduceLT, Nat.reduceLeDiff, memAll, vAll, reduceCtorEq, Nat.reduceEqDiff, Nat.reduceAdd, Nat.reduceLT, Nat.reduceLeDiff, Nat.beq] <;> rfl)]
      · have F2 : (((i + 1 : Nat) : Int) < (L.length : Int)) = False := eq_false hlt
        rw [hns, diff] at ih
        generalize keep (decide (d0 > 0)) (decide (d1 + t > 0)) = now at *
        cases now <;> cases ins <;> simp only [Bool.not_true, Bool.not_false, Bool.and_true, Bool.and_false, Bool.and_self, Bool.false_eq_true, if_true, if_false, List.append_nil, yE_app] at ih <;> simp only [fn83_b0, F1, hx, hi1, W0, W1, W2, I0, I1, IN0, IN1, P3, eEnd, index_nat hi, List.getElem?_map, Option.map_some, List.length_map, List.length_cons, List.length_nil, F2, e1, slAll, slsAll, Nat.reduceMul, Nat.reduceBEq, Nat.reduceLT, Nat.reduceLeDiff, memAll, vAll, reduceCtorEq, Nat.reduceEqDiff, Nat.reduceAdd, Nat.reduceLT, Nat.reduceLeDiff, Nat.beq] <;> rw [ih _ (by simp only [hi1, yE, List.map_cons, List.map_nil, eExt, slAll, slsAll, Nat.reduceMul, Nat.reduceBEq, Nat.reduceLT, Nat.reduceLeDiff, memAll, vAll, reduceCtorEq, Nat.reduceEqDiff, Nat.reduceAdd, Nat.reduceLT, Nat.reduceLeDiff, Nat.beq] <;> rfl)]
  · intro rb
    simp only [fn83_b0, Int.lt_irrefl, slAll, slsAll, Nat.reduceMul, Nat.reduceBEq, Nat.reduceLT, Nat.reduceLeDiff, memAll, vAll, reduceCtorEq, Nat.reduceEqDiff, Nat.reduceAdd, Nat.reduceLT, Nat.reduceLeDiff, Nat.beq]
end Go.Proofs.YtncobemfpammfaaGreatDoor.V

namespace Go.Proofs.YtncobemfpammfaaGreatDoor.V
def inS (l : List Exn) (s : Nat) : Bool := l.any fun e => inE e s
def setOf (keep : Bool → Bool → Bool) (a b : List Exn) : List Exn := ext (fun s => keep (inS a s) (inS b s)) 4096
theorem two_mem {α : Type} {P : α → Prop} {a b : α} (ha : P a) (hb : P b) : ∀ l ∈ [a, b], P l := by
  intro l hl
  simp only [List.mem_cons, List.not_mem_nil, or_false] at hl
  rcases hl with rfl | rfl
  · exact ha
  · exact hb
theorem dep_perm {i s : Nat} {l m : List End} (h : l.Perm m) : dep i s l = dep i s m := by
  induction h with
  | nil => rfl
  | cons x _ ih => simp only [dep, ih]
  | swap x y l => simp only [dep]; omega
  | trans _ _ h1 h2 => exact h1.trans h2
theorem tot_perm {i : Nat} {l m : List End} (h : l.Perm m) : tot i l = tot i m := by
  induction h with
  | nil => rfl
  | cons x _ ih => simp only [tot, ih]
  | swap x y l => simp only [tot]; omega
  | trans _ _ h1 h2 => exact h1.trans h2
theorem rawOf_cons (i : Nat) (e : Exn) (l : List Exn) : rawOf i (e :: l) = (if (wX e).2.2 then [⟨(wX e).1.toNat, i, 1⟩, ⟨(wX e).2.1.toNat, i, -1⟩] else []) ++ rawOf i l := by simp [rawOf]
theorem rawOf_mem {i : Nat} : ∀ {l : List Exn} {x : End}, x ∈ rawOf i l → ((x.step = 1 ∨ x.step = -1) ∧ x.pos ≤ 4096) ∧ x.list = i
  | [], x, h => by simp [rawOf] at h
  | e :: l, x, h => by
    rw [rawOf_cons] at h
    rcases List.mem_append.1 h with h | h
    · cases hw : (wX e).2.2 with
      | false => rw [hw] at h; simp at h
      | true =>
        obtain ⟨n, m, hnm, h1, h2, -⟩ := wX_true hw
        rw [hnm] at h
        simp only [if_true, Int.toNat_natCast, List.mem_cons, List.not_mem_nil, or_false] at h
        rcases h with rfl | rfl
        · exact ⟨⟨.inl rfl, by simp only; omega⟩, rfl⟩
        · exact ⟨⟨.inr rfl, h2⟩, rfl⟩
    · exact rawOf_mem h
theorem tot_raw {i j : Nat} : ∀ l : List Exn, tot j (rawOf i l) = 0
  | [] => rfl
  | e :: l => by
    rw [rawOf_cons, tot_app, tot_raw l]
    split
    · simp only [tot]; split <;> omega
    · rfl
theorem dep_other {i j s : Nat} (h : i ≠ j) : ∀ l : List Exn, dep j s (rawOf i l) = 0
  | [] => rfl
  | e :: l => by
    rw [rawOf_cons, dep_app, dep_other h l]
    split
    · simp [dep, h]
    · rfl
theorem dep_raw {i s : Nat} (hs : s < 4096) : ∀ l : List Exn, 0 ≤ dep i s (rawOf i l) ∧ (dep i s (rawOf i l) > 0 ↔ inS l s = true)
  | [] => by simp [rawOf, dep, inS]
  | e :: l => by
    obtain ⟨h1, h2⟩ := dep_raw (i := i) hs l
    rw [rawOf_cons, dep_app]
    have h3 : inS (e :: l) s = (inE e s || inS l s) := rfl
    rw [h3]
    cases hw : (wX e).2.2 with
    | false =>
      rw [wX_false hw hs]
      simp only [Bool.false_eq_true, if_false, dep, Int.zero_add, Bool.false_or]
      exact ⟨h1, h2⟩
    | true =>
      obtain ⟨n, m, hnm, g1, g2, g3⟩ := wX_true hw
      have g4 := g3 s hs
      rw [hnm]
      simp only [if_true, Int.toNat_natCast, dep, true_and]
      cases hin : inE e s with
      | false =>
        rw [Bool.false_or, ← h2]
        have : ¬ (n ≤ s ∧ s < m) := fun h => by rw [g4.2 h] at hin; cases hin
        split <;> split <;> omega
      | true =>
        obtain ⟨k1, k2⟩ := g4.1 hin
        rw [if_pos k1, if_neg (by omega)]
        simp only [Bool.true_or, iff_true]
        omega
theorem asc_of : ∀ {l : List End}, (∀ i j : Nat, i < j → j < l.length → ¬ l[j]!.pos < l[i]!.pos) → Asc l
  | [], _ => trivial
  | [x], _ => trivial
  | x :: y :: l, h => by
    refine ⟨?_, asc_of fun i j hij hj => ?_⟩
    · have := h 0 1 (by omega) (by simp)
      simp at this
      omega
    · have := h (i + 1) (j + 1) (by omega) (by simp at hj ⊢; omega)
      simpa using this
theorem sweep_set {keep : Bool → Bool → Bool} (hk : keep false false = false) (a b : List Exn) : swGo keep (endsOf [a, b]) 0 0 0 false = setOf keep a b := by
  obtain ⟨h1, h2, h3⟩ := sortE_perm (rawFrom 0 [a, b])
  have hr : rawFrom 0 [a, b] = rawOf 0 a ++ rawOf 1 b := by simp [rawFrom]
  have hmem : ∀ x ∈ endsOf [a, b], x.pos ≤ 4096 := fun x hx => by
    have := h1.mem_iff.1 hx
    rw [hr] at this
    rcases List.mem_append.1 this with q | q
    · exact (rawOf_mem q).1.2
    · exact (rawOf_mem q).1.2
  have ht : ∀ j, tot j (endsOf [a, b]) = 0 := fun j => by
    unfold endsOf
    rw [tot_perm h1, hr, tot_app, tot_raw, tot_raw]; rfl
  have hasc : Asc (endsOf [a, b]) := asc_of fun i j hij hj => h3 i j hij (by unfold endsOf at hj; omega)
  rw [sweep_ok hk hasc hmem (ht 0) (ht 1)]
  unfold setOf
  apply ext_congr
  intro s hs
  unfold keepOf endsOf
  rw [dep_perm h1, dep_perm h1, hr, dep_app, dep_app, dep_other (i := 1) (j := 0) (by decide), dep_other (i := 0) (j := 1) (by decide), Int.add_zero, Int.zero_add]
  have e1 := (dep_raw (i := 0) hs a).2
  have e2 := (dep_raw (i := 1) hs b).2
  have f1 : decide (dep 0 s (rawOf 0 a) > 0) = inS a s := by
    cases h : inS a s
    · exact decide_eq_false fun q => by rw [e1.1 q] at h; cases h
    · exact decide_eq_true (e1.2 h)
  have f2 : decide (dep 1 s (rawOf 1 b) > 0) = inS b s := by
    cases h : inS b s
    · exact decide_eq_false fun q => by rw [e2.1 q] at h; cases h
    · exact decide_eq_true (e2.2 h)
  rw [f1, f2]
set_option maxRecDepth 20000 in
theorem iter83 {keep : Bool → Bool → Bool} (h0 : keep false false = false) {kf : Nat} (hk : ∀ p q, cal env kf [.bool p, .bool q] = some [(.bool (keep p q), false)]) {a b : List Exn} (ha : okEs a) (hb : okEs b) (la : a.length ≤ 10000) (lb : b.length ≤ 10000) :
    iter env 83 [.iptr [.list 2 (a.map eExt)] 0, .iptr [.list 2 (b.map eExt)] 0, .iptr [.func kf []] 0] none = some (yE (setOf keep a b)) := by
  have hlim : lim = 1073741824 := rfl
  obtain ⟨h1, h2, h3⟩ := sortE_perm (rawFrom 0 [a, b])
  have hr : rawFrom 0 [a, b] = rawOf 0 a ++ rawOf 1 b := by simp [rawFrom]
  have hp := rawFrom_len (n := 10000) [a, b] 0 (two_mem la lb)
  have e1 := cal84 (ls := [a, b]) (two_mem ha hb) (two_mem la lb) (by simp) h2
  have hE : (endsOf [a, b]).length ≤ 1000000 := by unfold endsOf; rw [h2]; simp at hp; omega
  have hm : ∀ x ∈ endsOf [a, b], ((x.step = 1 ∨ x.step = -1) ∧ x.pos ≤ 4096) ∧ x.list < 2 := fun x hx => by
    have := h1.mem_iff.1 hx
    rw [hr] at this
    rcases List.mem_append.1 this with q | q
    · have := rawOf_mem q; exact ⟨this.1, by omega⟩
    · have := rawOf_mem q; exact ⟨this.1, by omega⟩
  have hres := (swAt_end keep (endsOf [a, b])).trans (sweep_set h0 a b)
  simp only [List.map_cons, List.map_nil, eExts] at e1
  have L2 : (2 ≤ lim) = True := eq_true (by omega)
  rw [iter_code env83 rfl rfl]
  have hy : ystart 80 [.iptr [.list 2 (a.map eExt)] 0, .iptr [.list 2 (b.map eExt)] 0, .iptr [.func kf []] 0] none = ⟨sl 80 [(0, .yld), (1, .pv (.iptr [.list 2 (a.map eExt)] 0)), (2, .pv (.iptr [.list 2 (b.map eExt)] 0)), (3, .pv (.iptr [.func kf []] 0))], [], [], some none⟩ := rfl
  simp only [fn83]
  rw [hy]
  simp only [e1, L2, List.length_map, slAll, slsAll, Nat.reduceMul, Nat.reduceBEq, Nat.reduceLT, Nat.reduceLeDiff, memAll, vAll, reduceCtorEq, Nat.reduceEqDiff, Nat.reduceAdd, Nat.reduceLT, Nat.reduceLeDiff, Nat.beq]
  rw [loop83 hk hm hE (by simp only [slAll, slsAll, Nat.reduceMul, Nat.reduceBEq, Nat.reduceLT, Nat.reduceLeDiff, memAll, vAll, reduceCtorEq, Nat.reduceEqDiff, Nat.reduceAdd, Nat.reduceLT, Nat.reduceLeDiff, Nat.beq] <;> rfl)]
  rw [hres]
  rfl
theorem cal82 {g : Nat} {caps : List PV} {l : List Exn} (hi : iter env g caps none = some (yE l)) (hl : l.length ≤ 1000000) : cal env 82 [.nils 2, .func g caps] = some [(.list 2 (l.map eExt), true)] := by
  have hlim : lim = 1073741824 := rfl
  rw [cal_code env82 rfl]; simp only [fn82]; simp only [start, z_map_cons, z_map_nil, z_len_cons, z_len_nil, z_repl_zero, z_repl_succ, z_cons_app, z_nil_app, Nat.reduceAdd, Nat.reduceSub]
  simp only [ memAll, vAll, reduceCtorEq, Nat.reduceEqDiff, Nat.reduceAdd, Nat.reduceLT, Nat.reduceLeDiff, Nat.beq]
  rw [rng_idx (env := env) (fun j => [⟨false, [.row 2 ((l.take j).map eExt)]⟩]) (xs := yE l) rfl hi rfl ?_]
  · simp only [yE, List.length_map, List.take_length, vRng, memAll, vAll, reduceCtorEq, Nat.reduceEqDiff, Nat.reduceAdd, Nat.reduceLT, Nat.reduceLeDiff, Nat.beq]
  · intro j x hx sl0
    simp only [yE, List.getElem?_map, Option.map_eq_some_iff] at hx
    obtain ⟨e, he, rfl⟩ := hx
    have hj := (List.getElem?_eq_some_iff.1 he).1
    have F3 : ((l.take j).length + 1 ≤ lim) = True := eq_true (by rw [List.length_take]; omega)
    have ht : l.take (j + 1) = l.take j ++ [e] := by rw [List.take_add_one, he]; rfl
    rw [ht]
    refine ⟨?_, ?_⟩
    rotate_left
    · simp only [fn82_b0, fn82_b1, F3, eExt, List.map_append, List.map_cons, List.map_nil, vRng, memAll, vAll, reduceCtorEq, Nat.reduceEqDiff, Nat.reduceAdd, Nat.reduceLT, Nat.reduceLeDiff, Nat.beq]
      rfl
theorem cal65 {g : Nat} {caps : List PV} {l : List Exn} (hi : iter env g caps none = some (yE l)) (hl : l.length ≤ 1000000) : cal env 65 [.func g caps] = some [(.list 2 (l.map eExt), true)] := by
  have e1 := cal82 hi hl
  rw [cal_code env65 rfl]; simp only [fn65]; simp only [start, z_map_cons, z_map_nil, z_len_cons, z_len_nil, z_repl_zero, z_repl_succ, z_cons_app, z_nil_app, Nat.reduceAdd, Nat.reduceSub]
  simp only [e1, memAll, vAll, reduceCtorEq, Nat.reduceEqDiff, Nat.reduceAdd, Nat.reduceLT, Nat.reduceLeDiff, Nat.beq]
end Go.Proofs.YtncobemfpammfaaGreatDoor.V

namespace Go.Proofs.YtncobemfpammfaaGreatDoor.V
def orB (p q : Bool) : Bool := p || q
def andB (p q : Bool) : Bool := p && q
theorem addAt_len (l : List Exn) (i : Nat) : (addAt l i).length ≤ l.length + 1 := by
  rcases snoc_cases l with rfl | ⟨p, x, rfl⟩
  · simp [addAt]
  · rw [addAt_snoc]; split <;> simp
theorem ext_len (p : Nat → Bool) : ∀ n, (ext p n).length ≤ n
  | 0 => Nat.le_refl _
  | n + 1 => by
    rw [ext_succ]
    have := ext_len p n
    have := addAt_len (ext p n) n
    split <;> omega
theorem setOf_len (keep : Bool → Bool → Bool) (a b : List Exn) : (setOf keep a b).length ≤ 4096 := ext_len _ _
theorem cal66 {a b : List PV} {kf : Nat} : cal env 66 [.list 2 a, .list 2 b, .func kf []] = some [(.func 83 [.iptr [.list 2 a] 0, .iptr [.list 2 b] 0, .iptr [.func kf []] 0], false)] := by
  rw [cal_code env66 rfl]; simp only [fn66, slAll, Nat.reduceBEq, Nat.reduceLeDiff, Nat.reduceAdd, List.length_cons, List.length_nil]
  simp only [ slAll, slsAll, Nat.reduceMul, Nat.reduceBEq, Nat.reduceLT, Nat.reduceLeDiff, memAll, vAll, reduceCtorEq, Nat.reduceEqDiff, Nat.reduceAdd, Nat.reduceLT, Nat.reduceLeDiff, Nat.beq]
theorem cal85 (p q : Bool) : cal env 85 [.bool p, .bool q] = some [(.bool (orB p q), false)] := by
  cases p <;> cases q <;> (rw [cal_code env85 rfl]; simp only [fn85, slAll, Nat.reduceBEq, Nat.reduceLeDiff, Nat.reduceAdd, List.length_cons, List.length_nil]; simp only [ slAll, slsAll, Nat.reduceMul, Nat.reduceBEq, Nat.reduceLT, Nat.reduceLeDiff, memAll, vAll, reduceCtorEq, Nat.reduceEqDiff, Nat.reduceAdd, Nat.reduceLT, Nat.reduceLeDiff, Nat.beq] <;> rfl)
theorem cal67 (p q : Bool) : cal env 67 [.bool p, .bool q] = some [(.bool (andB p q), false)] := by
  cases p <;> cases q <;> (rw [cal_code env67 rfl]; simp only [fn67, slAll, Nat.reduceBEq, Nat.reduceLeDiff, Nat.reduceAdd, List.length_cons, List.length_nil]; simp only [ slAll, slsAll, Nat.reduceMul, Nat.reduceBEq, Nat.reduceLT, Nat.reduceLeDiff, memAll, vAll, reduceCtorEq, Nat.reduceEqDiff, Nat.reduceAdd, Nat.reduceLT, Nat.reduceLeDiff, Nat.beq] <;> rfl)
theorem cal69 {a b : List Exn} (ha : okEs a) (hb : okEs b) (la : a.length ≤ 10000) (lb : b.length ≤ 10000) : cal env 69 [.list 2 (a.map eExt), .list 2 (b.map eExt)] = some [(.list 2 ((setOf orB a b).map eExt), true)] := by
  have e1 := cal66 (a := a.map eExt) (b := b.map eExt) (kf := 85)
  have hi := iter83 (keep := orB) rfl (kf := 85) (fun p q => cal85 p q) ha hb la lb
  have hlen := setOf_len orB a b
  have e2 := cal65 hi (by omega)
  rw [cal_code env69 rfl]; simp only [fn69, slAll, Nat.reduceBEq, Nat.reduceLeDiff, Nat.reduceAdd, List.length_cons, List.length_nil]
  simp only [e1, e2, slAll, slsAll, Nat.reduceMul, Nat.reduceBEq, Nat.reduceLT, Nat.reduceLeDiff, memAll, vAll, reduceCtorEq, Nat.reduceEqDiff, Nat.reduceAdd, Nat.reduceLT, Nat.reduceLeDiff, Nat.beq]
--+
theorem cal37 {a b : List Exn} (ha : okEs a) (hb : okEs b) (la : a.length ≤ 10000) (lb : b.length ≤ 10000) : cal env 37 [.list 2 (a.map eExt), .list 2 (b.map eExt)] = some [(.list 2 ((setOf andB a b).map eExt), true)] := by
  have e1 := cal66 (a := a.map eExt) (b := b.map eExt) (kf := 67)
  have hi := iter83 (keep := andB) rfl (kf := 67) (fun p q => cal67 p q) ha hb la lb
  have hlen := setOf_len andB a b
  have e2 := cal65 hi (by omega)
  rw [cal_code env37 rfl]; simp only [fn37, slAll, Nat.reduceBEq, Nat.reduceLeDiff, Nat.reduceAdd, List.length_cons, List.length_nil]
  simp only [e1, e2, slAll, slsAll, Nat.reduceMul, Nat.reduceBEq, Nat.reduceLT, Nat.reduceLeDiff, memAll, vAll, reduceCtorEq, Nat.reduceEqDiff, Nat.reduceAdd, Nat.reduceLT, Nat.reduceLeDiff, Nat.beq]
theorem okEs_nil : okEs [] := fun x hx => by cases hx
def orS (l : List Exn) : List Exn := setOf orB l []
def cntE (l : List Exn) : Int := (l.map fun x => x.count).sum
theorem cntE_snoc (l : List Exn) (x : Exn) : cntE (l ++ [x]) = cntE l + x.count := by simp [cntE]
theorem ext_in (p : Nat → Bool) (n : Nat) : (∀ x ∈ ext p n, 0 ≤ x.start ∧ 1 ≤ x.count ∧ x.start + x.count ≤ (n : Int)) := by
  induction n with
  | zero => intro x hx; cases hx
  | succ n ih =>
    rw [ext_succ]
    split
    · rcases snoc_cases (ext p n) with e | ⟨pre, y, e⟩
      · rw [e]
        intro x hx
        have : addAt [] n = [⟨(n : Int), 1⟩] := rfl
        rw [this] at hx
        simp only [List.mem_singleton] at hx
        subst hx
        simp only; omega
      · rw [e] at ih ⊢
        intro x hx
        rw [addAt_snoc] at hx
        split at hx
        · rcases List.mem_append.1 hx with h | h
          · have := ih x (by simp [h]); omega
          · simp only [List.mem_singleton] at h
            have := ih y (by simp)
            subst h; simp only; omega
        · rcases List.mem_append.1 hx with h | h
          · have := ih x h; omega
          · simp only [List.mem_singleton] at h
            subst h; simp only; omega
    · intro x hx; have := ih x hx; omega
theorem ext_cnt (p : Nat → Bool) : ∀ n, cntE (ext p n) = (((List.range n).filter p).length : Int)
  | 0 => rfl
  | n + 1 => by
    have ih := ext_cnt p n
    rw [ext_succ, List.range_succ, List.filter_append, List.length_append]
    cases h : p n with
    | false => rw [List.filter_cons_of_neg (by simp [h])]; simpa using ih
    | true =>
      rw [List.filter_cons_of_pos h, List.filter_nil, if_pos rfl]
      have : cntE (addAt (ext p n) n) = cntE (ext p n) + 1 := by
        rcases snoc_cases (ext p n) with e | ⟨pre, y, e⟩
        · rw [e]; rfl
        · rw [e, addAt_snoc]
          split
          · rw [cntE_snoc, cntE_snoc]; simp only; omega
          · rw [cntE_snoc]
      rw [this, ih]; simp
theorem take_cnt {l : List Exn} (h : ∀ x ∈ l, 0 ≤ x.count ∧ x.count ≤ 4096) : ∀ i, 0 ≤ cntE (l.take i) ∧ cntE (l.take i) ≤ 4096 * (l.take i).length := by
  intro i
  have : ∀ m : List Exn, (∀ x ∈ m, 0 ≤ x.count ∧ x.count ≤ 4096) → 0 ≤ cntE m ∧ cntE m ≤ 4096 * m.length := by
    intro m
    induction m with
    | nil => intro _; simp [cntE]
    | cons x m ih =>
      intro hm
      have h1 := hm x (by simp)
      have h2 := ih fun y hy => hm y (by simp [hy])
      have : cntE (x :: m) = x.count + cntE m := by simp [cntE]
      rw [this, List.length_cons]
      omega
  exact this _ fun x hx => h x (List.mem_of_mem_take hx)
theorem loop44 {l : List Exn} (hl : l.length ≤ 10000) (hc : ∀ x ∈ l, 0 ≤ x.count ∧ x.count ≤ 4096) {st : St} (h : st.head [3, 7, 8, 9] st.boxes.length = some ⟨sl 19 [(3, .pv (.int .i64 (cntE (l.take ((0 : Nat)))))), (7, .row 2 (l.map eExt)), (8, .pv (.int .i64 l.length)), (9, .pv (.int .i64 (0 : Nat)))], [], [], none⟩) :
   den env fn44_l1 st = some (.normal, ⟨sl 19 [(2, .any), (3, .pv (.int .i64 (cntE l)))], [], [], none⟩) := by
  unfold fn44_l1
  refine clean_up (env := env) (l.length) (fun i => ⟨sl 19 [(3, .pv (.int .i64 (cntE (l.take (i))))), (7, .row 2 (l.map eExt)), (8, .pv (.int .i64 l.length)), (9, .pv (.int .i64 i))], [], [], none⟩) (fun i => some (.normal, ⟨sl 19 [(2, .any), (3, .pv (.int .i64 (cntE l)))], [], [], none⟩)) h (fun _ => rfl) (fun _ => by simp only [slAll, slsAll, Nat.reduceMul, Nat.reduceBEq, Nat.reduceLT, Nat.reduceLeDiff, Nat.reduceAdd, decide_true, Bool.and_self, Bool.true_and]) ?_ ?_
  · intro i rb hi ih

    have hlim : lim = 1073741824 := rfl
    have hi1 := i64_next hi (by omega)
    have F1 : ((i : Int) < (l.length : Int)) = True := eq_true (by omega)
    have hx : l[i]? = some l[i] := List.getElem?_eq_getElem hi
    have ht := take_snoc1 hi
    obtain ⟨t1, t2⟩ := take_cnt hc i
    have hcx := hc _ (List.getElem_mem hi)
    have hlt : (l.take i).length ≤ l.length := by rw [List.length_take]; omega
    generalize l[i] = x at *
    have P2 : part [PV.int .i64 x.start, .int .i64 x.count] 0 (some 2) = some (.agg [.int .i64 x.start, .int .i64 x.count]) := rfl
    have W : IntKind.i64.wrap (cntE (l.take i) + x.count) = cntE (l.take i) + x.count := i64_fits (by omega)
    simp only [fn44_b0, F1, hx, eExt, P2, W, index_nat hi, List.getElem?_map, Option.map_some, List.length_map, slAll, slsAll, Nat.reduceMul, Nat.reduceBEq, Nat.reduceLT, Nat.reduceLeDiff, memAll, vAll, reduceCtorEq, Nat.reduceEqDiff, Nat.reduceAdd, Nat.reduceLT, Nat.reduceLeDiff, Nat.beq]
    rw [ih _ (by simp only [hi1, ht, cntE_snoc, slAll, slsAll, Nat.reduceMul, Nat.reduceBEq, Nat.reduceLT, Nat.reduceLeDiff, memAll, vAll, reduceCtorEq, Nat.reduceEqDiff, Nat.reduceAdd, Nat.reduceLT, Nat.reduceLeDiff, Nat.beq] <;> rfl)]
  · intro rb

    simp only [fn44_b0, Int.lt_irrefl, List.length_map, List.take_length, slAll, slsAll, Nat.reduceMul, Nat.reduceBEq, Nat.reduceLT, Nat.reduceLeDiff, memAll, vAll, reduceCtorEq, Nat.reduceEqDiff, Nat.reduceAdd, Nat.reduceLT, Nat.reduceLeDiff, Nat.beq]

theorem cal44 {l : List Exn} (ho : okEs l) (hl : l.length ≤ 10000) : cal env 44 [.list 2 (l.map eExt)] = some [(.int .i64 (cntE (orS l)), false)] := by
  have e1 := cal69 ho okEs_nil hl (by simp)
  simp only [List.map_nil] at e1
  have h1 := setOf_len orB l []
  have h2 := ext_in (fun s => orB (inS l s) (inS [] s)) 4096
  unfold orS
  have hc : ∀ x ∈ setOf orB l [], 0 ≤ x.count ∧ x.count ≤ 4096 := fun x hx => by have := h2 x hx; omega
  generalize setOf orB l [] = r at *
  rw [cal_code env44 rfl]; simp only [fn44, slAll, Nat.reduceBEq, Nat.reduceLeDiff, Nat.reduceAdd, List.length_cons, List.length_nil]
  simp only [e1, List.length_map, slAll, slsAll, Nat.reduceMul, Nat.reduceBEq, Nat.reduceLT, Nat.reduceLeDiff, memAll, vAll, reduceCtorEq, Nat.reduceEqDiff, Nat.reduceAdd, Nat.reduceLT, Nat.reduceLeDiff, Nat.beq]
  rw [loop44 (l := r) (by omega) hc (by simp only [List.take_zero, cntE, List.map_nil, List.sum_nil, slAll, slsAll, Nat.reduceMul, Nat.reduceBEq, Nat.reduceLT, Nat.reduceLeDiff, memAll, vAll, reduceCtorEq, Nat.reduceEqDiff, Nat.reduceAdd, Nat.reduceLT, Nat.reduceLeDiff, Nat.beq] <;> rfl)]
  simp only [e1, List.length_map, slAll, slsAll, Nat.reduceMul, Nat.reduceBEq, Nat.reduceLT, Nat.reduceLeDiff, memAll, vAll, reduceCtorEq, Nat.reduceEqDiff, Nat.reduceAdd, Nat.reduceLT, Nat.reduceLeDiff, Nat.beq]
end Go.Proofs.YtncobemfpammfaaGreatDoor.V

namespace Go.Proofs.YtncobemfpammfaaGreatDoor.V
end Go.Proofs.YtncobemfpammfaaGreatDoor.V

namespace Go.Proofs.YtncobemfpammfaaGreatDoor

end Go.Proofs.YtncobemfpammfaaGreatDoor

namespace Go.Proofs.YtncobemfpammfaaGreatDoor.V
def mk (f : Nat → Bool) : List Bool := (List.range 4096).map f
theorem inS_snoc (l : List Exn) (e : Exn) (s : Nat) : inS (l ++ [e]) s = (inS l s || inE e s) := by simp [inS]
end Go.Proofs.YtncobemfpammfaaGreatDoor.V

namespace Go.Proofs.YtncobemfpammfaaGreatDoor.V
end Go.Proofs.YtncobemfpammfaaGreatDoor.V

namespace Go.Proofs.YtncobemfpammfaaGreatDoor.V
--+
theorem loop78 {α : Type} {enc : α → PV} {l : List α} {p : α → Bool} {gf : Nat} {caps : List PV} (hp : ∀ x ∈ l, cal env gf (enc x :: caps) = some [(.bool (p x), false)]) (hs : ∀ x, part (enc x).cells 0 (some 2) = some (enc x)) (hl : l.length ≤ lim)
   {st : St} (h : st.head [0, 1, 7, 8] st.boxes.length = some ⟨[.pv (.list 2 (l.map enc)), .pv (.func gf caps), .any, .any, .any, .any, .any, .pv (.int .i64 l.length), .pv (.int .i64 (0 : Nat)), .any, .any, .any, .any, .any, .any, .any, .any, .any, .any], [], [], none⟩) :
   den env fn78_l1 st = if l.any p then some (.ret, ⟨[.any, .any, .any, .any, .pv (.int .i64 (l.findIdx p)), .any, .any, .any, .any, .any, .any, .any, .any, .any, .any, .any, .any, .any, .any], [], [], none⟩) else some (.normal, ⟨[.any, .any, .any, .any, .any, .any, .any, .any, .any, .any, .any, .any, .any, .any, .any, .any, .any, .any, .any], [], [], none⟩) := by
  unfold fn78_l1
  rw [clean_up l.length (fun i => ⟨[.pv (.list 2 (l.map enc)), .pv (.func gf caps), .any, .any, .any, .any, .any, .pv (.int .i64 l.length), .pv (.int .i64 i), .any, .any, .any, .any, .any, .any, .any, .any, .any, .any], [], [], none⟩)
    (fun i => if (l.drop i).any p then some (.ret, ⟨[.any, .any, .any, .any, .pv (.int .i64 ((i + (l.drop i).findIdx p : Nat) : Int)), .any, .any, .any, .any, .any, .any, .any, .any, .any, .any, .any, .any, .any, .any], [], [], none⟩) else some (.normal, ⟨[.any, .any, .any, .any, .any, .any, .any, .any, .any, .any, .any, .any, .any, .any, .any, .any, .any, .any, .any], [], [], none⟩)) h (fun _ => rfl) (fun _ => rfl) ?_ ?_]
  · simp only [List.drop_zero, Nat.zero_add]
  · intro i rb hi ih
    have hi1 := i64_next hi hl
    have F1 : ((i : Int) < (l.length : Int)) = True := eq_true (by omega)
    simp only [fn78_b0, F1, List.length_map, index_nat hi, List.getElem?_map, List.getElem?_eq_getElem hi, hp _ (List.getElem_mem hi), hs, vAll, reduceCtorEq, Nat.reduceEqDiff, Nat.reduceAdd, Nat.reduceLT, Nat.reduceLeDiff, Nat.beq]
    (try simp only [bcase_bind, bcase_map, tail_bcase]); refine bcase_split (fun hb => ?_) (fun hb => ?_) <;> try simp only [hb,  memAll, vAll, reduceCtorEq, Nat.reduceEqDiff, Nat.reduceAdd, Nat.reduceLT, Nat.reduceLeDiff, Nat.beq]
    · rw [List.drop_eq_getElem_cons hi]
      simp only [List.any_cons, hb, Bool.true_or, if_true, List.findIdx_cons, cond_true, Nat.add_zero]
      rfl
    · rw [ih _ (by simp only [hi1]; rfl), List.drop_eq_getElem_cons hi]
      simp only [List.any_cons, hb, Bool.false_or, List.findIdx_cons, cond_false, Nat.add_assoc, Nat.add_comm 1]
  · intro rb
    simp only [fn78_b0, Int.lt_irrefl, vAll, reduceCtorEq, Nat.reduceEqDiff, Nat.reduceAdd, Nat.reduceLT, Nat.reduceLeDiff, Nat.beq]
    simp only [List.drop_length, List.any_nil, Bool.false_eq_true, if_false]
    rfl
theorem cal78 {α : Type} {enc : α → PV} {l : List α} {p : α → Bool} {gf : Nat} {caps : List PV} (hp : ∀ x ∈ l, cal env gf (enc x :: caps) = some [(.bool (p x), false)]) (hs : ∀ x, part (enc x).cells 0 (some 2) = some (enc x)) (hl : l.length ≤ lim) :
    cal env 78 [.list 2 (l.map enc), .func gf caps] = some [(.int .i64 (idxI p l), false)] := by
  rw [cal_code env78 rfl]; simp only [fn78]; simp only [start, z_map_cons, z_map_nil, z_len_cons, z_len_nil, z_repl_zero, z_repl_succ, z_cons_app, z_nil_app, Nat.reduceAdd, Nat.reduceSub]
  simp only [List.length_map, vAll, reduceCtorEq, Nat.reduceEqDiff, Nat.reduceAdd, Nat.reduceLT, Nat.reduceLeDiff, Nat.beq]
  rw [loop78 hp hs hl]
  rotate_left
  · rfl
  · simp only [idxI]
    split <;> simp only [vAll, reduceCtorEq, Nat.reduceEqDiff, Nat.reduceAdd, Nat.reduceLT, Nat.reduceLeDiff, Nat.beq]
--+
theorem cal55 {α : Type} {enc : α → PV} {l : List α} {p : α → Bool} {gf : Nat} {caps : List PV} (hp : ∀ x ∈ l, cal env gf (enc x :: caps) = some [(.bool (p x), false)]) (hs : ∀ x, part (enc x).cells 0 (some 2) = some (enc x)) (hl : l.length ≤ lim) :
    cal env 55 [.list 2 (l.map enc), .func gf caps] = some [(.bool (l.any p), false)] := by
  rw [cal_code env55 rfl]; simp only [fn55]; simp only [start, z_map_cons, z_map_nil, z_len_cons, z_len_nil, z_repl_zero, z_repl_succ, z_cons_app, z_nil_app, Nat.reduceAdd, Nat.reduceSub]
  simp only [cal78 hp hs hl, idxI_nonneg, vAll, reduceCtorEq, Nat.reduceEqDiff, Nat.reduceAdd, Nat.reduceLT, Nat.reduceLeDiff, Nat.beq]
theorem eqCells_ext (x y : Exn) : eqCells [.int .i64 x.start, .int .i64 x.count] [.int .i64 y.start, .int .i64 y.count] = some (decide (x = y)) := by
  simp only [eqCells, if_true, Option.map_some]
  congr 1
  obtain ⟨a, b⟩ := x
  obtain ⟨c, d⟩ := y
  by_cases h1 : a = c <;> by_cases h2 : b = d <;> simp [h1, h2]
end Go.Proofs.YtncobemfpammfaaGreatDoor.V

namespace Go.Proofs.YtncobemfpammfaaGreatDoor.V
def hasX (l : List Exn) (s : Int) : Bool := decide (0 ≤ s) && (decide (s < 4096) && inS l s.toNat)
def hasE (e : Exn) (s : Int) : Bool := (wX e).2.2 && (decide (s ≥ (wX e).1) && decide (s < (wX e).2.1))
theorem hasE_eq (e : Exn) (s : Int) : hasE e s = (decide (0 ≤ s) && (decide (s < 4096) && inE e s.toNat)) := by
  unfold hasE
  cases hw : (wX e).2.2 with
  | false =>
    rw [Bool.false_and]
    by_cases h1 : 0 ≤ s
    · by_cases h2 : s < 4096
      · rw [wX_false hw (show s.toNat < 4096 by omega)]; simp
      · rw [decide_eq_false h2]; simp
    · rw [decide_eq_false h1]; simp
  | true =>
    obtain ⟨n, m, hnm, g1, g2, g3⟩ := wX_true hw
    rw [hnm, Bool.true_and]
    by_cases h1 : 0 ≤ s
    · by_cases h2 : s < 4096
      · have g4 := g3 s.toNat (by omega)
        rw [decide_eq_true h1, decide_eq_true h2, Bool.true_and, Bool.true_and]
        cases hin : inE e s.toNat with
        | true =>
          obtain ⟨k1, k2⟩ := g4.1 hin
          rw [decide_eq_true (show s ≥ (n : Int) by omega), decide_eq_true (show s < (m : Int) by omega)]; rfl
        | false =>
          cases hq : (decide (s ≥ (n : Int)) && decide (s < (m : Int))) with
          | false => rfl
          | true =>
            simp only [Bool.and_eq_true, decide_eq_true_eq] at hq
            rw [g4.2 ⟨by omega, by omega⟩] at hin; cases hin
      · rw [decide_eq_false h2, decide_eq_false (show ¬ s < (m : Int) by omega)]; simp
    · rw [decide_eq_false h1, decide_eq_false (show ¬ s ≥ (n : Int) by omega)]; simp
theorem hasX_eq (l : List Exn) (s : Int) : l.any (fun e => hasE e s) = hasX l s := by
  unfold hasX inS
  induction l with
  | nil => simp
  | cons e l ih =>
    simp only [List.any_cons, ih, hasE_eq]
    cases decide (0 ≤ s) <;> cases decide (s < 4096) <;> simp
theorem cal56 {e : Exn} {s : Int} (ho : okE e) : cal env 56 [eExt e, .iptr [.int .i64 s] 0] = some [(.bool (hasE e s), false)] := by
  have e1 := cal57 ho
  unfold hasE
  simp only [eExt] at e1 ⊢
  generalize wX e = q at *
  obtain ⟨a, b, c⟩ := q
  cases c
  · rw [cal_code env56 rfl]; simp only [fn56, slAll, Nat.reduceBEq, Nat.reduceLeDiff, Nat.reduceAdd, List.length_cons, List.length_nil]
    simp only [e1, List.length_cons, List.length_nil, slAll, slsAll, Nat.reduceMul, Nat.reduceBEq, Nat.reduceLT, Nat.reduceLeDiff, memAll, vAll, reduceCtorEq, Nat.reduceEqDiff, Nat.reduceAdd, Nat.reduceLT, Nat.reduceLeDiff, Nat.beq]
  · by_cases h1 : s ≥ a
    · have h1 : (s ≥ a) = True := eq_true h1
      rw [cal_code env56 rfl]; simp only [fn56, slAll, Nat.reduceBEq, Nat.reduceLeDiff, Nat.reduceAdd, List.length_cons, List.length_nil]
      simp only [e1, h1, List.length_cons, List.length_nil, slAll, slsAll, Nat.reduceMul, Nat.reduceBEq, Nat.reduceLT, Nat.reduceLeDiff, memAll, vAll, reduceCtorEq, Nat.reduceEqDiff, Nat.reduceAdd, Nat.reduceLT, Nat.reduceLeDiff, Nat.beq]
    · have h1 : (s ≥ a) = False := eq_false h1
      rw [cal_code env56 rfl]; simp only [fn56, slAll, Nat.reduceBEq, Nat.reduceLeDiff, Nat.reduceAdd, List.length_cons, List.length_nil]
      simp only [e1, h1, List.length_cons, List.length_nil, slAll, slsAll, Nat.reduceMul, Nat.reduceBEq, Nat.reduceLT, Nat.reduceLeDiff, memAll, vAll, reduceCtorEq, Nat.reduceEqDiff, Nat.reduceAdd, Nat.reduceLT, Nat.reduceLeDiff, Nat.beq]
theorem cal29 {l : List Exn} {s : Int} (ho : okEs l) (hl : l.length ≤ 10000) : cal env 29 [.list 2 (l.map eExt), .int .i64 s] = some [(.bool (hasX l s), false)] := by
  have e1 := cal55 (enc := eExt) (l := l) (p := fun e => hasE e s) (gf := 56) (caps := [.iptr [.int .i64 s] 0]) (fun x hx => cal56 (ho x hx)) (fun _ => rfl) (by unfold lim; omega)
  rw [hasX_eq] at e1
  rw [cal_code env29 rfl]; simp only [fn29, slAll, Nat.reduceBEq, Nat.reduceLeDiff, Nat.reduceAdd, List.length_cons, List.length_nil]
  simp only [e1, slAll, slsAll, Nat.reduceMul, Nat.reduceBEq, Nat.reduceLT, Nat.reduceLeDiff, memAll, vAll, reduceCtorEq, Nat.reduceEqDiff, Nat.reduceAdd, Nat.reduceLT, Nat.reduceLeDiff, Nat.beq]
end Go.Proofs.YtncobemfpammfaaGreatDoor.V

namespace Go.Proofs.YtncobemfpammfaaGreatDoor.V
end Go.Proofs.YtncobemfpammfaaGreatDoor.V

namespace Go.Proofs.YtncobemfpammfaaGreatDoor.V
def chkGo (size : Int) : Int → List Exn → Int
  | _, [] => 0
  | nx, e :: l => if e.count ≤ 0 then 1 else if e.start < 0 ∨ e.count > size - e.start then 2 else if e.start < nx then 3 else chkGo size (e.start + e.count + 1) l
def chkX (l : List Exn) (size : Int) : Int := if size < 0 ∨ 4096 < size then 2 else chkGo size 0 l
def nxt (l : List Exn) : Nat → Int
  | 0 => 0
  | i + 1 => match l[i]? with
    | some e => e.start + e.count + 1
    | none => 0
theorem nxt_succ {l : List Exn} {i : Nat} {e : Exn} (h : l[i]? = some e) : nxt l (i + 1) = e.start + e.count + 1 := by
  show (match l[i]? with
    | some e => e.start + e.count + 1
    | none => 0) = _
  rw [h]
set_option maxRecDepth 20000 in
theorem loop60 {l : List Exn} {size : Int} (hs : 0 ≤ size ∧ size ≤ 4096) (ho : okEs l) (hl : l.length ≤ 10000) {st : St} (h : st.head [0, 1, 5, 14, 15, 16] st.boxes.length = some ⟨sl 49 [(0, .pv (.list 2 (l.map eExt))), (1, .pv (.int .i64 size)), (5, .pv (.int .i64 (nxt l ((0 : Nat))))), (14, .pv (.list 2 (l.map eExt))), (15, .pv (.int .i64 l.length)), (16, .pv (.int .i64 (0 : Nat)))], [], [], none⟩) :
   den env fn60_l1 st = if chkGo size (nxt l ((0 : Nat))) (l.drop ((0 : Nat))) = 0 then some (.normal, ⟨sl 49 [(4, .any)], [], [], none⟩) else some (.ret, ⟨sl 49 [(4, .pv (.int .i64 (chkGo size (nxt l ((0 : Nat))) (l.drop ((0 : Nat))))))], [], [], none⟩) := by
  unfold fn60_l1
  refine clean_up (env := env) (l.length) (fun i => ⟨sl 49 [(0, .pv (.list 2 (l.map eExt))), (1, .pv (.int .i64 size)), (5, .pv (.int .i64 (nxt l (i)))), (14, .pv (.list 2 (l.map eExt))), (15, .pv (.int .i64 l.length)), (16, .pv (.int .i64 i))], [], [], none⟩) (fun i => if chkGo size (nxt l (i)) (l.drop (i)) = 0 then some (.normal, ⟨sl 49 [(4, .any)], [], [], none⟩) else some (.ret, ⟨sl 49 [(4, .pv (.int .i64 (chkGo size (nxt l (i)) (l.drop (i)))))], [], [], none⟩)) h (fun _ => rfl) (fun _ => by simp only [slAll, slsAll, Nat.reduceMul, Nat.reduceBEq, Nat.reduceLT, Nat.reduceLeDiff, Nat.reduceAdd, decide_true, Bool.and_self, Bool.true_and]) ?_ ?_
  · intro i rb hi ih

    have hlim : lim = 1073741824 := rfl
    have hi1 := i64_next hi (by omega)
    have F1 : ((i : Int) < (l.length : Int)) = True := eq_true (by omega)
    have hx : l[i]? = some l[i] := List.getElem?_eq_getElem hi
    obtain ⟨⟨o1, o2⟩, o3, o4⟩ := ho _ (List.getElem_mem hi)
    rw [nxt_succ hx] at ih
    rw [List.drop_eq_getElem_cons hi]
    generalize l[i] = x at *
    have P2 : part [PV.int .i64 x.start, .int .i64 x.count] 0 (some 2) = some (.agg [.int .i64 x.start, .int .i64 x.count]) := rfl
    have ch : chkGo size (nxt l i) (x :: l.drop (i + 1)) = if x.count ≤ 0 then 1 else if x.start < 0 ∨ x.count > size - x.start then 2 else if x.start < nxt l i then 3 else chkGo size (x.start + x.count + 1) (l.drop (i + 1)) := rfl
    by_cases c1 : x.count ≤ 0
    · rw [ch, if_pos c1]
      simp only [fn60_b0, F1, hx, eExt, P2, c1, index_nat hi, List.getElem?_map, Option.map_some, List.length_map, slAll, slsAll, Nat.reduceMul, Nat.reduceBEq, Nat.reduceLT, Nat.reduceLeDiff, memAll, vAll, reduceCtorEq, Nat.reduceEqDiff, Nat.reduceAdd, Nat.reduceLT, Nat.reduceLeDiff, Nat.beq]
      rfl
    · by_cases c2 : x.start < 0
      · have hv : chkGo size (nxt l i) (x :: l.drop (i + 1)) = 2 := by rw [ch, if_neg c1, if_pos (.inl c2)]
        rw [hv]
        simp only [fn60_b0, F1, hx, eExt, P2, c1, c2, index_nat hi, List.getElem?_map, Option.map_some, List.length_map, slAll, slsAll, Nat.reduceMul, Nat.reduceBEq, Nat.reduceLT, Nat.reduceLeDiff, memAll, vAll, reduceCtorEq, Nat.reduceEqDiff, Nat.reduceAdd, Nat.reduceLT, Nat.reduceLeDiff, Nat.beq]
        rfl
      · have W1 : IntKind.i64.wrap (size - x.start) = size - x.start := i64_fits (by omega)
        by_cases c3 : x.count > size - x.start
        · have hv : chkGo size (nxt l i) (x :: l.drop (i + 1)) = 2 := by rw [ch, if_neg c1, if_pos (.inr c3)]
          rw [hv]
          have c3' : (x.count > size - x.start) = True := eq_true c3
          simp only [fn60_b0, F1, hx, eExt, P2, c1, c2, c3', W1, index_nat hi, List.getElem?_map, Option.map_some, List.length_map, slAll, slsAll, Nat.reduceMul, Nat.reduceBEq, Nat.reduceLT, Nat.reduceLeDiff, memAll, vAll, reduceCtorEq, Nat.reduceEqDiff, Nat.reduceAdd, Nat.reduceLT, Nat.reduceLeDiff, Nat.beq]
          rfl
        · have c3' : (x.count > size - x.start) = False := eq_false c3
          by_cases c4 : x.start < nxt l i
          · have hv : chkGo size (nxt l i) (x :: l.drop (i + 1)) = 3 := by rw [ch, if_neg c1, if_neg (by omega), if_pos c4]
            rw [hv]
            simp only [fn60_b0, F1, hx, eExt, P2, c1, c2, c3', c4, W1, index_nat hi, List.getElem?_map, Option.map_some, List.length_map, slAll, slsAll, Nat.reduceMul, Nat.reduceBEq, Nat.reduceLT, Nat.reduceLeDiff, memAll, vAll, reduceCtorEq, Nat.reduceEqDiff, Nat.reduceAdd, Nat.reduceLT, Nat.reduceLeDiff, Nat.beq]
            rfl
          · have hv : chkGo size (nxt l i) (x :: l.drop (i + 1)) = chkGo size (x.start + x.count + 1) (l.drop (i + 1)) := by rw [ch, if_neg c1, if_neg (by omega), if_neg c4]
            rw [hv]
            have W2 : IntKind.i64.wrap (x.start + x.count) = x.start + x.count := i64_fits (by omega)
            have W3 : IntKind.i64.wrap (x.start + x.count + 1) = x.start + x.count + 1 := i64_fits (by omega)
            simp only [fn60_b0, F1, hx, eExt, P2, c1, c2, c3', c4, W1, W2, W3, index_nat hi, List.getElem?_map, Option.map_some, List.length_map, slAll, slsAll, Nat.reduceMul, Nat.reduceBEq, Nat.reduceLT, Nat.reduceLeDiff, memAll, vAll, reduceCtorEq, Nat.reduceEqDiff, Nat.reduceAdd, Nat.reduceLT, Nat.reduceLeDiff, Nat.beq]
            have hn : nxt l (i + 1) = x.start + x.count + 1 := nxt_succ hx
            rw [ih _ (by simp only [hi1, hn, slAll, slsAll, Nat.reduceMul, Nat.reduceBEq, Nat.reduceLT, Nat.reduceLeDiff, memAll, vAll, reduceCtorEq, Nat.reduceEqDiff, Nat.reduceAdd, Nat.reduceLT, Nat.reduceLeDiff, Nat.beq] <;> rfl)]
  · intro rb

    simp only [fn60_b0, Int.lt_irrefl, List.length_map, List.drop_length, chkGo, if_true, slAll, slsAll, Nat.reduceMul, Nat.reduceBEq, Nat.reduceLT, Nat.reduceLeDiff, memAll, vAll, reduceCtorEq, Nat.reduceEqDiff, Nat.reduceAdd, Nat.reduceLT, Nat.reduceLeDiff, Nat.beq]

theorem cal60 {l : List Exn} {size : Int} (ho : okEs l) (hl : l.length ≤ 10000) : cal env 60 [.list 2 (l.map eExt), .int .i64 size] = some [(.int .i64 (chkX l size), false)] := by
  unfold chkX
  by_cases c1 : size < 0
  · rw [if_pos (.inl c1)]
    rw [cal_code env60 rfl]; simp only [fn60, slAll, Nat.reduceBEq, Nat.reduceLeDiff, Nat.reduceAdd, List.length_cons, List.length_nil]
    simp only [c1, slAll, slsAll, Nat.reduceMul, Nat.reduceBEq, Nat.reduceLT, Nat.reduceLeDiff, memAll, vAll, reduceCtorEq, Nat.reduceEqDiff, Nat.reduceAdd, Nat.reduceLT, Nat.reduceLeDiff, Nat.beq]
  · by_cases c2 : 4096 < size
    · rw [if_pos (.inr c2)]
      have c2' : (size > 4096) = True := eq_true c2
      rw [cal_code env60 rfl]; simp only [fn60, slAll, Nat.reduceBEq, Nat.reduceLeDiff, Nat.reduceAdd, List.length_cons, List.length_nil]
      simp only [c1, c2', slAll, slsAll, Nat.reduceMul, Nat.reduceBEq, Nat.reduceLT, Nat.reduceLeDiff, memAll, vAll, reduceCtorEq, Nat.reduceEqDiff, Nat.reduceAdd, Nat.reduceLT, Nat.reduceLeDiff, Nat.beq]
    · rw [if_neg (by omega)]
      have c2' : (size > 4096) = False := eq_false c2
      rw [cal_code env60 rfl]; simp only [fn60, slAll, Nat.reduceBEq, Nat.reduceLeDiff, Nat.reduceAdd, List.length_cons, List.length_nil]
      simp only [c1, c2', List.length_map, slAll, slsAll, Nat.reduceMul, Nat.reduceBEq, Nat.reduceLT, Nat.reduceLeDiff, memAll, vAll, reduceCtorEq, Nat.reduceEqDiff, Nat.reduceAdd, Nat.reduceLT, Nat.reduceLeDiff, Nat.beq]
      rw [loop60 (size := size) ⟨by omega, by omega⟩ ho hl (by simp only [nxt, slAll, slsAll, Nat.reduceMul, Nat.reduceBEq, Nat.reduceLT, Nat.reduceLeDiff, memAll, vAll, reduceCtorEq, Nat.reduceEqDiff, Nat.reduceAdd, Nat.reduceLT, Nat.reduceLeDiff, Nat.beq] <;> rfl)]
      rw [List.drop_zero]
      have h0 : nxt l 0 = 0 := rfl
      rw [h0]
      split
      · rename_i h
        rw [h]
        simp only [c1, c2', List.length_map, slAll, slsAll, Nat.reduceMul, Nat.reduceBEq, Nat.reduceLT, Nat.reduceLeDiff, memAll, vAll, reduceCtorEq, Nat.reduceEqDiff, Nat.reduceAdd, Nat.reduceLT, Nat.reduceLeDiff, Nat.beq]
      · simp only [c1, c2', List.length_map, slAll, slsAll, Nat.reduceMul, Nat.reduceBEq, Nat.reduceLT, Nat.reduceLeDiff, memAll, vAll, reduceCtorEq, Nat.reduceEqDiff, Nat.reduceAdd, Nat.reduceLT, Nat.reduceLeDiff, Nat.beq]
end Go.Proofs.YtncobemfpammfaaGreatDoor.V

namespace Go.Proofs.YtncobemfpammfaaGreatDoor.V

def eImg (im : Img) : PV := .list 1 (im.map eSecs)
def pairErr (a b : Img) : Int := if imCheck a ≠ 0 then imCheck a else if imCheck b ≠ 0 then imCheck b else if imSizes a = imSizes b then 0 else 22
def differ (a b : Img) : List (List Exn) := (a.zip b).map fun q => volDiff q.1 q.2
def differOut (a b : Img) : List (List Exn) := if pairErr a b = 0 then differ a b else []
theorem sizes_inj {a b : Img} (h : imSizes a = imSizes b) : a.length = b.length ∧ ∀ i (h1 : i < a.length) (h2 : i < b.length), a[i].length = b[i].length := by
  have hl : a.length = b.length := by simpa [imSizes] using congrArg List.length h
  refine ⟨hl, fun i h1 h2 => ?_⟩
  have := congrArg (fun l => l[i]?) h
  simp only [imSizes, List.getElem?_map, List.getElem?_eq_getElem h1, List.getElem?_eq_getElem h2, Option.map_some, Option.some.injEq] at this
  omega
theorem loop63 {A B : PV} {l : List Img} (hl : l.length ≤ lim) (hi0 : ∀ im ∈ l, im.length ≤ lim) {st : St} (h : st.head [0, 1, 10, 11, 12] st.boxes.length = some ⟨[.pv A, .pv B, .any, .any, .any, .any, .any, .any, .any, .any, .row 1 (l.map eImg), .pv (.int .i64 l.length), .pv (.int .i64 (0 : Nat)), .any, .any, .any, .any, .any, .any, .any, .any, .any, .any, .any, .any, .any, .any, .any], [], [], none⟩) :
   den env fn63_l1 st = match l.find? (fun im => decide (imCheck im ≠ 0)) with | some im => some (.ret, ⟨[.pv A, .pv B, .any, .any, .pv (.int .i64 (imCheck im)), .any, .any, .any, .any, .any, .any, .any, .any, .any, .any, .any, .any, .any, .any, .any, .any, .any, .any, .any, .any, .any, .any, .any], [], [], none⟩) | none => some (.normal, ⟨[.pv A, .pv B, .any, .any, .any, .any, .any, .any, .any, .any, .any, .any, .any, .any, .any, .any, .any, .any, .any, .any, .any, .any, .any, .any, .any, .any, .any, .any], [], [], none⟩) := by
  unfold fn63_l1
  rw [ clean_up (env := env) (l.length) (fun i => ⟨[.pv A, .pv B, .any, .any, .any, .any, .any, .any, .any, .any, .row 1 (l.map eImg), .pv (.int .i64 l.length), .pv (.int .i64 i), .any, .any, .any, .any, .any, .any, .any, .any, .any, .any, .any, .any, .any, .any, .any], [], [], none⟩) (fun i => match (l.drop i).find? (fun im => decide (imCheck im ≠ 0)) with | some im => some (.ret, ⟨[.pv A, .pv B, .any, .any, .pv (.int .i64 (imCheck im)), .any, .any, .any, .any, .any, .any, .any, .any, .any, .any, .any, .any, .any, .any, .any, .any, .any, .any, .any, .any, .any, .any, .any], [], [], none⟩) | none => some (.normal, ⟨[.pv A, .pv B, .any, .any, .any, .any, .any, .any, .any, .any, .any, .any, .any, .any, .any, .any, .any, .any, .any, .any, .any, .any, .any, .any, .any, .any, .any, .any], [], [], none⟩)) h (fun _ => rfl) (fun _ => rfl) ?_ ?_]
  · first | rfl | simp only [List.drop_zero, List.take_zero, List.map_nil, Nat.zero_add, List.nil_append, List.foldl_nil]
  · intro i rb hi ih

    have hi1 := i64_next hi hl
    have F1 : ((i : Int) < (l.length : Int)) = True := eq_true (by omega)
    have e1 := cal19 (hi0 _ (List.getElem_mem hi))
    rw [List.drop_eq_getElem_cons hi, List.find?_cons]
    by_cases hc : imCheck l[i] = 0
    · have F2 : (imCheck l[i] != 0) = false := by simp [hc]
      simp only [fn63_b0, F1, F2, e1, eImg, index_nat hi, List.getElem?_map, List.getElem?_eq_getElem hi, memAll, vAll, reduceCtorEq, Nat.reduceEqDiff, Nat.reduceAdd, Nat.reduceLT, Nat.reduceLeDiff, Nat.beq]
      rw [ih _ (by simp only [hi1]; rfl)]
      simp only [hc, ne_eq, not_true, decide_false]
    · have F2 : (imCheck l[i] != 0) = true := by simp [hc]
      simp only [fn63_b0, F1, F2, e1, eImg, index_nat hi, List.getElem?_map, List.getElem?_eq_getElem hi, memAll, vAll, reduceCtorEq, Nat.reduceEqDiff, Nat.reduceAdd, Nat.reduceLT, Nat.reduceLeDiff, Nat.beq]
      simp only [hc, ne_eq, not_false_eq_true, decide_true]
      rfl
  · intro rb

    simp only [fn63_b0, Int.lt_irrefl,  memAll, vAll, reduceCtorEq, Nat.reduceEqDiff, Nat.reduceAdd, Nat.reduceLT, Nat.reduceLeDiff, Nat.beq]
    rw [List.drop_length]
    rfl

theorem cal63 {a b : Img} (ha : a.length ≤ lim) (hb : b.length ≤ lim) : cal env 63 [.list 1 (a.map eSecs), .list 1 (b.map eSecs)] = some [(.int .i64 (pairErr a b), false)] := by
  have h2 : ∀ im ∈ [a, b], im.length ≤ lim := by simp; exact ⟨ha, hb⟩
  have e1 := cal46 ha
  have e2 := cal46 hb
  have e3 := cal80 (l := imSizes a) (m := imSizes b) (by simpa [imSizes] using ha)
  rw [cal_code env63 rfl]; simp only [fn63]; simp only [start, z_map_cons, z_map_nil, z_len_cons, z_len_nil, z_repl_zero, z_repl_succ, z_cons_app, z_nil_app, Nat.reduceAdd, Nat.reduceSub]
  simp only [e1, e2, e3, memAll, vAll, reduceCtorEq, Nat.reduceEqDiff, Nat.reduceAdd, Nat.reduceLT, Nat.reduceLeDiff, Nat.beq]
  rw [loop63 (l := [a, b]) (by simp [lim]) h2]
  rotate_left
  · rfl
  · simp only [List.find?_cons, List.find?_nil, pairErr]
    by_cases c1 : imCheck a = 0
    · by_cases c2 : imCheck b = 0
      · by_cases c4 : imSizes a = imSizes b
        · have hd := decide_eq_true c4
          simp only [c1, c2, hd, ne_eq, not_true, decide_false, e1, e2, e3, memAll, vAll, reduceCtorEq, Nat.reduceEqDiff, Nat.reduceAdd, Nat.reduceLT, Nat.reduceLeDiff, Nat.beq]
          rw [if_pos c4]
        · have hd := decide_eq_false c4
          simp only [c1, c2, hd, ne_eq, not_true, decide_false, e1, e2, e3, memAll, vAll, reduceCtorEq, Nat.reduceEqDiff, Nat.reduceAdd, Nat.reduceLT, Nat.reduceLeDiff, Nat.beq]
          rw [if_neg c4]
      · simp only [c1, c2, ne_eq, not_true, not_false_eq_true, decide_false, decide_true, if_false, if_true, e1, e2, e3, memAll, vAll, reduceCtorEq, Nat.reduceEqDiff, Nat.reduceAdd, Nat.reduceLT, Nat.reduceLeDiff, Nat.beq]
    · simp only [c1, ne_eq, not_true, not_false_eq_true, decide_false, decide_true, if_false, if_true, e1, e2, e3, memAll, vAll, reduceCtorEq, Nat.reduceEqDiff, Nat.reduceAdd, Nat.reduceLT, Nat.reduceLeDiff, Nat.beq]
theorem loop34 {a b : Img} (hl : a.length ≤ lim) (hr : ∀ v ∈ a, v.length ≤ lim) (hab : a.length = b.length) (hs : ∀ i (h1 : i < a.length) (h2 : i < b.length), a[i].length = b[i].length)
   {st : St} (h : st.head [0, 1, 7, 16, 17, 31] st.boxes.length = some ⟨[.pv (.list 1 (a.map eSecs)), .pv (.list 1 (b.map eSecs)), .any, .any, .any, .any, .any, .row 1 [], .any, .any, .any, .any, .any, .any, .any, .any, .pv (.int .i64 a.length), .pv (.int .i64 (0 : Nat)), .any, .any, .any, .any, .any, .any, .any, .any, .any, .any, .any, .any, .any, .any, .any, .any], [], [], none⟩) :
   den env fn34_l1 st = some (.normal, ⟨[.any, .any, .any, .any, .any, .any, .any, .row 1 ((differ a b).map eExts), .any, .any, .any, .any, .any, .any, .any, .any, .any, .any, .any, .any, .any, .any, .any, .any, .any, .any, .any, .any, .any, .any, .any, .any, .any, .any], [], [], none⟩) := by
  unfold fn34_l1
  have hz : (a.zip b).length = a.length := by simp; omega
  refine clean_up (env := env) a.length (fun i => ⟨[.pv (.list 1 (a.map eSecs)), .pv (.list 1 (b.map eSecs)), .any, .any, .any, .any, .any, .row 1 (((a.zip b).take i).map fun q => eExts (volDiff q.1 q.2)), .any, .any, .any, .any, .any, .any, .any, .any, .pv (.int .i64 a.length), .pv (.int .i64 i), .any, .any, .any, .any, .any, .any, .any, .any, .any, .any, .any, .any, .any, .any, .any, .any], [], [], none⟩) (fun i => some (.normal, ⟨[.any, .any, .any, .any, .any, .any, .any, .row 1 ((differ a b).map eExts), .any, .any, .any, .any, .any, .any, .any, .any, .any, .any, .any, .any, .any, .any, .any, .any, .any, .any, .any, .any, .any, .any, .any, .any, .any, .any], [], [], none⟩)) h (fun _ => rfl) (fun _ => rfl) ?_ ?_
  · intro i rb hi ih
    have hi1 := i64_next hi hl
    have hj : i < b.length := by omega
    have hiz : i < (a.zip b).length := by omega
    have F1 : ((i : Int) < (a.length : Int)) = True := eq_true (by omega)
    have F2 : (((a.zip b).take i).length + 1 ≤ lim) = True := eq_true (by rw [List.length_take]; omega)
    have e1 := cal64 (hr _ (List.getElem_mem hi)) (hs i hi hj)
    simp only [fn34_b0, F1, F2, e1, eSecs, index_nat hi, index_nat hj, List.getElem?_map, List.getElem?_eq_getElem hi, List.getElem?_eq_getElem hj, memAll, vAll, reduceCtorEq, Nat.reduceEqDiff, Nat.reduceAdd, Nat.reduceLT, Nat.reduceLeDiff, Nat.beq]
    rw [ih _ (by simp only [hi1]; rw [← take_map_succ _ hiz, List.getElem_zip]; rfl)]
  · intro rb
    simp only [fn34_b0, Int.lt_irrefl, memAll, vAll, reduceCtorEq, Nat.reduceEqDiff, Nat.reduceAdd, Nat.reduceLT, Nat.reduceLeDiff, Nat.beq]
    rw [← hz, List.take_length]
    simp only [differ, List.map_map]
    rfl
theorem cal34 {a b : Img} (ha : a.length ≤ lim) (hb' : b.length ≤ lim) (hr : ∀ v ∈ a, v.length ≤ lim) : cal env 34 [.list 1 (a.map eSecs), .list 1 (b.map eSecs)] = some [(.list 1 ((differOut a b).map eExts), true), (.int .i64 (pairErr a b), false)] := by
  have e1 := cal63 ha hb'
  unfold differOut
  by_cases c : pairErr a b = 0
  · have hs : imSizes a = imSizes b := by
      unfold pairErr at c
      split at c
      · omega
      · split at c
        · omega
        · split at c
          · assumption
          · omega
    have G1 : (pairErr a b != 0) = false := by simp [c]
    rw [cal_code env34 rfl]; simp only [fn34]; simp only [start, z_map_cons, z_map_nil, z_len_cons, z_len_nil, z_repl_zero, z_repl_succ, z_cons_app, z_nil_app, Nat.reduceAdd, Nat.reduceSub]
    simp only [G1, e1, memAll, vAll, reduceCtorEq, Nat.reduceEqDiff, Nat.reduceAdd, Nat.reduceLT, Nat.reduceLeDiff, Nat.beq]
    rw [loop34 ha hr (sizes_inj hs).1 (sizes_inj hs).2]
    rotate_left
    · rfl
    · simp only [c, memAll, vAll, reduceCtorEq, Nat.reduceEqDiff, Nat.reduceAdd, Nat.reduceLT, Nat.reduceLeDiff, Nat.beq]
  · have G1 : (pairErr a b != 0) = true := by simp [c]
    rw [cal_code env34 rfl]; simp only [fn34]; simp only [start, z_map_cons, z_map_nil, z_len_cons, z_len_nil, z_repl_zero, z_repl_succ, z_cons_app, z_nil_app, Nat.reduceAdd, Nat.reduceSub]
    simp only [G1, e1, memAll, vAll, reduceCtorEq, Nat.reduceEqDiff, Nat.reduceAdd, Nat.reduceLT, Nat.reduceLeDiff, Nat.beq]
    simp only [c, if_false]
    rfl
end Go.Proofs.YtncobemfpammfaaGreatDoor.V

namespace Go.Proofs.YtncobemfpammfaaGreatDoor.V
def eachX {α β : Type} (g : Nat → α → β) (l : List α) : List β := l.mapIdx g
theorem eachX_len {α β : Type} (g : Nat → α → β) (l : List α) : (eachX g l).length = l.length := by simp [eachX]
theorem eachX_get {α β : Type} (g : Nat → α → β) {l : List α} {i : Nat} (h : i < l.length) : (eachX g l)[i]? = some (g i l[i]) := by simp [eachX, h]
theorem eachX_succ {α β γ : Type} (g : Nat → α → β) (f : β → γ) {l : List α} {i : Nat} (h : i < l.length) : ((eachX g l).take i).map f ++ [f (g i l[i])] = ((eachX g l).take (i + 1)).map f := by
  have h2 : i < (eachX g l).length := by rw [eachX_len]; exact h
  rw [List.take_succ, eachX_get g h, List.map_append]; rfl
--+
theorem loop58 {l : List (List Exn)} {g : Nat → List Exn → Bool} {gf : Nat} {caps : List PV} (hp : ∀ i (h : i < l.length), cal env gf (.int .i64 (i : Nat) :: .list 2 (l[i].map eExt) :: caps) = some [(eB (g i l[i]), false)]) (hl : l.length ≤ lim)
   {st : St} (h : st.head [0, 1, 5, 8, 9, 10, 21] st.boxes.length = some ⟨[.pv (.list 1 (l.map eExts)), .pv (.func gf caps), .any, .any, .any, .row 1 [], .any, .any, .pv (.list 1 (l.map eExts)), .pv (.int .i64 l.length), .pv (.int .i64 (0 : Nat)), .any, .any, .any, .any, .any, .any, .any, .any, .any, .any, .any, .any, .any], [], [], none⟩) :
   den env fn58_l1 st = some (.normal, ⟨[.any, .any, .any, .any, .any, .row 1 ((eachX g l).map eB), .any, .any, .any, .any, .any, .any, .any, .any, .any, .any, .any, .any, .any, .any, .any, .any, .any, .any], [], [], none⟩) := by
  unfold fn58_l1
  rw [clean_up l.length (fun i => ⟨[.pv (.list 1 (l.map eExts)), .pv (.func gf caps), .any, .any, .any, .row 1 (((eachX g l).take i).map eB), .any, .any, .pv (.list 1 (l.map eExts)), .pv (.int .i64 l.length), .pv (.int .i64 i), .any, .any, .any, .any, .any, .any, .any, .any, .any, .any, .any, .any, .any], [], [], none⟩)
    (fun i => some (.normal, ⟨[.any, .any, .any, .any, .any, .row 1 ((eachX g l).map eB), .any, .any, .any, .any, .any, .any, .any, .any, .any, .any, .any, .any, .any, .any, .any, .any, .any, .any], [], [], none⟩)) h (fun _ => rfl) (fun _ => rfl) ?_ ?_]
  · intro i rb hi ih
    have hi1 := i64_next hi hl
    have F1 : ((i : Int) < (l.length : Int)) = True := eq_true (by omega)
    have F2 : (((eachX g l).take i).length + 1 ≤ lim) = True := eq_true (by rw [List.length_take, eachX_len]; omega)
    have hpi : cal env gf (.int .i64 (i : Nat) :: .list 2 (l[i].map eExt) :: caps) = some [((PV.bool (g i l[i])), false)] := hp i hi
    simp only [fn58_b0, F1, F2, eExts, index_nat hi, List.getElem?_map, List.getElem?_eq_getElem hi, hpi, memAll, vAll, reduceCtorEq, Nat.reduceEqDiff, Nat.reduceAdd, Nat.reduceLT, Nat.reduceLeDiff, Nat.beq]
    rw [ih _ (by simp only [hi1]; rw [← eachX_succ g eB hi]; rfl)]
  · intro rb
    have hz : (eachX g l).take l.length = eachX g l := List.take_of_length_le (by rw [eachX_len]; exact Nat.le_refl _)
    simp only [fn58_b0, Int.lt_irrefl, hz, vAll, reduceCtorEq, Nat.reduceEqDiff, Nat.reduceAdd, Nat.reduceLT, Nat.reduceLeDiff, Nat.beq]
    rfl
theorem cal58 {l : List (List Exn)} {g : Nat → List Exn → Bool} {gf : Nat} {caps : List PV} (hp : ∀ i (h : i < l.length), cal env gf (.int .i64 (i : Nat) :: .list 2 (l[i].map eExt) :: caps) = some [(eB (g i l[i]), false)]) (hl : l.length ≤ lim) :
    cal env 58 [.list 1 (l.map eExts), .func gf caps] = some [(.list 1 ((eachX g l).map eB), true)] := by
  rw [cal_code env58 rfl]; simp only [fn58]; simp only [start, z_map_cons, z_map_nil, z_len_cons, z_len_nil, z_repl_zero, z_repl_succ, z_cons_app, z_nil_app, Nat.reduceAdd, Nat.reduceSub]
  simp only [List.length_map, memAll, vAll, reduceCtorEq, Nat.reduceEqDiff, Nat.reduceAdd, Nat.reduceLT, Nat.reduceLeDiff, Nat.beq]
  rw [loop58 hp hl]
  rotate_left
  · rfl
  · simp only [memAll, vAll, reduceCtorEq, Nat.reduceEqDiff, Nat.reduceAdd, Nat.reduceLT, Nat.reduceLeDiff, Nat.beq]
--+
theorem loop42 {l : List (List Exn)} {g : Nat → List Exn → Int} {gf : Nat} {caps : List PV} (hp : ∀ i (h : i < l.length), cal env gf (.int .i64 (i : Nat) :: .list 2 (l[i].map eExt) :: caps) = some [(eI (g i l[i]), false)]) (hl : l.length ≤ lim)
   {st : St} (h : st.head [0, 1, 5, 8, 9, 10, 21] st.boxes.length = some ⟨[.pv (.list 1 (l.map eExts)), .pv (.func gf caps), .any, .any, .any, .row 1 [], .any, .any, .pv (.list 1 (l.map eExts)), .pv (.int .i64 l.length), .pv (.int .i64 (0 : Nat)), .any, .any, .any, .any, .any, .any, .any, .any, .any, .any, .any, .any, .any], [], [], none⟩) :
   den env fn42_l1 st = some (.normal, ⟨[.any, .any, .any, .any, .any, .row 1 ((eachX g l).map eI), .any, .any, .any, .any, .any, .any, .any, .any, .any, .any, .any, .any, .any, .any, .any, .any, .any, .any], [], [], none⟩) := by
  unfold fn42_l1
  rw [clean_up l.length (fun i => ⟨[.pv (.list 1 (l.map eExts)), .pv (.func gf caps), .any, .any, .any, .row 1 (((eachX g l).take i).map eI), .any, .any, .pv (.list 1 (l.map eExts)), .pv (.int .i64 l.length), .pv (.int .i64 i), .any, .any, .any, .any, .any, .any, .any, .any, .any, .any, .any, .any, .any], [], [], none⟩)
    (fun i => some (.normal, ⟨[.any, .any, .any, .any, .any, .row 1 ((eachX g l).map eI), .any, .any, .any, .any, .any, .any, .any, .any, .any, .any, .any, .any, .any, .any, .any, .any, .any, .any], [], [], none⟩)) h (fun _ => rfl) (fun _ => rfl) ?_ ?_]
  · intro i rb hi ih
    have hi1 := i64_next hi hl
    have F1 : ((i : Int) < (l.length : Int)) = True := eq_true (by omega)
    have F2 : (((eachX g l).take i).length + 1 ≤ lim) = True := eq_true (by rw [List.length_take, eachX_len]; omega)
    have hpi : cal env gf (.int .i64 (i : Nat) :: .list 2 (l[i].map eExt) :: caps) = some [((PV.int .i64 (g i l[i])), false)] := hp i hi
    simp only [fn42_b0, F1, F2, eExts, index_nat hi, List.getElem?_map, List.getElem?_eq_getElem hi, hpi, memAll, vAll, reduceCtorEq, Nat.reduceEqDiff, Nat.reduceAdd, Nat.reduceLT, Nat.reduceLeDiff, Nat.beq]
    rw [ih _ (by simp only [hi1]; rw [← eachX_succ g eI hi]; rfl)]
  · intro rb
    have hz : (eachX g l).take l.length = eachX g l := List.take_of_length_le (by rw [eachX_len]; exact Nat.le_refl _)
    simp only [fn42_b0, Int.lt_irrefl, hz, vAll, reduceCtorEq, Nat.reduceEqDiff, Nat.reduceAdd, Nat.reduceLT, Nat.reduceLeDiff, Nat.beq]
    rfl
theorem cal42 {l : List (List Exn)} {g : Nat → List Exn → Int} {gf : Nat} {caps : List PV} (hp : ∀ i (h : i < l.length), cal env gf (.int .i64 (i : Nat) :: .list 2 (l[i].map eExt) :: caps) = some [(eI (g i l[i]), false)]) (hl : l.length ≤ lim) :
    cal env 42 [.list 1 (l.map eExts), .func gf caps] = some [(.list 1 ((eachX g l).map eI), true)] := by
  rw [cal_code env42 rfl]; simp only [fn42]; simp only [start, z_map_cons, z_map_nil, z_len_cons, z_len_nil, z_repl_zero, z_repl_succ, z_cons_app, z_nil_app, Nat.reduceAdd, Nat.reduceSub]
  simp only [List.length_map, memAll, vAll, reduceCtorEq, Nat.reduceEqDiff, Nat.reduceAdd, Nat.reduceLT, Nat.reduceLeDiff, Nat.beq]
  rw [loop42 hp hl]
  rotate_left
  · rfl
  · simp only [memAll, vAll, reduceCtorEq, Nat.reduceEqDiff, Nat.reduceAdd, Nat.reduceLT, Nat.reduceLeDiff, Nat.beq]
--+
theorem loop35 {l : List (List Exn)} {g : Nat → List Exn → List Exn} {gf : Nat} {caps : List PV} (hp : ∀ i (h : i < l.length), cal env gf (.int .i64 (i : Nat) :: .list 2 (l[i].map eExt) :: caps) = some [(eExts (g i l[i]), true)]) (hl : l.length ≤ lim)
   {st : St} (h : st.head [0, 1, 5, 8, 9, 10, 21] st.boxes.length = some ⟨[.pv (.list 1 (l.map eExts)), .pv (.func gf caps), .any, .any, .any, .row 1 [], .any, .any, .pv (.list 1 (l.map eExts)), .pv (.int .i64 l.length), .pv (.int .i64 (0 : Nat)), .any, .any, .any, .any, .any, .any, .any, .any, .any, .any, .any, .any, .any], [], [], none⟩) :
   den env fn35_l1 st = some (.normal, ⟨[.any, .any, .any, .any, .any, .row 1 ((eachX g l).map eExts), .any, .any, .any, .any, .any, .any, .any, .any, .any, .any, .any, .any, .any, .any, .any, .any, .any, .any], [], [], none⟩) := by
  unfold fn35_l1
  rw [clean_up l.length (fun i => ⟨[.pv (.list 1 (l.map eExts)), .pv (.func gf caps), .any, .any, .any, .row 1 (((eachX g l).take i).map eExts), .any, .any, .pv (.list 1 (l.map eExts)), .pv (.int .i64 l.length), .pv (.int .i64 i), .any, .any, .any, .any, .any, .any, .any, .any, .any, .any, .any, .any, .any], [], [], none⟩)
    (fun i => some (.normal, ⟨[.any, .any, .any, .any, .any, .row 1 ((eachX g l).map eExts), .any, .any, .any, .any, .any, .any, .any, .any, .any, .any, .any, .any, .any, .any, .any, .any, .any, .any], [], [], none⟩)) h (fun _ => rfl) (fun _ => rfl) ?_ ?_]
  · intro i rb hi ih
    have hi1 := i64_next hi hl
    have F1 : ((i : Int) < (l.length : Int)) = True := eq_true (by omega)
    have F2 : (((eachX g l).take i).length + 1 ≤ lim) = True := eq_true (by rw [List.length_take, eachX_len]; omega)
    have hpi : cal env gf (.int .i64 (i : Nat) :: .list 2 (l[i].map eExt) :: caps) = some [((PV.list 2 ((g i l[i]).map eExt)), true)] := hp i hi
    simp only [fn35_b0, F1, F2, eExts, index_nat hi, List.getElem?_map, List.getElem?_eq_getElem hi, hpi, memAll, vAll, reduceCtorEq, Nat.reduceEqDiff, Nat.reduceAdd, Nat.reduceLT, Nat.reduceLeDiff, Nat.beq]
    rw [ih _ (by simp only [hi1]; rw [← eachX_succ g eExts hi]; rfl)]
  · intro rb
    have hz : (eachX g l).take l.length = eachX g l := List.take_of_length_le (by rw [eachX_len]; exact Nat.le_refl _)
    simp only [fn35_b0, Int.lt_irrefl, hz, vAll, reduceCtorEq, Nat.reduceEqDiff, Nat.reduceAdd, Nat.reduceLT, Nat.reduceLeDiff, Nat.beq]
    rfl
theorem cal35 {l : List (List Exn)} {g : Nat → List Exn → List Exn} {gf : Nat} {caps : List PV} (hp : ∀ i (h : i < l.length), cal env gf (.int .i64 (i : Nat) :: .list 2 (l[i].map eExt) :: caps) = some [(eExts (g i l[i]), true)]) (hl : l.length ≤ lim) :
    cal env 35 [.list 1 (l.map eExts), .func gf caps] = some [(.list 1 ((eachX g l).map eExts), true)] := by
  rw [cal_code env35 rfl]; simp only [fn35]; simp only [start, z_map_cons, z_map_nil, z_len_cons, z_len_nil, z_repl_zero, z_repl_succ, z_cons_app, z_nil_app, Nat.reduceAdd, Nat.reduceSub]
  simp only [List.length_map, memAll, vAll, reduceCtorEq, Nat.reduceEqDiff, Nat.reduceAdd, Nat.reduceLT, Nat.reduceLeDiff, Nat.beq]
  rw [loop35 hp hl]
  rotate_left
  · rfl
  · simp only [memAll, vAll, reduceCtorEq, Nat.reduceEqDiff, Nat.reduceAdd, Nat.reduceLT, Nat.reduceLeDiff, Nat.beq]
theorem loop79 {l : List Bool} {v : Bool} (hl : l.length ≤ lim) {st : St} (h : st.head [0, 1, 7, 8] st.boxes.length = some ⟨[.pv (.list 1 (l.map eB)), .pv (.bool v), .any, .any, .any, .any, .any, .pv (.int .i64 l.length), .pv (.int .i64 (0 : Nat)), .any, .any, .any, .any, .any, .any, .any, .any, .any, .any], [], [], none⟩) :
   den env fn79_l1 st = if l.contains v then some (.ret, ⟨[.any, .any, .any, .any, .pv (.int .i64 ((l.findIdx (fun b => v == b) : Nat) : Int)), .any, .any, .any, .any, .any, .any, .any, .any, .any, .any, .any, .any, .any, .any], [], [], none⟩) else some (.normal, ⟨[.any, .any, .any, .any, .any, .any, .any, .any, .any, .any, .any, .any, .any, .any, .any, .any, .any, .any, .any], [], [], none⟩) := by
  unfold fn79_l1
  rw [ clean_up (env := env) (l.length) (fun i => ⟨[.pv (.list 1 (l.map eB)), .pv (.bool v), .any, .any, .any, .any, .any, .pv (.int .i64 l.length), .pv (.int .i64 i), .any, .any, .any, .any, .any, .any, .any, .any, .any, .any], [], [], none⟩) (fun i => if (l.drop i).contains v then some (.ret, ⟨[.any, .any, .any, .any, .pv (.int .i64 ((i + (l.drop i).findIdx (fun b => v == b) : Nat) : Int)), .any, .any, .any, .any, .any, .any, .any, .any, .any, .any, .any, .any, .any, .any], [], [], none⟩) else some (.normal, ⟨[.any, .any, .any, .any, .any, .any, .any, .any, .any, .any, .any, .any, .any, .any, .any, .any, .any, .any, .any], [], [], none⟩)) h (fun _ => rfl) (fun _ => rfl) ?_ ?_]
  · first | rfl | simp only [List.drop_zero, List.take_zero, List.map_nil, Nat.zero_add, List.nil_append, List.foldl_nil]
  · intro i rb hi ih

    have hi1 := i64_next hi hl
    have F1 : ((i : Int) < (l.length : Int)) = True := eq_true (by omega)
    simp only [fn79_b0, F1, eB, index_nat hi, List.getElem?_map, List.getElem?_eq_getElem hi, memAll, vAll, reduceCtorEq, Nat.reduceEqDiff, Nat.reduceAdd, Nat.reduceLT, Nat.reduceLeDiff, Nat.beq]
    rw [List.drop_eq_getElem_cons hi]
    (try simp only [bcase_bind, bcase_map, tail_bcase]); refine bcase_split (fun hb => ?_) (fun hb => ?_) <;> try simp only [hb,  memAll, vAll, reduceCtorEq, Nat.reduceEqDiff, Nat.reduceAdd, Nat.reduceLT, Nat.reduceLeDiff, Nat.beq]
    · have e : (v == l[i]) = true := hb
      simp only [List.contains_cons, e, Bool.true_or, if_true, List.findIdx_cons, cond_true, Nat.add_zero]
      rfl
    · have e : (v == l[i]) = false := hb
      rw [ih _ (by simp only [hi1]; rfl)]
      simp only [List.contains_cons, e, Bool.false_or, List.findIdx_cons, cond_false, Nat.add_assoc, Nat.add_comm 1]
  · intro rb

    simp only [fn79_b0, Int.lt_irrefl,  memAll, vAll, reduceCtorEq, Nat.reduceEqDiff, Nat.reduceAdd, Nat.reduceLT, Nat.reduceLeDiff, Nat.beq]
    simp only [List.drop_length, List.contains_nil, Bool.false_eq_true, if_false]
    rfl

theorem cal79 {l : List Bool} {v : Bool} (hl : l.length ≤ lim) : cal env 79 [.list 1 (l.map eB), .bool v] = some [(.int .i64 (if l.contains v then ((l.findIdx (fun b => v == b) : Nat) : Int) else -1), false)] := by
  rw [cal_code env79 rfl]; simp only [fn79]; simp only [start, z_map_cons, z_map_nil, z_len_cons, z_len_nil, z_repl_zero, z_repl_succ, z_cons_app, z_nil_app, Nat.reduceAdd, Nat.reduceSub]
  simp only [List.length_map, vAll, reduceCtorEq, Nat.reduceEqDiff, Nat.reduceAdd, Nat.reduceLT, Nat.reduceLeDiff, Nat.beq]
  rw [loop79 (v := v) hl]
  rotate_left
  · rfl
  · split <;> simp only [vAll, reduceCtorEq, Nat.reduceEqDiff, Nat.reduceAdd, Nat.reduceLT, Nat.reduceLeDiff, Nat.beq]
theorem cal61 {l : List Bool} {v : Bool} (hl : l.length ≤ lim) : cal env 61 [.list 1 (l.map eB), .bool v] = some [(.bool (l.contains v), false)] := by
  have e1 := cal79 (v := v) hl
  have G : decide ((if l.contains v then ((l.findIdx (fun b => v == b) : Nat) : Int) else -1) ≥ 0) = l.contains v := by
    cases l.contains v
    · rfl
    · simp only [if_true]; exact decide_eq_true (by omega)
  rw [cal_code env61 rfl]; simp only [fn61]; simp only [start, z_map_cons, z_map_nil, z_len_cons, z_len_nil, z_repl_zero, z_repl_succ, z_cons_app, z_nil_app, Nat.reduceAdd, Nat.reduceSub]
  simp only [e1, G, memAll, vAll, reduceCtorEq, Nat.reduceEqDiff, Nat.reduceAdd, Nat.reduceLT, Nat.reduceLeDiff, Nat.beq]
def fitB (im : Img) (l : List (List Exn)) : List Bool := eachX (fun i x => decide (chkX x ((im.getD i []).length : Int) = 0)) l
def fitE (im : Img) (l : List (List Exn)) : Int := if l.length ≠ im.length then 6 else if (fitB im l).contains false then 3 else 0
theorem cal59 {im : Img} {x : List Exn} {i : Nat} (hi : i < im.length) (ho : okEs x) (hl : x.length ≤ 10000) : cal env 59 [.int .i64 (i : Nat), .list 2 (x.map eExt), .iptr [.list 1 (im.map eSecs)] 0] = some [(.bool (decide (chkX x ((im.getD i []).length : Int) = 0)), false)] := by
  have e1 := cal60 (size := (im[i].length : Int)) ho hl
  have e2 : im.getD i [] = im[i] := by simp [hi]
  have e3 : (chkX x (im[i].length : Int) == 0) = decide (chkX x (im[i].length : Int) = 0) := rfl
  rw [e2]
  rw [cal_code env59 rfl]; simp only [fn59]; simp only [start, z_map_cons, z_map_nil, z_len_cons, z_len_nil, z_repl_zero, z_repl_succ, z_cons_app, z_nil_app, Nat.reduceAdd, Nat.reduceSub]
  simp only [e1, e3, eSecs, index_nat hi, List.getElem?_map, List.getElem?_eq_getElem hi, memAll, vAll, reduceCtorEq, Nat.reduceEqDiff, Nat.reduceAdd, Nat.reduceLT, Nat.reduceLeDiff, Nat.beq]
theorem cal30 {im : Img} {l : List (List Exn)} (ho : ∀ x ∈ l, okEs x) (hr : ∀ x ∈ l, x.length ≤ 10000) (hl : l.length ≤ lim) : cal env 30 [.list 1 (im.map eSecs), .list 1 (l.map eExts)] = some [(.int .i64 (fitE im l), false)] := by
  unfold fitE
  by_cases c : l.length = im.length
  · have G1 : (((l.length : Int)) != (im.length : Int)) = false := by simp; omega
    have e1 := cal58 (l := l) (g := fun i x => decide (chkX x ((im.getD i []).length : Int) = 0)) (gf := 59) (caps := [.iptr [.list 1 (im.map eSecs)] 0]) (fun i h => cal59 (by omega) (ho _ (List.getElem_mem h)) (hr _ (List.getElem_mem h))) hl
    have e2 := cal61 (l := fitB im l) (v := false) (by unfold fitB; rw [eachX_len]; exact hl)
    rw [if_neg (by simpa using c)]
    unfold fitB at e2 ⊢
    rw [cal_code env30 rfl]; simp only [fn30]; simp only [start, z_map_cons, z_map_nil, z_len_cons, z_len_nil, z_repl_zero, z_repl_succ, z_cons_app, z_nil_app, Nat.reduceAdd, Nat.reduceSub]
    simp only [e1, e2, G1, memAll, vAll, reduceCtorEq, Nat.reduceEqDiff, Nat.reduceAdd, Nat.reduceLT, Nat.reduceLeDiff, Nat.beq]
    (try simp only [bcase_bind, bcase_map, tail_bcase]); refine bcase_split (fun hb => ?_) (fun hb => ?_) <;> try simp only [hb, e1, e2, G1, memAll, vAll, reduceCtorEq, Nat.reduceEqDiff, Nat.reduceAdd, Nat.reduceLT, Nat.reduceLeDiff, Nat.beq]
  · have G1 : (((l.length : Int)) != (im.length : Int)) = true := by simp; omega
    rw [if_pos c]
    rw [cal_code env30 rfl]; simp only [fn30]; simp only [start, z_map_cons, z_map_nil, z_len_cons, z_len_nil, z_repl_zero, z_repl_succ, z_cons_app, z_nil_app, Nat.reduceAdd, Nat.reduceSub]
    simp only [G1, memAll, vAll, reduceCtorEq, Nat.reduceEqDiff, Nat.reduceAdd, Nat.reduceLT, Nat.reduceLeDiff, Nat.beq]
end Go.Proofs.YtncobemfpammfaaGreatDoor.V

namespace Go.Proofs.YtncobemfpammfaaGreatDoor.V
theorem cal25 {a b : List Bm} (hm : a.length ≤ lim) : cal env 25 [.list 2 (a.map eBm), .list 2 (b.map eBm)] = some [(.list 2 ((mrgO a b).map eBm), true), (.int .i64 (mrgE a b), false)] := by
  unfold mrgO
  by_cases c : a.length = b.length
  · have hE : mrgE a b = each2E bothE a b := by unfold mrgE; rw [if_neg (fun h => h c)]
    rw [hE]
    have e1 := cal52 (a := a) (b := b) (gf := 53) (fun x y => cal53) c hm
    have G : ((a.length : Int) != (b.length : Int)) = false := by simp [c]
    rw [cal_code env25 rfl]; simp only [fn25]; simp only [start, z_map_cons, z_map_nil, z_len_cons, z_len_nil, z_repl_zero, z_repl_succ, z_cons_app, z_nil_app, Nat.reduceAdd, Nat.reduceSub]
    simp only [e1, G, List.length_map, memAll, vAll, reduceCtorEq, Nat.reduceEqDiff, Nat.reduceAdd, Nat.reduceLT, Nat.reduceLeDiff, Nat.beq]
  · have G : ((a.length : Int) != (b.length : Int)) = true := by simp; omega
    have hE : mrgE a b = 6 := by unfold mrgE; rw [if_pos c]
    rw [hE, if_neg (by decide), List.map_nil]
    rw [cal_code env25 rfl]; simp only [fn25]; simp only [start, z_map_cons, z_map_nil, z_len_cons, z_len_nil, z_repl_zero, z_repl_succ, z_cons_app, z_nil_app, Nat.reduceAdd, Nat.reduceSub]
    simp only [G, List.length_map, memAll, vAll, reduceCtorEq, Nat.reduceEqDiff, Nat.reduceAdd, Nat.reduceLT, Nat.reduceLeDiff, Nat.beq]
end Go.Proofs.YtncobemfpammfaaGreatDoor.V

namespace Go.Proofs.YtncobemfpammfaaGreatDoor.V
theorem orS_eq (l : List Exn) : orS l = ext (inS l) 4096 := by
  unfold orS setOf
  exact ext_congr fun s _ => by simp [orB, inS]
end Go.Proofs.YtncobemfpammfaaGreatDoor.V

namespace Go.Proofs.YtncobemfpammfaaGreatDoor.V
theorem inS_add {l : List Exn} {n : Nat} (h : ∀ x ∈ l, 0 ≤ x.start ∧ 1 ≤ x.count ∧ x.start + x.count ≤ (n : Int)) (s : Nat) : inS (addAt l n) s = (inS l s || decide (s = n)) := by
  rcases snoc_cases l with e | ⟨pre, y, e⟩
  · subst e
    show inS [⟨(n : Int), 1⟩] s = _
    rw [Bool.eq_iff_iff]
    simp [inS, inE]; omega
  · subst e
    have hy := h y (by simp)
    rw [addAt_snoc]
    split
    · rw [inS_snoc, inS_snoc, Bool.or_assoc]
      congr 1
      rw [Bool.eq_iff_iff]
      simp [inE]; omega
    · rw [inS_snoc (pre ++ [y])]
      congr 1
      rw [Bool.eq_iff_iff]
      simp [inE]; omega
theorem inS_ext (p : Nat → Bool) (s : Nat) : ∀ n, inS (ext p n) s = (decide (s < n) && p s)
  | 0 => by simp [ext_zero, inS]
  | n + 1 => by
    rw [ext_succ]
    by_cases h : p n = true
    · rw [if_pos h, inS_add (ext_in p n), inS_ext p s n]
      by_cases h2 : s = n
      · subst h2; rw [h]; simp
      · rw [decide_eq_false h2, Bool.or_false]
        congr 1
        rw [Bool.eq_iff_iff]; simp; omega
    · rw [if_neg h, inS_ext p s n]
      by_cases h2 : s = n
      · subst h2; simp [h]
      · congr 1
        rw [Bool.eq_iff_iff]; simp; omega
theorem okEs_ext (p : Nat → Bool) {n : Nat} (hn : n ≤ 4096) : okEs (ext p n) := fun x hx => by
  have := ext_in p n x hx
  exact ⟨by omega, by omega⟩
end Go.Proofs.YtncobemfpammfaaGreatDoor.V

namespace Go.Proofs.YtncobemfpammfaaGreatDoor.V
theorem volDiff_ext (a b : List Sec) : volDiff a b = ext (dif a b) a.length := rfl
theorem differ_ok {a b : Img} (hr : ∀ v ∈ a, v.length ≤ 4096) : ∀ x ∈ differ a b, okEs x ∧ x.length ≤ 4096 := fun x hx => by
  obtain ⟨q, hq, rfl⟩ := List.mem_map.1 hx
  have h1 := hr _ (List.of_mem_zip hq).1
  rw [volDiff_ext]
  exact ⟨okEs_ext _ h1, Nat.le_trans (ext_len _ _) h1⟩
def needE (a b : Img) (l : List (List Exn)) : Int := if pairErr a b ≠ 0 then pairErr a b else fitE a l
def needL (a b : Img) (l : List (List Exn)) : List (List Exn) := eachX (fun i x => setOf andB x (l.getD i [])) (differ a b)
def needO (a b : Img) (l : List (List Exn)) : List (List Exn) := if needE a b l = 0 then needL a b l else []
theorem need_fit {a b : Img} {l : List (List Exn)} (h : pairErr a b = 0) : needE a b l = fitE a l := by
  unfold needE; rw [if_neg (by simpa using h)]
theorem need_ok {a b : Img} {l : List (List Exn)} (h : pairErr a b = 0) (h2 : fitE a l = 0) : needE a b l = 0 := by rw [need_fit h, h2]
theorem need_pair {a b : Img} {l : List (List Exn)} (h : ¬ pairErr a b = 0) : needE a b l = pairErr a b := by
  unfold needE; rw [if_pos h]
theorem pair_len {a b : Img} (h : pairErr a b = 0) : a.length = b.length ∧ imCheck a = 0 ∧ imCheck b = 0 ∧ imSizes a = imSizes b := by
  unfold pairErr at h
  split at h
  · omega
  · split at h
    · omega
    · split at h
      · rename_i c
        rename_i h1 h2
        exact ⟨(sizes_inj c).1, by omega, by omega, c⟩
      · omega
theorem fit_len {a : Img} {l : List (List Exn)} (h : fitE a l = 0) : l.length = a.length := by
  unfold fitE at h
  split at h
  · omega
  · rename_i c; simpa using c
theorem dfr_len {a b : Img} (h : a.length = b.length) : (differ a b).length = a.length := by simp [differ, h]
theorem cal36 {l : List (List Exn)} {x : List Exn} {i : Nat} (hi : i < l.length) (ho : okEs x) (hx : x.length ≤ 10000) (hol : ∀ x ∈ l, okEs x) (hr : ∀ x ∈ l, x.length ≤ 10000) :
    cal env 36 [.int .i64 (i : Nat), .list 2 (x.map eExt), .iptr [.list 1 (l.map eExts)] 0] = some [(eExts (setOf andB x (l.getD i [])), true)] := by
  have e1 := cal37 ho (hol _ (List.getElem_mem hi)) hx (hr _ (List.getElem_mem hi))
  have e2 : l.getD i [] = l[i] := by simp [hi]
  rw [e2]
  unfold eExts
  rw [cal_code env36 rfl]; simp only [fn36]; simp only [start, z_map_cons, z_map_nil, z_len_cons, z_len_nil, z_repl_zero, z_repl_succ, z_cons_app, z_nil_app, Nat.reduceAdd, Nat.reduceSub]
  simp only [e1, index_nat hi, List.getElem?_map, List.getElem?_eq_getElem hi, memAll, vAll, reduceCtorEq, Nat.reduceEqDiff, Nat.reduceAdd, Nat.reduceLT, Nat.reduceLeDiff, Nat.beq]
theorem cal14 {a b : Img} {l : List (List Exn)} (ha : a.length ≤ lim) (hb' : b.length ≤ lim) (hra : ∀ v ∈ a, v.length ≤ 4096) (hol : ∀ x ∈ l, okEs x) (hr : ∀ x ∈ l, x.length ≤ 10000) (hl : l.length ≤ lim) :
    cal env 14 [.list 1 (a.map eSecs), .list 1 (b.map eSecs), .list 1 (l.map eExts)] = some [(.list 1 ((needO a b l).map eExts), true), (.int .i64 (needE a b l), false)] := by
  have e1 := cal34 ha hb' (fun v hv => by have := hra v hv; unfold lim; omega)
  have e2 := cal30 (im := a) hol hr hl
  unfold needO
  by_cases c1 : pairErr a b = 0
  · have G1 : (pairErr a b != 0) = false := by simp [c1]
    by_cases c2 : fitE a l = 0
    · have G2 : (fitE a l != 0) = false := by simp [c2]
      have hd := dfr_len (pair_len c1).1
      have hfl := fit_len c2
      have e3 := cal35 (l := differ a b) (g := fun i x => setOf andB x (l.getD i [])) (gf := 36) (caps := [.iptr [.list 1 (l.map eExts)] 0])
        (fun i h => cal36 (by omega) (differ_ok hra _ (List.getElem_mem h)).1 (Nat.le_trans (differ_ok hra _ (List.getElem_mem h)).2 (by decide)) hol hr) (by omega)
      unfold differOut at e1
      rw [if_pos c1, c1] at e1
      rw [if_pos (need_ok c1 c2), need_ok c1 c2]
      rw [c2] at e2
      unfold needL
      have Z : ((0 : Int) != 0) = false := rfl
      rw [cal_code env14 rfl]; simp only [fn14]; simp only [start, z_map_cons, z_map_nil, z_len_cons, z_len_nil, z_repl_zero, z_repl_succ, z_cons_app, z_nil_app, Nat.reduceAdd, Nat.reduceSub]
      simp only [e1, e2, e3, Z, memAll, vAll, reduceCtorEq, Nat.reduceEqDiff, Nat.reduceAdd, Nat.reduceLT, Nat.reduceLeDiff, Nat.beq]
    · have G2 : (fitE a l != 0) = true := by simp [c2]
      unfold differOut at e1
      rw [if_pos c1, c1] at e1
      rw [need_fit c1, if_neg c2]
      have Z : ((0 : Int) != 0) = false := rfl
      rw [cal_code env14 rfl]; simp only [fn14]; simp only [start, z_map_cons, z_map_nil, z_len_cons, z_len_nil, z_repl_zero, z_repl_succ, z_cons_app, z_nil_app, Nat.reduceAdd, Nat.reduceSub]
      simp only [e1, e2, G2, Z, memAll, vAll, reduceCtorEq, Nat.reduceEqDiff, Nat.reduceAdd, Nat.reduceLT, Nat.reduceLeDiff, Nat.beq]
      all_goals rfl
  · have G1 : (pairErr a b != 0) = true := by simp [c1]
    rw [need_pair c1, if_neg c1]
    rw [cal_code env14 rfl]; simp only [fn14]; simp only [start, z_map_cons, z_map_nil, z_len_cons, z_len_nil, z_repl_zero, z_repl_succ, z_cons_app, z_nil_app, Nat.reduceAdd, Nat.reduceSub]
    simp only [e1, G1, memAll, vAll, reduceCtorEq, Nat.reduceEqDiff, Nat.reduceAdd, Nat.reduceLT, Nat.reduceLeDiff, Nat.beq]
    all_goals rfl
def exactB (a b : Img) (l : List (List Exn)) : Bool := decide (needE a b l = 0) && decide (differ a b = l)
theorem cal39 {l m : List Exn} (hl : l.length ≤ lim) : cal env 39 [eExts l, eExts m] = some [(.bool (decide (l = m)), false)] := by
  have e1 := cal40 (m := m) hl
  unfold eExts
  rw [cal_code env39 rfl]; simp only [fn39]; simp only [start, z_map_cons, z_map_nil, z_len_cons, z_len_nil, z_repl_zero, z_repl_succ, z_cons_app, z_nil_app, Nat.reduceAdd, Nat.reduceSub]
  simp only [e1, memAll, vAll, reduceCtorEq, Nat.reduceEqDiff, Nat.reduceAdd, Nat.reduceLT, Nat.reduceLeDiff, Nat.beq]
theorem cal15 {a b : Img} {l : List (List Exn)} (ha : a.length ≤ lim) (hb' : b.length ≤ lim) (hra : ∀ v ∈ a, v.length ≤ 4096) (hol : ∀ x ∈ l, okEs x) (hr : ∀ x ∈ l, x.length ≤ 10000) (hl : l.length ≤ lim) :
    cal env 15 [.list 1 (a.map eSecs), .list 1 (b.map eSecs), .list 1 (l.map eExts)] = some [(.bool (exactB a b l), false), (.int .i64 (needE a b l), false)] := by
  have e1 := cal14 ha hb' hra hol hr hl
  have e2 := cal34 ha hb' (fun v hv => by have := hra v hv; unfold lim; omega)
  unfold exactB
  by_cases c : needE a b l = 0
  · have c1 : pairErr a b = 0 := by
      unfold needE at c
      split at c
      · omega
      · omega
    have hd := dfr_len (pair_len c1).1
    have e3 := cal38 (enc := eExts) (enc2 := eExts) (l := differ a b) (m := l) (eq := fun x y => decide (x = y)) (gf := 39) (caps := []) (fun x hx y _ => cal39 (Nat.le_trans (differ_ok hra x hx).2 (by decide))) (fun x => rfl) (fun x => rfl) (by omega)
    rw [eqF_eq] at e3
    unfold differOut at e2
    rw [if_pos c1, c1] at e2
    rw [c] at e1 ⊢
    have Z : ((0 : Int) != 0) = false := rfl
    rw [decide_eq_true rfl, Bool.true_and]
    rw [cal_code env15 rfl]; simp only [fn15]; simp only [start, z_map_cons, z_map_nil, z_len_cons, z_len_nil, z_repl_zero, z_repl_succ, z_cons_app, z_nil_app, Nat.reduceAdd, Nat.reduceSub]
    simp only [e1, e2, e3, Z, memAll, vAll, reduceCtorEq, Nat.reduceEqDiff, Nat.reduceAdd, Nat.reduceLT, Nat.reduceLeDiff, Nat.beq]
  · have G : (needE a b l != 0) = true := by simp [c]
    rw [decide_eq_false c, Bool.false_and]
    rw [cal_code env15 rfl]; simp only [fn15]; simp only [start, z_map_cons, z_map_nil, z_len_cons, z_len_nil, z_repl_zero, z_repl_succ, z_cons_app, z_nil_app, Nat.reduceAdd, Nat.reduceSub]
    simp only [e1, G, memAll, vAll, reduceCtorEq, Nat.reduceEqDiff, Nat.reduceAdd, Nat.reduceLT, Nat.reduceLeDiff, Nat.beq]
def costL (l : List (List Exn)) : Int := (l.map fun x => cntE (orS x)).sum
theorem cost_snoc (l : List (List Exn)) (x : List Exn) : costL (l ++ [x]) = costL l + cntE (orS x) := by simp [costL]
theorem orS_lim (x : List Exn) : 0 ≤ cntE (orS x) ∧ cntE (orS x) ≤ 4096 := by
  rw [orS_eq, ext_cnt]
  have := List.length_filter_le (inS x) (List.range 4096)
  rw [List.length_range] at this
  omega
theorem cost_lim : ∀ l : List (List Exn), 0 ≤ costL l ∧ costL l ≤ 4096 * l.length
  | [] => by simp [costL]
  | x :: l => by
    have := cost_lim l
    have h2 := orS_lim x
    have e : costL (x :: l) = cntE (orS x) + costL l := by simp [costL]
    rw [e, List.length_cons]; omega
theorem cost_take {l : List (List Exn)} {i : Nat} (h : i < l.length) : costL (l.take (i + 1)) = costL (l.take i) + cntE (orS l[i]) := by
  rw [List.take_succ_eq_append_getElem h, cost_snoc]
theorem cal43 {x : List Exn} {i : Int} (ho : okEs x) (hx : x.length ≤ 10000) : cal env 43 [.int .i64 i, .list 2 (x.map eExt)] = some [(eI (cntE (orS x)), false)] := by
  have e1 := cal44 ho hx
  unfold eI
  rw [cal_code env43 rfl]; simp only [fn43]; simp only [start, z_map_cons, z_map_nil, z_len_cons, z_len_nil, z_repl_zero, z_repl_succ, z_cons_app, z_nil_app, Nat.reduceAdd, Nat.reduceSub]
  simp only [e1, memAll, vAll, reduceCtorEq, Nat.reduceEqDiff, Nat.reduceAdd, Nat.reduceLT, Nat.reduceLeDiff, Nat.beq]
theorem loop18 {l : List (List Exn)} (hl : l.length ≤ 100000) {st : St} (h : st.head [3, 7, 8, 9] st.boxes.length = some ⟨[.any, .any, .any, .pv (.int .i64 (costL (l.take (0 : Nat)))), .any, .any, .any, .row 1 ((eachX (fun _ x => cntE (orS x)) l).map eI), .pv (.int .i64 l.length), .pv (.int .i64 (0 : Nat)), .any, .any, .any, .any, .any, .any, .any, .any], [], [], none⟩) :
   den env fn18_l1 st = some (.normal, ⟨[.any, .any, .any, .pv (.int .i64 (costL l)), .any, .any, .any, .any, .any, .any, .any, .any, .any, .any, .any, .any, .any, .any], [], [], none⟩) := by
  unfold fn18_l1
  refine clean_up (env := env) (l.length) (fun i => ⟨[.any, .any, .any, .pv (.int .i64 (costL (l.take i))), .any, .any, .any, .row 1 ((eachX (fun _ x => cntE (orS x)) l).map eI), .pv (.int .i64 l.length), .pv (.int .i64 i), .any, .any, .any, .any, .any, .any, .any, .any], [], [], none⟩) (fun i => some (.normal, ⟨[.any, .any, .any, .pv (.int .i64 (costL l)), .any, .any, .any, .any, .any, .any, .any, .any, .any, .any, .any, .any, .any, .any], [], [], none⟩)) h (fun _ => rfl) (fun _ => rfl) ?_ ?_
  · intro i rb hi ih

    have hi1 := i64_next hi (Nat.le_trans hl (by decide))
    have F1 : ((i : Int) < (l.length : Int)) = True := eq_true (by omega)
    have hz : i < (eachX (fun _ x => cntE (orS x)) l).length := by rw [eachX_len]; exact hi
    have hg := eachX_get (fun _ x => cntE (orS x)) hi
    have h1 := cost_lim (l.take i)
    have h2 := orS_lim l[i]
    have h3 : (l.take i).length ≤ 100000 := by rw [List.length_take]; omega
    have W : IntKind.i64.wrap (costL (l.take i) + cntE (orS l[i])) = costL (l.take (i + 1)) := by rw [cost_take hi]; exact i64_fits (by omega)
    simp only [fn18_b0, F1, hg, W, eI, index_nat hz, List.getElem?_map, memAll, vAll, reduceCtorEq, Nat.reduceEqDiff, Nat.reduceAdd, Nat.reduceLT, Nat.reduceLeDiff, Nat.beq]
    rw [ih _ (by simp only [hi1]; rfl)]
  · intro rb

    simp only [fn18_b0, Int.lt_irrefl,  memAll, vAll, reduceCtorEq, Nat.reduceEqDiff, Nat.reduceAdd, Nat.reduceLT, Nat.reduceLeDiff, Nat.beq]
    rfl

theorem cal18 {l : List (List Exn)} (ho : ∀ x ∈ l, okEs x) (hr : ∀ x ∈ l, x.length ≤ 10000) (hl : l.length ≤ 100000) : cal env 18 [.list 1 (l.map eExts)] = some [(.int .i64 (costL l), false)] := by
  have e1 := cal42 (l := l) (g := fun _ x => cntE (orS x)) (gf := 43) (caps := []) (fun i h => cal43 (ho _ (List.getElem_mem h)) (hr _ (List.getElem_mem h))) (Nat.le_trans hl (by decide))
  rw [cal_code env18 rfl]; simp only [fn18]; simp only [start, z_map_cons, z_map_nil, z_len_cons, z_len_nil, z_repl_zero, z_repl_succ, z_cons_app, z_nil_app, Nat.reduceAdd, Nat.reduceSub]
  simp only [e1, eachX_len, List.length_map, memAll, vAll, reduceCtorEq, Nat.reduceEqDiff, Nat.reduceAdd, Nat.reduceLT, Nat.reduceLeDiff, Nat.beq]
  rw [loop18 hl]
  rotate_left
  · rfl
  · simp only [memAll, vAll, reduceCtorEq, Nat.reduceEqDiff, Nat.reduceAdd, Nat.reduceLT, Nat.reduceLeDiff, Nat.beq]
end Go.Proofs.YtncobemfpammfaaGreatDoor.V

namespace Go.Proofs.YtncobemfpammfaaGreatDoor.V
theorem loop68 {a b : List Sec} (hl : a.length ≤ lim) (hab : a.length = b.length) {st : St} (h : st.head [0, 1, 5] st.boxes.length = some ⟨[.pv (.list 8 (a.map eSec)), .pv (.list 8 (b.map eSec)), .any, .any, .any, .pv (.int .i64 (0 : Nat)), .any, .any, .any, .any, .any, .any, .any, .any, .any, .any, .any, .any, .any, .any, .any, .any, .any, .any, .any, .any], [], [], none⟩) :
   den env fn68_l1 st = if a = b then some (.normal, ⟨[.any, .any, .any, .any, .any, .any, .any, .any, .any, .any, .any, .any, .any, .any, .any, .any, .any, .any, .any, .any, .any, .any, .any, .any, .any, .any], [], [], none⟩) else some (.ret, ⟨[.any, .any, .any, .any, .pv (.bool false), .any, .any, .any, .any, .any, .any, .any, .any, .any, .any, .any, .any, .any, .any, .any, .any, .any, .any, .any, .any, .any], [], [], none⟩) := by
  unfold fn68_l1
  rw [ clean_up (env := env) (a.length) (fun i => ⟨[.pv (.list 8 (a.map eSec)), .pv (.list 8 (b.map eSec)), .any, .any, .any, .pv (.int .i64 i), .any, .any, .any, .any, .any, .any, .any, .any, .any, .any, .any, .any, .any, .any, .any, .any, .any, .any, .any, .any], [], [], none⟩) (fun i => if a.drop i = b.drop i then some (.normal, ⟨[.any, .any, .any, .any, .any, .any, .any, .any, .any, .any, .any, .any, .any, .any, .any, .any, .any, .any, .any, .any, .any, .any, .any, .any, .any, .any], [], [], none⟩) else some (.ret, ⟨[.any, .any, .any, .any, .pv (.bool false), .any, .any, .any, .any, .any, .any, .any, .any, .any, .any, .any, .any, .any, .any, .any, .any, .any, .any, .any, .any, .any], [], [], none⟩)) h (fun _ => rfl) (fun _ => rfl) ?_ ?_]
  · first | rfl | simp only [List.drop_zero, List.take_zero, List.map_nil, Nat.zero_add, List.nil_append, List.foldl_nil]
  · intro i rb hi ih

    have hi1 := i64_next hi hl
    have hj : i < b.length := by omega
    have F1 : ((i : Int) < (a.length : Int)) = True := eq_true (by omega)
    rw [List.drop_eq_getElem_cons hi, List.drop_eq_getElem_cons hj]
    by_cases hd : a[i] = b[i]
    · simp only [fn68_b0, F1, eSec, index_nat hi, index_nat hj, List.getElem?_map, List.getElem?_eq_getElem hi, List.getElem?_eq_getElem hj, part_sec, secPV_length, eqCells_sec, hd, decide_true, memAll, vAll, reduceCtorEq, Nat.reduceEqDiff, Nat.reduceAdd, Nat.reduceLT, Nat.reduceLeDiff, Nat.beq]
      rw [ih _ (by simp only [hi1]; rfl)]
      simp only [List.cons.injEq, true_and]
    · have hdf := decide_eq_false hd
      simp only [fn68_b0, F1, eSec, index_nat hi, index_nat hj, List.getElem?_map, List.getElem?_eq_getElem hi, List.getElem?_eq_getElem hj, part_sec, secPV_length, eqCells_sec, hdf, memAll, vAll, reduceCtorEq, Nat.reduceEqDiff, Nat.reduceAdd, Nat.reduceLT, Nat.reduceLeDiff, Nat.beq]
      rw [if_neg (fun e => hd (List.cons.inj e).1)]
      rfl
  · intro rb

    simp only [fn68_b0, Int.lt_irrefl,  memAll, vAll, reduceCtorEq, Nat.reduceEqDiff, Nat.reduceAdd, Nat.reduceLT, Nat.reduceLeDiff, Nat.beq]
    rw [List.drop_length, hab, List.drop_length, if_pos rfl]
    rfl

theorem cal68 {a b : List Sec} (hl : a.length ≤ lim) : cal env 68 [.list 8 (a.map eSec), .list 8 (b.map eSec)] = some [(.bool (decide (a = b)), false)] := by
  rw [cal_code env68 rfl]; simp only [fn68]; simp only [start, z_map_cons, z_map_nil, z_len_cons, z_len_nil, z_repl_zero, z_repl_succ, z_cons_app, z_nil_app, Nat.reduceAdd, Nat.reduceSub]
  by_cases hab : a.length = b.length
  · have G : (((a.length : Int)) != (b.length : Int)) = false := by simp; omega
    simp only [G, memAll, vAll, reduceCtorEq, Nat.reduceEqDiff, Nat.reduceAdd, Nat.reduceLT, Nat.reduceLeDiff, Nat.beq]
    rw [loop68 hl hab]
    rotate_left
    · rfl
    · by_cases e : a = b <;> simp only [e, memAll, vAll, reduceCtorEq, Nat.reduceEqDiff, Nat.reduceAdd, Nat.reduceLT, Nat.reduceLeDiff, Nat.beq]
  · have G : (((a.length : Int)) != (b.length : Int)) = true := by simp; omega
    have : a ≠ b := fun e => hab (by rw [e])
    have hdf := decide_eq_false this
    simp only [G, hdf, memAll, vAll, reduceCtorEq, Nat.reduceEqDiff, Nat.reduceAdd, Nat.reduceLT, Nat.reduceLeDiff, Nat.beq]
theorem loop41 {a : List Wrt} (hl : a.length ≤ lim) (hd : ∀ x ∈ a, x.data.length ≤ lim) {st : St} (h : st.head [0, 1, 5] st.boxes.length = some ⟨[.pv (.list 3 (a.map eWr)), .pv (.list 3 (a.map eWr)), .any, .any, .any, .pv (.int .i64 (0 : Nat)), .any, .any, .any, .any, .any, .any, .any, .any, .any, .any, .any, .any, .any, .any, .any, .any, .any, .any, .any, .any, .any, .any, .any, .any, .any, .any, .any, .any, .any, .any, .any, .any, .any, .any, .any, .any, .any, .any, .any, .any, .any, .any, .any, .any, .any, .any, .any, .any, .any], [], [], none⟩) :
   den env fn41_l1 st = some (.normal, ⟨[.any, .any, .any, .any, .any, .any, .any, .any, .any, .any, .any, .any, .any, .any, .any, .any, .any, .any, .any, .any, .any, .any, .any, .any, .any, .any, .any, .any, .any, .any, .any, .any, .any, .any, .any, .any, .any, .any, .any, .any, .any, .any, .any, .any, .any, .any, .any, .any, .any, .any, .any, .any, .any, .any, .any], [], [], none⟩) := by
  unfold fn41_l1
  refine clean_up (env := env) (a.length) (fun i => ⟨[.pv (.list 3 (a.map eWr)), .pv (.list 3 (a.map eWr)), .any, .any, .any, .pv (.int .i64 i), .any, .any, .any, .any, .any, .any, .any, .any, .any, .any, .any, .any, .any, .any, .any, .any, .any, .any, .any, .any, .any, .any, .any, .any, .any, .any, .any, .any, .any, .any, .any, .any, .any, .any, .any, .any, .any, .any, .any, .any, .any, .any, .any, .any, .any, .any, .any, .any, .any], [], [], none⟩) (fun i => some (.normal, ⟨[.any, .any, .any, .any, .any, .any, .any, .any, .any, .any, .any, .any, .any, .any, .any, .any, .any, .any, .any, .any, .any, .any, .any, .any, .any, .any, .any, .any, .any, .any, .any, .any, .any, .any, .any, .any, .any, .any, .any, .any, .any, .any, .any, .any, .any, .any, .any, .any, .any, .any, .any, .any, .any, .any, .any], [], [], none⟩)) h (fun _ => rfl) (fun _ => rfl) ?_ ?_
  · intro i rb hi ih

    have hi1 := i64_next hi hl
    have F1 : ((i : Int) < (a.length : Int)) = True := eq_true (by omega)
    have e1 := cal68 (b := a[i].data) (hd _ (List.getElem_mem hi))
    have F2 : ∀ n : Int, (n != n) = false := fun n => by simp
    simp only [fn41_b0, F1, F2, e1, eWr, index_nat hi, List.getElem?_map, List.getElem?_eq_getElem hi, Option.map_some, decide_true, memAll, vAll, reduceCtorEq, Nat.reduceEqDiff, Nat.reduceAdd, Nat.reduceLT, Nat.reduceLeDiff, Nat.beq]
    rw [ih _ (by simp only [hi1]; rfl)]
  · intro rb

    simp only [fn41_b0, Int.lt_irrefl,  memAll, vAll, reduceCtorEq, Nat.reduceEqDiff, Nat.reduceAdd, Nat.reduceLT, Nat.reduceLeDiff, Nat.beq]
    rfl

theorem cal41 {a : List Wrt} (hl : a.length ≤ lim) (hd : ∀ x ∈ a, x.data.length ≤ lim) : cal env 41 [.list 3 (a.map eWr), .list 3 (a.map eWr)] = some [(.bool true, false)] := by
  have G : (((a.length : Int)) != (a.length : Int)) = false := by simp
  rw [cal_code env41 rfl]; simp only [fn41]; simp only [start, z_map_cons, z_map_nil, z_len_cons, z_len_nil, z_repl_zero, z_repl_succ, z_cons_app, z_nil_app, Nat.reduceAdd, Nat.reduceSub]
  simp only [G, memAll, vAll, reduceCtorEq, Nat.reduceEqDiff, Nat.reduceAdd, Nat.reduceLT, Nat.reduceLeDiff, Nat.beq]
  rw [loop41 hl hd]
  rotate_left
  · rfl
  · simp only [memAll, vAll, reduceCtorEq, Nat.reduceEqDiff, Nat.reduceAdd, Nat.reduceLT, Nat.reduceLeDiff, Nat.beq]
end Go.Proofs.YtncobemfpammfaaGreatDoor.V

namespace Go.Proofs.YtncobemfpammfaaGreatDoor.V
theorem cal16 {a : List Wrt} (hl : a.length ≤ lim) (hd : ∀ x ∈ a, x.data.length ≤ lim) : cal env 16 [.list 3 (a.map eWr), .list 3 (a.map eWr)] = some [(.bool true, false)] := by
  have e1 := cal41 hl hd
  rw [cal_code env16 rfl]; simp only [fn16]; simp only [start, z_map_cons, z_map_nil, z_len_cons, z_len_nil, z_repl_zero, z_repl_succ, z_cons_app, z_nil_app, Nat.reduceAdd, Nat.reduceSub]
  simp only [e1, memAll, vAll, reduceCtorEq, Nat.reduceEqDiff, Nat.reduceAdd, Nat.reduceLT, Nat.reduceLeDiff, Nat.beq]
theorem loop17 {l m : List (List Exn)} {k : Nat} (hk : k < l.length) (hm : k < m.length) (hab : l[k].length = m[k].length) (hl : l[k].length ≤ lim) {st : St} (h : st.head [0, 1, 5, 6] st.boxes.length = some ⟨[.pv (.list 1 (l.map eExts)), .pv (.list 1 (m.map eExts)), .any, .any, .any, .pv (.int .i64 k), .pv (.int .i64 (0 : Nat)), .any, .any, .any, .any, .any, .any, .any, .any, .any, .any, .any, .any, .any, .any, .any, .any, .any, .any, .any, .any, .any, .any, .any, .any, .any, .any, .any, .any, .any, .any, .any, .any, .any, .any, .any, .any, .any, .any, .any, .any, .any, .any, .any, .any, .any, .any], [], [], none⟩) :
   den env fn17_l1 st = if l[k] = m[k] then some (.normal, ⟨[.pv (.list 1 (l.map eExts)), .pv (.list 1 (m.map eExts)), .any, .any, .any, .pv (.int .i64 k), .any, .any, .any, .any, .any, .any, .any, .any, .any, .any, .any, .any, .any, .any, .any, .any, .any, .any, .any, .any, .any, .any, .any, .any, .any, .any, .any, .any, .any, .any, .any, .any, .any, .any, .any, .any, .any, .any, .any, .any, .any, .any, .any, .any, .any, .any, .any], [], [], none⟩) else some (.ret, ⟨[.pv (.list 1 (l.map eExts)), .pv (.list 1 (m.map eExts)), .any, .any, .pv (.bool false), .pv (.int .i64 k), .any, .any, .any, .any, .any, .any, .any, .any, .any, .any, .any, .any, .any, .any, .any, .any, .any, .any, .any, .any, .any, .any, .any, .any, .any, .any, .any, .any, .any, .any, .any, .any, .any, .any, .any, .any, .any, .any, .any, .any, .any, .any, .any, .any, .any, .any, .any], [], [], none⟩) := by
  unfold fn17_l1
  rw [ clean_up (env := env) (l[k].length) (fun i => ⟨[.pv (.list 1 (l.map eExts)), .pv (.list 1 (m.map eExts)), .any, .any, .any, .pv (.int .i64 k), .pv (.int .i64 i), .any, .any, .any, .any, .any, .any, .any, .any, .any, .any, .any, .any, .any, .any, .any, .any, .any, .any, .any, .any, .any, .any, .any, .any, .any, .any, .any, .any, .any, .any, .any, .any, .any, .any, .any, .any, .any, .any, .any, .any, .any, .any, .any, .any, .any, .any], [], [], none⟩) (fun i => if l[k].drop i = m[k].drop i then some (.normal, ⟨[.pv (.list 1 (l.map eExts)), .pv (.list 1 (m.map eExts)), .any, .any, .any, .pv (.int .i64 k), .any, .any, .any, .any, .any, .any, .any, .any, .any, .any, .any, .any, .any, .any, .any, .any, .any, .any, .any, .any, .any, .any, .any, .any, .any, .any, .any, .any, .any, .any, .any, .any, .any, .any, .any, .any, .any, .any, .any, .any, .any, .any, .any, .any, .any, .any, .any], [], [], none⟩) else some (.ret, ⟨[.pv (.list 1 (l.map eExts)), .pv (.list 1 (m.map eExts)), .any, .any, .pv (.bool false), .pv (.int .i64 k), .any, .any, .any, .any, .any, .any, .any, .any, .any, .any, .any, .any, .any, .any, .any, .any, .any, .any, .any, .any, .any, .any, .any, .any, .any, .any, .any, .any, .any, .any, .any, .any, .any, .any, .any, .any, .any, .any, .any, .any, .any, .any, .any, .any, .any, .any, .any], [], [], none⟩)) h (fun _ => rfl) (fun _ => rfl) ?_ ?_]
  · first | rfl | simp only [List.drop_zero, List.take_zero, List.map_nil, Nat.zero_add, List.nil_append, List.foldl_nil]
  · intro i rb hi ih

    have hi1 := i64_next hi hl
    have hj : i < m[k].length := by omega
    have F1 : ((i : Int) < (l[k].length : Int)) = True := eq_true (by omega)
    have P : ∀ x : Exn, part [PV.int .i64 x.start, .int .i64 x.count] 0 (some 2) = some (.agg [.int .i64 x.start, .int .i64 x.count]) := fun x => rfl
    rw [List.drop_eq_getElem_cons hi, List.drop_eq_getElem_cons hj]
    by_cases c : l[k][i] = m[k][i]
    · have e1 := eqCells_ext l[k][i] m[k][i]
      rw [decide_eq_true c] at e1
      simp only [fn17_b0, F1, P, e1, eExts, eExt, index_nat hk, index_nat hm, index_nat hi, index_nat hj, List.getElem?_map, List.getElem?_eq_getElem hk, List.getElem?_eq_getElem hm, List.getElem?_eq_getElem hi, List.getElem?_eq_getElem hj, List.length_cons, List.length_nil, memAll, vAll, reduceCtorEq, Nat.reduceEqDiff, Nat.reduceAdd, Nat.reduceLT, Nat.reduceLeDiff, Nat.beq]
      rw [ih _ (by simp only [hi1]; rfl)]
      simp only [c, List.cons.injEq, true_and]
    · have e1 := eqCells_ext l[k][i] m[k][i]
      rw [decide_eq_false c] at e1
      simp only [fn17_b0, F1, P, e1, eExts, eExt, index_nat hk, index_nat hm, index_nat hi, index_nat hj, List.getElem?_map, List.getElem?_eq_getElem hk, List.getElem?_eq_getElem hm, List.getElem?_eq_getElem hi, List.getElem?_eq_getElem hj, List.length_cons, List.length_nil, memAll, vAll, reduceCtorEq, Nat.reduceEqDiff, Nat.reduceAdd, Nat.reduceLT, Nat.reduceLeDiff, Nat.beq]
      simp only [c, List.cons.injEq, false_and, if_false]
      rfl
  · intro rb

    simp only [fn17_b0, Int.lt_irrefl, eExts, index_nat hk, List.getElem?_map, List.getElem?_eq_getElem hk, memAll, vAll, reduceCtorEq, Nat.reduceEqDiff, Nat.reduceAdd, Nat.reduceLT, Nat.reduceLeDiff, Nat.beq]
    rw [List.drop_length, hab, List.drop_length, if_pos rfl]
    rfl

theorem loop17l3 {l m : List (List Exn)} (hab : l.length = m.length) (hl : l.length ≤ lim) (hr : ∀ x ∈ l, x.length ≤ lim) {st : St} (h : st.head [0, 1, 5] st.boxes.length = some ⟨[.pv (.list 1 (l.map eExts)), .pv (.list 1 (m.map eExts)), .any, .any, .any, .pv (.int .i64 (0 : Nat)), .any, .any, .any, .any, .any, .any, .any, .any, .any, .any, .any, .any, .any, .any, .any, .any, .any, .any, .any, .any, .any, .any, .any, .any, .any, .any, .any, .any, .any, .any, .any, .any, .any, .any, .any, .any, .any, .any, .any, .any, .any, .any, .any, .any, .any, .any, .any], [], [], none⟩) :
   den env fn17_l3 st = if l = m then some (.normal, ⟨[.any, .any, .any, .any, .any, .any, .any, .any, .any, .any, .any, .any, .any, .any, .any, .any, .any, .any, .any, .any, .any, .any, .any, .any, .any, .any, .any, .any, .any, .any, .any, .any, .any, .any, .any, .any, .any, .any, .any, .any, .any, .any, .any, .any, .any, .any, .any, .any, .any, .any, .any, .any, .any], [], [], none⟩) else some (.ret, ⟨[.any, .any, .any, .any, .pv (.bool false), .any, .any, .any, .any, .any, .any, .any, .any, .any, .any, .any, .any, .any, .any, .any, .any, .any, .any, .any, .any, .any, .any, .any, .any, .any, .any, .any, .any, .any, .any, .any, .any, .any, .any, .any, .any, .any, .any, .any, .any, .any, .any, .any, .any, .any, .any, .any, .any], [], [], none⟩) := by
  unfold fn17_l3
  rw [ clean_up (env := env) (l.length) (fun i => ⟨[.pv (.list 1 (l.map eExts)), .pv (.list 1 (m.map eExts)), .any, .any, .any, .pv (.int .i64 i), .any, .any, .any, .any, .any, .any, .any, .any, .any, .any, .any, .any, .any, .any, .any, .any, .any, .any, .any, .any, .any, .any, .any, .any, .any, .any, .any, .any, .any, .any, .any, .any, .any, .any, .any, .any, .any, .any, .any, .any, .any, .any, .any, .any, .any, .any, .any], [], [], none⟩) (fun i => if l.drop i = m.drop i then some (.normal, ⟨[.any, .any, .any, .any, .any, .any, .any, .any, .any, .any, .any, .any, .any, .any, .any, .any, .any, .any, .any, .any, .any, .any, .any, .any, .any, .any, .any, .any, .any, .any, .any, .any, .any, .any, .any, .any, .any, .any, .any, .any, .any, .any, .any, .any, .any, .any, .any, .any, .any, .any, .any, .any, .any], [], [], none⟩) else some (.ret, ⟨[.any, .any, .any, .any, .pv (.bool false), .any, .any, .any, .any, .any, .any, .any, .any, .any, .any, .any, .any, .any, .any, .any, .any, .any, .any, .any, .any, .any, .any, .any, .any, .any, .any, .any, .any, .any, .any, .any, .any, .any, .any, .any, .any, .any, .any, .any, .any, .any, .any, .any, .any, .any, .any, .any, .any], [], [], none⟩)) h (fun _ => rfl) (fun _ => rfl) ?_ ?_]
  · first | rfl | simp only [List.drop_zero, List.take_zero, List.map_nil, Nat.zero_add, List.nil_append, List.foldl_nil]
  · intro i rb hi ih

    have hi1 := i64_next hi hl
    have hj : i < m.length := by omega
    have F1 : ((i : Int) < (l.length : Int)) = True := eq_true (by omega)
    rw [List.drop_eq_getElem_cons hi, List.drop_eq_getElem_cons hj]
    by_cases c1 : l[i].length = m[i].length
    · have G : ((l[i].length : Int) != (m[i].length : Int)) = false := by simp; omega
      simp only [fn17_b2, F1, G, eExts, index_nat hi, index_nat hj, List.getElem?_map, List.getElem?_eq_getElem hi, List.getElem?_eq_getElem hj, memAll, vAll, reduceCtorEq, Nat.reduceEqDiff, Nat.reduceAdd, Nat.reduceLT, Nat.reduceLeDiff, Nat.beq]
      rw [loop17 (l := l) (m := m) hi hj c1 (hr _ (List.getElem_mem hi))]
      rotate_left
      · rfl
      by_cases c : l[i] = m[i]
      · rw [if_pos c]
        simp only [memAll, vAll, reduceCtorEq, Nat.reduceEqDiff, Nat.reduceAdd, Nat.reduceLT, Nat.reduceLeDiff, Nat.beq]
        rw [ih _ (by simp only [hi1]; rfl)]
        simp only [c, List.cons.injEq, true_and]
      · rw [if_neg c]
        simp only [c, List.cons.injEq, false_and, if_false, memAll, vAll, reduceCtorEq, Nat.reduceEqDiff, Nat.reduceAdd, Nat.reduceLT, Nat.reduceLeDiff, Nat.beq]
        rfl
    · have G : ((l[i].length : Int) != (m[i].length : Int)) = true := by simp; omega
      have c : ¬ l[i] = m[i] := fun e => c1 (by rw [e])
      simp only [fn17_b2, F1, G, eExts, index_nat hi, index_nat hj, List.getElem?_map, List.getElem?_eq_getElem hi, List.getElem?_eq_getElem hj, memAll, vAll, reduceCtorEq, Nat.reduceEqDiff, Nat.reduceAdd, Nat.reduceLT, Nat.reduceLeDiff, Nat.beq]
      simp only [c, List.cons.injEq, false_and, if_false]
      rfl
  · intro rb

    simp only [fn17_b2, Int.lt_irrefl, memAll, vAll, reduceCtorEq, Nat.reduceEqDiff, Nat.reduceAdd, Nat.reduceLT, Nat.reduceLeDiff, Nat.beq]
    rw [List.drop_length, hab, List.drop_length, if_pos rfl]
    rfl

theorem cal17 {l m : List (List Exn)} (hl : l.length ≤ lim) (hr : ∀ x ∈ l, x.length ≤ lim) : cal env 17 [.list 1 (l.map eExts), .list 1 (m.map eExts)] = some [(.bool (decide (l = m)), false)] := by
  rw [cal_code env17 rfl]; simp only [fn17]; simp only [start, z_map_cons, z_map_nil, z_len_cons, z_len_nil, z_repl_zero, z_repl_succ, z_cons_app, z_nil_app, Nat.reduceAdd, Nat.reduceSub]
  by_cases hab : l.length = m.length
  · have G : (((l.length : Int)) != (m.length : Int)) = false := by simp; omega
    simp only [G, memAll, vAll, reduceCtorEq, Nat.reduceEqDiff, Nat.reduceAdd, Nat.reduceLT, Nat.reduceLeDiff, Nat.beq]
    rw [loop17l3 hab hl hr]
    rotate_left
    · rfl
    · by_cases e : l = m <;> simp only [e, decide_true, decide_false, memAll, vAll, reduceCtorEq, Nat.reduceEqDiff, Nat.reduceAdd, Nat.reduceLT, Nat.reduceLeDiff, Nat.beq]
  · have G : (((l.length : Int)) != (m.length : Int)) = true := by simp; omega
    have : l ≠ m := fun e => hab (by rw [e])
    have hdf := decide_eq_false this
    simp only [G, hdf, memAll, vAll, reduceCtorEq, Nat.reduceEqDiff, Nat.reduceAdd, Nat.reduceLT, Nat.reduceLeDiff, Nat.beq]
end Go.Proofs.YtncobemfpammfaaGreatDoor.V

namespace Go.Proofs.YtncobemfpammfaaGreatDoor.V
theorem rng_foldP {β : Type} (B : β → List Box) (F : β → List PV → β) (P : Nat → β → Prop) (b0 : β) {g : Opd} {ps : List Nat} {assign body : VCode} {st : St} {f : Nat} {caps : List PV} {xs : List (List PV)} (hg : st.pvOf g = some (.func f caps)) (hi : iter env f caps none = some xs)
    (hB : st.boxes = B b0) (hP : P 0 b0)
    (h : ∀ j b x, P j b → xs[j]? = some x → ∀ sl0, P (j + 1) (F b x) ∧ ∃ sl1, round1 env (st.slots.map AV.froze) ps assign body st.boxes.length x ⟨sl0, B b, st.ys, st.stop⟩ = some (.normal, ⟨sl1, B (F b x), st.ys, st.stop⟩)) :
    den env (.rng g ps assign body) st = some (.normal, ⟨st.slots.map AV.froze, B (xs.foldl F b0), st.ys, st.stop⟩) := by
  have hsn : ∀ j x, xs[j]? = some x → xs.take (j + 1) = xs.take j ++ [x] := by
    intro j x hx
    rw [List.take_add_one, hx]; rfl
  have key : ∀ j, j ≤ xs.length → P j ((xs.take j).foldl F b0) := by
    intro j
    induction j with
    | zero => intro _; simpa using hP
    | succ j ih =>
      intro hj
      have hx := List.getElem?_eq_getElem (l := xs) (i := j) (by omega)
      rw [hsn _ _ hx, List.foldl_append]
      exact (h j _ _ (ih (by omega)) hx []).1
  have := rng_idx (env := env) (fun j => B ((xs.take j).foldl F b0)) hg hi (by simpa using hB) (ps := ps) (assign := assign) (body := body) ?_
  · rw [this, List.take_length]
  · intro j x hx sl0
    have hj := (List.getElem?_eq_some_iff.1 hx).1
    rw [hsn _ _ hx, List.foldl_append]
    exact (h j _ _ (key j (by omega)) hx sl0).2
end Go.Proofs.YtncobemfpammfaaGreatDoor.V

namespace Go.Proofs.YtncobemfpammfaaGreatDoor.V
theorem chkGo_in {size : Int} : ∀ (l : List Exn) (nx : Int), chkGo size nx l = 0 → ∀ e ∈ l, 0 ≤ e.start ∧ 1 ≤ e.count ∧ e.start + e.count ≤ size
  | [], _, _, e, he => by cases he
  | x :: l, nx, h, e, he => by
    unfold chkGo at h
    split at h
    · omega
    · split at h
      · omega
      · split at h
        · omega
        · rcases List.mem_cons.1 he with rfl | he
          · omega
          · exact chkGo_in l _ h e he
theorem chkX_in {l : List Exn} {size : Int} (h : chkX l size = 0) : ∀ e ∈ l, 0 ≤ e.start ∧ 1 ≤ e.count ∧ e.start + e.count ≤ size := by
  unfold chkX at h
  split at h
  · omega
  · exact chkGo_in l 0 h
theorem fit_at {im : Img} {l : List (List Exn)} (h : fitE im l = 0) {i : Nat} (hi : i < l.length) (hj : i < im.length) : chkX l[i] (im[i].length : Int) = 0 := by
  unfold fitE at h
  split at h
  · omega
  · split at h
    · omega
    · rename_i c
      have h2 : (fitB im l)[i]? = some (decide (chkX l[i] (im[i].length : Int) = 0)) := by simp [fitB, eachX, hi, hj]
      cases hd : decide (chkX l[i] (im[i].length : Int) = 0) with
      | true => simpa using hd
      | false =>
        rw [hd] at h2
        exact absurd (List.contains_iff_mem.2 (List.mem_of_getElem? h2)) c
def wOf (im : Img) (v : Nat) (e : Exn) : Wrt := ⟨v, e.start, ((im.getD v []).drop e.start.toNat).take e.count.toNat⟩
def wrV (im : Img) (v : Nat) (x : List Exn) : List Wrt := x.map (wOf im v)
def wrN (im : Img) (l : List (List Exn)) (n : Nat) : List Wrt := (List.range n).flatMap fun v => wrV im v (l.getD v [])
def wrL (im : Img) (l : List (List Exn)) : List Wrt := wrN im l l.length
def wrE (im : Img) (l : List (List Exn)) : Int := if imCheck im ≠ 0 then imCheck im else fitE im l
def wrO (im : Img) (l : List (List Exn)) : List Wrt := if wrE im l = 0 then wrL im l else []
theorem wrN_succ (im : Img) (l : List (List Exn)) (n : Nat) : wrN im l (n + 1) = wrN im l n ++ wrV im n (l.getD n []) := by simp [wrN, List.range_succ]
def volY (v : Nat) (x : List Exn) : List (List PV) := x.map fun e => [.int .i64 (v : Int), eExt e]
def volN (l : List (List Exn)) (n : Nat) : List (List PV) := (List.range n).flatMap fun v => volY v (l.getD v [])
theorem volN_succ (l : List (List Exn)) (n : Nat) : volN l (n + 1) = volN l n ++ volY n (l.getD n []) := by simp [volN, List.range_succ]
theorem loop62 {l : List (List Exn)} {v : Nat} {x : List Exn} (hl : x.length ≤ lim) {ys : List (List PV)}
   {st : St} (h : st.head [0, 3, 4, 7, 8, 9, 13, 14, 15, 16] st.boxes.length = some ⟨[.yld, .any, .any, .pv (.int .i64 v), .pv (.list 2 (x.map eExt)), .any, .any, .pv (.list 1 (l.map eExts)), .pv (.int .i64 l.length), .pv (.int .i64 v), .any, .any, .any, .pv (.list 2 (x.map eExt)), .pv (.list 2 (x.map eExt)), .pv (.int .i64 x.length), .pv (.int .i64 (0 : Nat)), .any, .any, .any, .any, .any, .any, .any, .any, .any, .any], [], ys, some none⟩) :
   den env fn62_l1 st = some (.normal, ⟨[.yld, .any, .any, .any, .any, .any, .any, .pv (.list 1 (l.map eExts)), .pv (.int .i64 l.length), .pv (.int .i64 v), .any, .any, .any, .any, .any, .any, .any, .any, .any, .any, .any, .any, .any, .any, .any, .any, .any], [], ys ++ volY v x, some none⟩) := by
  unfold fn62_l1
  refine clean_up (env := env) x.length (fun i => ⟨[.yld, .any, .any, .pv (.int .i64 v), .pv (.list 2 (x.map eExt)), .any, .any, .pv (.list 1 (l.map eExts)), .pv (.int .i64 l.length), .pv (.int .i64 v), .any, .any, .any, .pv (.list 2 (x.map eExt)), .pv (.list 2 (x.map eExt)), .pv (.int .i64 x.length), .pv (.int .i64 i), .any, .any, .any, .any, .any, .any, .any, .any, .any, .any], [], ys ++ volY v (x.take i), some none⟩)
    (fun _ => some (.normal, ⟨[.yld, .any, .any, .any, .any, .any, .any, .pv (.list 1 (l.map eExts)), .pv (.int .i64 l.length), .pv (.int .i64 v), .any, .any, .any, .any, .any, .any, .any, .any, .any, .any, .any, .any, .any, .any, .any, .any, .any], [], ys ++ volY v x, some none⟩)) (by rw [h]; simp [volY]) (fun _ => rfl) (fun _ => rfl) ?_ ?_
  · intro i rb hi ih
    have hi1 := i64_next hi hl
    have F1 : ((i : Int) < (x.length : Int)) = True := eq_true (by omega)
    have P : ∀ x : Exn, part [PV.int .i64 x.start, .int .i64 x.count] 0 (some 2) = some (.agg [.int .i64 x.start, .int .i64 x.count]) := fun x => rfl
    have e2 : ys ++ volY v (x.take (i + 1)) = ys ++ volY v (x.take i) ++ [[.int .i64 (v : Int), .agg [.int .i64 x[i].start, .int .i64 x[i].count]]] := by
      rw [List.take_succ_eq_append_getElem hi]; simp only [volY, List.map_append, List.map_cons, List.map_nil, List.append_assoc, eExt]
    simp only [fn62_b0, F1, P, eExt, index_nat hi, List.getElem?_map, List.getElem?_eq_getElem hi, Option.map_some, List.length_cons, List.length_nil, memAll, vAll, reduceCtorEq, Nat.reduceEqDiff, Nat.reduceAdd, Nat.reduceLT, Nat.reduceLeDiff, Nat.beq]
    rw [ih _ (by simp only [hi1]; rw [e2]; rfl)]
  · intro rb
    simp only [fn62_b0, Int.lt_irrefl, memAll, vAll, reduceCtorEq, Nat.reduceEqDiff, Nat.reduceAdd, Nat.reduceLT, Nat.reduceLeDiff, Nat.beq]
    rfl
theorem loop62b {l : List (List Exn)} (hl : l.length ≤ lim) (hr : ∀ x ∈ l, x.length ≤ lim)
   {st : St} (h : st.head [0, 7, 8, 9] st.boxes.length = some ⟨[.yld, .any, .any, .any, .any, .any, .any, .pv (.list 1 (l.map eExts)), .pv (.int .i64 l.length), .pv (.int .i64 (0 : Nat)), .any, .any, .any, .any, .any, .any, .any, .any, .any, .any, .any, .any, .any, .any, .any, .any, .any], [], volN l 0, some none⟩) :
   den env fn62_l3 st = some (.normal, ⟨[.any, .any, .any, .any, .any, .any, .any, .any, .any, .any, .any, .any, .any, .any, .any, .any, .any, .any, .any, .any, .any, .any, .any, .any, .any, .any, .any], [], volN l l.length, some none⟩) := by
  unfold fn62_l3
  refine clean_up (env := env) l.length (fun i => ⟨[.yld, .any, .any, .any, .any, .any, .any, .pv (.list 1 (l.map eExts)), .pv (.int .i64 l.length), .pv (.int .i64 i), .any, .any, .any, .any, .any, .any, .any, .any, .any, .any, .any, .any, .any, .any, .any, .any, .any], [], volN l i, some none⟩) (fun _ => some (.normal, ⟨[.any, .any, .any, .any, .any, .any, .any, .any, .any, .any, .any, .any, .any, .any, .any, .any, .any, .any, .any, .any, .any, .any, .any, .any, .any, .any, .any], [], volN l l.length, some none⟩)) h (fun _ => rfl) (fun _ => rfl) ?_ ?_
  · intro i rb hi ih
    have hi1 := i64_next hi hl
    have F1 : ((i : Int) < (l.length : Int)) = True := eq_true (by omega)
    have e2 : l.getD i [] = l[i] := by simp [hi]
    rw [volN_succ, e2] at ih
    simp only [fn62_b2, F1, eExts, index_nat hi, List.getElem?_map, List.getElem?_eq_getElem hi, Option.map_some, List.length_map, memAll, vAll, reduceCtorEq, Nat.reduceEqDiff, Nat.reduceAdd, Nat.reduceLT, Nat.reduceLeDiff, Nat.beq]
    rw [loop62 (l := l) (v := i) (x := l[i]) (hr _ (List.getElem_mem hi))]
    rotate_left
    · rfl
    simp only [memAll, vAll, reduceCtorEq, Nat.reduceEqDiff, Nat.reduceAdd, Nat.reduceLT, Nat.reduceLeDiff, Nat.beq]
    rw [ih _ (by simp only [hi1]; rfl)]
  · intro rb
    simp only [fn62_b2, Int.lt_irrefl, memAll, vAll, reduceCtorEq, Nat.reduceEqDiff, Nat.reduceAdd, Nat.reduceLT, Nat.reduceLeDiff, Nat.beq]
    rfl
theorem iter62 {l : List (List Exn)} (hl : l.length ≤ lim) (hr : ∀ x ∈ l, x.length ≤ lim) : iter env 62 [.iptr [.list 1 (l.map eExts)] 0] none = some (volN l l.length) := by
  rw [iter_code env62 rfl rfl]
  simp only [fn62, ystart, z_map_cons, z_map_nil, z_len_cons, z_len_nil, z_repl_zero, z_repl_succ, z_cons_app, z_nil_app, Nat.reduceAdd, Nat.reduceSub]
  simp only [List.length_map, memAll, vAll, reduceCtorEq, Nat.reduceEqDiff, Nat.reduceAdd, Nat.reduceLT, Nat.reduceLeDiff, Nat.beq]
  rw [loop62b hl hr]
  rotate_left
  · rfl
  simp only [vRng, memAll, vAll, reduceCtorEq, Nat.reduceEqDiff, Nat.reduceAdd, Nat.reduceLT, Nat.reduceLeDiff, Nat.beq]
theorem cal31 {l : List PV} : cal env 31 [.list 1 l] = some [(.func 62 [.iptr [.list 1 l] 0], false)] := by
  rw [cal_code env31 rfl]; simp only [fn31]; simp only [start, z_map_cons, z_map_nil, z_len_cons, z_len_nil, z_repl_zero, z_repl_succ, z_cons_app, z_nil_app, Nat.reduceAdd, Nat.reduceSub]
  simp only [ memAll, vAll, reduceCtorEq, Nat.reduceEqDiff, Nat.reduceAdd, Nat.reduceLT, Nat.reduceLeDiff, Nat.beq]
def wF (im : Img) (acc : List Wrt) : List PV → List Wrt
  | [.int _ v, .agg [.int _ s, .int _ c]] => acc ++ [wOf im v.toNat ⟨s, c⟩]
  | _ => acc
theorem fold_volY (im : Img) (v : Nat) : ∀ (x : List Exn) (acc : List Wrt), (volY v x).foldl (wF im) acc = acc ++ wrV im v x
  | [], acc => by simp [volY, wrV]
  | e :: x, acc => by
    have h := fold_volY im v x (acc ++ [wOf im v e])
    have e2 : volY v (e :: x) = [.int .i64 (v : Int), eExt e] :: volY v x := rfl
    have e3 : wF im acc [.int .i64 (v : Int), eExt e] = acc ++ [wOf im v e] := by simp [wF, eExt]
    rw [e2, List.foldl_cons, e3, h]
    simp [wrV]
theorem fold_volN (im : Img) (l : List (List Exn)) : ∀ n, (volN l n).foldl (wF im) [] = wrN im l n
  | 0 => by simp [volN, wrN]
  | n + 1 => by rw [volN_succ, List.foldl_append, fold_volN im l n, fold_volY, wrN_succ]
theorem volN_len (im : Img) (l : List (List Exn)) (n : Nat) : (volN l n).length = (wrN im l n).length := by
  induction n with
  | zero => simp [volN, wrN]
  | succ n ih => rw [volN_succ, wrN_succ, List.length_append, List.length_append, ih]; simp [volY, wrV]
theorem volN_mem {l : List (List Exn)} {n : Nat} {x : List PV} (h : x ∈ volN l n) : ∃ v, v < n ∧ ∃ e ∈ l.getD v [], x = [.int .i64 (v : Int), eExt e] := by
  simp only [volN, List.mem_flatMap, List.mem_range] at h
  obtain ⟨v, hv, hx⟩ := h
  simp only [volY, List.mem_map] at hx
  obtain ⟨e, he, rfl⟩ := hx
  exact ⟨v, hv, e, he, rfl⟩
theorem cal12 {im : Img} {l : List (List Exn)} (hi : im.length ≤ lim) (hri : ∀ v ∈ im, v.length ≤ 1000000) (ho : ∀ x ∈ l, okEs x) (hr : ∀ x ∈ l, x.length ≤ 10000) (hl : l.length ≤ lim) (hL : fitE im l = 0 → (wrL im l).length ≤ 1000000) :
    cal env 12 [.list 1 (im.map eSecs), .list 1 (l.map eExts)] = some [(.list 3 ((wrO im l).map eWr), true), (.int .i64 (wrE im l), false)] := by
  have e1 := cal19 hi
  have e2 := cal30 (im := im) ho hr hl
  have e3 := cal31 (l := l.map eExts)
  unfold wrO wrE
  by_cases c1 : imCheck im = 0
  · rw [c1] at e1
    have n1 : (if imCheck im ≠ 0 then imCheck im else fitE im l) = fitE im l := if_neg (by simpa using c1)
    rw [n1]
    have Z : ((0 : Int) != 0) = false := rfl
    by_cases c2 : fitE im l = 0
    · have hL := hL c2
      have hfl := fit_len c2
      rw [c2] at e2
      rw [c2]
      have hlim : lim = 1073741824 := rfl
      have hvl : (volN l l.length).length = (wrL im l).length := volN_len im l l.length
      rw [cal_code env12 rfl]; simp only [fn12]; simp only [start, z_map_cons, z_map_nil, z_len_cons, z_len_nil, z_repl_zero, z_repl_succ, z_cons_app, z_nil_app, Nat.reduceAdd, Nat.reduceSub]
      simp only [e1, e2, e3, Z, memAll, vAll, reduceCtorEq, Nat.reduceEqDiff, Nat.reduceAdd, Nat.reduceLT, Nat.reduceLeDiff, Nat.beq]
      rw [rng_foldP (fun acc => [⟨false, [.pv (.list 1 (im.map eSecs))]⟩, ⟨false, [.row 3 (acc.map eWr)]⟩]) (wF im) (fun j acc => acc.length ≤ j) [] rfl (iter62 hl (fun x hx => Nat.le_trans (hr x hx) (by decide))) rfl (Nat.zero_le _) ?_]
      · have hz : (volN l l.length).foldl (wF im) [] = wrL im l := fold_volN im l l.length
        simp only [hz, vRng, memAll, vAll, reduceCtorEq, Nat.reduceEqDiff, Nat.reduceAdd, Nat.reduceLT, Nat.reduceLeDiff, Nat.beq]
      · intro j acc x hb hx sl0
        have hj := (List.getElem?_eq_some_iff.1 hx).1
        obtain ⟨v, hv, e, he, rfl⟩ := volN_mem (List.mem_of_getElem? hx)
        have hvi : v < im.length := by omega
        have e4 : l.getD v [] = l[v] := by simp [hv]
        rw [e4] at he
        obtain ⟨q1, q2, q3⟩ := chkX_in (fit_at c2 hv hvi) e he
        have hvlen := hri _ (List.getElem_mem hvi)
        have F1 : (acc.length + 1 ≤ lim) = True := eq_true (by omega)
        have W : IntKind.i64.wrap (e.start + e.count) = e.start + e.count := i64_fits (by omega)
        have B1 : (0 ≤ e.start ∧ e.start ≤ ((e.start + e.count).toNat : Int)) = True := eq_true (by omega)
        have B2 : (0 ≤ e.start + e.count ∧ e.start + e.count ≤ (im[v].length : Int)) = True := eq_true (by omega)
        have hcl := cal32 (es := ((im[v].map eSec).drop e.start.toNat).take ((e.start + e.count).toNat - e.start.toNat)) (by simp; omega)
        have e5 : wF im acc [.int .i64 (v : Int), eExt e] = acc ++ [wOf im v e] := by simp [wF, eExt]
        have e6 : (e.start + e.count).toNat - e.start.toNat = e.count.toNat := by omega
        have e7 : ((im[v].map eSec).drop e.start.toNat).take e.count.toNat = ((im[v].drop e.start.toNat).take e.count.toNat).map eSec := by simp [List.map_take, List.map_drop]
        have e8 : im.getD v [] = im[v] := by simp [hvi]
        rw [e6, e7] at hcl
        rw [e5]
        refine ⟨by simp; omega, ?_⟩
        refine ⟨?_, ?_⟩
        rotate_left
        · simp only [fn12_b0, fn12_b1, F1, W, B1, B2, e6, e7, hcl, eSecs, eExt, eWr, wOf, e8, index_nat hvi, List.getElem?_map, List.getElem?_eq_getElem hvi, Option.map_some, List.length_map, List.map_append, List.map_cons, List.map_nil, vRng, memAll, vAll, reduceCtorEq, Nat.reduceEqDiff, Nat.reduceAdd, Nat.reduceLT, Nat.reduceLeDiff, Nat.beq]
          rfl
    · have G : (fitE im l != 0) = true := by simp [c2]
      rw [if_neg c2]
      rw [cal_code env12 rfl]; simp only [fn12]; simp only [start, z_map_cons, z_map_nil, z_len_cons, z_len_nil, z_repl_zero, z_repl_succ, z_cons_app, z_nil_app, Nat.reduceAdd, Nat.reduceSub]
      simp only [e1, e2, G, Z, memAll, vAll, reduceCtorEq, Nat.reduceEqDiff, Nat.reduceAdd, Nat.reduceLT, Nat.reduceLeDiff, Nat.beq]
      all_goals rfl
  · have G : (imCheck im != 0) = true := by simp [c1]
    have n1 : (if imCheck im ≠ 0 then imCheck im else fitE im l) = imCheck im := if_pos c1
    rw [n1, if_neg c1]
    rw [cal_code env12 rfl]; simp only [fn12]; simp only [start, z_map_cons, z_map_nil, z_len_cons, z_len_nil, z_repl_zero, z_repl_succ, z_cons_app, z_nil_app, Nat.reduceAdd, Nat.reduceSub]
    simp only [e1, G, memAll, vAll, reduceCtorEq, Nat.reduceEqDiff, Nat.reduceAdd, Nat.reduceLT, Nat.reduceLeDiff, Nat.beq]
    all_goals rfl
end Go.Proofs.YtncobemfpammfaaGreatDoor.V

namespace Go.Proofs.YtncobemfpammfaaGreatDoor.V
def sK (n : UInt8) : Sec := #v[n, 0, 0, 0, 0, 0, 0, 0]
theorem eS0 : eSec (sK 0) = .agg [.int .u8 0, .int .u8 0, .int .u8 0, .int .u8 0, .int .u8 0, .int .u8 0, .int .u8 0, .int .u8 0] := rfl
theorem eS1 : eSec (sK 1) = .agg [.int .u8 1, .int .u8 0, .int .u8 0, .int .u8 0, .int .u8 0, .int .u8 0, .int .u8 0, .int .u8 0] := rfl
theorem eS2 : eSec (sK 2) = .agg [.int .u8 2, .int .u8 0, .int .u8 0, .int .u8 0, .int .u8 0, .int .u8 0, .int .u8 0, .int .u8 0] := rfl
theorem eS3 : eSec (sK 3) = .agg [.int .u8 3, .int .u8 0, .int .u8 0, .int .u8 0, .int .u8 0, .int .u8 0, .int .u8 0, .int .u8 0] := rfl
def awS : Img := [[sK 1, sK 2, sK 0, sK 0, sK 3]]
def awT : Img := [[sK 0, sK 2, sK 0, sK 0, sK 0]]
def awL : List (List Exn) := [[⟨0, 2⟩, ⟨4, 1⟩]]
def awN : List (List Exn) := [[⟨0, 1⟩, ⟨4, 1⟩]]
def awW : List Wrt := [⟨0, 0, [sK 1, sK 2]⟩, ⟨0, 4, [sK 3]⟩]
theorem xW : wrO awS awL = awW := by kernel_rfl
theorem xWe : wrE awS awL = 0 := by kernel_rfl
theorem xN : needO awS awT awL = awN := by kernel_rfl
theorem xNe : needE awS awT awL = 0 := by kernel_rfl
theorem xNe2 : needE awS awT awN = 0 := by kernel_rfl
theorem xE1 : exactB awS awT awN = true := by kernel_rfl
theorem xE2 : exactB awS awT awL = false := by kernel_rfl
theorem xC1 : costL awL = 3 := by kernel_rfl
theorem xC2 : costL awN = 2 := by kernel_rfl
theorem okL : ∀ x ∈ awL, okEs x := by unfold awL okEs okE; decide
theorem okN : ∀ x ∈ awN, okEs x := by unfold awN okEs okE; decide
theorem shL : ∀ x ∈ awL, x.length ≤ 10000 := by decide
theorem shN : ∀ x ∈ awN, x.length ≤ 10000 := by decide
theorem shS : ∀ v ∈ awS, v.length ≤ 4096 := by unfold awS; intro v hv; simp only [List.mem_singleton] at hv; subst hv; decide
set_option maxRecDepth 20000 in
theorem calAwake : cal env 6 [] = some [(.bool true, false)] := by
  have w1 := cal12 (im := awS) (l := awL) (by decide) (fun v hv => Nat.le_trans (shS v hv) (by decide)) okL shL (by decide) (fun _ => by decide)
  rw [xW, xWe] at w1
  have n1 := cal14 (a := awS) (b := awT) (l := awL) (by decide) (by decide) shS okL shL (by decide)
  rw [xN, xNe] at n1
  have d1 := cal15 (a := awS) (b := awT) (l := awN) (by decide) (by decide) shS okN shN (by decide)
  rw [xE1, xNe2] at d1
  have d2 := cal15 (a := awS) (b := awT) (l := awL) (by decide) (by decide) shS okL shL (by decide)
  rw [xE2, xNe] at d2
  have s1 := cal16 (a := awW) (by decide) (by decide)
  have s2 := cal17 (l := awN) (m := awN) (by decide) (by decide)
  rw [decide_eq_true rfl] at s2
  have c1 := cal18 (l := awL) okL shL (by decide)
  rw [xC1] at c1
  have c2 := cal18 (l := awN) okN shN (by decide)
  rw [xC2] at c2
  simp only [awS, awT, awL, awN, awW, eWr, eSecs, eExts, eExt, eS0, eS1, eS2, eS3, List.map_cons, List.map_nil] at w1 n1 d1 d2 s1 s2 c1 c2
  have L1 : (1 ≤ lim) = True := eq_true (by decide)
  have L2 : (2 ≤ lim) = True := eq_true (by decide)
  have L3 : (3 ≤ lim) = True := eq_true (by decide)
  have L5 : (5 ≤ lim) = True := eq_true (by decide)
  have W0 : IntKind.i64.wrap 0 = 0 := by kernel_rfl
  have Z0 : ((0 : Int) != 0) = false := rfl
  have Q3 : ((3 : Int) == 3) = true := rfl
  have Q2 : ((2 : Int) == 2) = true := rfl
  rw [cal_code env6 rfl]; simp only [fn6, slAll, Nat.reduceBEq, Nat.reduceLeDiff, Nat.reduceAdd, List.length_cons, List.length_nil]
  simp only [W0, Z0, Q3, Q2, Int.add_zero, w1, n1, d1, d2, s1, s2, c1, c2, L1, L2, L3, L5, List.length_cons, List.length_nil, slAll, slsAll, Nat.reduceMul, Nat.reduceBEq, Nat.reduceLT, Nat.reduceLeDiff, memAll, vAll, reduceCtorEq, Nat.reduceEqDiff, Nat.reduceAdd, Nat.reduceLT, Nat.reduceLeDiff, Nat.beq]
end Go.Proofs.YtncobemfpammfaaGreatDoor.V

namespace Go.Proofs.YtncobemfpammfaaGreatDoor.V
end Go.Proofs.YtncobemfpammfaaGreatDoor.V

namespace Go.Proofs.YtncobemfpammfaaGreatDoor.V

theorem getD_lt {α : Type} {l : List α} {i : Nat} {d : α} (h : i < l.length) : l.getD i d = l[i] := by simp [List.getD_eq_getElem?_getD, List.getElem?_eq_getElem h]
end Go.Proofs.YtncobemfpammfaaGreatDoor.V

namespace Go.Proofs.YtncobemfpammfaaGreatDoor.V
def mrgX (a b : List Bm) : List (List Exn) := (mrgO a b).map bmX
theorem cal27 {i : Int} {b : Bm} : cal env 27 [.int .i64 i, eBm b] = some [(.list 2 ((bmX b).map eExt), true)] := by
  have e1 := cal28 (b := b)
  have eA : ∀ a : Bm, eBm a = .agg [.int .i64 a.size, .list 1 (a.ws.map eW)] := fun _ => rfl
  rw [eA] at e1 ⊢
  rw [cal_code env27 rfl]; simp only [fn27]; simp only [start, z_map_cons, z_map_nil, z_len_cons, z_len_nil, z_repl_zero, z_repl_succ, z_cons_app, z_nil_app, Nat.reduceAdd, Nat.reduceSub]
  simp only [e1, memAll, vAll, reduceCtorEq, Nat.reduceEqDiff, Nat.reduceAdd, Nat.reduceLT, Nat.reduceLeDiff, Nat.beq]
set_option maxRecDepth 20000 in
theorem loop26 {l : List Bm} {gf : Nat} (hf : ∀ (i : Int) (x : Bm), cal env gf [.int .i64 i, eBm x] = some [(.list 2 ((bmX x).map eExt), true)]) (hm : l.length ≤ lim) {st : St} (h : st.head [0, 1, 5, 8, 9, 10, 21] st.boxes.length = some ⟨sl 24 [(0, .pv (.list 2 (l.map eBm))), (1, .pv (.func gf [])), (5, .row 1 (((l.map bmX).take ((0 : Nat))).map eExts)), (8, .pv (.list 2 (l.map eBm))), (9, .pv (.int .i64 l.length)), (10, .pv (.int .i64 (0 : Nat))), (21, .any)], [], [], none⟩) :
   den env fn26_l1 st = some (.normal, ⟨sl 24 [(4, .any), (5, .row 1 ((l.map bmX).map eExts))], [], [], none⟩) := by
  unfold fn26_l1
  refine clean_up (env := env) (l.length) (fun i => ⟨sl 24 [(0, .pv (.list 2 (l.map eBm))), (1, .pv (.func gf [])), (5, .row 1 (((l.map bmX).take (i)).map eExts)), (8, .pv (.list 2 (l.map eBm))), (9, .pv (.int .i64 l.length)), (10, .pv (.int .i64 i)), (21, .any)], [], [], none⟩) (fun i => some (.normal, ⟨sl 24 [(4, .any), (5, .row 1 ((l.map bmX).map eExts))], [], [], none⟩)) h (fun _ => rfl) (fun _ => by simp only [slAll, slsAll, Nat.reduceMul, Nat.reduceBEq, Nat.reduceLT, Nat.reduceLeDiff, Nat.reduceAdd, decide_true, Bool.and_self, Bool.true_and]) ?_ ?_
  · intro i rb hi ih

    have hi1 := i64_next hi hm
    have F1 : ((i : Int) < (l.length : Int)) = True := eq_true (by omega)
    have e1 : cal env gf [.int .i64 (i : Nat), .agg [.int .i64 l[i].size, .list 1 (l[i].ws.map eW)]] = some [(.list 2 ((bmX l[i]).map eExt), true)] := hf (i : Nat) l[i]
    have eC : ∀ a : Bm, (eBm a).cells = [.int .i64 a.size, .list 1 (a.ws.map eW)] := fun _ => rfl
    have F3 : (((l.map bmX).take i).length + 1 ≤ lim) = True := eq_true (by rw [List.length_take, List.length_map]; omega)
    have hs : (l.map bmX).take (i + 1) = (l.map bmX).take i ++ [bmX l[i]] := by
      have h : i < (l.map bmX).length := by rw [List.length_map]; exact hi
      rw [List.take_succ_eq_append_getElem h, List.getElem_map]
    simp only [fn26_b0, F1, F3, e1, eC, index_nat hi, List.getElem?_map, List.getElem?_eq_getElem hi, Option.map_some, List.length_map, part_more, slAll, slsAll, Nat.reduceMul, Nat.reduceBEq, Nat.reduceLT, Nat.reduceLeDiff, memAll, vAll, reduceCtorEq, Nat.reduceEqDiff, Nat.reduceAdd, Nat.reduceLT, Nat.reduceLeDiff, Nat.beq]
    rw [ih _ (by rw [hs, List.map_append]; simp only [hi1, slAll, slsAll, Nat.reduceMul, Nat.reduceBEq, Nat.reduceLT, Nat.reduceLeDiff, memAll, vAll, reduceCtorEq, Nat.reduceEqDiff, Nat.reduceAdd, Nat.reduceLT, Nat.reduceLeDiff, Nat.beq] <;> rfl)]
  · intro rb

    have hz : (l.map bmX).take l.length = l.map bmX := List.take_of_length_le (by rw [List.length_map]; exact Nat.le_refl _)
    rw [hz]
    simp only [fn26_b0, Int.lt_irrefl, List.length_map, slAll, slsAll, Nat.reduceMul, Nat.reduceBEq, Nat.reduceLT, Nat.reduceLeDiff, memAll, vAll, reduceCtorEq, Nat.reduceEqDiff, Nat.reduceAdd, Nat.reduceLT, Nat.reduceLeDiff, Nat.beq]

theorem cal26 {l : List Bm} {gf : Nat} (hf : ∀ (i : Int) (x : Bm), cal env gf [.int .i64 i, eBm x] = some [(.list 2 ((bmX x).map eExt), true)]) (hm : l.length ≤ lim) :
    cal env 26 [.list 2 (l.map eBm), .func gf []] = some [(.list 1 ((l.map bmX).map eExts), true)] := by
  rw [cal_code env26 rfl]; simp only [fn26, slAll, Nat.reduceBEq, Nat.reduceLeDiff, Nat.reduceAdd, List.length_cons, List.length_nil]
  simp only [List.length_map, slAll, slsAll, Nat.reduceMul, Nat.reduceBEq, Nat.reduceLT, Nat.reduceLeDiff, memAll, vAll, reduceCtorEq, Nat.reduceEqDiff, Nat.reduceAdd, Nat.reduceLT, Nat.reduceLeDiff, Nat.beq]
  rw [loop26 hf hm]
  rotate_left
  · simp only [slAll, slsAll, Nat.reduceMul, Nat.reduceBEq, Nat.reduceLT, Nat.reduceLeDiff, Nat.reduceAdd, decide_true, Bool.and_self, Bool.true_and] <;> rfl
  · have hz : ((l.map bmX).map eExts).take l.length = (l.map bmX).map eExts := List.take_of_length_le (by rw [List.length_map, List.length_map]; exact Nat.le_refl _)
    simp only [hz, slAll, slsAll, Nat.reduceMul, Nat.reduceBEq, Nat.reduceLT, Nat.reduceLeDiff, memAll, vAll, reduceCtorEq, Nat.reduceEqDiff, Nat.reduceAdd, Nat.reduceLT, Nat.reduceLeDiff, Nat.beq]
theorem mrgO_len {a b : List Bm} : (mrgO a b).length ≤ a.length := by
  unfold mrgO
  split
  · rw [List.length_zipWith]; exact Nat.min_le_left _ _
  · simp
theorem cal10 {a b : List Bm} (hm : a.length ≤ lim) : cal env 10 [.list 2 (a.map eBm), .list 2 (b.map eBm)] = some [(.list 1 ((mrgX a b).map eExts), true), (.int .i64 (mrgE a b), false)] := by
  have e1 := cal25 (b := b) hm
  have e2 := cal26 (l := mrgO a b) (gf := 27) (fun i x => cal27) (Nat.le_trans mrgO_len hm)
  by_cases c : mrgE a b = 0
  · have G : ((0 : Int) != 0) = false := rfl
    rw [c] at e1 ⊢
    unfold mrgX
    rw [cal_code env10 rfl]; simp only [fn10]; simp only [start, z_map_cons, z_map_nil, z_len_cons, z_len_nil, z_repl_zero, z_repl_succ, z_cons_app, z_nil_app, Nat.reduceAdd, Nat.reduceSub]
    simp only [e1, e2, G, memAll, vAll, reduceCtorEq, Nat.reduceEqDiff, Nat.reduceAdd, Nat.reduceLT, Nat.reduceLeDiff, Nat.beq]
  · have G : (mrgE a b != 0) = true := by simp [c]
    have h : mrgX a b = [] := by unfold mrgX mrgO; rw [if_neg c]; rfl
    rw [h, List.map_nil]
    rw [cal_code env10 rfl]; simp only [fn10]; simp only [start, z_map_cons, z_map_nil, z_len_cons, z_len_nil, z_repl_zero, z_repl_succ, z_cons_app, z_nil_app, Nat.reduceAdd, Nat.reduceSub]
    simp only [e1, G, memAll, vAll, reduceCtorEq, Nat.reduceEqDiff, Nat.reduceAdd, Nat.reduceLT, Nat.reduceLeDiff, Nat.beq]
end Go.Proofs.YtncobemfpammfaaGreatDoor.V

namespace Go.Proofs.YtncobemfpammfaaGreatDoor.V
def ordW (x w : Wrt) : Prop := x.volume < w.volume ∨ x.volume = w.volume ∧ x.start + x.data.length < w.start
def seqW (im : Img) (l : List Wrt) : Prop := (∀ w ∈ l, fitsErr im w = 0) ∧ ∀ i (h : i + 1 < l.length), ordW l[i] l[i + 1]
theorem fits_in {im : Img} {w : Wrt} (h : fitsErr im w = 0) : 0 ≤ w.volume ∧ w.volume < im.length ∧ 0 ≤ w.start ∧ w.start + w.data.length ≤ ((im.getD w.volume.toNat []).length : Int) := by
  unfold fitsErr at h
  split at h
  · omega
  · split at h
    · omega
    · split at h
      · omega
      · omega
theorem getD_len {im : Img} (hr : ∀ v ∈ im, v.length ≤ 1000000) (v : Nat) : (im.getD v []).length ≤ 1000000 := by
  by_cases h : v < im.length
  · have e : im.getD v [] = im[v] := by simp [h]
    rw [e]; exact hr _ (List.getElem_mem h)
  · have e : im.getD v [] = [] := by simp [List.getD_eq_getElem?_getD, List.getElem?_eq_none (Nat.le_of_not_lt h)]
    rw [e]; simp
end Go.Proofs.YtncobemfpammfaaGreatDoor.V

namespace Go.Proofs.YtncobemfpammfaaGreatDoor.V
theorem chkGo_pair {size : Int} : ∀ (l : List Exn) (nx : Int), chkGo size nx l = 0 → (∀ e ∈ l, nx ≤ e.start ∧ 1 ≤ e.count) ∧ l.Pairwise (fun a b => a.start + a.count < b.start)
  | [], _, _ => ⟨fun e he => (by cases he), List.Pairwise.nil⟩
  | x :: l, nx, h => by
    unfold chkGo at h
    split at h
    · omega
    · split at h
      · omega
      · split at h
        · omega
        · obtain ⟨h1, h2⟩ := chkGo_pair l _ h
          refine ⟨fun e he => ?_, List.pairwise_cons.2 ⟨fun e he => by have := h1 e he; omega, h2⟩⟩
          rcases List.mem_cons.1 he with rfl | he
          · omega
          · have := h1 e he; omega
theorem chkX_pair {l : List Exn} {size : Int} (h : chkX l size = 0) : l.Pairwise (fun a b => a.start + a.count < b.start) := by
  unfold chkX at h
  split at h
  · omega
  · exact (chkGo_pair l 0 h).2
theorem wOf_len {im : Img} {v : Nat} {e : Exn} (h0 : 0 ≤ e.start) (h1 : 1 ≤ e.count) (h2 : e.start + e.count ≤ ((im.getD v []).length : Int)) : (((wOf im v e).data.length : Nat) : Int) = e.count := by
  simp only [wOf, List.length_take, List.length_drop]; omega
theorem wrL_mem {im : Img} {l : List (List Exn)} {n : Nat} {w : Wrt} (h : w ∈ wrN im l n) : ∃ v, v < n ∧ ∃ e ∈ l.getD v [], w = wOf im v e := by
  simp only [wrN, List.mem_flatMap, List.mem_range, wrV, List.mem_map] at h
  obtain ⟨v, hv, e, he, rfl⟩ := h
  exact ⟨v, hv, e, he, rfl⟩
theorem wr_at {im : Img} {l : List (List Exn)} (h : fitE im l = 0) {v : Nat} (hv : v < l.length) {e : Exn} (he : e ∈ l.getD v []) : 0 ≤ e.start ∧ 1 ≤ e.count ∧ e.start + e.count ≤ ((im.getD v []).length : Int) := by
  have hf := fit_len h
  have e1 : l.getD v [] = l[v] := by simp [hv]
  have e2 : im.getD v [] = im[v] := by simp [show v < im.length by omega]
  rw [e1] at he
  rw [e2]
  exact chkX_in (fit_at h hv (by omega)) e he
theorem wrL_seq {im : Img} {l : List (List Exn)} (h : fitE im l = 0) : seqW im (wrL im l) := by
  have hf := fit_len h
  refine ⟨fun w hw => ?_, ?_⟩
  · obtain ⟨v, hv, e, he, rfl⟩ := wrL_mem hw
    obtain ⟨q1, q2, q3⟩ := wr_at h hv he
    have q4 := wOf_len q1 q2 q3
    have e1 : (wOf im v e).volume = (v : Int) := rfl
    have e2 : (wOf im v e).start = e.start := rfl
    unfold fitsErr
    rw [if_neg (by rw [e1]; omega), if_neg (by omega), if_neg (by rw [e1, e2, q4, Int.toNat_natCast]; omega)]
  · have hp : (wrL im l).Pairwise ordW := by
      unfold wrL wrN
      rw [List.pairwise_flatMap]
      refine ⟨fun v hv => ?_, ?_⟩
      · have hv := List.mem_range.1 hv
        unfold wrV
        rw [List.pairwise_map]
        have e1 : l.getD v [] = l[v] := by simp [hv]
        have hp := chkX_pair (fit_at h hv (by omega))
        rw [e1]
        refine List.Pairwise.imp_of_mem ?_ hp
        intro a b ha hb hab
        rw [← e1] at ha
        obtain ⟨q1, q2, q3⟩ := wr_at h hv ha
        have q4 := wOf_len q1 q2 q3
        refine .inr ⟨rfl, ?_⟩
        rw [q4]
        exact hab
      · refine List.Pairwise.imp ?_ List.pairwise_lt_range
        intro a b hab x hx y hy
        obtain ⟨_, _, rfl⟩ := List.mem_map.1 hx
        obtain ⟨_, _, rfl⟩ := List.mem_map.1 hy
        exact .inl (show ((a : Nat) : Int) < (b : Int) by omega)
    exact fun i hi => List.pairwise_iff_getElem.1 hp i (i + 1) (by omega) hi (by omega)
end Go.Proofs.YtncobemfpammfaaGreatDoor.V

namespace Go.Proofs.YtncobemfpammfaaGreatDoor.V
end Go.Proofs.YtncobemfpammfaaGreatDoor.V

namespace Go.Proofs.YtncobemfpammfaaGreatDoor.V
end Go.Proofs.YtncobemfpammfaaGreatDoor.V

namespace Go.Proofs.YtncobemfpammfaaGreatDoor.V
end Go.Proofs.YtncobemfpammfaaGreatDoor.V

namespace Go.Proofs.YtncobemfpammfaaGreatDoor.V
theorem few7_b' {im : Img} (h : few7 im = true) : im.length ≤ 9 ∧ ∀ v ∈ im, v.length ≤ 24 := by
  unfold few7 at h
  simp only [Bool.and_eq_true, decide_eq_true_eq] at h
  exact ⟨h.1, fun v hv => by simpa using List.all_eq_true.1 h.2 v hv⟩
theorem wrN_len {im : Img} {l : List (List Exn)} {k : Nat} (hr : ∀ x ∈ l, x.length ≤ k) : ∀ n, n ≤ l.length → (wrN im l n).length ≤ k * n
  | 0, _ => by simp [wrN]
  | n + 1, h => by
    have ih := wrN_len (im := im) hr n (by omega)
    have h2 := hr _ (List.getElem_mem (show n < l.length by omega))
    rw [wrN_succ, List.length_append, show l.getD n [] = l[n] by simp [show n < l.length by omega], Nat.mul_add, Nat.mul_one]
    simp only [wrV, List.length_map]
    omega
end Go.Proofs.YtncobemfpammfaaGreatDoor.V

namespace Go.Proofs.YtncobemfpammfaaGreatDoor
open Go.RowKit Go.ChangeShapes Go.WideShapes Go.ChangeAt

theorem resrep_true {T : Tags} {w : World} {b : Bool} {v : Value} (h : ResRep T w [(.bool b, false)] v) : v = .bool b := by
  obtain ⟨arr, h1, h2, h3⟩ := h
  have ha : arr.size = 1 := h1
  have e0 : arr[0]? = some arr[0] := Array.getElem?_eq_getElem (by omega)
  have hv : v = arr[0] := by rw [h2, if_pos ha, Array.getD_eq_getD_getElem?, e0]; rfl
  have hr : PRep (fun b => T b = .ro) w (.bool b) arr[0] := h3 0 (.bool b, false) arr[0] rfl e0
  rw [hv]
  exact hr.bool_inv
def GlobIn (w : World) : Prop := GlobOk (fun b => if b < w.heap.size then .ro else .other) w
theorem calls_true {P : Program} {env : Env} {f : Nat} {args : List PV} {vs : List Value} {w : World} (hE : EnvOk P env) (h : cal env f args = some [(.bool true, false)]) (hl : vs.length = args.length)
    (hr : ∀ (i : Nat) x v, args[i]? = some x → vs[i]? = some v → PRep (fun b => b < w.heap.size) w x v) (hG : GlobIn w) : Calls P f vs.toArray w (fun e w' => e = .returned (.bool true) ∧ Below w.heap.size w w') := by
  obtain ⟨n, hn⟩ := vmCall_of_cal h
  have hC := (vmCall_ok hE hn).2 (fun b => if b < w.heap.size then .ro else .other) w vs (fun b => by
    by_cases hb : b < w.heap.size
    · exact .inl (if_pos hb)
    · exact .inr (if_neg hb)) (fun b hb => if_neg (by omega)) hl (fun i x v hx hv => (hr i x v hx hv).frame fun b hb _ => ⟨if_pos hb, rfl⟩) hG
  refine hC.mono ?_
  rintro e w' ⟨v, T', rfl, h1, _, _, h2⟩
  exact ⟨by rw [resrep_true h2], h1⟩

def RepAll (w : World) : List PV → List Value → Prop
  | [], [] => True
  | x :: xs, v :: vs => PRep (fun b => b < w.heap.size) w x v ∧ RepAll w xs vs
  | _, _ => False
theorem RepAll.get {w : World} : ∀ {xs : List PV} {vs : List Value}, RepAll w xs vs → vs.length = xs.length ∧ ∀ (i : Nat) x v, xs[i]? = some x → vs[i]? = some v → PRep (fun b => b < w.heap.size) w x v
  | [], [], _ => ⟨rfl, fun i x v hx => by simp at hx⟩
  | x :: xs, v :: vs, h => by
    obtain ⟨h1, h2⟩ := h
    obtain ⟨k1, k2⟩ := h2.get
    refine ⟨by simp [k1], fun i y u hy hu => ?_⟩
    cases i with
    | zero => cases hy; cases hu; exact h1
    | succ i => exact k2 i y u hy hu
  | [], _ :: _, h => h.elim
  | _ :: _, [], h => h.elim
theorem calls_all {P : Program} {env : Env} {f : Nat} {args : List PV} {vs : List Value} {w : World} (hE : EnvOk P env) (h : cal env f args = some [(.bool true, false)]) (hr : RepAll w args vs) (hG : GlobIn w := by exact GlobIn.none) : Calls P f vs.toArray w (fun e w' => e = .returned (.bool true) ∧ Below w.heap.size w w') :=
  calls_true hE h hr.get.1 hr.get.2 hG
def CRep (w : World) (cs : List Value) (ps : List PV) : Prop :=
  cs.length = ps.length ∧ (∀ c ∈ cs, c.oneCell' = true) ∧ ∀ (j : Nat) x v, ps[j]? = some x → cs[j]? = some v → PRep (fun b => b < w.heap.size) w x v
def RdsC (P : Program) (t : TypeId) (n : Nat) (S : List PV → Prop) : Prop :=
  P.cellsOf t = n ∧ ∀ {H : Type} {enc : TypeId × Value → H} {w : World} {fuel : Nat} {cs : List Value} {x : DataW H × List MemPlace}, DataW.trod enc P w 0 (fun _ => true) true fuel t cs = some x → ∃ ps, S ps ∧ ps.length = n ∧ CRep w cs ps
def SInt (k : IntKind) (ps : List PV) : Prop := ∃ n, (Lit.int k n).wf = true ∧ ps = [.int k n]
def SBool (ps : List PV) : Prop := ∃ b, ps = [.bool b]
def SArr (n : Nat) (S : List PV → Prop) (ps : List PV) : Prop := ps.length = n ∧ ∀ p ∈ ps, S [p]
def wrS (ps : List PV) : PV := ps.headD .void
def SList (n : Nat) (S : List PV → Prop) (wr : List PV → PV) (ps : List PV) : Prop := ∃ es, ps = [.list n es] ∧ ∀ x ∈ es, ∃ q, S q ∧ x = wr q
def SCat : List (List PV → Prop) → List PV → Prop
  | [], ps => ps = []
  | S :: Ss, ps => ∃ p q, ps = p ++ q ∧ S p ∧ SCat Ss q

section
variable {P : Program} {t e : TypeId} {n m : Nat} {S : List PV → Prop} {k : IntKind}
theorem crep_one {w : World} {c : Value} {p : PV} (hc : c.oneCell' = true) (h : PRep (fun b => b < w.heap.size) w p c) : CRep w [c] [p] :=
  ⟨rfl, fun x hx => by rw [List.mem_singleton.1 hx]; exact hc, fun j x v hx hv => by
    cases j with
    | zero => cases hx; cases hv; exact h
    | succ j => simp at hx⟩
theorem RdsC.int (ht : P.underlying t = some (.int k)) (hc : P.cellsOf t = 1) : RdsC P t 1 (SInt k) := ⟨hc, fun h => by
  obtain ⟨n, rfl, _, hw⟩ := DataW.trod_int ht h
  exact ⟨[.int k n], ⟨n, hw, rfl⟩, rfl, crep_one rfl (.int k n)⟩⟩
theorem RdsC.bool (ht : P.underlying t = some .bool) (hc : P.cellsOf t = 1) : RdsC P t 1 SBool := ⟨hc, fun h => by
  obtain ⟨b, rfl, _⟩ := DataW.trod_bool ht h
  exact ⟨[.bool b], ⟨b, rfl⟩, rfl, crep_one rfl (.bool b)⟩⟩
theorem each_pick {α : Type} {p : Nat → α → Prop} : ∀ n : Nat, (∀ i, i < n → ∃ y, p i y) → ∃ l : List α, l.length = n ∧ ∀ i x, l[i]? = some x → p i x
  | 0, _ => ⟨[], rfl, fun i x h => by simp at h⟩
  | n + 1, h => by
    obtain ⟨l, h1, h2⟩ := each_pick n fun i hi => h i (by omega)
    obtain ⟨y, hy⟩ := h n (by omega)
    refine ⟨l ++ [y], by simp [h1], fun i x hx => ?_⟩
    by_cases hi : i < n
    · rw [List.getElem?_append_left (by omega)] at hx; exact h2 i x hx
    · have := (List.getElem?_eq_some_iff.1 hx).1
      obtain rfl : i = n := by simp at this; omega
      rw [List.getElem?_append_right (by omega), h1, Nat.sub_self] at hx
      cases hx
      exact hy
theorem RdsC.arr (ht : P.underlying t = some (.array n e)) (he : RdsC P e 1 S) (hc : P.cellsOf t = n) : RdsC P t n (SArr n S) := ⟨hc, fun {H enc w fuel cs x} h => by
  obtain ⟨xs, m, _, _, hl, hx, hE⟩ := DataW.trod_array ht h
  rw [hc] at hl
  obtain ⟨l, h1, h2⟩ := each_pick (p := fun i (b : PV) => S [b] ∧ ∃ c, cs[i]? = some c ∧ c.oneCell' = true ∧ PRep (fun b => b < w.heap.size) w b c) n fun i hi => by
    have := hE i hi
    rw [List.getElem?_eq_getElem (by omega), he.1] at this
    obtain ⟨ps, g1, g2, g3, g4, g5⟩ := he.2 this
    match ps, g2 with
    | [p], _ =>
      have hci : cs[i]? = some cs[i] := List.getElem?_eq_getElem (by omega)
      have h0 : ((cs.drop (i * 1)).take 1)[0]? = some cs[i] := by
        rw [List.getElem?_take, if_pos (by decide), List.getElem?_drop]
        simpa using hci
      exact ⟨p, g1, cs[i], hci, g4 _ (List.mem_of_getElem? h0), g5 0 p _ rfl h0⟩
  refine ⟨l, ⟨h1, fun p hp => ?_⟩, h1, by omega, fun c hc => ?_, fun j x v hx hv => ?_⟩
  · obtain ⟨i, hi⟩ := List.mem_iff_getElem?.1 hp
    exact (h2 i p hi).1
  · obtain ⟨i, hi⟩ := List.mem_iff_getElem?.1 hc
    have hil : i < l.length := by
      have := (List.getElem?_eq_some_iff.1 hi).1
      omega
    obtain ⟨_, c', e1, e2, _⟩ := h2 i l[i] (List.getElem?_eq_getElem hil)
    rw [hi] at e1; cases e1; exact e2
  · obtain ⟨_, c', e1, _, e3⟩ := h2 j x hx
    rw [hv] at e1; cases e1; exact e3⟩
theorem cellish_of {w : World} {b off : Nat} {v : Value} (h : w.cell? ⟨b, off, none⟩ = some v) : Cellish w b := by
  unfold World.cell? at h
  split at h
  · rename_i arr E q hb
    exact ⟨arr, E, q, hb⟩
  · cases h
theorem RdsC.list {wr : List PV → PV} (ht : P.underlying t = some (.slice e)) (hc : P.cellsOf t = 1) (hr : RdsC P e n S) (hpos : 0 < n) (hw : ∀ ps, S ps → ps.length = n → (wr ps).cells = ps) : RdsC P t 1 (SList n S wr) := ⟨hc, fun {H enc w fuel cs x} h => by
  rcases DataW.trod_slice ht h with ⟨rfl, _⟩ | ⟨a, len, cap, elems, rest, m, _, rfl, _, _, hl, hm, hel, hE, hR, _⟩
  · exact ⟨[.list n []], ⟨[], rfl, fun x hx => by cases hx⟩, rfl, crep_one rfl (.nil n none)⟩
  · obtain ⟨l, h1, h2⟩ := each_pick (p := fun i (y : List Value × List PV) => w.cells? 0 (a.add (i * n)) n = some y.1 ∧ S y.2 ∧ y.2.length = n ∧ CRep w y.1 y.2) len fun i hi => by
      have := hE i hi
      rw [List.getElem?_eq_getElem (by omega), hr.1, Option.bind_eq_some_iff] at this
      obtain ⟨c, h3, h4⟩ := this
      obtain ⟨ps, g1, g2, g3⟩ := hr.2 h4
      exact ⟨(c, ps), h3, g1, g2, g3⟩
    refine ⟨[.list n (l.map fun y => wr y.2)], ⟨_, rfl, fun x hx => ?_⟩, rfl, crep_one rfl ?_⟩
    · obtain ⟨y, hy, rfl⟩ := List.mem_map.1 hx
      obtain ⟨i, hi⟩ := List.mem_iff_getElem?.1 hy
      exact ⟨y.2, (h2 i y hi).2.1, rfl⟩
    · by_cases hcap : cap = 0
      · have : len = 0 := by omega
        subst hcap; subst this
        have : l = [] := List.eq_nil_of_length_eq_zero h1
        subst this
        exact .nil n (some a)
      · -- there are cells
        have hcell : ∃ off v, w.cell? ⟨a.block, off, none⟩ = some v ∧ a.spot = none := by
          have fromc : ∀ (i : Nat) (c : List Value), w.cells? 0 (a.add (i * n)) n = some c → ∃ off v, w.cell? ⟨a.block, off, none⟩ = some v ∧ a.spot = none := fun i c h3 => by
            obtain ⟨_, hc0, h4⟩ := World.cells?_some h3
            have h5 := h4 0 hpos
            rw [List.getElem?_eq_getElem (by omega)] at h5
            have hs : (a.add (i * n)).spot = none := by simpa [Addr.add] using World.cell?_spot h5
            have hs0 : a.spot = none := by
              unfold Addr.add at hs
              split at hs
              · exact hs
              · rename_i hne
                by_cases h0 : i * n = 0
                · rename_i q; exact absurd h0 (by simpa using hne)
                · rcases Nat.eq_zero_or_pos i with hi0 | hi0
                  · subst hi0; simp at h0
                  · -- the row begins at a: its first cell
                    have : 0 < len ∨ len = 0 := by omega
                    rcases this with hlen | hlen
                    · obtain ⟨y, hy⟩ : ∃ y, l[0]? = some y := ⟨l[0], List.getElem?_eq_getElem (by omega)⟩
                      obtain ⟨_, hc1, h6⟩ := World.cells?_some (h2 0 y hy).1
                      have h7 := h6 0 hpos
                      rw [List.getElem?_eq_getElem (by omega)] at h7
                      simpa [Addr.add] using World.cell?_spot h7
                    · have hrl : 0 < rest.length := by have := (hR rfl).1; omega
                      have := (hR rfl).2 0 (by omega)
                      have h8 : rest[0]? = some rest[0] := List.getElem?_eq_getElem hrl
                      rw [h8, hr.1, hlen, Option.bind_eq_some_iff] at this
                      obtain ⟨c1, h9, _⟩ := this
                      obtain ⟨_, hc1, h6⟩ := World.cells?_some h9
                      have h7 := h6 0 hpos
                      rw [List.getElem?_eq_getElem (by omega)] at h7
                      simpa [Addr.add] using World.cell?_spot h7
            obtain ⟨b, off, spot⟩ := a
            simp only at hs0
            subst hs0
            rw [Addr.add_lit, Addr.add_lit] at h5
            exact ⟨_, _, h5, rfl⟩
          rcases Nat.eq_zero_or_pos len with hlen | hlen
          · have hrl : 0 < rest.length := by have := (hR rfl).1; omega
            have := (hR rfl).2 0 (by omega)
            have h8 : rest[0]? = some rest[0] := List.getElem?_eq_getElem hrl
            rw [h8, hr.1, Option.bind_eq_some_iff] at this
            obtain ⟨c1, h9, _⟩ := this
            exact fromc _ c1 h9
          · obtain ⟨y, hy⟩ : ∃ y, l[0]? = some y := ⟨l[0], List.getElem?_eq_getElem (by omega)⟩
            exact fromc 0 _ (h2 0 y hy).1
        obtain ⟨off0, v0, hv0, hspot⟩ := hcell
        obtain ⟨b, off, spot⟩ := a
        simp only at hspot hv0
        subst hspot
        have hC : Cellish w b := cellish_of hv0
        have hget : ∀ (i : Nat) x, (l.map fun y => wr y.2)[i]? = some x → ∃ y, l[i]? = some y ∧ x = wr y.2 := fun i x hx => by
          rw [List.getElem?_map] at hx
          cases e : l[i]? with
          | none => rw [e] at hx; cases hx
          | some y => rw [e] at hx; exact ⟨y, rfl, (Option.some.inj hx).symm⟩
        have hlen : (l.map fun y => wr y.2).length = len := by simp [h1]
        have := PRep.list (ok := fun b => b < w.heap.size) (w := w) n (l.map fun y => wr y.2) b off cap (fun i j => (((l[i]?).map (·.1)).getD []).getD j default) hC.lt hC (by rw [hlen]; exact hl) hm
          (fun x hx => by
            obtain ⟨i, hi⟩ := List.mem_iff_getElem?.1 hx
            obtain ⟨y, hy, rfl⟩ := hget i x hi
            obtain ⟨_, g1, g2, _⟩ := h2 i y hy
            rw [hw _ g1 g2, g2])
          (fun i x j p hi hj => by
            obtain ⟨y, hy, rfl⟩ := hget i x hi
            obtain ⟨g0, g1, g2, g3, g4, g5⟩ := h2 i y hy
            rw [hw _ g1 g2] at hj
            have hjn : j < n := by have := (List.getElem?_eq_some_iff.1 hj).1; omega
            obtain ⟨_, hc1, h6⟩ := World.cells?_some g0
            have h7 := h6 j hjn
            have hcj : y.1[j]? = some y.1[j] := List.getElem?_eq_getElem (by omega)
            have hd : (((l[i]?).map (·.1)).getD []).getD j default = y.1[j] := by
              rw [hy]; simp [List.getD_eq_getElem?_getD, hcj]
            rw [hd]
            rw [hcj, Addr.add_lit, Addr.add_lit] at h7
            exact ⟨h7, g4 _ (List.mem_of_getElem? hcj)⟩)
          (fun i x j p hi hj => by
            obtain ⟨y, hy, rfl⟩ := hget i x hi
            obtain ⟨g0, g1, g2, g3, g4, g5⟩ := h2 i y hy
            rw [hw _ g1 g2] at hj
            have hjn : j < n := by have := (List.getElem?_eq_some_iff.1 hj).1; omega
            have hcj : y.1[j]? = some y.1[j] := List.getElem?_eq_getElem (by omega)
            have hd : (((l[i]?).map (·.1)).getD []).getD j default = y.1[j] := by
              rw [hy]; simp [List.getD_eq_getElem?_getD, hcj]
            rw [hd]
            exact g5 j p _ hj hcj)
        rw [hlen] at this
        exact this⟩
theorem CRep.append {w : World} {c1 c2 : List Value} {p1 p2 : List PV} (h1 : CRep w c1 p1) (h2 : CRep w c2 p2) : CRep w (c1 ++ c2) (p1 ++ p2) := by
  obtain ⟨a1, a2, a3⟩ := h1
  obtain ⟨b1, b2, b3⟩ := h2
  refine ⟨by simp [a1, b1], fun c hc => ?_, fun j x v hx hv => ?_⟩
  · rcases List.mem_append.1 hc with h | h
    · exact a2 c h
    · exact b2 c h
  · by_cases hj : j < p1.length
    · rw [List.getElem?_append_left hj] at hx
      rw [List.getElem?_append_left (by omega)] at hv
      exact a3 j x v hx hv
    · rw [List.getElem?_append_right (by omega)] at hx
      rw [List.getElem?_append_right (by omega), a1] at hv
      exact b3 _ x v hx hv
inductive Flds (P : Program) : Nat → List Field → List (List PV → Prop) → Nat → Prop
  | nil (o : Nat) : Flds P o [] [] 0
  | cons {o n m : Nat} {f : Field} {fs : List Field} {S : List PV → Prop} {Ss : List (List PV → Prop)} : f.offset = o → RdsC P f.type n S → Flds P (o + n) fs Ss m → Flds P o (f :: fs) (S :: Ss) (n + m)
theorem Flds.read {o : Nat} {fs : List Field} {Ss : List (List PV → Prop)} (h : Flds P o fs Ss m) {H : Type} {enc : TypeId × Value → H} {w : World} {fuel : Nat} {cs : List Value} {xs : List (DataW H × List MemPlace)} (hl : cs.length = o + m)
    (hx : ∀ (i : Nat) (f : Field), fs[i]? = some f → ∃ x, DataW.trod enc P w 0 (fun _ => true) true fuel f.type ((cs.drop f.offset).take (P.cellsOf f.type)) = some x) : ∃ ps, SCat Ss ps ∧ ps.length = m ∧ CRep w (cs.drop o) ps := by
  induction h with
  | nil o => exact ⟨[], rfl, rfl, by rw [List.drop_of_length_le (by omega)]; exact (⟨rfl, fun c hc => (by cases hc), fun j x v hx => (by simp at hx)⟩ : CRep w [] [])⟩
  | @cons o n m f fs S Ss h1 h2 h3 ih =>
    obtain ⟨x, h4⟩ := hx 0 f rfl
    rw [h2.1, h1] at h4
    obtain ⟨p, g1, g2, g3⟩ := h2.2 h4
    obtain ⟨q, k1, k2, k3⟩ := ih (by omega) (fun i f hf => hx (i + 1) f hf)
    refine ⟨p ++ q, ⟨p, q, rfl, g1, k1⟩, by simp [g2, k2], ?_⟩
    have : cs.drop o = (cs.drop o).take n ++ cs.drop (o + n) := by rw [← List.drop_drop, List.take_append_drop]
    rw [this]
    exact g3.append k3
theorem RdsC.struct {fs : Array Field} {Ss : List (List PV → Prop)} (ht : P.underlying t = some (.struct fs)) (hf : Flds P 0 fs.toList Ss n) (hc : P.cellsOf t = n) : RdsC P t n (SCat Ss) := ⟨hc, fun {H enc w fuel cs x} h => by
  obtain ⟨xs, m, _, _, hl, hx, hE⟩ := DataW.trod_struct ht h
  obtain ⟨ps, h1, h2, h3⟩ := hf.read (xs := xs) (enc := enc) (w := w) (fuel := m) (cs := cs) (by omega) (fun i f hi => by
    have hi' : fs[i]? = some f := by simpa using hi
    have := hE i f hi'
    have hil : i < xs.length := by rw [hx]; exact (Array.getElem?_eq_some_iff.1 hi').1
    exact ⟨xs[i], by rw [this, List.getElem?_eq_getElem hil]⟩)
  exact ⟨ps, h1, h2, by simpa using h3⟩⟩

theorem RdsC.struct3 {f0 f1 f2 : Field} {n0 n1 n2 : Nat} {S0 S1 S2 : List PV → Prop} (ht : P.underlying t = some (.struct #[f0, f1, f2])) (h0 : RdsC P f0.type n0 S0) (h1 : RdsC P f1.type n1 S1) (h2 : RdsC P f2.type n2 S2) (o0 : f0.offset = 0) (o1 : f1.offset = 0 + n0) (o2 : f2.offset = 0 + n0 + n1) (hc : P.cellsOf t = n0 + (n1 + (n2 + 0))) : RdsC P t (n0 + (n1 + (n2 + 0))) (SCat [S0, S1, S2]) :=
  RdsC.struct ht (show Flds P 0 [f0, f1, f2] [S0, S1, S2] (n0 + (n1 + (n2 + 0))) from .cons o0 h0 (.cons o1 h1 (.cons o2 h2 (.nil _)))) hc
theorem arg_one {H : Type} {enc : TypeId × Value → H} {w : World} {v : Value} {d : DataW H} {p : List MemPlace} (hr : RdsC P t 1 S) (hone : v.cells.toList = [v]) (h : DataW.Trod enc P w 0 (fun _ => true) true t v d p) :
    ∃ q, S [q] ∧ PRep (fun b => b < w.heap.size) w q v := by
  obtain ⟨fuel, hf⟩ := h
  obtain ⟨ps, h1, h2, h3, h4, h5⟩ := hr.2 hf
  match ps, h2 with
  | [q], _ => exact ⟨q, h1, h5 0 q v rfl (by rw [hone]; rfl)⟩
theorem arg_slice {H : Type} {enc : TypeId × Value → H} {w : World} {v : Value} {d : DataW H} {p : List MemPlace} {m : Reach} {base : Nat} (ht : P.underlying t = some (.slice e)) (hr : RdsC P t 1 S) (hv : Value.okWide P w m base t v) (h : DataW.Trod enc P w 0 (fun _ => true) true t v d p) :
    ∃ q, S [q] ∧ PRep (fun b => b < w.heap.size) w q v := by
  obtain ⟨a, l, c, rfl⟩ := okWide_slice ht hv
  exact arg_one hr rfl h
end
end Go.Proofs.YtncobemfpammfaaGreatDoor

namespace Go.Proofs.YtncobemfpammfaaGreatDoor
open Go.RowKit V

theorem cellish_at {w : World} {b o : Nat} {u : Value} (h : w.cell? ⟨b, o, none⟩ = some u) : Cellish w b := by
  unfold World.cell? at h
  simp only at h
  split at h
  · rename_i e; exact ⟨_, _, _, e⟩
  · cases h
theorem sl_of_prep {α : Type} {r : Rep α} {enc : α → PV} {ok : Nat → Prop} {w : World} {l : List α} {sz : Nat} {v : Value} (hsz : sz = r.sz) (hc : ∀ x, (enc x).cells.length = r.sz)
    (hr : ∀ x ∈ l, ∀ (cs : List Value), cs.length = r.sz → (∀ (j : Nat) p u, (enc x).cells[j]? = some p → cs[j]? = some u → PRep ok w p u) → r.rd ok w cs x) (h : PRep ok w (.list sz (l.map enc)) v) : ∃ a n c, v = .slice a n c ∧ Sl r ok w a n c l := by
  generalize he : l.map enc = es at h
  cases h with
  | nil _ a =>
    have : l = [] := by simpa using he
    subst this
    exact ⟨a, 0, 0, rfl, ⟨rfl, Nat.le_refl _, Nat.zero_le _, fun _ => rfl, .inl rfl⟩⟩
  | list _ _ b off c cv h1 h2 h3 h4 h6 h7 h8 =>
    subst hsz he
    refine ⟨_, _, c, rfl, ⟨by simp, h3, h4, (fun e => by cases e), .inr ⟨b, off, rfl, h1, h2.lt, fun i x hx => ?_⟩⟩⟩
    have hi : (l.map enc)[i]? = some (enc x) := by simp [hx]
    refine ⟨(List.range r.sz).map (cv i), fun j hj => ?_, hr x (List.mem_of_getElem? hx) _ (by simp) fun j p u hp hu => ?_⟩
    · have hj' : j < (enc x).cells.length := by rw [hc]; exact hj
      rw [(h7 i _ j _ hi (List.getElem?_eq_getElem hj')).1]
      simp [hj]
    · have hj : j < r.sz := by have := (List.getElem?_eq_some_iff.1 hp).1; rw [hc] at this; exact this
      have : u = cv i j := by simp [hj] at hu; exact hu.symm
      rw [this]
      exact h8 i _ j _ hi hp
theorem prep_of_sl {α : Type} {r : Rep α} {enc : α → PV} {ok ok' : Nat → Prop} {w : World} {l : List α} {a : Option Addr} {n c : Nat} (hk : ∀ b, ok b → b < w.heap.size → ok' b) (hp0 : 0 < r.sz) (hc : ∀ x, (enc x).cells.length = r.sz)
    (hr : ∀ x ∈ l, ∀ (cs : List Value), cs.length = r.sz → r.rd ok w cs x → ∀ (j : Nat) p u, (enc x).cells[j]? = some p → cs[j]? = some u → u.oneCell' = true ∧ PRep ok' w p u) (hz : l = [] → c = 0) (h : Sl r ok w a n c l) : PRep ok' w (.list r.sz (l.map enc)) (.slice a n c) := by
  obtain ⟨h1, h2, h3, h4, h5⟩ := h
  by_cases hl : l = []
  · have := hz hl
    subst hl
    have : n = 0 := by simpa using h1.symm
    subst this
    have : c = 0 := by omega
    subst this
    exact .nil _ _
  · rcases h5 with h5 | ⟨b, off, rfl, hb, hlt, h6⟩
    · exact absurd (List.eq_nil_of_length_eq_zero (by omega)) hl
    · have hn : n = (l.map enc).length := by simp [h1]
      rw [hn]
      have key : ∀ (i : Nat) (x : α) (j : Nat) (p : PV), l[i]? = some x → (enc x).cells[j]? = some p → ∃ u, w.cell? ⟨b, off + i * r.sz + j, none⟩ = some u ∧ u.oneCell' = true ∧ PRep ok' w p u := by
        intro i x j p hx hp
        obtain ⟨cs, g1, g2⟩ := h6 i x hx
        have hj : j < r.sz := by have := (List.getElem?_eq_some_iff.1 hp).1; rw [hc] at this; exact this
        have hl2 := r.len g2
        have hu : cs[j]? = some (cs[j]'(by omega)) := List.getElem?_eq_getElem (by omega)
        obtain ⟨k1, k2⟩ := hr x (List.mem_of_getElem? hx) cs hl2 g2 j p _ hp hu
        exact ⟨_, by rw [g1 j hj, hu], k1, k2⟩
      have get : ∀ {i : Nat} {e : PV}, (l.map enc)[i]? = some e → ∃ x, l[i]? = some x ∧ e = enc x := by
        intro i e he
        rw [List.getElem?_map] at he
        cases hx : l[i]? with
        | none => rw [hx] at he; cases he
        | some x => rw [hx] at he; cases he; exact ⟨x, rfl, rfl⟩
      have hce : Cellish w b := by
        cases l with
        | nil => exact absurd rfl hl
        | cons x l =>
          have hj : 0 < (enc x).cells.length := by rw [hc]; exact hp0
          obtain ⟨u, k1, _⟩ := key 0 x 0 _ rfl (List.getElem?_eq_getElem hj)
          exact cellish_at k1
      refine .list _ _ b off c (fun i j => (w.cell? ⟨b, off + i * r.sz + j, none⟩).getD undef) (hk b hb hlt) hce (by simp; omega) h3 (fun e he => ?_) (fun i e j x hi hj => ?_) fun i e j x hi hj => ?_
      · obtain ⟨x, _, rfl⟩ := List.mem_map.1 he; exact hc x
      · obtain ⟨x', hx, rfl⟩ := get hi
        obtain ⟨u, k1, k2, k3⟩ := key i x' j x hx hj
        rw [k1]; exact ⟨rfl, k2⟩
      · obtain ⟨x', hx, rfl⟩ := get hi
        obtain ⟨u, k1, k2, k3⟩ := key i x' j x hx hj
        rw [k1]; exact k3
theorem secs_in {ok : Nat → Prop} {w : World} {l : List Sec} {v : Value} (h : PRep ok w (eSecs l) v) : ∃ a n c, v = .slice a n c ∧ Sl secR ok w a n c l := by
  refine sl_of_prep (r := secR) (enc := eSec) rfl (fun x => secPV_length x) (fun x _ cs hl hcs => ?_) h
  show cs = secCells x
  refine List.ext_getElem? fun j => ?_
  by_cases hj : j < 8
  · have h1 : cs[j]? = some (cs[j]'(by rw [hl]; exact hj)) := List.getElem?_eq_getElem _
    have h2 : (eSec x).cells[j]? = some (.int .u8 ((x.toList[j]'(by simpa using hj)).toNat : Int)) := by
      show (secPV x)[j]? = _
      have hj' : j < x.toList.length := by simpa using hj
      simp only [secPV, List.getElem?_map, List.getElem?_eq_getElem hj', Option.map_some]
    have := (hcs j _ _ h2 h1).int_inv
    have hj' : j < x.toList.length := by simpa using hj
    rw [h1, this]
    simp only [secCells, List.getElem?_map, List.getElem?_eq_getElem hj', Option.map_some]
  · have e1 : cs.length = 8 := hl
    rw [List.getElem?_eq_none (by omega), List.getElem?_eq_none (by rw [secCells_length]; omega)]
theorem img_in {ok : Nat → Prop} {w : World} {l : List (List Sec)} {v : Value} (h : PRep ok w (.list 1 (l.map eSecs)) v) : ∃ a n c, v = .slice a n c ∧ Sl secsR ok w a n c l := by
  refine sl_of_prep (r := secsR) (enc := eSecs) rfl (fun x => rfl) (fun x _ cs hl hcs => ?_) h
  match cs, hl with
  | [u], _ =>
    obtain ⟨a, n, c, rfl, hs⟩ := secs_in (hcs 0 _ u rfl rfl)
    exact ⟨a, n, c, rfl, hs⟩
theorem wrs_in {ok : Nat → Prop} {w : World} {l : List Wrt} {v : Value} (hok : ∀ x ∈ l, i64b x.volume = true ∧ i64b x.start = true) (h : PRep ok w (.list 3 (l.map eWr)) v) : ∃ a n c, v = .slice a n c ∧ Sl wrR ok w a n c (l.map fun x => (x.volume, x.start, x.data)) := by
  have : ∃ a n c, v = .slice a n c ∧ Sl (α := Wrt) ⟨3, fun ok w cs x => wrR.rd ok w cs (x.volume, x.start, x.data), fun h => wrR.len h, fun hk h => wrR.mono hk h, fun h => wrR.live h, fun hf h => wrR.frame hf h, fun h => wrR.one h⟩ ok w a n c l := by
    refine sl_of_prep rfl (fun x => rfl) (fun x hx cs hl hcs => ?_) h
    match cs, hl with
    | [u, u2, u3], _ =>
      have e1 := (hcs 0 _ u rfl rfl).int_inv
      have e2 := (hcs 1 _ u2 rfl rfl).int_inv
      obtain ⟨a, n, c, rfl, hs⟩ := secs_in (l := x.data) (hcs 2 _ u3 rfl rfl)
      obtain ⟨o1, o2⟩ := hok x hx
      simp only [i64b, Bool.and_eq_true, decide_eq_true_eq] at o1 o2
      exact ⟨[u], [u2, .slice a n c], rfl, ⟨by rw [e1], o1⟩, ⟨[u2], [.slice a n c], rfl, ⟨by rw [e2], o2⟩, a, n, c, rfl, hs⟩⟩
  obtain ⟨a, n, c, rfl, h1, h2, h3, h4, h5⟩ := this
  refine ⟨a, n, c, rfl, ⟨by simpa using h1, h2, h3, h4, h5.imp id fun ⟨b, off, g1, g2, g3, g4⟩ => ⟨b, off, g1, g2, g3, fun i x hx => ?_⟩⟩⟩
  rw [List.getElem?_map] at hx
  cases hx' : l[i]? with
  | none => rw [hx'] at hx; cases hx
  | some y => rw [hx'] at hx; cases hx; exact g4 i y hx'
theorem img_out {ok ok' : Nat → Prop} {w : World} {l : List (List Sec)} {a : Option Addr} {n c : Nat} (hk : ∀ b, ok b → b < w.heap.size → ok' b) (hz : l = [] → c = 0) (hne : ∀ x ∈ l, x ≠ []) (h : Sl secsR ok w a n c l) : PRep ok' w (.list 1 (l.map eSecs)) (.slice a n c) := by
  refine prep_of_sl (r := secsR) (enc := eSecs) hk (by decide) (fun x => rfl) (fun x hx cs hl hrd j p u hp hu => ?_) hz h
  obtain ⟨a, n, c, rfl, hs⟩ := hrd
  match j with
  | j + 1 => simp [eSecs, PV.cells] at hp
  | 0 =>
    cases hp
    cases hu
    refine ⟨rfl, prep_of_sl (r := secR) (enc := eSec) hk (by decide) (fun x => secPV_length x) (fun s _ cs hl hrd j p u hp hu => ?_) (fun e => absurd e (hne x hx)) hs⟩
    have hrd : cs = secCells s := hrd
    subst hrd
    simp only [secCells, List.getElem?_map, Option.map_eq_some_iff] at hu
    have hp : (secPV s)[j]? = some p := hp
    simp only [secPV, List.getElem?_map, Option.map_eq_some_iff] at hp
    obtain ⟨b, h1, rfl⟩ := hu
    obtain ⟨b', h2, rfl⟩ := hp
    rw [h1] at h2
    cases h2
    exact ⟨rfl, .int _ _⟩
theorem wrErr_fit (sz : List Int) (x : Wrt) : wrErr sz x = fitW sz (x.volume, x.start, x.data) := by
  simp only [fitW, fitErr, wrErr]
  repeat' split
  all_goals first | rfl | omega
theorem wrErrs_eq (sz : List Int) : ∀ (l : List Wrt) (i : Nat), wrErrs sz l i = applyErr sz (l.map fun x => (x.volume, x.start, x.data)) i
  | [], _ => rfl
  | x :: l, i => by rw [List.map_cons, wrErrs, applyErr, wrErr_fit, wrErrs_eq sz l (i + 1)]
theorem apE_eq (im : List (List Sec)) (l : List Wrt) : apE im l = applyE im (l.map fun x => (x.volume, x.start, x.data)) := by
  unfold apE applyE; rw [wrErrs_eq]; rfl
theorem apI_eq (im : List (List Sec)) (l : List Wrt) : apI im l = applyIdx im (l.map fun x => (x.volume, x.start, x.data)) := by
  unfold apI applyIdx; rw [wrErrs_eq]; rfl
theorem put1_eq (im : List (List Sec)) (x : Wrt) : put1 im x = putW im (x.volume, x.start, x.data) := rfl
theorem puts_eq : ∀ (l : List Wrt) (im : List (List Sec)), l.foldl put1 im = (l.map fun x => (x.volume, x.start, x.data)).foldl putW im
  | [], _ => rfl
  | x :: l, im => by rw [List.map_cons, List.foldl_cons, List.foldl_cons, put1_eq, puts_eq l]
theorem apO_eq (im : List (List Sec)) (l : List Wrt) : apO im l = applyImg im (l.map fun x => (x.volume, x.start, x.data)) := by
  unfold apO applyImg
  rw [apE_eq, puts_eq]
  unfold applyE orNil
  by_cases h : imgErr im = 0
  · simp [h]
  · simp [h]
theorem wrErr_ok {im : List (List Sec)} {x : Wrt} (h : wrErr (szsOf im) x = 0) : szsOf (put1 im x) = szsOf im := by
  rw [wrErr_fit] at h
  exact lens_put h
theorem puts_sizes : ∀ (l : List Wrt) (im : List (List Sec)) (i : Nat), (wrErrs (szsOf im) l i).2 = 0 → szsOf (l.foldl put1 im) = szsOf im
  | [], _, _, _ => rfl
  | x :: l, im, i, h => by
    unfold wrErrs at h
    split at h
    · rename_i h2; exact absurd h h2
    · rename_i h2
      have h2 : wrErr (szsOf im) x = 0 := by omega
      have e := wrErr_ok h2
      rw [List.foldl_cons, puts_sizes l (put1 im x) (i + 1) (by rw [e]; exact h), e]
theorem apO_sizes {im : List (List Sec)} {l : List Wrt} (h : apE im l = 0) : szsOf (apO im l) = szsOf im := by
  unfold apO
  rw [if_pos h]
  unfold apE at h
  split at h
  · rename_i h2; exact absurd h h2
  · exact puts_sizes l im 0 h
theorem szErr_ne {im : List (List Sec)} (h : szErr (szsOf im) = 0) : im ≠ [] ∧ ∀ v ∈ im, v ≠ [] := by
  unfold szErr at h
  split at h
  · cases h
  · rename_i h1
    split at h
    · cases h
    · rename_i h2
      refine ⟨fun e => by subst e; simp [szsOf] at h1, fun v hv e => ?_⟩
      subst e
      refine h2 (List.any_eq_true.2 ⟨0, ?_, by decide⟩)
      exact List.mem_map.2 ⟨[], hv, rfl⟩
theorem apO_ne {im : List (List Sec)} {l : List Wrt} : (apE im l = 0 → apO im l ≠ []) ∧ ∀ v ∈ apO im l, v ≠ [] := by
  by_cases h : apE im l = 0
  · have h0 : szErr (szsOf im) = 0 := by
      unfold apE at h
      split at h
      · rename_i h2; exact absurd h h2
      · omega
    have := szErr_ne (im := apO im l) (by rw [apO_sizes h]; exact h0)
    exact ⟨fun _ => this.1, this.2⟩
  · exact ⟨fun e => absurd e h, fun v hv => by unfold apO at hv; rw [if_neg h] at hv; cases hv⟩
theorem apply_ok {f : Nat} (hc : callable Tryz.prog f = true) (hA : ∀ {a : Option Addr} {n c : Nat} {im : List (List Sec)} {ok ok2 : Nat → Prop} {w : World}, Sl secsR ok w a n c im → n ≤ 1000000 → (∀ v ∈ im, v.length ≤ 1000000) →
    ∀ {la : Option Addr} {ln lc : Nat} {l : List Wr}, Sl wrR ok2 w la ln lc l → Calls Tryz.prog f #[.slice a n c, .slice la ln lc] w (RetApply w im l)) :
    ∀ args rs, applyX args = some rs → callable Tryz.prog f = true ∧ CallOk Tryz.prog f args rs := fun args rs h => by
  obtain ⟨im, l, rfl, hw, hn, hv, rfl⟩ := applyX_eq h
  refine ⟨hc, fun T0 w vs h1 h2 h3 h4 _ => ?_⟩
  match vs, h3 with
  | [v0, v1], _ =>
    obtain ⟨a, n, c, rfl, hs⟩ := img_in (h4 0 _ v0 rfl rfl)
    obtain ⟨la, ln, lc, rfl, hl⟩ := wrs_in hw (h4 1 _ v1 rfl rfl)
    refine (hA hs (by rw [← hs.len]; exact hn) hv hl).mono ?_
    rintro e w' ⟨a', n', c', rfl, hr, hz, hB⟩
    rw [← apI_eq, ← apE_eq]
    rw [← apO_eq] at hr
    rw [← apE_eq] at hz
    refine ⟨_, fun b => if w.heap.size ≤ b ∧ b < w'.heap.size then .ro else T0 b, rfl, hB, fun b hb => if_neg (by omega), fun b hb => ?_, #[_, _, _], rfl, rfl, fun i r u hr' hu => ?_⟩
    · show (if _ then _ else T0 b) = _
      rw [if_neg (by omega)]; exact h2 b (by have := hB.size; omega)
    · match i with
      | 0 =>
        cases hr'; cases hu
        refine img_out (ok := (w.heap.size ≤ ·)) (fun b hb hlt => if_pos ⟨hb, hlt⟩) (fun e => ?_) apO_ne.2 hr
        rcases hz with hz | hz
        · exact hr.nil hz
        · exact absurd e (apO_ne.1 hz)
      | 1 => cases hr'; cases hu; exact .int _ _
      | 2 => cases hr'; cases hu; exact .int _ _
      | i + 3 => simp at hr'
theorem applyI_ok : ∀ args rs, applyX args = some rs → callable Tryz.prog 7 = true ∧ CallOk Tryz.prog 7 args rs := apply_ok (by kernel_rfl) fun h hn hv _ _ _ _ hl => applyI_any h hn hv hl
end Go.Proofs.YtncobemfpammfaaGreatDoor

namespace Go.Proofs.YtncobemfpammfaaGreatDoor
open Go.RowKit V

def oneEnv (f : Nat) (fn : VFn) : Env := fun k => if k = f then some (.code fn) else none
theorem oneEnv_ok {P : Program} {f : Nat} {fn : VFn} (h : fnOk P f fn = true) : EnvOk P (oneEnv f fn) := fun k d hk => by
  unfold oneEnv at hk
  split at hk
  · rename_i e; subst e; cases hk; exact h
  · cases hk
def emR (n : Nat) : Rep Unit where
  sz := n
  rd _ _ cs _ := cs.length = n ∧ ∀ u ∈ cs, u.oneCell' = true
  len h := h.1
  mono _ h := h
  live h := h
  frame _ h := h
  one h := h.2
theorem Flat.em (n : Nat) : Flat (emR n) := fun h => h
theorem sl_nil {ok : Nat → Prop} {w : World} {sz : Nat} {v : Value} (h : PRep ok w (.list sz []) v) : ∃ a c, v = .slice a 0 c ∧ Sl (emR sz) (fun _ => True) w a 0 c [] := by
  obtain ⟨l, hl⟩ : ∃ l : List PV, l = [] := ⟨_, rfl⟩
  rw [← hl] at h
  cases h with
  | nil _ a => exact ⟨a, 0, rfl, ⟨rfl, Nat.le_refl _, Nat.zero_le _, fun _ => rfl, .inl rfl⟩⟩
  | list _ _ b off c cv h1 h2 h3 h4 h6 h7 h8 => subst hl; exact ⟨_, c, rfl, ⟨rfl, Nat.zero_le _, h4, (fun e => by cases e), .inl rfl⟩⟩
--+
theorem slt32 : SliceT Tryz.prog 37 53 8 8 (.agg #[.int .u8 0, .int .u8 0, .int .u8 0, .int .u8 0, .int .u8 0, .int .u8 0, .int .u8 0, .int .u8 0]) := ⟨Tryz.underlying37, by kernel_rfl, rfl, by decide⟩
set_option maxHeartbeats 1000000 in
theorem cempty32 {a : Option Addr} {n c : Nat} {l : List Unit} {ok : Nat → Prop} {w : World} (h : Sl (emR 8) ok w a n c l) (hn : n ≤ 1000000) :
    Calls Tryz.prog 32 #[.slice a n c] w fun e w' => ∃ a' n' c', e = .returned (.slice a' n' c') ∧ (ownRowR (emR 8) 53).rd (w.heap.size ≤ ·) w' [.slice a' n' c'] l ∧ Below w.heap.size w w' := by
  have heq := fun (a : Option Addr) (n c : Nat) (w : World) => Lib.run_eql_slice_nil (P := Tryz.prog) w 37 53 a n c 0 0 Tryz.underlying37
  cases a with
  | none =>
    have h0 : l = [] := List.eq_nil_of_length_eq_zero (by rw [h.len]; have := h.nil rfl; have := h.cap; omega)
    have H0 := Lib.hid h0; clear h0
    go_enter Tryz.func32, Tryz.ntmps32
    go_wp2
    go_ret
    refine ⟨_, _, _, rfl, ?_, Below.refl _ _⟩
    rw [H0.out]
    exact ownRowR.mk (Own.nil _ _ _ _ _) (fun _ => .inl rfl)
  | some ad =>
    have hs := h.small
    go_enter Tryz.func32, Tryz.ntmps32
    go_wp2_with (at_builtin; refine wpList_app slt32 rfl _ _ rfl rfl (Own.lit0 (emR 8) (ok := fun _ => False) (Nat.le_refl _)) rfl ((Src.of_sl (h.below ((Below.refl _ _).alloc (Nat.le_refl _) _))).flat (Flat.em 8)) ?c1 ?c2 ?c3 ?_)
    case c1 => simp; unfold maxLen; omega
    case c2 => simp; omega
    case c3 => simp
    intro v' w1 hown hgrow hat
    obtain ⟨a', n', c', rfl, _⟩ := hown.sl
    go_wp2
    go_ret
    refine ⟨_, _, _, rfl, ownRowR.mk (by simpa using hown) (fun e => ?_), ((Below.refl _ _).alloc (Nat.le_refl _) _).grown hgrow (by simp) (fun k hk => by cases hk; exact Nat.le_refl _)⟩
    subst e
    obtain ⟨xs, h1, _⟩ := hown
    rcases h1.2 with ⟨hv, _⟩ | ⟨g, cap, cur, hv, _⟩
    · exact .inl hv
    · exact .inr ⟨g, cap, by simpa using hv⟩
theorem clone32_fn : fnOk Tryz.prog 32 fn32 = true := by kernel_rfl
theorem clone32_some {en : Env} (hen : en 32 = some (.code fn32)) {e : PV} {es : List PV} (hl : (e :: es).length ≤ lim) : cal en 32 [.list 8 (e :: es)] = some [(.list 8 (e :: es), true)] := by
  have F1 : (es.length + 1 ≤ lim) = True := eq_true (by simpa using hl)
  rw [cal_code hen rfl]
  simp only [fn32]
  simp only [start, z_map_cons, z_map_nil, z_len_cons, z_len_nil, z_repl_zero, z_repl_succ, z_cons_app, z_nil_app, Nat.reduceAdd, Nat.reduceSub]
  simp only [F1, z_nil_app, memAll, vAll, reduceCtorEq, Nat.reduceEqDiff, Nat.reduceAdd, Nat.reduceLT, Nat.reduceLeDiff, Nat.beq]
theorem clone32_ok : ∀ args rs, cloneX 8 args = some rs → callable Tryz.prog 32 = true ∧ CallOk Tryz.prog 32 args rs := fun args rs h => by
  unfold cloneX at h
  split at h
  case h_2 => cases h
  rename_i sz es
  split at h
  case isFalse => cases h
  rename_i hc
  obtain ⟨rfl, hl⟩ := hc
  cases h
  cases es with
  | cons e es =>
    obtain ⟨n, hn⟩ := vmCall_of_cal (clone32_some (en := oneEnv 32 fn32) (if_pos rfl) hl)
    exact vmCall_ok (oneEnv_ok clone32_fn) hn
  | nil =>
    refine ⟨by kernel_rfl, fun T0 w vs h1 h2 h3 h4 _ => ?_⟩
    match vs, h3 with
    | [v], _ =>
      have hv := h4 0 _ v rfl rfl
      obtain ⟨a, c, rfl, hsl⟩ := sl_nil hv
      refine (cempty32 (ok := fun _ => True) hsl (by omega)).mono ?_
      rintro e w' ⟨a', n', c', rfl, hrd, hB⟩
      obtain ⟨v, hv, hb, ⟨xs, hown, _⟩, hnil⟩ := hrd
      obtain rfl : Value.slice a' n' c' = v := by simpa using hv
      rcases hown.2 with ⟨e1, _⟩ | ⟨g, cap, cur, e1, _, hg, _, hm, hs, _⟩
      · refine ⟨_, T0, rfl, hB, fun _ _ => rfl, fun b hb => h2 b (by have := hB.size; omega), #[_], rfl, rfl, fun i r u hr hu => ?_⟩
        cases i with
        | zero => cases hr; cases hu; exact .inl ⟨rfl, none, e1⟩
        | succ i => simp at hr
      · have hg0 : w.heap.size ≤ g := hb g (by rw [e1]; rfl)
        have hgl : g < w'.heap.size := (Array.getElem?_eq_some_iff.1 hg).1
        refine ⟨_, fun b => if b = g then .row (.part 0 0) else T0 b, rfl, hB, fun b hb => if_neg (by omega), fun b hb => ?_, #[_], rfl, rfl, fun i r u hr hu => ?_⟩
        · show (if b = g then _ else T0 b) = _
          rw [if_neg (by omega)]; exact h2 b (by have := hB.size; omega)
        · cases i with
          | zero =>
            cases hr; cases hu
            exact .inr ⟨g, cap, cur, _, e1, if_pos rfl, hg, hs, Nat.zero_le _, hm, (fun e he => by cases he), fun i e j x hi => by simp at hi⟩
          | succ i => simp at hr
--+
theorem slt50 : SliceT Tryz.prog 32 65 1 8 (.int .u64 0) := ⟨Tryz.underlying32, by kernel_rfl, rfl, by decide⟩
set_option maxHeartbeats 1000000 in
theorem cempty50 {a : Option Addr} {n c : Nat} {l : List Unit} {ok : Nat → Prop} {w : World} (h : Sl (emR 1) ok w a n c l) (hn : n ≤ 1000000) :
    Calls Tryz.prog 50 #[.slice a n c] w fun e w' => ∃ a' n' c', e = .returned (.slice a' n' c') ∧ (ownRowR (emR 1) 65).rd (w.heap.size ≤ ·) w' [.slice a' n' c'] l ∧ Below w.heap.size w w' := by
  have heq := fun (a : Option Addr) (n c : Nat) (w : World) => Lib.run_eql_slice_nil (P := Tryz.prog) w 32 65 a n c 0 0 Tryz.underlying32
  cases a with
  | none =>
    have h0 : l = [] := List.eq_nil_of_length_eq_zero (by rw [h.len]; have := h.nil rfl; have := h.cap; omega)
    have H0 := Lib.hid h0; clear h0
    go_enter Tryz.func50, Tryz.ntmps50
    go_wp2
    go_ret
    refine ⟨_, _, _, rfl, ?_, Below.refl _ _⟩
    rw [H0.out]
    exact ownRowR.mk (Own.nil _ _ _ _ _) (fun _ => .inl rfl)
  | some ad =>
    have hs := h.small
    go_enter Tryz.func50, Tryz.ntmps50
    go_wp2_with (at_builtin; refine wpList_app slt50 rfl _ _ rfl rfl (Own.lit0 (emR 1) (ok := fun _ => False) (Nat.le_refl _)) rfl ((Src.of_sl (h.below ((Below.refl _ _).alloc (Nat.le_refl _) _))).flat (Flat.em 1)) ?c1 ?c2 ?c3 ?_)
    case c1 => simp; unfold maxLen; omega
    case c2 => simp; omega
    case c3 => simp
    intro v' w1 hown hgrow hat
    obtain ⟨a', n', c', rfl, _⟩ := hown.sl
    go_wp2
    go_ret
    refine ⟨_, _, _, rfl, ownRowR.mk (by simpa using hown) (fun e => ?_), ((Below.refl _ _).alloc (Nat.le_refl _) _).grown hgrow (by simp) (fun k hk => by cases hk; exact Nat.le_refl _)⟩
    subst e
    obtain ⟨xs, h1, _⟩ := hown
    rcases h1.2 with ⟨hv, _⟩ | ⟨g, cap, cur, hv, _⟩
    · exact .inl hv
    · exact .inr ⟨g, cap, by simpa using hv⟩
theorem clone50_fn : fnOk Tryz.prog 50 fn50 = true := by kernel_rfl
theorem clone50_some {en : Env} (hen : en 50 = some (.code fn50)) {e : PV} {es : List PV} (hl : (e :: es).length ≤ lim) : cal en 50 [.list 1 (e :: es)] = some [(.list 1 (e :: es), true)] := by
  have F1 : (es.length + 1 ≤ lim) = True := eq_true (by simpa using hl)
  rw [cal_code hen rfl]
  simp only [fn50]
  simp only [start, z_map_cons, z_map_nil, z_len_cons, z_len_nil, z_repl_zero, z_repl_succ, z_cons_app, z_nil_app, Nat.reduceAdd, Nat.reduceSub]
  simp only [F1, z_nil_app, memAll, vAll, reduceCtorEq, Nat.reduceEqDiff, Nat.reduceAdd, Nat.reduceLT, Nat.reduceLeDiff, Nat.beq]
theorem clone50_ok : ∀ args rs, cloneX 1 args = some rs → callable Tryz.prog 50 = true ∧ CallOk Tryz.prog 50 args rs := fun args rs h => by
  unfold cloneX at h
  split at h
  case h_2 => cases h
  rename_i sz es
  split at h
  case isFalse => cases h
  rename_i hc
  obtain ⟨rfl, hl⟩ := hc
  cases h
  cases es with
  | cons e es =>
    obtain ⟨n, hn⟩ := vmCall_of_cal (clone50_some (en := oneEnv 50 fn50) (if_pos rfl) hl)
    exact vmCall_ok (oneEnv_ok clone50_fn) hn
  | nil =>
    refine ⟨by kernel_rfl, fun T0 w vs h1 h2 h3 h4 _ => ?_⟩
    match vs, h3 with
    | [v], _ =>
      have hv := h4 0 _ v rfl rfl
      obtain ⟨a, c, rfl, hsl⟩ := sl_nil hv
      refine (cempty50 (ok := fun _ => True) hsl (by omega)).mono ?_
      rintro e w' ⟨a', n', c', rfl, hrd, hB⟩
      obtain ⟨v, hv, hb, ⟨xs, hown, _⟩, hnil⟩ := hrd
      obtain rfl : Value.slice a' n' c' = v := by simpa using hv
      rcases hown.2 with ⟨e1, _⟩ | ⟨g, cap, cur, e1, _, hg, _, hm, hs, _⟩
      · refine ⟨_, T0, rfl, hB, fun _ _ => rfl, fun b hb => h2 b (by have := hB.size; omega), #[_], rfl, rfl, fun i r u hr hu => ?_⟩
        cases i with
        | zero => cases hr; cases hu; exact .inl ⟨rfl, none, e1⟩
        | succ i => simp at hr
      · have hg0 : w.heap.size ≤ g := hb g (by rw [e1]; rfl)
        have hgl : g < w'.heap.size := (Array.getElem?_eq_some_iff.1 hg).1
        refine ⟨_, fun b => if b = g then .row (.part 0 0) else T0 b, rfl, hB, fun b hb => if_neg (by omega), fun b hb => ?_, #[_], rfl, rfl, fun i r u hr hu => ?_⟩
        · show (if b = g then _ else T0 b) = _
          rw [if_neg (by omega)]; exact h2 b (by have := hB.size; omega)
        · cases i with
          | zero =>
            cases hr; cases hu
            exact .inr ⟨g, cap, cur, _, e1, if_pos rfl, hg, hs, Nat.zero_le _, hm, (fun e he => by cases he), fun i e j x hi => by simp at hi⟩
          | succ i => simp at hr
end Go.Proofs.YtncobemfpammfaaGreatDoor

namespace Go.Proofs.YtncobemfpammfaaGreatDoor.V
end Go.Proofs.YtncobemfpammfaaGreatDoor.V

namespace Go.Proofs.YtncobemfpammfaaGreatDoor.V
end Go.Proofs.YtncobemfpammfaaGreatDoor.V

namespace Go.Proofs.YtncobemfpammfaaGreatDoor.V

end Go.Proofs.YtncobemfpammfaaGreatDoor.V

namespace Go.Proofs.YtncobemfpammfaaGreatDoor.V

end Go.Proofs.YtncobemfpammfaaGreatDoor.V

namespace Go.Proofs.YtncobemfpammfaaGreatDoor.V

def okW (l : List Wrt) : Prop := ∀ w ∈ l, i64b w.volume = true ∧ i64b w.start = true
theorem cal7 {im : Img} {l : List Wrt} (hw : okW l) (hl : im.length ≤ 1000000) (hr : ∀ v ∈ im, v.length ≤ 1000000) : cal env 7 [.list 1 (im.map eSecs), .list 3 (l.map eWr)] = some [(.list 1 ((apO im l).map eSecs), false), (.int .i64 (apI im l), false), (.int .i64 (apE im l), false)] :=
  (cal_ext env7).trans (applyX_enc hw hl hr)
theorem apE_szs {im : Img} {l : List Wrt} (h : apE im l = 0) : szErr (szsOf im) = 0 := by
  unfold apE at h
  split at h
  · rename_i h2; exact absurd h h2
  · omega
end Go.Proofs.YtncobemfpammfaaGreatDoor.V

namespace Go.Proofs.YtncobemfpammfaaGreatDoor.V

end Go.Proofs.YtncobemfpammfaaGreatDoor.V

namespace Go.Proofs.YtncobemfpammfaaGreatDoor.V

def getS (im : Img) (v s : Nat) : Sec := (im.getD v []).getD s zSec
def hit (w : Wrt) (v s : Nat) : Bool := decide (w.volume = (v : Int)) && (decide (w.start ≤ (s : Int)) && decide ((s : Int) - w.start < w.data.length))
def wantStep (v s : Nat) (x : Sec) (w : Wrt) : Sec := if hit w v s then w.data.getD ((s : Int) - w.start).toNat zSec else x
def wantOf (v s : Nat) (l : List Wrt) (x : Sec) : Sec := l.foldl (wantStep v s) x
theorem wrErr_facts {im : Img} {w : Wrt} (h : wrErr (szsOf im) w = 0) : 0 ≤ w.volume ∧ w.volume < (im.length : Int) ∧ 0 < w.data.length ∧ 0 ≤ w.start ∧ w.start + w.data.length ≤ ((im.getD w.volume.toNat []).length : Int) := by
  unfold wrErr at h
  have hl : (szsOf im).length = im.length := by simp [szsOf]
  rw [hl] at h
  split at h
  · omega
  · rename_i h1
    split at h
    · omega
    · rename_i h2
      split at h
      · omega
      · rename_i h3
        have h4 : w.volume.toNat < im.length := by omega
        have e : (szsOf im).getD w.volume.toNat 0 = ((im.getD w.volume.toNat []).length : Int) := by
          simp only [szsOf, List.getD_eq_getElem?_getD, List.getElem?_map, List.getElem?_eq_getElem h4, Option.map_some, Option.getD_some]
        rw [e] at h3
        exact ⟨by omega, by omega, by omega, by omega, by omega⟩
theorem putAt_get {l d : List Sec} {s k : Nat} (h : s + d.length ≤ l.length) (hk : k < l.length) : (putAt l s d).getD k zSec = if s ≤ k ∧ k < s + d.length then d.getD (k - s) zSec else l.getD k zSec := by
  have h1 : (l.take s).length = s := by rw [List.length_take]; omega
  simp only [putAt, List.getD_eq_getElem?_getD]
  by_cases c1 : k < s
  · rw [List.append_assoc, List.getElem?_append_left (by omega), if_neg (by omega), List.getElem?_take_of_lt c1]
  · by_cases c2 : k < s + d.length
    · rw [List.append_assoc, List.getElem?_append_right (by omega), h1, List.getElem?_append_left (by omega), if_pos (by omega)]
    · rw [List.getElem?_append_right (by simp; omega), if_neg (by omega)]
      simp only [List.length_append, h1, List.getElem?_drop]
      congr 2; omega
theorem put1_get {im : Img} {w : Wrt} {v s : Nat} (h : wrErr (szsOf im) w = 0) (hv : v < im.length) (hs : s < (im.getD v []).length) : getS (put1 im w) v s = wantStep v s (getS im v s) w := by
  obtain ⟨h1, h2, h3, h4, h5⟩ := wrErr_facts h
  unfold getS put1 wantStep hit
  by_cases e : w.volume.toNat = v
  · subst e
    have : (im.set w.volume.toNat (putAt (im.getD w.volume.toNat []) w.start.toNat w.data)).getD w.volume.toNat [] = putAt (im.getD w.volume.toNat []) w.start.toNat w.data := by
      simp [List.getD_eq_getElem?_getD, List.getElem?_set, hv]
    rw [this, putAt_get (by omega) hs]
    have ev : decide (w.volume = ((w.volume.toNat : Nat) : Int)) = true := by simp; omega
    rw [ev, Bool.true_and]
    by_cases c : w.start.toNat ≤ s ∧ s < w.start.toNat + w.data.length
    · rw [if_pos c, decide_eq_true (show w.start ≤ (s : Int) by omega), decide_eq_true (show (s : Int) - w.start < w.data.length by omega)]
      simp only [Bool.and_self, if_true]
      congr 1; omega
    · rw [if_neg c]
      by_cases c1 : w.start ≤ (s : Int)
      · rw [decide_eq_true c1, decide_eq_false (show ¬ (s : Int) - w.start < w.data.length by omega)]; rfl
      · rw [decide_eq_false c1]; rfl
  · have : (im.set w.volume.toNat (putAt (im.getD w.volume.toNat []) w.start.toNat w.data)).getD v [] = im.getD v [] := by
      simp [List.getD_eq_getElem?_getD, List.getElem?_set, e]
    rw [this, decide_eq_false (show ¬ w.volume = (v : Int) by omega)]
    rfl
theorem szs_getD {a b : Img} (h : szsOf a = szsOf b) (v : Nat) : (a.getD v []).length = (b.getD v []).length ∧ a.length = b.length := by
  obtain ⟨h1, h2⟩ := sizes_inj (a := a) (b := b) h
  refine ⟨?_, h1⟩
  by_cases hv : v < a.length
  · rw [getD_lt hv, getD_lt (show v < b.length by omega)]; exact h2 v hv (by omega)
  · simp [List.getD_eq_getElem?_getD, List.getElem?_eq_none (show a.length ≤ v by omega), List.getElem?_eq_none (show b.length ≤ v by omega)]
theorem puts_get : ∀ (l : List Wrt) (im : Img) (i : Nat), (wrErrs (szsOf im) l i).2 = 0 → ∀ {v s : Nat}, v < im.length → s < (im.getD v []).length → getS (l.foldl put1 im) v s = wantOf v s l (getS im v s)
  | [], _, _, _, _, _, _, _ => rfl
  | w :: l, im, i, h, v, s, hv, hs => by
    unfold wrErrs at h
    split at h
    · rename_i h2; exact absurd h h2
    · rename_i h2
      have h2 : wrErr (szsOf im) w = 0 := by omega
      have e := wrErr_ok h2
      obtain ⟨q1, q2⟩ := szs_getD e v
      rw [List.foldl_cons, puts_get l (put1 im w) (i + 1) (by rw [e]; exact h) (by omega) (by omega), put1_get h2 hv hs]
      rfl
theorem all_fit : ∀ (l : List Wrt) (im : Img) (i : Nat), (wrErrs (szsOf im) l i).2 = 0 → ∀ w ∈ l, wrErr (szsOf im) w = 0
  | [], _, _, _, w, hw => by cases hw
  | x :: l, im, i, h, w, hw => by
    unfold wrErrs at h
    split at h
    · rename_i h2; exact absurd h h2
    · rename_i h2
      rcases List.mem_cons.1 hw with rfl | hw
      · omega
      · exact all_fit l im (i + 1) h w hw
end Go.Proofs.YtncobemfpammfaaGreatDoor.V

namespace Go.Proofs.YtncobemfpammfaaGreatDoor.V
end Go.Proofs.YtncobemfpammfaaGreatDoor.V

namespace Go.Proofs.YtncobemfpammfaaGreatDoor.V

theorem wrErrs_ok (sz : List Int) : ∀ (l : List Wrt) (i : Nat), (∀ w ∈ l, wrErr sz w = 0) → (wrErrs sz l i).2 = 0
  | [], _, _ => rfl
  | w :: l, i, h => by
    unfold wrErrs
    rw [if_neg (by rw [h w (by simp)]; simp)]
    exact wrErrs_ok sz l (i + 1) fun x hx => h x (by simp [hx])
theorem want_all (v s : Nat) (B : Sec) : ∀ (l : List Wrt) (x : Sec), (∀ w ∈ l, hit w v s = true → w.data.getD ((s : Int) - w.start).toNat zSec = B) → (x = B ∨ ∃ w ∈ l, hit w v s = true) → wantOf v s l x = B
  | [], x, _, h => by
    rcases h with h | ⟨w, hw, _⟩
    · exact h
    · cases hw
  | w :: l, x, hh, h => by
    show wantOf v s l (wantStep v s x w) = B
    refine want_all v s B l _ (fun y hy => hh y (by simp [hy])) ?_
    by_cases c : hit w v s = true
    · left; unfold wantStep; rw [if_pos c]; exact hh w (by simp) c
    · rcases h with h | ⟨y, hy, hc⟩
      · left; unfold wantStep; rw [if_neg c]; exact h
      · rcases List.mem_cons.1 hy with rfl | hy
        · exact absurd hc c
        · exact .inr ⟨y, hy, hc⟩
end Go.Proofs.YtncobemfpammfaaGreatDoor.V

namespace Go.Proofs.YtncobemfpammfaaGreatDoor.V
def misN (a b : List Sec) (l : List Exn) (n : Nat) : List Nat := (difN a b n).filter fun i => !hasX l (i : Int)
theorem misN_len (a b : List Sec) (l : List Exn) (n : Nat) : (misN a b l n).length ≤ n := Nat.le_trans (List.length_filter_le _ _) (difN_len a b n)
theorem misN_succ (a b : List Sec) (l : List Exn) (n : Nat) : misN a b l (n + 1) = if dif a b n then (if hasX l (n : Int) then misN a b l n else misN a b l n ++ [n]) else misN a b l n := by
  unfold misN
  rw [difN_succ]
  by_cases h : dif a b n = true
  · rw [if_pos h, if_pos h, List.filter_append]
    by_cases h2 : hasX l (n : Int) = true
    · rw [if_pos h2]; simp [h2]
    · rw [if_neg h2]; simp [h2]
  · rw [if_neg h, if_neg h]
def numD (a b : Img) (n : Nat) : Nat := ((List.range n).map fun v => (difs (a.getD v []) (b.getD v [])).length).sum
def numM (a b : Img) (l : List (List Exn)) (n : Nat) : Nat := ((List.range n).map fun v => (misN (a.getD v []) (b.getD v []) (l.getD v []) (a.getD v []).length).length).sum
theorem numD_succ (a b : Img) (n : Nat) : numD a b (n + 1) = numD a b n + (difs (a.getD n []) (b.getD n [])).length := by simp [numD, List.range_succ]
theorem numM_succ (a b : Img) (l : List (List Exn)) (n : Nat) : numM a b l (n + 1) = numM a b l n + (misN (a.getD n []) (b.getD n []) (l.getD n []) (a.getD n []).length).length := by simp [numM, List.range_succ]
theorem numD_lim {a b : Img} (hr : ∀ v ∈ a, v.length ≤ 1000) : ∀ n, n ≤ a.length → numD a b n ≤ 1000 * n
  | 0, _ => by simp [numD]
  | n + 1, h => by
    have ih := numD_lim (b := b) hr n (by omega)
    have e : a.getD n [] = a[n] := by simp [show n < a.length by omega]
    have h2 := hr _ (List.getElem_mem (show n < a.length by omega))
    have h3 := difN_len a[n] (b.getD n []) a[n].length
    rw [numD_succ, e]; unfold difs; omega
theorem numM_lim {a b : Img} {l : List (List Exn)} (hr : ∀ v ∈ a, v.length ≤ 1000) : ∀ n, n ≤ a.length → numM a b l n ≤ 1000 * n
  | 0, _ => by simp [numM]
  | n + 1, h => by
    have ih := numM_lim (b := b) (l := l) hr n (by omega)
    have e : a.getD n [] = a[n] := by simp [show n < a.length by omega]
    have h2 := hr _ (List.getElem_mem (show n < a.length by omega))
    have h3 := misN_len a[n] (b.getD n []) (l.getD n []) a[n].length
    rw [numM_succ, e]; omega
theorem nat_succ_i64 {n : Nat} (h : n ≤ lim) : IntKind.i64.wrap ((n : Int) + 1) = ((n + 1 : Nat) : Int) := by
  rw [Int.natCast_succ]; exact i64_fits (by unfold lim at h; omega)
theorem loop11 {a b : Img} {l : List (List Exn)} {v n0 m0 : Nat} (hv : v < a.length) (hb : v < b.length) (hv2 : v < l.length) (hab : a[v].length = b[v].length) (h1000 : a[v].length ≤ 1000) (hn : n0 ≤ 1000000) (hm : m0 ≤ 1000000) (ho : ∀ x ∈ l, okEs x) (hr : ∀ x ∈ l, x.length ≤ 10000) {st : St} (h : st.head [0, 1, 2, 8, 9, 10, 11] st.boxes.length = some ⟨[.pv (.list 1 (a.map eSecs)), .pv (.list 1 (b.map eSecs)), .pv (.list 1 (l.map eExts)), .any, .any, .any, .any, .any, .pv (.int .i64 ((n0 + (difN a[v] b[v] (0 : Nat)).length : Nat) : Int)), .pv (.int .i64 ((m0 + (misN a[v] b[v] l[v] (0 : Nat)).length : Nat) : Int)), .pv (.int .i64 v), .pv (.int .i64 (0 : Nat)), .any, .any, .any, .any, .any, .any, .any, .any, .any, .any, .any, .any, .any, .any, .any, .any, .any, .any, .any, .any, .any, .any, .any, .any, .any, .any, .any, .any, .any, .any, .any, .any, .any, .any, .any, .any, .any, .any, .any, .any, .any, .any, .any], [], [], none⟩) :
   den env fn11_l1 st = some (.normal, ⟨[.pv (.list 1 (a.map eSecs)), .pv (.list 1 (b.map eSecs)), .pv (.list 1 (l.map eExts)), .any, .any, .any, .any, .any, .pv (.int .i64 ((n0 + (difs a[v] b[v]).length : Nat) : Int)), .pv (.int .i64 ((m0 + (misN a[v] b[v] l[v] a[v].length).length : Nat) : Int)), .pv (.int .i64 v), .any, .any, .any, .any, .any, .any, .any, .any, .any, .any, .any, .any, .any, .any, .any, .any, .any, .any, .any, .any, .any, .any, .any, .any, .any, .any, .any, .any, .any, .any, .any, .any, .any, .any, .any, .any, .any, .any, .any, .any, .any, .any, .any, .any], [], [], none⟩) := by
  unfold fn11_l1
  refine clean_up (env := env) (a[v].length) (fun i => ⟨[.pv (.list 1 (a.map eSecs)), .pv (.list 1 (b.map eSecs)), .pv (.list 1 (l.map eExts)), .any, .any, .any, .any, .any, .pv (.int .i64 ((n0 + (difN a[v] b[v] i).length : Nat) : Int)), .pv (.int .i64 ((m0 + (misN a[v] b[v] l[v] i).length : Nat) : Int)), .pv (.int .i64 v), .pv (.int .i64 i), .any, .any, .any, .any, .any, .any, .any, .any, .any, .any, .any, .any, .any, .any, .any, .any, .any, .any, .any, .any, .any, .any, .any, .any, .any, .any, .any, .any, .any, .any, .any, .any, .any, .any, .any, .any, .any, .any, .any, .any, .any, .any, .any], [], [], none⟩) (fun i => some (.normal, ⟨[.pv (.list 1 (a.map eSecs)), .pv (.list 1 (b.map eSecs)), .pv (.list 1 (l.map eExts)), .any, .any, .any, .any, .any, .pv (.int .i64 ((n0 + (difs a[v] b[v]).length : Nat) : Int)), .pv (.int .i64 ((m0 + (misN a[v] b[v] l[v] a[v].length).length : Nat) : Int)), .pv (.int .i64 v), .any, .any, .any, .any, .any, .any, .any, .any, .any, .any, .any, .any, .any, .any, .any, .any, .any, .any, .any, .any, .any, .any, .any, .any, .any, .any, .any, .any, .any, .any, .any, .any, .any, .any, .any, .any, .any, .any, .any, .any, .any, .any, .any, .any], [], [], none⟩)) h (fun _ => rfl) (fun _ => rfl) ?_ ?_
  · intro i rb hi ih

    have hi1 := i64_next hi (Nat.le_trans h1000 (by decide))
    have hj : i < b[v].length := by omega
    have F1 : ((i : Int) < (a[v].length : Int)) = True := eq_true (by omega)
    have e1 := eqCells_sec a[v][i] b[v][i]
    have e2 := cal29 (s := (i : Int)) (ho _ (List.getElem_mem hv2)) (hr _ (List.getElem_mem hv2))
    have hd := difN_len a[v] b[v] i
    have hm2 := misN_len a[v] b[v] l[v] i
    have hlim : lim = 1073741824 := rfl
    have W1 := nat_succ_i64 (n := n0 + (difN a[v] b[v] i).length) (by omega)
    have W2 := nat_succ_i64 (n := m0 + (misN a[v] b[v] l[v] i).length) (by omega)
    have D : dif a[v] b[v] i = !decide (a[v][i] = b[v][i]) := by simp [dif, hi, hj]
    have PS : ∀ x : Sec, part (secPV x) 0 (some 8) = some (.agg (secPV x)) := part_sec
    have S1 := difN_succ a[v] b[v] i
    have S2 := misN_succ a[v] b[v] l[v] i
    rw [D] at S1 S2
    by_cases c : a[v][i] = b[v][i]
    · rw [decide_eq_true c] at e1 S1 S2
      simp only [Bool.not_true, Bool.false_eq_true, if_false] at S1 S2
      simp only [fn11_b0, F1, e1, PS, eSec, eSecs, secPV_length, index_nat hv, index_nat hb, index_nat hi, index_nat hj, List.getElem?_map, List.getElem?_eq_getElem hv, List.getElem?_eq_getElem hb, List.getElem?_eq_getElem hi, List.getElem?_eq_getElem hj, memAll, vAll, reduceCtorEq, Nat.reduceEqDiff, Nat.reduceAdd, Nat.reduceLT, Nat.reduceLeDiff, Nat.beq]
      rw [ih _ (by simp only [hi1, S1, S2]; rfl)]
    · rw [decide_eq_false c] at e1 S1 S2
      simp only [Bool.not_false, if_true] at S1 S2
      cases hh : hasX l[v] (i : Int) with
      | true =>
        rw [hh] at e2
        simp only [hh, if_true] at S2
        simp only [fn11_b0, F1, e1, e2, W1, PS, eSec, eSecs, eExts, secPV_length, index_nat hv, index_nat hb, index_nat hv2, index_nat hi, index_nat hj, List.getElem?_map, List.getElem?_eq_getElem hv, List.getElem?_eq_getElem hb, List.getElem?_eq_getElem hv2, List.getElem?_eq_getElem hi, List.getElem?_eq_getElem hj, memAll, vAll, reduceCtorEq, Nat.reduceEqDiff, Nat.reduceAdd, Nat.reduceLT, Nat.reduceLeDiff, Nat.beq]
        rw [ih _ (by simp only [hi1, S1, S2, List.length_append, List.length_cons, List.length_nil]; rfl)]
      | false =>
        rw [hh] at e2
        simp only [hh, Bool.false_eq_true, if_false] at S2
        simp only [fn11_b0, F1, e1, e2, W1, W2, PS, eSec, eSecs, eExts, secPV_length, index_nat hv, index_nat hb, index_nat hv2, index_nat hi, index_nat hj, List.getElem?_map, List.getElem?_eq_getElem hv, List.getElem?_eq_getElem hb, List.getElem?_eq_getElem hv2, List.getElem?_eq_getElem hi, List.getElem?_eq_getElem hj, memAll, vAll, reduceCtorEq, Nat.reduceEqDiff, Nat.reduceAdd, Nat.reduceLT, Nat.reduceLeDiff, Nat.beq]
        rw [ih _ (by simp only [hi1, S1, S2, List.length_append, List.length_cons, List.length_nil]; rfl)]
  · intro rb

    simp only [fn11_b0, Int.lt_irrefl, eSecs, index_nat hv, List.getElem?_map, List.getElem?_eq_getElem hv, memAll, vAll, reduceCtorEq, Nat.reduceEqDiff, Nat.reduceAdd, Nat.reduceLT, Nat.reduceLeDiff, Nat.beq]
    rfl

theorem loop11l3 {a b : Img} {l : List (List Exn)} (hab : a.length = b.length) (hz : ∀ i (h1 : i < a.length) (h2 : i < b.length), a[i].length = b[i].length) (hl : a.length ≤ l.length) (hal : a.length ≤ 1000) (hra : ∀ v ∈ a, v.length ≤ 1000) (ho : ∀ x ∈ l, okEs x) (hr : ∀ x ∈ l, x.length ≤ 10000) {st : St} (h : st.head [0, 1, 2, 8, 9, 10] st.boxes.length = some ⟨[.pv (.list 1 (a.map eSecs)), .pv (.list 1 (b.map eSecs)), .pv (.list 1 (l.map eExts)), .any, .any, .any, .any, .any, .pv (.int .i64 (numD a b (0 : Nat) : Int)), .pv (.int .i64 (numM a b l (0 : Nat) : Int)), .pv (.int .i64 (0 : Nat)), .any, .any, .any, .any, .any, .any, .any, .any, .any, .any, .any, .any, .any, .any, .any, .any, .any, .any, .any, .any, .any, .any, .any, .any, .any, .any, .any, .any, .any, .any, .any, .any, .any, .any, .any, .any, .any, .any, .any, .any, .any, .any, .any, .any], [], [], none⟩) :
   den env fn11_l3 st = some (.normal, ⟨[.any, .any, .any, .any, .any, .any, .any, .any, .pv (.int .i64 (numD a b a.length : Int)), .pv (.int .i64 (numM a b l a.length : Int)), .any, .any, .any, .any, .any, .any, .any, .any, .any, .any, .any, .any, .any, .any, .any, .any, .any, .any, .any, .any, .any, .any, .any, .any, .any, .any, .any, .any, .any, .any, .any, .any, .any, .any, .any, .any, .any, .any, .any, .any, .any, .any, .any, .any, .any], [], [], none⟩) := by
  unfold fn11_l3
  refine clean_up (env := env) (a.length) (fun i => ⟨[.pv (.list 1 (a.map eSecs)), .pv (.list 1 (b.map eSecs)), .pv (.list 1 (l.map eExts)), .any, .any, .any, .any, .any, .pv (.int .i64 (numD a b i : Int)), .pv (.int .i64 (numM a b l i : Int)), .pv (.int .i64 i), .any, .any, .any, .any, .any, .any, .any, .any, .any, .any, .any, .any, .any, .any, .any, .any, .any, .any, .any, .any, .any, .any, .any, .any, .any, .any, .any, .any, .any, .any, .any, .any, .any, .any, .any, .any, .any, .any, .any, .any, .any, .any, .any, .any], [], [], none⟩) (fun i => some (.normal, ⟨[.any, .any, .any, .any, .any, .any, .any, .any, .pv (.int .i64 (numD a b a.length : Int)), .pv (.int .i64 (numM a b l a.length : Int)), .any, .any, .any, .any, .any, .any, .any, .any, .any, .any, .any, .any, .any, .any, .any, .any, .any, .any, .any, .any, .any, .any, .any, .any, .any, .any, .any, .any, .any, .any, .any, .any, .any, .any, .any, .any, .any, .any, .any, .any, .any, .any, .any, .any, .any], [], [], none⟩)) h (fun _ => rfl) (fun _ => rfl) ?_ ?_
  · intro i rb hi ih

    have hi1 := i64_next hi (Nat.le_trans hal (by decide))
    have F1 : ((i : Int) < (a.length : Int)) = True := eq_true (by omega)
    have hjb : i < b.length := by omega
    have hjl : i < l.length := by omega
    have c1 := numD_lim (b := b) hra i (by omega)
    have c2 := numM_lim (b := b) (l := l) hra i (by omega)
    have c3 : 1000 * i ≤ 1000 * 1000 := Nat.mul_le_mul_left _ (by omega)
    have g1 : a.getD i [] = a[i] := by simp [hi]
    have g2 : b.getD i [] = b[i] := by simp [hjb]
    have g3 : l.getD i [] = l[i] := by simp [hjl]
    have s1 := numD_succ a b i
    have s2 := numM_succ a b l i
    rw [g1, g2] at s1
    rw [g1, g2, g3] at s2
    simp only [fn11_b2, F1, memAll, vAll, reduceCtorEq, Nat.reduceEqDiff, Nat.reduceAdd, Nat.reduceLT, Nat.reduceLeDiff, Nat.beq]
    rw [loop11 (a := a) (b := b) (l := l) (v := i) (n0 := numD a b i) (m0 := numM a b l i) hi hjb hjl (hz i hi hjb) (hra _ (List.getElem_mem hi)) (by omega) (by omega) ho hr]
    rotate_left
    · rfl
    rw [← s1, ← s2]
    simp only [memAll, vAll, reduceCtorEq, Nat.reduceEqDiff, Nat.reduceAdd, Nat.reduceLT, Nat.reduceLeDiff, Nat.beq]
    rw [ih _ (by simp only [hi1]; rfl)]
  · intro rb

    simp only [fn11_b2, Int.lt_irrefl, memAll, vAll, reduceCtorEq, Nat.reduceEqDiff, Nat.reduceAdd, Nat.reduceLT, Nat.reduceLeDiff, Nat.beq]
    rfl

theorem cal11 {a b : Img} {l : List (List Exn)} (hab : a.length = b.length) (hz : ∀ i (h1 : i < a.length) (h2 : i < b.length), a[i].length = b[i].length) (hl : a.length ≤ l.length) (hal : a.length ≤ 1000) (hra : ∀ v ∈ a, v.length ≤ 1000) (ho : ∀ x ∈ l, okEs x) (hr : ∀ x ∈ l, x.length ≤ 10000) :
    cal env 11 [.list 1 (a.map eSecs), .list 1 (b.map eSecs), .list 1 (l.map eExts)] = some [(.int .i64 (numD a b a.length : Int), false), (.int .i64 (numM a b l a.length : Int), false)] := by
  rw [cal_code env11 rfl]; simp only [fn11]; simp only [start, z_map_cons, z_map_nil, z_len_cons, z_len_nil, z_repl_zero, z_repl_succ, z_cons_app, z_nil_app, Nat.reduceAdd, Nat.reduceSub]
  simp only [memAll, vAll, reduceCtorEq, Nat.reduceEqDiff, Nat.reduceAdd, Nat.reduceLT, Nat.reduceLeDiff, Nat.beq]
  rw [loop11l3 hab hz hl hal hra ho hr]
  rotate_left
  · rfl
  · simp only [memAll, vAll, reduceCtorEq, Nat.reduceEqDiff, Nat.reduceAdd, Nat.reduceLT, Nat.reduceLeDiff, Nat.beq]
end Go.Proofs.YtncobemfpammfaaGreatDoor.V

namespace Go.Proofs.YtncobemfpammfaaGreatDoor.V
def can : Int → List Exn → Prop
  | _, [] => True
  | nx, x :: l => nx ≤ x.start ∧ 1 ≤ x.count ∧ can (x.start + x.count + 1) l
def endN : Int → List Exn → Int
  | nx, [] => nx
  | _, x :: l => endN (x.start + x.count + 1) l
theorem endN_snoc : ∀ (l : List Exn) (nx : Int) (x : Exn), endN nx (l ++ [x]) = x.start + x.count + 1
  | [], _, _ => rfl
  | y :: l, _, x => endN_snoc l (y.start + y.count + 1) x
theorem can_snoc : ∀ (l : List Exn) (nx : Int) (x : Exn), can nx (l ++ [x]) ↔ can nx l ∧ endN nx l ≤ x.start ∧ 1 ≤ x.count
  | [], nx, x => by simp [can, endN]
  | y :: l, nx, x => by
    have := can_snoc l (y.start + y.count + 1) x
    show nx ≤ y.start ∧ 1 ≤ y.count ∧ can _ (l ++ [x]) ↔ (nx ≤ y.start ∧ 1 ≤ y.count ∧ can _ l) ∧ endN _ l ≤ x.start ∧ 1 ≤ x.count
    rw [this]
    constructor
    · rintro ⟨a, b, c, d⟩; exact ⟨⟨a, b, c⟩, d⟩
    · rintro ⟨⟨a, b, c⟩, d⟩; exact ⟨a, b, c, d⟩
theorem can_ext (p : Nat → Bool) : ∀ n : Nat, can 0 (ext p n) ∧ endN 0 (ext p n) ≤ (n : Int) + 1
  | 0 => by rw [ext_zero]; exact ⟨trivial, by simp [endN]⟩
  | n + 1 => by
    obtain ⟨h1, h2⟩ := can_ext p n
    rw [ext_succ]
    split
    · rcases snoc_cases (ext p n) with e | ⟨pre, x, e⟩
      · rw [e]
        have : addAt [] n = [⟨(n : Int), 1⟩] := rfl
        rw [this]
        exact ⟨⟨by simp only; omega, by simp only; omega, trivial⟩, by simp only [endN]; omega⟩
      · rw [e] at h1 h2 ⊢
        have hx := ext_in p n x (by rw [e]; simp)
        rw [endN_snoc] at h2
        obtain ⟨c1, c2, c3⟩ := (can_snoc _ _ _).1 h1
        rw [addAt_snoc]
        split
        · exact ⟨(can_snoc _ _ _).2 ⟨c1, c2, by simp only; omega⟩, by rw [endN_snoc]; simp only; omega⟩
        · exact ⟨(can_snoc _ _ _).2 ⟨h1, by rw [endN_snoc]; simp only; omega, by simp⟩, by rw [endN_snoc]; simp only; omega⟩
    · exact ⟨h1, by omega⟩
theorem chk_can {size : Int} : ∀ (l : List Exn) (nx : Int), can nx l → (∀ x ∈ l, 0 ≤ x.start ∧ x.start + x.count ≤ size) → chkGo size nx l = 0
  | [], _, _, _ => rfl
  | x :: l, nx, h, hb => by
    obtain ⟨h1, h2, h3⟩ := h
    have hx := hb x (by simp)
    unfold chkGo
    rw [if_neg (by omega), if_neg (by omega), if_neg (by omega)]
    exact chk_can l _ h3 fun y hy => hb y (by simp [hy])
theorem chk_ext' (p : Nat → Bool) (n : Nat) : chkGo n 0 (ext p n) = 0 := chk_can _ 0 (can_ext p n).1 fun x hx => by have := ext_in p n x hx; omega
end Go.Proofs.YtncobemfpammfaaGreatDoor.V

namespace Go.Proofs.YtncobemfpammfaaGreatDoor.V
theorem seq_ok {im : Img} {l : List Wrt} (h : seqW im l) (hl : im.length ≤ lim) (hr : ∀ v ∈ im, v.length ≤ 1000000) : okW l := fun w hw => by
  obtain ⟨q1, q2, q3, q4⟩ := fits_in (h.1 w hw)
  have q5 := getD_len hr w.volume.toNat
  have hlim : lim = 1073741824 := rfl
  simp only [i64b, Bool.and_eq_true, decide_eq_true_eq]
  omega
end Go.Proofs.YtncobemfpammfaaGreatDoor.V

namespace Go.Proofs.YtncobemfpammfaaGreatDoor.V
theorem szs_at {a : Img} {v : Nat} (hv : v < a.length) : (szsOf a).getD v 0 = ((a.getD v []).length : Int) := by
  rw [getD_lt hv]
  simp only [szsOf, List.getD_eq_getElem?_getD, List.getElem?_map, List.getElem?_eq_getElem hv, Option.map_some, Option.getD_some]
theorem wr_fit {a b : Img} {x : List (List Exn)} (hs : imSizes a = imSizes b) (hf : fitE a x = 0) {w : Wrt} (hw : w ∈ wrL a x) : wrErr (szsOf b) w = 0 := by
  have hs' : szsOf a = szsOf b := hs
  obtain ⟨v, hv, e, he, rfl⟩ := wrL_mem hw
  have hl := fit_len hf
  obtain ⟨q1, q2, q3⟩ := wr_at hf hv he
  have q4 := wOf_len q1 q2 q3
  have hva : v < a.length := by omega
  have hsz : (szsOf a).length = a.length := by simp [szsOf]
  rw [← hs']
  unfold wrErr
  have e1 : (wOf a v e).volume = (v : Int) := rfl
  have e2 : (wOf a v e).start = e.start := rfl
  rw [e1, e2, hsz, Int.toNat_natCast, szs_at hva]
  rw [if_neg (by omega), if_neg (by omega), if_neg (by omega)]
theorem inS_iff {l : List Exn} {s : Nat} : inS l s = true ↔ ∃ e ∈ l, inE e s = true := by simp [inS]
theorem hit_wOf {a : Img} {i v s : Nat} {e : Exn} (q1 : 0 ≤ e.start) (q2 : 1 ≤ e.count) (q3 : e.start + e.count ≤ ((a.getD i []).length : Int)) : hit (wOf a i e) v s = true ↔ i = v ∧ inE e s = true := by
  have q4 := wOf_len q1 q2 q3
  have e1 : (wOf a i e).volume = (i : Int) := rfl
  have e2 : (wOf a i e).start = e.start := rfl
  unfold hit inE
  rw [e1, e2, q4]
  simp only [Bool.and_eq_true, decide_eq_true_eq]
  omega
theorem want_none (v s : Nat) : ∀ (l : List Wrt) (x : Sec), (∀ w ∈ l, ¬ hit w v s = true) → wantOf v s l x = x
  | [], _, _ => rfl
  | w :: l, x, h => by
    show wantOf v s l (wantStep v s x w) = x
    have : wantStep v s x w = x := by unfold wantStep; rw [if_neg (h w (by simp))]
    rw [this]
    exact want_none v s l x fun y hy => h y (by simp [hy])
theorem wr_want {a : Img} {x : List (List Exn)} (hf : fitE a x = 0) {v s : Nat} (hv : v < a.length) (hs : s < (a.getD v []).length) (y : Sec) :
    wantOf v s (wrL a x) y = if inS (x.getD v []) s then getS a v s else y := by
  have hl := fit_len hf
  by_cases c : inS (x.getD v []) s = true
  · rw [if_pos c]
    obtain ⟨e, he, hi⟩ := inS_iff.1 c
    refine want_all v s _ _ _ (fun w hw hh => ?_) (.inr ⟨wOf a v e, ?_, ?_⟩)
    · obtain ⟨i, hi', e', he', rfl⟩ := wrL_mem hw
      obtain ⟨q1, q2, q3⟩ := wr_at hf hi' he'
      obtain ⟨rfl, h2⟩ := (hit_wOf q1 q2 q3).1 hh
      simp only [inE, Bool.and_eq_true, decide_eq_true_eq] at h2
      have q4 := wOf_len q1 q2 q3
      have e2 : (wOf a i e').start = e'.start := rfl
      have e3 : (wOf a i e').data = ((a.getD i []).drop e'.start.toNat).take e'.count.toNat := rfl
      have hk : ((s : Int) - e'.start).toNat < (((a.getD i []).drop e'.start.toNat).take e'.count.toNat).length := by rw [List.length_take, List.length_drop]; omega
      unfold getS
      rw [e2, e3, getD_lt hk, getD_lt hs, List.getElem_take, List.getElem_drop]
      congr 1; omega
    · unfold wrL wrN
      exact List.mem_flatMap.2 ⟨v, List.mem_range.2 (by omega), List.mem_map.2 ⟨e, he, rfl⟩⟩
    · obtain ⟨q1, q2, q3⟩ := wr_at hf (show v < x.length by omega) he
      exact (hit_wOf q1 q2 q3).2 ⟨rfl, hi⟩
  · rw [if_neg c]
    refine want_none v s _ _ fun w hw hh => c ?_
    obtain ⟨i, hi', e', he', rfl⟩ := wrL_mem hw
    obtain ⟨q1, q2, q3⟩ := wr_at hf hi' he'
    obtain ⟨rfl, h2⟩ := (hit_wOf q1 q2 q3).1 hh
    exact inS_iff.2 ⟨e', he', h2⟩
theorem ap_wr {a b : Img} {x : List (List Exn)} (hs : imSizes a = imSizes b) (hf : fitE a x = 0) (h0 : imCheck b = 0) :
    apE b (wrL a x) = 0 ∧ szsOf (apO b (wrL a x)) = szsOf a ∧ ∀ v s, v < a.length → s < (a.getD v []).length → getS (apO b (wrL a x)) v s = if inS (x.getD v []) s then getS a v s else getS b v s := by
  have h0' : szErr (szsOf b) = 0 := h0
  have hs' : szsOf b = szsOf a := hs.symm
  have hE := wrErrs_ok (szsOf b) (wrL a x) 0 fun w hw => wr_fit hs hf hw
  have he : apE b (wrL a x) = 0 := by unfold apE; rw [if_neg (by rw [h0']; simp)]; exact hE
  have hO : apO b (wrL a x) = (wrL a x).foldl put1 b := by unfold apO; rw [if_pos he]
  refine ⟨he, (apO_sizes he).trans hs', fun v s hv hsv => ?_⟩
  obtain ⟨g1, g2⟩ := szs_getD hs' v
  rw [hO, puts_get (wrL a x) b 0 hE (show v < b.length by omega) (by omega)]
  exact wr_want hf hv hsv _
theorem img_eq {p q : Img} (h : szsOf p = szsOf q) (hg : ∀ v s, v < p.length → s < (p.getD v []).length → getS p v s = getS q v s) : p = q := by
  obtain ⟨y1, y2⟩ := sizes_inj (a := p) (b := q) h
  apply List.ext_getElem y1
  intro v h1 h2
  apply List.ext_getElem (y2 v h1 h2)
  intro s h3 h4
  have := hg v s h1 (by rw [getD_lt h1]; exact h3)
  unfold getS at this
  rw [getD_lt h1, getD_lt h3, getD_lt h2, getD_lt h4] at this
  exact this
def Hits (a b : Img) (l : List (List Exn)) : Prop := ∀ v s, v < a.length → s < (a.getD v []).length → getS a v s ≠ getS b v s → inS (l.getD v []) s = true
theorem dif_iff {a b : Img} (hs : imSizes a = imSizes b) {v s : Nat} (hv : v < a.length) (h : s < (a.getD v []).length) : dif (a.getD v []) (b.getD v []) s = true ↔ getS a v s ≠ getS b v s := by
  obtain ⟨g1, g2⟩ := szs_getD (show szsOf a = szsOf b from hs) v
  have h2 : s < (b.getD v []).length := by omega
  unfold dif getS
  rw [List.getElem?_eq_getElem h, List.getElem?_eq_getElem h2, getD_lt h, getD_lt h2]
  simp
theorem ap_all {a b : Img} {l : List (List Exn)} (hs : imSizes a = imSizes b) (hf : fitE a l = 0) (h0 : imCheck b = 0) : apO b (wrL a l) = a ↔ Hits a b l := by
  obtain ⟨h1, h2, h3⟩ := ap_wr hs hf h0
  constructor
  · intro e v s hv hsv hd
    have := h3 v s hv hsv
    rw [e] at this
    by_cases c : inS (l.getD v []) s = true
    · exact c
    · rw [if_neg c] at this; exact absurd this hd
  · intro hh
    refine (img_eq h2.symm fun v s hv hsv => ?_).symm
    rw [h3 v s hv hsv]
    by_cases c : inS (l.getD v []) s = true
    · rw [if_pos c]
    · rw [if_neg c]
      exact Classical.byContradiction fun hd => c (hh v s hv hsv hd)
theorem fit_of {a : Img} {x : List (List Exn)} (hl : x.length = a.length) (h : ∀ v, v < a.length → chkX (x.getD v []) ((a.getD v []).length : Int) = 0) : fitE a x = 0 := by
  unfold fitE
  rw [if_neg (by omega), if_neg]
  intro hc
  have hm := List.contains_iff_mem.1 hc
  unfold fitB eachX at hm
  obtain ⟨i, hi, e⟩ := List.mem_mapIdx.1 hm
  have := h i (by omega)
  rw [getD_lt hi] at this
  rw [this] at e
  simp at e
theorem num_zero {a b : Img} {l : List (List Exn)} (hs : imSizes a = imSizes b) (hr : ∀ v ∈ a, v.length ≤ 4096) : numM a b l a.length = 0 ↔ Hits a b l := by
  have key : ∀ v, v < a.length → ((misN (a.getD v []) (b.getD v []) (l.getD v []) (a.getD v []).length).length = 0 ↔ ∀ s, s < (a.getD v []).length → getS a v s ≠ getS b v s → inS (l.getD v []) s = true) := fun v hv => by
    have h1 : (a.getD v []).length ≤ 4096 := by rw [getD_lt hv]; exact hr _ (List.getElem_mem hv)
    rw [List.length_eq_zero_iff]
    unfold misN difN
    rw [List.filter_eq_nil_iff]
    constructor
    · intro h s hsv hne
      have := h s (List.mem_filter.2 ⟨List.mem_range.2 hsv, (dif_iff hs hv hsv).2 hne⟩)
      unfold hasX at this
      rw [decide_eq_true (show (0 : Int) ≤ (s : Int) by omega), decide_eq_true (show (s : Int) < 4096 by omega), Int.toNat_natCast, Bool.true_and, Bool.true_and] at this
      simpa using this
    · intro h s hm
      obtain ⟨m1, m2⟩ := List.mem_filter.1 hm
      have hsv := List.mem_range.1 m1
      have := h s hsv ((dif_iff hs hv hsv).1 m2)
      unfold hasX
      rw [decide_eq_true (show (0 : Int) ≤ (s : Int) by omega), decide_eq_true (show (s : Int) < 4096 by omega), Int.toNat_natCast, Bool.true_and, Bool.true_and, this]
      simp
  have all : ∀ n, n ≤ a.length → (numM a b l n = 0 ↔ ∀ v, v < n → (misN (a.getD v []) (b.getD v []) (l.getD v []) (a.getD v []).length).length = 0) := by
    intro n
    induction n with
    | zero => intro _; exact ⟨fun _ v hv => absurd hv (Nat.not_lt_zero _), fun _ => rfl⟩
    | succ n ih =>
      intro h
      have ih := ih (by omega)
      rw [numM_succ]
      constructor
      · intro e v hv
        rcases Nat.lt_or_ge v n with c | c
        · exact ih.1 (by omega) v c
        · have : v = n := by omega
          subst this; omega
      · intro e
        have h1 := ih.2 fun v hv => e v (by omega)
        have h2 := e n (by omega)
        omega
  rw [all _ (Nat.le_refl _)]
  exact ⟨fun h v s hv hsv hne => (key v hv).1 (h v hv) s hsv hne, fun h v hv => (key v hv).2 fun s hsv hne => h v s hv hsv hne⟩
end Go.Proofs.YtncobemfpammfaaGreatDoor.V

namespace Go.Proofs.YtncobemfpammfaaGreatDoor.V
def zBm : Bm := ⟨0, []⟩
def BmInv (im : Img) (p : List Bm) (M : Nat → Nat → Bool) : Prop :=
  p.length = im.length ∧ ∀ v, v < im.length → okB (p.getD v zBm) = true ∧ (p.getD v zBm).size = ((im.getD v []).length : Int) ∧ ∀ s, s < (im.getD v []).length → bit (p.getD v zBm).ws s = M v s
theorem new_ok {n : Nat} (h : n ≤ 4096) : newE (n : Int) = 0 ∧ okB (newO (n : Int)) = true ∧ (newO (n : Int)).size = (n : Int) ∧ ∀ s, bit (newO (n : Int)).ws s = false := by
  have e1 : newE (n : Int) = 0 := by unfold newE; rw [if_neg (by omega)]
  have e2 : newO (n : Int) = ⟨n, List.replicate (wdsN n).toNat 0⟩ := by unfold newO; rw [if_neg (by omega)]
  have hb : ∀ s, bit (List.replicate (wdsN n).toNat (0 : Wd)) s = false := fun s => by
    unfold bit
    rw [List.getD_eq_getElem?_getD, List.getElem?_replicate]
    split <;> simp
  rw [e2]
  refine ⟨e1, okB_iff.2 ⟨⟨by show (0 : Int) ≤ (n : Int); omega, by show (n : Int) ≤ 4096; omega, ?_⟩, fun i _ => hb i⟩, rfl, hb⟩
  show ((List.replicate (wdsN n).toNat (0 : Wd)).length : Int) = wdsN n
  rw [List.length_replicate]
  exact wds_nat (by omega)
def bmNew (im : Img) : List Bm := im.map fun v => newO (v.length : Int)
theorem bmNew_at {im : Img} {v : Nat} (h : v < im.length) : (bmNew im).getD v zBm = newO ((im.getD v []).length : Int) := by
  rw [getD_lt h]
  unfold bmNew
  rw [List.getD_eq_getElem?_getD, List.getElem?_map, List.getElem?_eq_getElem h]
  rfl
theorem new_inv {im : Img} (hr : ∀ v ∈ im, v.length ≤ 4096) : BmInv im (bmNew im) fun _ _ => false := by
  refine ⟨by simp [bmNew], fun v hv => ?_⟩
  rw [bmNew_at hv]
  obtain ⟨_, h2, h3, h4⟩ := new_ok (n := (im.getD v []).length) (by rw [getD_lt hv]; exact hr _ (List.getElem_mem hv))
  exact ⟨h2, h3, fun s _ => h4 s⟩
def wX1 (w : Wrt) : Exn := ⟨w.start, w.data.length⟩
def mkW (p : List Bm) (w : Wrt) : List Bm := p.set w.volume.toNat (chO orW (p.getD w.volume.toNat zBm) (wX1 w))
theorem chW_set (ws : List Wd) (e : Exn) : chW orW ws e = setW ws e.start (e.start + e.count) := rfl
theorem set_ok {b : Bm} {e : Exn} (h : okB b = true) (hf : bmFit b.size e = true) : chE b e = 0 ∧ okB (chO orW b e) = true ∧ (chO orW b e).size = b.size ∧ ∀ s : Nat, (s : Int) < b.size → bit (chO orW b e).ws s = (bit b.ws s || decide (e.start ≤ (s : Int) ∧ (s : Int) < e.start + e.count)) := by
  have hE : chE b e = 0 := by unfold chE; rw [if_neg (by rw [h]; decide), if_neg (by rw [hf]; decide)]
  have hO : chO orW b e = ⟨b.size, setW b.ws e.start (e.start + e.count)⟩ := by unfold chO; rw [if_pos hE, chW_set]
  have hs := okB_size h
  have hf := bmFit_iff.1 hf
  rw [hO]
  have hl : (setW b.ws e.start (e.start + e.count)).length = b.ws.length := by simp [setW]
  refine ⟨hE, okB_iff.2 ⟨⟨hs.1, hs.2.1, ?_⟩, fun i hi => ?_⟩, rfl, fun s hlt => bit_set (by omega)⟩
  · show ((setW b.ws e.start (e.start + e.count)).length : Int) = _
    rw [hl]; exact (okB_iff.1 h).1.2.2
  · have hi : b.size ≤ (i : Int) := hi
    by_cases c : i < 64 * b.ws.length
    · show bit (setW b.ws e.start (e.start + e.count)) i = false
      rw [bit_set c, (okB_iff.1 h).2 i hi, decide_eq_false (by omega)]
      rfl
    · exact bit_out (by show 64 * (setW b.ws e.start (e.start + e.count)).length ≤ i; rw [hl]; omega)
theorem mk_fit {im : Img} {p : List Bm} {M : Nat → Nat → Bool} {w : Wrt} (h : BmInv im p M) (hw : wrErr (szsOf im) w = 0) : w.volume.toNat < im.length ∧ (w.volume.toNat : Int) = w.volume ∧ bmFit (p.getD w.volume.toNat zBm).size (wX1 w) = true := by
  obtain ⟨q1, q2, q3, q4, q5⟩ := wrErr_facts hw
  have hv : w.volume.toNat < im.length := by omega
  refine ⟨hv, by omega, bmFit_iff.2 ?_⟩
  rw [(h.2 _ hv).2.1]
  unfold wX1
  simp only
  omega
theorem mk_inv {im : Img} {p : List Bm} {M : Nat → Nat → Bool} {w : Wrt} (h : BmInv im p M) (hw : wrErr (szsOf im) w = 0) : chE (p.getD w.volume.toNat zBm) (wX1 w) = 0 ∧ BmInv im (mkW p w) fun v s => M v s || hit w v s := by
  obtain ⟨hv, hvi, hf⟩ := mk_fit h hw
  obtain ⟨k1, k2, k3, k4⟩ := set_ok (h.2 _ hv).1 hf
  refine ⟨k1, by unfold mkW; rw [List.length_set]; exact h.1, fun v hv2 => ?_⟩
  obtain ⟨g1, g2, g3⟩ := h.2 v hv2
  by_cases c : w.volume.toNat = v
  · have e : (mkW p w).getD v zBm = chO orW (p.getD v zBm) (wX1 w) := by
      unfold mkW
      rw [c]
      simp only [List.getD_eq_getElem?_getD]
      rw [List.getElem?_set_self (by rw [h.1]; exact hv2)]
      rfl
    rw [c] at k2 k3 k4
    rw [e]
    refine ⟨k2, k3.trans g2, fun s hs => ?_⟩
    rw [k4 s (by rw [g2]; omega), g3 s hs]
    have h1 : w.volume = (v : Int) := by omega
    show (M v s || decide (w.start ≤ (s : Int) ∧ (s : Int) < w.start + (w.data.length : Int))) = (M v s || hit w v s)
    unfold hit
    rw [decide_eq_true h1, Bool.true_and, ← Bool.decide_and]
    congr 1
    exact decide_eq_decide.2 ⟨fun ⟨x, y⟩ => ⟨x, by omega⟩, fun ⟨x, y⟩ => ⟨x, by omega⟩⟩
  · have e : (mkW p w).getD v zBm = p.getD v zBm := by
      unfold mkW
      simp only [List.getD_eq_getElem?_getD]
      rw [List.getElem?_set_ne c]
    rw [e]
    refine ⟨g1, g2, fun s hs => ?_⟩
    rw [g3 s hs]
    have h1 : ¬ w.volume = (v : Int) := by omega
    show M v s = (M v s || hit w v s)
    unfold hit
    rw [decide_eq_false h1, Bool.false_and, Bool.or_false]
theorem mks_inv {im : Img} : ∀ (l : List Wrt) {p : List Bm} {M : Nat → Nat → Bool}, BmInv im p M → (∀ w ∈ l, wrErr (szsOf im) w = 0) → BmInv im (l.foldl mkW p) fun v s => M v s || l.any fun w => hit w v s
  | [], p, M, h, _ => by simpa using h
  | w :: l, p, M, h, hw => by
    have := mks_inv l (mk_inv h (hw w (by simp))).2 fun x hx => hw x (by simp [hx])
    simpa [Bool.or_assoc] using this
theorem or_ok {a b : Bm} (ha : okB a = true) (hb : okB b = true) (hs : a.size = b.size) : bothE a b = 0 ∧ okB (bothO orW a b) = true ∧ (bothO orW a b).size = a.size ∧ ∀ s : Nat, (s : Int) < a.size → bit (bothO orW a b).ws s = (bit a.ws s || bit b.ws s) := by
  have hE : bothE a b = 0 := by unfold bothE; rw [if_neg (by rw [ha]; decide), if_neg (by rw [hb]; decide), if_neg (by simpa using hs)]
  obtain ⟨_, _, _, hl⟩ := both_ok hE
  have hO : bothO orW a b = ⟨a.size, zipB orW a.ws b.ws⟩ := by unfold bothO; rw [if_pos hE]
  have hz : (zipB orW a.ws b.ws).length = a.ws.length := by simp [zipB, hl]
  have hbit : ∀ {i : Nat}, i < 64 * a.ws.length → bit (zipB orW a.ws b.ws) i = (bit a.ws i || bit b.ws i) := fun hi => bit_zip (g := fun x y => x || y) (fun x y j _ => BitVec.getLsbD_or) hl hi
  have h1 := okB_size ha
  rw [hO]
  refine ⟨hE, okB_iff.2 ⟨⟨h1.1, h1.2.1, ?_⟩, fun i hi => ?_⟩, rfl, fun s hlt => hbit (by omega)⟩
  · show ((zipB orW a.ws b.ws).length : Int) = _
    rw [hz]; exact (okB_iff.1 ha).1.2.2
  · have hi : a.size ≤ (i : Int) := hi
    by_cases c : i < 64 * a.ws.length
    · show bit (zipB orW a.ws b.ws) i = false
      rw [hbit c, (okB_iff.1 ha).2 i hi, (okB_iff.1 hb).2 i (by omega)]
      rfl
    · exact bit_out (by show 64 * (zipB orW a.ws b.ws).length ≤ i; rw [hz]; omega)
theorem each2E_zero {α β : Type} {e : α → β → Int} : ∀ {a : List α} {b : List β}, (∀ i (h1 : i < a.length) (h2 : i < b.length), e a[i] b[i] = 0) → each2E e a b = 0
  | [], _, _ => by simp [each2E]
  | _ :: _, [], _ => by simp [each2E]
  | x :: a, y :: b, h => by
    unfold each2E
    have h0 : e x y = 0 := h 0 (by simp) (by simp)
    rw [if_pos h0]
    exact each2E_zero fun i h1 h2 => h (i + 1) (by simpa using h1) (by simpa using h2)
theorem union_inv {im : Img} {p q : List Bm} {M N : Nat → Nat → Bool} (hp : BmInv im p M) (hq : BmInv im q N) : mrgE p q = 0 ∧ BmInv im (mrgO p q) fun v s => M v s || N v s := by
  have hlen : p.length = q.length := hp.1.trans hq.1.symm
  have at' : ∀ {l : List Bm} {i : Nat} (h : i < l.length), l.getD i zBm = l[i] := fun h => by simp [List.getD_eq_getElem?_getD, List.getElem?_eq_getElem h]
  have hE : mrgE p q = 0 := by
    unfold mrgE
    rw [if_neg (by omega)]
    refine each2E_zero fun i h1 h2 => ?_
    have g1 := hp.2 i (by have := hp.1; omega)
    have g2 := hq.2 i (by have := hp.1; omega)
    rw [at' h1] at g1
    rw [at' h2] at g2
    exact (or_ok g1.1 g2.1 (g1.2.1.trans g2.2.1.symm)).1
  refine ⟨hE, ?_⟩
  have hO : mrgO p q = List.zipWith (bothO orW) p q := by unfold mrgO; rw [if_pos hE]
  have hlz : (List.zipWith (bothO orW) p q).length = im.length := by rw [List.length_zipWith, hlen, Nat.min_self]; exact hq.1
  rw [hO]
  refine ⟨hlz, fun v hv => ?_⟩
  have h1 : v < p.length := by rw [hp.1]; exact hv
  have h2 : v < q.length := by omega
  have e : (List.zipWith (bothO orW) p q).getD v zBm = bothO orW (p.getD v zBm) (q.getD v zBm) := by
    rw [at' (by omega), at' h1, at' h2, List.getElem_zipWith]
  obtain ⟨a1, a2, a3⟩ := hp.2 v hv
  obtain ⟨b1, b2, b3⟩ := hq.2 v hv
  obtain ⟨_, c2, c3, c4⟩ := or_ok a1 b1 (a2.trans b2.symm)
  rw [e]
  refine ⟨c2, c3.trans a2, fun s hs => ?_⟩
  rw [c4 s (by rw [a2]; omega), a3 s hs, b3 s hs]
theorem inv_x {im : Img} {r : List Bm} {M : Nat → Nat → Bool} (h : BmInv im r M) {v : Nat} (hv : v < im.length) : ∃ f : Nat → Bool, (r.map bmX).getD v [] = ext f (im.getD v []).length ∧ ∀ s, s < (im.getD v []).length → f s = M v s := by
  obtain ⟨a1, a2, a3⟩ := h.2 v hv
  have h1 : v < r.length := by rw [h.1]; exact hv
  have e : r.getD v zBm = r[v] := by simp [List.getD_eq_getElem?_getD, List.getElem?_eq_getElem h1]
  rw [e] at a1 a2 a3
  refine ⟨bit r[v].ws, ?_, a3⟩
  rw [List.getD_eq_getElem?_getD, List.getElem?_map, List.getElem?_eq_getElem h1]
  show bmX r[v] = _
  unfold bmX bmExts
  rw [if_pos a1, a2]
  rfl
theorem inv_fit {x : Img} {r : List Bm} {M : Nat → Nat → Bool} (h : BmInv x r M) (hr : ∀ v ∈ x, v.length ≤ 4096) : fitE x (r.map bmX) = 0 := by
  refine fit_of (by rw [List.length_map]; exact h.1) fun v hv => ?_
  obtain ⟨f, e, _⟩ := inv_x h hv
  rw [e]
  unfold chkX
  have : (x.getD v []).length ≤ 4096 := by rw [getD_lt hv]; exact hr _ (List.getElem_mem hv)
  rw [if_neg (by omega)]
  exact chk_ext' _ _
theorem inv_ok {x : Img} {r : List Bm} {M : Nat → Nat → Bool} (h : BmInv x r M) (hr : ∀ v ∈ x, v.length ≤ 4096) : ∀ y ∈ r.map bmX, okEs y ∧ y.length ≤ 4096 := fun y hy => by
  obtain ⟨v, hv, e⟩ := List.mem_iff_getElem.1 hy
  rw [List.length_map] at hv
  have hv2 : v < x.length := by rw [← h.1]; exact hv
  obtain ⟨f, e2, _⟩ := inv_x h hv2
  have e3 : (r.map bmX).getD v [] = y := by rw [List.getD_eq_getElem?_getD, List.getElem?_eq_getElem (by rw [List.length_map]; exact hv), e]; rfl
  rw [e3] at e2
  have : (x.getD v []).length ≤ 4096 := by rw [getD_lt hv2]; exact hr _ (List.getElem_mem hv2)
  rw [e2]
  exact ⟨okEs_ext _ this, Nat.le_trans (ext_len _ _) this⟩
theorem inv_sizes {x y : Img} {r : List Bm} {M : Nat → Nat → Bool} (h : BmInv x r M) (hs : szsOf y = szsOf x) : BmInv y r M := by
  obtain ⟨y1, _⟩ := sizes_inj (a := y) (b := x) hs
  refine ⟨h.1.trans y1.symm, fun v hv => ?_⟩
  obtain ⟨g1, _⟩ := szs_getD hs v
  rw [g1]
  exact h.2 v (by omega)
theorem cov_hits {im : Img} {a b : List Wrt} {r : List Bm} (ha : apE im a = 0) (hb : apE im b = 0) (h : BmInv im r fun v s => (a.any fun w => hit w v s) || (b.any fun w => hit w v s)) : Hits (apO im a) (apO im b) (r.map bmX) := by
  have h0 := apE_szs ha
  have hA : (wrErrs (szsOf im) a 0).2 = 0 := by unfold apE at ha; rwa [if_neg (by rw [h0]; simp)] at ha
  have hB : (wrErrs (szsOf im) b 0).2 = 0 := by unfold apE at hb; rwa [if_neg (by rw [h0]; simp)] at hb
  have hs := apO_sizes ha
  have hOa : apO im a = a.foldl put1 im := by unfold apO; rw [if_pos ha]
  have hOb : apO im b = b.foldl put1 im := by unfold apO; rw [if_pos hb]
  intro v s hv hsv hd
  obtain ⟨g1, g2⟩ := szs_getD hs v
  have hv : v < im.length := by omega
  have hsv : s < (im.getD v []).length := by omega
  rw [hOa, hOb, puts_get a im 0 hA hv hsv, puts_get b im 0 hB hv hsv] at hd
  obtain ⟨f, e, hf⟩ := inv_x h hv
  rw [e, inS_ext, decide_eq_true hsv, Bool.true_and, hf s hsv]
  apply Classical.byContradiction
  intro c
  simp only [Bool.or_eq_true, List.any_eq_true, not_or, not_exists, not_and] at c
  rw [want_none v s a _ fun w hw => c.1 w hw, want_none v s b _ fun w hw => c.2 w hw] at hd
  exact hd rfl
end Go.Proofs.YtncobemfpammfaaGreatDoor.V

namespace Go.Proofs.YtncobemfpammfaaGreatDoor.V
def few22 (l : List Wrt) : Bool := (l.take 60).all (fun w => decide (w.data.length ≤ 24)) && decide (l.length ≤ 40)
theorem few22_len {l : List Wrt} (h : few22 l = true) : l.length ≤ 40 ∧ ∀ w ∈ l, w.data.length ≤ 24 := by
  unfold few22 at h
  simp only [Bool.and_eq_true, decide_eq_true_eq] at h
  rw [List.take_of_length_le (by omega)] at h
  exact ⟨h.2, fun w hw => by have := List.all_eq_true.1 h.1 w hw; simpa using this⟩
theorem loop5 {l : List Wrt} {st : St} (h : st.head [0, 3] st.boxes.length = some ⟨[.pv (.list 3 (l.map eWr)), .any, .any, .pv (.int .i64 (0 : Nat)), .any, .any, .any, .any, .any, .any, .any, .any, .any, .any, .any, .any, .any, .any, .any, .any, .any, .any, .any, .any], [], [], none⟩) :
   den env fn5_l1 st = if (l.take 60).all (fun w => decide (w.data.length ≤ 24)) then some (.normal, ⟨[.pv (.list 3 (l.map eWr)), .any, .any, .any, .any, .any, .any, .any, .any, .any, .any, .any, .any, .any, .any, .any, .any, .any, .any, .any, .any, .any, .any, .any], [], [], none⟩) else some (.ret, ⟨[.pv (.list 3 (l.map eWr)), .any, .pv (.bool false), .any, .any, .any, .any, .any, .any, .any, .any, .any, .any, .any, .any, .any, .any, .any, .any, .any, .any, .any, .any, .any], [], [], none⟩) := by
  unfold fn5_l1
  rw [ clean_up (env := env) ((l.take 60).length) (fun i => ⟨[.pv (.list 3 (l.map eWr)), .any, .any, .pv (.int .i64 i), .any, .any, .any, .any, .any, .any, .any, .any, .any, .any, .any, .any, .any, .any, .any, .any, .any, .any, .any, .any], [], [], none⟩) (fun i => if ((l.take 60).drop i).all (fun w => decide (w.data.length ≤ 24)) then some (.normal, ⟨[.pv (.list 3 (l.map eWr)), .any, .any, .any, .any, .any, .any, .any, .any, .any, .any, .any, .any, .any, .any, .any, .any, .any, .any, .any, .any, .any, .any, .any], [], [], none⟩) else some (.ret, ⟨[.pv (.list 3 (l.map eWr)), .any, .pv (.bool false), .any, .any, .any, .any, .any, .any, .any, .any, .any, .any, .any, .any, .any, .any, .any, .any, .any, .any, .any, .any, .any], [], [], none⟩)) h (fun _ => rfl) (fun _ => rfl) ?_ ?_]
  · first | rfl | simp only [List.drop_zero, List.take_zero, List.map_nil, Nat.zero_add, List.nil_append, List.foldl_nil]
  · intro i rb hi ih

    have hlim : lim = 1073741824 := rfl
    have hi60 : i < 60 := by rw [List.length_take] at hi; omega
    have hil : i < l.length := by rw [List.length_take] at hi; omega
    have hi1 := i64_next (show i < i + 1 by omega) (by omega)
    have F1 : ((i : Int) < (l.length : Int)) = True := eq_true (by omega)
    have F2 : ((i : Int) < 60) = True := eq_true (by omega)
    rw [List.drop_eq_getElem_cons hi, List.all_cons]
    have hx : l[i]? = some (l.take 60)[i] := by rw [List.getElem_take]; exact List.getElem?_eq_getElem hil
    generalize (l.take 60)[i] = w at *
    simp only [fn5_b0, F1, F2, hx, eWr, index_nat hil, List.getElem?_map, Option.map_some, List.length_map, memAll, vAll, reduceCtorEq, Nat.reduceEqDiff, Nat.reduceAdd, Nat.reduceLT, Nat.reduceLeDiff, Nat.beq]
    (try simp only [bcase_bind, bcase_map, tail_bcase]); refine bcase_split (fun hb => ?_) (fun hb => ?_) <;> try simp only [hb,  memAll, vAll, reduceCtorEq, Nat.reduceEqDiff, Nat.reduceAdd, Nat.reduceLT, Nat.reduceLeDiff, Nat.beq]
    · rw [decide_eq_false (by simp at hb; omega)]; rfl
    · rw [ih _ (by simp only [hi1]; rfl), decide_eq_true (show w.data.length ≤ 24 by simp at hb; omega), Bool.true_and]
  · intro rb

    rw [List.drop_length]
    by_cases c : l.length < 60
    · have hn : (l.take 60).length = l.length := by rw [List.length_take]; omega
      rw [hn]
      simp only [fn5_b0, Int.lt_irrefl,  memAll, vAll, reduceCtorEq, Nat.reduceEqDiff, Nat.reduceAdd, Nat.reduceLT, Nat.reduceLeDiff, Nat.beq]
      rfl
    · have hn : (l.take 60).length = 60 := by rw [List.length_take]; omega
      rw [hn]
      by_cases c2 : l.length = 60
      · have F1 : (((60 : Nat) : Int) < (l.length : Int)) = False := eq_false (by omega)
        simp only [fn5_b0, F1, List.length_map, memAll, vAll, reduceCtorEq, Nat.reduceEqDiff, Nat.reduceAdd, Nat.reduceLT, Nat.reduceLeDiff, Nat.beq]
        rfl
      · have F1 : (((60 : Nat) : Int) < (l.length : Int)) = True := eq_true (by omega)
        have F2 : (((60 : Nat) : Int) < 60) = False := eq_false (by omega)
        simp only [fn5_b0, F1, F2, List.length_map, memAll, vAll, reduceCtorEq, Nat.reduceEqDiff, Nat.reduceAdd, Nat.reduceLT, Nat.reduceLeDiff, Nat.beq]
        rfl

theorem cal5 {l : List Wrt} : cal env 5 [.list 3 (l.map eWr)] = some [(.bool (few22 l), false)] := by
  rw [cal_code env5 rfl]; simp only [fn5]; simp only [start, z_map_cons, z_map_nil, z_len_cons, z_len_nil, z_repl_zero, z_repl_succ, z_cons_app, z_nil_app, Nat.reduceAdd, Nat.reduceSub]
  simp only [ memAll, vAll, reduceCtorEq, Nat.reduceEqDiff, Nat.reduceAdd, Nat.reduceLT, Nat.reduceLeDiff, Nat.beq]
  rw [loop5 (l := l)]
  rotate_left
  · rfl
  unfold few22
  have F1 : decide ((l.length : Int) ≤ 40) = decide (l.length ≤ 40) := decide_eq_decide.2 (by omega)
  cases (l.take 60).all (fun w => decide (w.data.length ≤ 24)) <;> simp only [F1, if_true, if_false, Bool.false_eq_true, memAll, vAll, reduceCtorEq, Nat.reduceEqDiff, Nat.reduceAdd, Nat.reduceLT, Nat.reduceLeDiff, Nat.beq]
end Go.Proofs.YtncobemfpammfaaGreatDoor.V

namespace Go.Proofs.YtncobemfpammfaaGreatDoor.V
theorem sz_small {p a : Img} {k : Nat} (h : szsOf p = szsOf a) (h1 : a.length ≤ k) (h2 : ∀ v ∈ a, v.length ≤ k) : p.length ≤ k ∧ ∀ v ∈ p, v.length ≤ k := by
  obtain ⟨y1, y2⟩ := sizes_inj (a := p) (b := a) h
  refine ⟨by omega, fun v hv => ?_⟩
  obtain ⟨i, hi, rfl⟩ := List.mem_iff_getElem.1 hv
  rw [y2 i hi (by omega)]
  exact h2 _ (List.getElem_mem _)
end Go.Proofs.YtncobemfpammfaaGreatDoor.V
