/-
  Part 5 of the texts that the statement stands on.
-/
import Derived.Test.YtaaokejjmdbfaaaDoorZ4
set_option linter.all false
namespace Go.Proofs.YtaaokejjmdbfaaaDoor.V
theorem calAwake : cal env 12 [] = some [(.bool true, false)] := cal_of_vmCall (n := 200) (by kernel_rfl)
end Go.Proofs.YtaaokejjmdbfaaaDoor.V

namespace Go.Proofs.YtaaokejjmdbfaaaDoor.V

structure Spn where
  epoch : Int
  fr : Int
  to : Int
  deriving DecidableEq
def eSpn (x : Spn) : PV := .agg [.int .i64 x.epoch, .int .i64 x.fr, .int .i64 x.to]
def bSpn (x : Spn) : List BV := [.pv (.int .i64 x.epoch), .pv (.int .i64 x.fr), .pv (.int .i64 x.to)]
def okNext (p x : Spn) : Bool := decide (x.fr = p.to + 1) && (decide (x.fr ≤ x.to) && (decide (x.to ≤ 1073741824) && (decide (x.epoch ≤ 1073741824) && decide (p.epoch < x.epoch))))
def z0 : Spn := ⟨0, 0, 0⟩
def linGo : Spn → List Spn → Bool
  | _, [] => true
  | p, x :: l => okNext p x && linGo x l
def linOk (l : List Spn) : Bool := linGo z0 l
def lastOf (l : List Spn) (j : Nat) : Spn := if j = 0 then z0 else l.getD (j - 1) z0
def fineS (p : Spn) : Prop := 0 ≤ p.epoch ∧ p.epoch ≤ 1073741824 ∧ 0 ≤ p.to ∧ p.to ≤ 1073741824
theorem lastOf_succ {l : List Spn} {i : Nat} (h : i < l.length) : lastOf l (i + 1) = l[i] := by
  simp [lastOf, List.getD_eq_getElem?_getD, List.getElem?_eq_getElem h]
theorem okNext_fine {p x : Spn} (h : okNext p x = true) (hp : fineS p) : fineS x ∧ x.fr = p.to + 1 ∧ x.fr ≤ x.to ∧ p.epoch < x.epoch := by
  simp only [okNext, Bool.and_eq_true, decide_eq_true_eq] at h
  unfold fineS at *
  omega
def linRes (p : Spn) : List Spn → Bool × Spn
  | [] => (true, p)
  | x :: r => if okNext p x = true then linRes x r else (false, p)
theorem linRes_go : ∀ (l : List Spn) (p : Spn), (linRes p l).1 = linGo p l
  | [], _ => rfl
  | x :: l, p => by
    unfold linRes linGo
    by_cases h : okNext p x = true
    · simp only [h, if_true, Bool.true_and]; exact linRes_go l x
    · simp only [h, if_false, Bool.not_eq_true] at *; simp [h]
theorem cal48 {n low : Int} : cal env 48 [.int .i64 n, .int .i64 low] = some [(.bool (decide (n ≥ low) && decide (n ≤ 1073741824)), false)] := by
  rw [cal_code env48 rfl]; simp only [fn48]; simp only [start, z_map_cons, z_map_nil, z_len_cons, z_len_nil, z_repl_zero, z_repl_succ, z_cons_app, z_nil_app, Nat.reduceAdd, Nat.reduceSub]
  by_cases h : n ≥ low
  · have G : (n ≥ low) = True := eq_true h
    simp only [G, memAll, vAll, reduceCtorEq, Nat.reduceEqDiff, Nat.reduceAdd, Nat.reduceLT, Nat.reduceLeDiff, Nat.beq]
  · have G : (n ≥ low) = False := eq_false h
    simp only [G, memAll, vAll, reduceCtorEq, Nat.reduceEqDiff, Nat.reduceAdd, Nat.reduceLT, Nat.reduceLeDiff, Nat.beq]
theorem loop49 {l : List Spn} (hl : l.length ≤ lim)
   {st : St} (h : st.head [0, 3, 7, 8, 9] st.boxes.length = some ⟨[.pv (.list 3 (l.map eSpn)), .any, .any, .pbox 0 0, .any, .any, .any, .pv (.list 3 (l.map eSpn)), .pv (.int .i64 l.length), .pv (.int .i64 (0 : Nat)), .any, .any, .any, .any, .any, .any, .any, .any, .any, .any, .any, .any, .any, .any, .any, .any, .any, .any, .any, .any, .any, .any, .any, .any, .any, .any, .any, .any, .any, .any, .any, .any, .any, .any, .any, .any], [⟨false, bSpn z0⟩], [], none⟩) :
   den env fn49_l1 st = match linRes z0 l with
     | (true, p) => some (.normal, ⟨[.any, .any, .any, .any, .any, .any, .any, .any, .any, .any, .any, .any, .any, .any, .any, .any, .any, .any, .any, .any, .any, .any, .any, .any, .any, .any, .any, .any, .any, .any, .any, .any, .any, .any, .any, .any, .any, .any, .any, .any, .any, .any, .any, .any, .any, .any], [⟨false, bSpn p⟩], [], none⟩)
     | (false, p) => some (.ret, ⟨[.any, .any, .pv (.bool false), .any, .any, .any, .any, .any, .any, .any, .any, .any, .any, .any, .any, .any, .any, .any, .any, .any, .any, .any, .any, .any, .any, .any, .any, .any, .any, .any, .any, .any, .any, .any, .any, .any, .any, .any, .any, .any, .any, .any, .any, .any, .any, .any], [⟨false, bSpn p⟩], [], none⟩) := by
  unfold fn49_l1
  refine clean_upP (env := env) l.length (fun i => fineS (lastOf l i)) (fun i => ⟨[.pv (.list 3 (l.map eSpn)), .any, .any, .pbox 0 0, .any, .any, .any, .pv (.list 3 (l.map eSpn)), .pv (.int .i64 l.length), .pv (.int .i64 i), .any, .any, .any, .any, .any, .any, .any, .any, .any, .any, .any, .any, .any, .any, .any, .any, .any, .any, .any, .any, .any, .any, .any, .any, .any, .any, .any, .any, .any, .any, .any, .any, .any, .any, .any, .any], [⟨false, bSpn (lastOf l i)⟩], [], none⟩)
    (fun i => match linRes (lastOf l i) (l.drop i) with
     | (true, p) => some (.normal, ⟨[.any, .any, .any, .any, .any, .any, .any, .any, .any, .any, .any, .any, .any, .any, .any, .any, .any, .any, .any, .any, .any, .any, .any, .any, .any, .any, .any, .any, .any, .any, .any, .any, .any, .any, .any, .any, .any, .any, .any, .any, .any, .any, .any, .any, .any, .any], [⟨false, bSpn p⟩], [], none⟩)
     | (false, p) => some (.ret, ⟨[.any, .any, .pv (.bool false), .any, .any, .any, .any, .any, .any, .any, .any, .any, .any, .any, .any, .any, .any, .any, .any, .any, .any, .any, .any, .any, .any, .any, .any, .any, .any, .any, .any, .any, .any, .any, .any, .any, .any, .any, .any, .any, .any, .any, .any, .any, .any, .any], [⟨false, bSpn p⟩], [], none⟩)) h (by simp [lastOf, fineS, z0]) (fun _ => rfl) (fun _ => rfl) ?_ ?_
  · intro i rb hi hf ih
    have hi1 := i64_next hi hl
    have F1 : ((i : Int) < (l.length : Int)) = True := eq_true (by omega)
    have hk : l[i]? = some l[i] := List.getElem?_eq_getElem hi
    rw [lastOf_succ hi] at ih
    rw [List.drop_eq_getElem_cons hi]
    unfold linRes
    generalize lastOf l i = p at *
    generalize l[i] = x at *
    obtain ⟨pe, pf, pt⟩ := p
    obtain ⟨xe, xf, xt⟩ := x
    have hf' := hf
    simp only [fineS] at hf
    have F2 : IntKind.i64.wrap (pt + 1) = pt + 1 := i64_fits (by omega)
    by_cases c1 : xf = pt + 1
    rotate_left
    · have G1 : (xf != pt + 1) = true := by simpa using c1
      have hn : okNext ⟨pe, pf, pt⟩ ⟨xe, xf, xt⟩ = false := by simp [okNext, c1]
      simp only [G1, fn49_b0, F1, F2, hk, bSpn, eSpn, index_nat hi, List.getElem?_map, Option.map_some, memAll, vAll, reduceCtorEq, Nat.reduceEqDiff, Nat.reduceAdd, Nat.reduceLT, Nat.reduceLeDiff, Nat.beq]
      simp only [hn]
      rfl
    have G1 : (xf != pt + 1) = false := by simpa using c1
    by_cases c2 : xt < xf
    · have G2 : (xt < xf) = True := eq_true c2
      have hn : okNext ⟨pe, pf, pt⟩ ⟨xe, xf, xt⟩ = false := by simp [okNext]; omega
      simp only [G1, G2, fn49_b0, F1, F2, hk, bSpn, eSpn, index_nat hi, List.getElem?_map, Option.map_some, memAll, vAll, reduceCtorEq, Nat.reduceEqDiff, Nat.reduceAdd, Nat.reduceLT, Nat.reduceLeDiff, Nat.beq]
      simp only [hn]
      rfl
    have G2 : (xt < xf) = False := eq_false c2
    by_cases c3 : xt > 1073741824
    · have G3 : (xt > 1073741824) = True := eq_true c3
      have hn : okNext ⟨pe, pf, pt⟩ ⟨xe, xf, xt⟩ = false := by simp [okNext]; omega
      simp only [G1, G2, G3, fn49_b0, F1, F2, hk, bSpn, eSpn, index_nat hi, List.getElem?_map, Option.map_some, memAll, vAll, reduceCtorEq, Nat.reduceEqDiff, Nat.reduceAdd, Nat.reduceLT, Nat.reduceLeDiff, Nat.beq]
      simp only [hn]
      rfl
    have G3 : (xt > 1073741824) = False := eq_false c3
    have e1 := cal48 (n := xe) (low := 1)
    by_cases c4 : 1 ≤ xe ∧ xe ≤ 1073741824
    rotate_left
    · have G4 : (decide (xe ≥ 1) && decide (xe ≤ 1073741824)) = false := by
        rw [← Bool.not_eq_true]; simp; omega
      rw [G4] at e1
      have hn : okNext ⟨pe, pf, pt⟩ ⟨xe, xf, xt⟩ = false := by simp [okNext]; omega
      simp only [G1, G2, G3, e1, fn49_b0, F1, F2, hk, bSpn, eSpn, index_nat hi, List.getElem?_map, Option.map_some, memAll, vAll, reduceCtorEq, Nat.reduceEqDiff, Nat.reduceAdd, Nat.reduceLT, Nat.reduceLeDiff, Nat.beq]
      simp only [hn]
      rfl
    have G4 : (decide (xe ≥ 1) && decide (xe ≤ 1073741824)) = true := by simp; omega
    rw [G4] at e1
    by_cases c5 : xe ≤ pe
    · have G5 : (xe ≤ pe) = True := eq_true c5
      have hn : okNext ⟨pe, pf, pt⟩ ⟨xe, xf, xt⟩ = false := by simp [okNext]; omega
      simp only [G1, G2, G3, e1, G5, fn49_b0, F1, F2, hk, bSpn, eSpn, index_nat hi, List.getElem?_map, Option.map_some, memAll, vAll, reduceCtorEq, Nat.reduceEqDiff, Nat.reduceAdd, Nat.reduceLT, Nat.reduceLeDiff, Nat.beq]
      simp only [hn]
      rfl
    have G5 : (xe ≤ pe) = False := eq_false c5
    have hn : okNext ⟨pe, pf, pt⟩ ⟨xe, xf, xt⟩ = true := by simp [okNext]; omega
    have hfx := (okNext_fine hn hf').1
    simp only [G1, G2, G3, e1, G5, fn49_b0, F1, F2, hk, bSpn, eSpn, index_nat hi, List.getElem?_map, Option.map_some, memAll, vAll, reduceCtorEq, Nat.reduceEqDiff, Nat.reduceAdd, Nat.reduceLT, Nat.reduceLeDiff, Nat.beq]
    rw [ih hfx _ (by simp only [hi1]; rfl)]
    simp only [hn, if_true]
    rfl
  · intro rb hf
    simp only [fn49_b0, Int.lt_irrefl, memAll, vAll, reduceCtorEq, Nat.reduceEqDiff, Nat.reduceAdd, Nat.reduceLT, Nat.reduceLeDiff, Nat.beq]
    rw [List.drop_length]
    rfl
theorem cal49 {l : List Spn} (hl : l.length ≤ lim) : cal env 49 [.list 3 (l.map eSpn)] = some [(.bool (linOk l), false)] := by
  rw [cal_code env49 rfl]; simp only [fn49]; simp only [start, z_map_cons, z_map_nil, z_len_cons, z_len_nil, z_repl_zero, z_repl_succ, z_cons_app, z_nil_app, Nat.reduceAdd, Nat.reduceSub]
  simp only [ memAll, vAll, reduceCtorEq, Nat.reduceEqDiff, Nat.reduceAdd, Nat.reduceLT, Nat.reduceLeDiff, Nat.beq]
  rw [loop49 hl]
  rotate_left
  · rfl
  · have := linRes_go l z0
    cases h : linRes z0 l with
    | mk t p =>
      rw [h] at this
      cases t with
      | true => simp only [linOk, ← this, memAll, vAll, reduceCtorEq, Nat.reduceEqDiff, Nat.reduceAdd, Nat.reduceLT, Nat.reduceLeDiff, Nat.beq]
      | false => simp only [linOk, ← this, memAll, vAll, reduceCtorEq, Nat.reduceEqDiff, Nat.reduceAdd, Nat.reduceLT, Nat.reduceLeDiff, Nat.beq]
end Go.Proofs.YtaaokejjmdbfaaaDoor.V

namespace Go.Proofs.YtaaokejjmdbfaaaDoor.V

set_option maxHeartbeats 2000000 in
theorem loop29 {l : List Spn} (hl : l.length ≤ lim)
   {st : St} (h : st.head [0, 3] st.boxes.length = some ⟨[.pv (.list 3 (l.map eSpn)), .any, .any, .pv (.int .i64 (0 : Nat)), .any, .any, .any, .any, .any, .any, .any, .any, .any, .any, .any, .any, .any, .any, .any, .any, .any, .any, .any, .any, .any, .any, .any, .any, .any, .any, .any, .any, .any, .any, .any, .any, .any, .any, .any, .any, .any, .any, .any, .any, .any, .any, .any, .any, .any, .any, .any, .any, .any, .any, .any, .any, .any, .any, .any, .any, .any, .any, .any, .any, .any, .any, .any, .any, .any, .any, .any, .any, .any], [], [], none⟩) :
   den env fn29_l1 st = match linRes z0 l with
     | (true, _) => some (.normal, ⟨[.any, .any, .any, .any, .any, .any, .any, .any, .any, .any, .any, .any, .any, .any, .any, .any, .any, .any, .any, .any, .any, .any, .any, .any, .any, .any, .any, .any, .any, .any, .any, .any, .any, .any, .any, .any, .any, .any, .any, .any, .any, .any, .any, .any, .any, .any, .any, .any, .any, .any, .any, .any, .any, .any, .any, .any, .any, .any, .any, .any, .any, .any, .any, .any, .any, .any, .any, .any, .any, .any, .any, .any, .any], [], [], none⟩)
     | (false, _) => some (.ret, ⟨[.any, .any, .pv (.bool false), .any, .any, .any, .any, .any, .any, .any, .any, .any, .any, .any, .any, .any, .any, .any, .any, .any, .any, .any, .any, .any, .any, .any, .any, .any, .any, .any, .any, .any, .any, .any, .any, .any, .any, .any, .any, .any, .any, .any, .any, .any, .any, .any, .any, .any, .any, .any, .any, .any, .any, .any, .any, .any, .any, .any, .any, .any, .any, .any, .any, .any, .any, .any, .any, .any, .any, .any, .any, .any, .any], [], [], none⟩) := by
  unfold fn29_l1
  refine clean_upP (env := env) l.length (fun i => fineS (lastOf l i)) (fun i => ⟨[.pv (.list 3 (l.map eSpn)), .any, .any, .pv (.int .i64 i), .any, .any, .any, .any, .any, .any, .any, .any, .any, .any, .any, .any, .any, .any, .any, .any, .any, .any, .any, .any, .any, .any, .any, .any, .any, .any, .any, .any, .any, .any, .any, .any, .any, .any, .any, .any, .any, .any, .any, .any, .any, .any, .any, .any, .any, .any, .any, .any, .any, .any, .any, .any, .any, .any, .any, .any, .any, .any, .any, .any, .any, .any, .any, .any, .any, .any, .any, .any, .any], [], [], none⟩)
    (fun i => match linRes (lastOf l i) (l.drop i) with
     | (true, _) => some (.normal, ⟨[.any, .any, .any, .any, .any, .any, .any, .any, .any, .any, .any, .any, .any, .any, .any, .any, .any, .any, .any, .any, .any, .any, .any, .any, .any, .any, .any, .any, .any, .any, .any, .any, .any, .any, .any, .any, .any, .any, .any, .any, .any, .any, .any, .any, .any, .any, .any, .any, .any, .any, .any, .any, .any, .any, .any, .any, .any, .any, .any, .any, .any, .any, .any, .any, .any, .any, .any, .any, .any, .any, .any, .any, .any], [], [], none⟩)
     | (false, _) => some (.ret, ⟨[.any, .any, .pv (.bool false), .any, .any, .any, .any, .any, .any, .any, .any, .any, .any, .any, .any, .any, .any, .any, .any, .any, .any, .any, .any, .any, .any, .any, .any, .any, .any, .any, .any, .any, .any, .any, .any, .any, .any, .any, .any, .any, .any, .any, .any, .any, .any, .any, .any, .any, .any, .any, .any, .any, .any, .any, .any, .any, .any, .any, .any, .any, .any, .any, .any, .any, .any, .any, .any, .any, .any, .any, .any, .any, .any], [], [], none⟩)) h (by simp [lastOf, fineS, z0]) (fun _ => rfl) (fun _ => rfl) ?_ ?_
  · intro i rb hi hf ih
    have hi1 := i64_next hi hl
    have F1 : ((i : Int) < (l.length : Int)) = True := eq_true (by omega)
    have hk : l[i]? = some l[i] := List.getElem?_eq_getElem hi
    rw [lastOf_succ hi] at ih
    rw [List.drop_eq_getElem_cons hi]
    unfold linRes
    have hprev : (i = 0 ∧ lastOf l i = z0) ∨ (∃ k, i = k + 1 ∧ l[k]? = some (lastOf l i)) := by
      cases i with
      | zero => exact .inl ⟨rfl, rfl⟩
      | succ k => exact .inr ⟨k, rfl, by rw [lastOf_succ (by omega)]; exact List.getElem?_eq_getElem (by omega)⟩
    generalize lastOf l i = p at *
    generalize l[i] = x at *
    obtain ⟨pe, pf, pt⟩ := p
    obtain ⟨xe, xf, xt⟩ := x
    have hf' := hf
    simp only [fineS] at hf
    have F2 : IntKind.i64.wrap (pt + 1) = pt + 1 := i64_fits (by omega)
    have F3 : IntKind.i64.wrap (pe + 1) = pe + 1 := i64_fits (by omega)
    rcases hprev with ⟨rfl, hz⟩ | ⟨k, rfl, hkp⟩
    · cases hz
      have F4 : ((((0 : Nat) : Int)) > 0) = False := eq_false (by omega)
      by_cases c1 : xf = 1
      rotate_left
      · have G1 : (xf != 1) = true := by simpa using c1
        have hn : okNext ⟨0, 0, 0⟩ ⟨xe, xf, xt⟩ = false := by simp [okNext, c1]
        simp only [G1, fn29_b0, F1, F4, hk, eSpn, index_nat hi, List.getElem?_map, Option.map_some, memAll, vAll, reduceCtorEq, Nat.reduceEqDiff, Nat.reduceAdd, Nat.reduceLT, Nat.reduceLeDiff, Nat.beq]
        simp only [hn]
        rfl
      have G1 : (xf != 1) = false := by simpa using c1
      by_cases c2 : xt < xf
      · have G2 : (xt < xf) = True := eq_true c2
        have hn : okNext ⟨0, 0, 0⟩ ⟨xe, xf, xt⟩ = false := by simp [okNext]; omega
        simp only [G1, G2, fn29_b0, F1, F4, hk, eSpn, index_nat hi, List.getElem?_map, Option.map_some, memAll, vAll, reduceCtorEq, Nat.reduceEqDiff, Nat.reduceAdd, Nat.reduceLT, Nat.reduceLeDiff, Nat.beq]
        simp only [hn]
        rfl
      have G2 : (xt < xf) = False := eq_false c2
      by_cases c3 : xt > 1073741824
      · have G3 : (xt > 1073741824) = True := eq_true c3
        have hn : okNext ⟨0, 0, 0⟩ ⟨xe, xf, xt⟩ = false := by simp [okNext]; omega
        simp only [G1, G2, G3, fn29_b0, F1, F4, hk, eSpn, index_nat hi, List.getElem?_map, Option.map_some, memAll, vAll, reduceCtorEq, Nat.reduceEqDiff, Nat.reduceAdd, Nat.reduceLT, Nat.reduceLeDiff, Nat.beq]
        simp only [hn]
        rfl
      have G3 : (xt > 1073741824) = False := eq_false c3
      by_cases c4 : xe < 1
      · have G4 : (xe < 1) = True := eq_true c4
        have hn : okNext ⟨0, 0, 0⟩ ⟨xe, xf, xt⟩ = false := by simp [okNext]; omega
        simp only [G1, G2, G3, G4, fn29_b0, F1, F4, hk, eSpn, index_nat hi, List.getElem?_map, Option.map_some, memAll, vAll, reduceCtorEq, Nat.reduceEqDiff, Nat.reduceAdd, Nat.reduceLT, Nat.reduceLeDiff, Nat.beq]
        simp only [hn]
        rfl
      have G4 : (xe < 1) = False := eq_false c4
      by_cases c5 : xe > 1073741824
      · have G5 : (xe > 1073741824) = True := eq_true c5
        have hn : okNext ⟨0, 0, 0⟩ ⟨xe, xf, xt⟩ = false := by simp [okNext]; omega
        simp only [G1, G2, G3, G4, G5, fn29_b0, F1, F4, hk, eSpn, index_nat hi, List.getElem?_map, Option.map_some, memAll, vAll, reduceCtorEq, Nat.reduceEqDiff, Nat.reduceAdd, Nat.reduceLT, Nat.reduceLeDiff, Nat.beq]
        simp only [hn]
        rfl
      have G5 : (xe > 1073741824) = False := eq_false c5
      have hn : okNext ⟨0, 0, 0⟩ ⟨xe, xf, xt⟩ = true := by simp [okNext]; omega
      have hfx := (okNext_fine hn hf').1
      simp only [G1, G2, G3, G4, G5, fn29_b0, F1, F4, hk, eSpn, index_nat hi, List.getElem?_map, Option.map_some, memAll, vAll, reduceCtorEq, Nat.reduceEqDiff, Nat.reduceAdd, Nat.reduceLT, Nat.reduceLeDiff, Nat.beq]
      rw [ih hfx _ (by simp only [hi1]; rfl)]
      simp only [hn, if_true] <;> rfl
    · have hkl : k < l.length := by omega
      have F4 : ((((k + 1 : Nat) : Int)) > 0) = True := eq_true (by omega)
      have F5 : IntKind.i64.wrap (((k + 1 : Nat) : Int) - 1) = (k : Int) := by
        have hl' := hl
        unfold lim at hl'
        rw [i64_fits (by omega)]; omega
      by_cases c1 : xf = pt + 1
      rotate_left
      · have G1 : (xf != pt + 1) = true := by simpa using c1
        have hn : okNext ⟨pe, pf, pt⟩ ⟨xe, xf, xt⟩ = false := by simp [okNext, c1]
        simp only [G1, fn29_b0, F1, F2, F3, F4, F5, hk, hkp, eSpn, index_nat hi, index_nat hkl, List.getElem?_map, Option.map_some, memAll, vAll, reduceCtorEq, Nat.reduceEqDiff, Nat.reduceAdd, Nat.reduceLT, Nat.reduceLeDiff, Nat.beq]
        simp only [hn]
        rfl
      have G1 : (xf != pt + 1) = false := by simpa using c1
      by_cases c2 : xt < xf
      · have G2 : (xt < xf) = True := eq_true c2
        have hn : okNext ⟨pe, pf, pt⟩ ⟨xe, xf, xt⟩ = false := by simp [okNext]; omega
        simp only [G1, G2, fn29_b0, F1, F2, F3, F4, F5, hk, hkp, eSpn, index_nat hi, index_nat hkl, List.getElem?_map, Option.map_some, memAll, vAll, reduceCtorEq, Nat.reduceEqDiff, Nat.reduceAdd, Nat.reduceLT, Nat.reduceLeDiff, Nat.beq]
        simp only [hn]
        rfl
      have G2 : (xt < xf) = False := eq_false c2
      by_cases c3 : xt > 1073741824
      · have G3 : (xt > 1073741824) = True := eq_true c3
        have hn : okNext ⟨pe, pf, pt⟩ ⟨xe, xf, xt⟩ = false := by simp [okNext]; omega
        simp only [G1, G2, G3, fn29_b0, F1, F2, F3, F4, F5, hk, hkp, eSpn, index_nat hi, index_nat hkl, List.getElem?_map, Option.map_some, memAll, vAll, reduceCtorEq, Nat.reduceEqDiff, Nat.reduceAdd, Nat.reduceLT, Nat.reduceLeDiff, Nat.beq]
        simp only [hn]
        rfl
      have G3 : (xt > 1073741824) = False := eq_false c3
      by_cases c4 : xe < pe + 1
      · have G4 : (xe < pe + 1) = True := eq_true c4
        have hn : okNext ⟨pe, pf, pt⟩ ⟨xe, xf, xt⟩ = false := by simp [okNext]; omega
        simp only [G1, G2, G3, G4, fn29_b0, F1, F2, F3, F4, F5, hk, hkp, eSpn, index_nat hi, index_nat hkl, List.getElem?_map, Option.map_some, memAll, vAll, reduceCtorEq, Nat.reduceEqDiff, Nat.reduceAdd, Nat.reduceLT, Nat.reduceLeDiff, Nat.beq]
        simp only [hn]
        rfl
      have G4 : (xe < pe + 1) = False := eq_false c4
      by_cases c5 : xe > 1073741824
      · have G5 : (xe > 1073741824) = True := eq_true c5
        have hn : okNext ⟨pe, pf, pt⟩ ⟨xe, xf, xt⟩ = false := by simp [okNext]; omega
        simp only [G1, G2, G3, G4, G5, fn29_b0, F1, F2, F3, F4, F5, hk, hkp, eSpn, index_nat hi, index_nat hkl, List.getElem?_map, Option.map_some, memAll, vAll, reduceCtorEq, Nat.reduceEqDiff, Nat.reduceAdd, Nat.reduceLT, Nat.reduceLeDiff, Nat.beq]
        simp only [hn]
        rfl
      have G5 : (xe > 1073741824) = False := eq_false c5
      have hn : okNext ⟨pe, pf, pt⟩ ⟨xe, xf, xt⟩ = true := by simp [okNext]; omega
      have hfx := (okNext_fine hn hf').1
      simp only [G1, G2, G3, G4, G5, fn29_b0, F1, F2, F3, F4, F5, hk, hkp, eSpn, index_nat hi, index_nat hkl, List.getElem?_map, Option.map_some, memAll, vAll, reduceCtorEq, Nat.reduceEqDiff, Nat.reduceAdd, Nat.reduceLT, Nat.reduceLeDiff, Nat.beq]
      rw [ih hfx _ (by simp only [hi1]; rfl)]
      simp only [hn, if_true] <;> rfl
  · intro rb hf
    simp only [fn29_b0, Int.lt_irrefl, memAll, vAll, reduceCtorEq, Nat.reduceEqDiff, Nat.reduceAdd, Nat.reduceLT, Nat.reduceLeDiff, Nat.beq]
    rw [List.drop_length]
    rfl
end Go.Proofs.YtaaokejjmdbfaaaDoor.V

namespace Go.Proofs.YtaaokejjmdbfaaaDoor.V

theorem cal29 {l : List Spn} (hl : l.length ≤ lim) : cal env 29 [.list 3 (l.map eSpn)] = some [(.bool (linOk l), false)] := by
  rw [cal_code env29 rfl]; simp only [fn29]; simp only [start, z_map_cons, z_map_nil, z_len_cons, z_len_nil, z_repl_zero, z_repl_succ, z_cons_app, z_nil_app, Nat.reduceAdd, Nat.reduceSub]
  simp only [ memAll, vAll, reduceCtorEq, Nat.reduceEqDiff, Nat.reduceAdd, Nat.reduceLT, Nat.reduceLeDiff, Nat.beq]
  rw [loop29 hl]
  rotate_left
  · rfl
  · have := linRes_go l z0
    cases h : linRes z0 l with
    | mk t p =>
      rw [h] at this
      cases t with
      | true => simp only [linOk, ← this, memAll, vAll, reduceCtorEq, Nat.reduceEqDiff, Nat.reduceAdd, Nat.reduceLT, Nat.reduceLeDiff, Nat.beq]
      | false => simp only [linOk, ← this, memAll, vAll, reduceCtorEq, Nat.reduceEqDiff, Nat.reduceAdd, Nat.reduceLT, Nat.reduceLeDiff, Nat.beq]
end Go.Proofs.YtaaokejjmdbfaaaDoor.V

namespace Go.Proofs.YtaaokejjmdbfaaaDoor.V

end Go.Proofs.YtaaokejjmdbfaaaDoor.V

namespace Go.Proofs.YtaaokejjmdbfaaaDoor.V

def ancR (p : Spn) : List Spn → List Spn → Bool × Int × Int
  | x :: a, y :: b => if x.epoch = y.epoch then (if x.to = y.to then ancR x a b else (true, if y.to < x.to then y.to else x.to, x.epoch)) else (true, p.to, p.epoch)
  | _, _ => (false, p.to, p.epoch)
end Go.Proofs.YtaaokejjmdbfaaaDoor.V

namespace Go.Proofs.YtaaokejjmdbfaaaDoor.V

def ancX (a b : List Spn) : Int × Int := if (linOk a && linOk b) = true then (ancR z0 a b).2 else (0, 0)
end Go.Proofs.YtaaokejjmdbfaaaDoor.V

namespace Go.Proofs.YtaaokejjmdbfaaaDoor.V

set_option maxHeartbeats 2000000 in
theorem loop18 {a b : List Spn} (ha : a.length ≤ lim) (hb : b.length ≤ lim)
   {st : St} (h : st.head [0, 1, 6, 7, 8] st.boxes.length = some ⟨[.pv (.list 3 (a.map eSpn)), .pv (.list 3 (b.map eSpn)), .any, .any, .any, .any, .pv (.int .i64 0), .pv (.int .i64 0), .pv (.int .i64 (0 : Nat)), .any, .any, .any, .any, .any, .any, .any, .any, .any, .any, .any, .any, .any, .any, .any, .any, .any, .any, .any, .any, .any, .any, .any, .any, .any, .any, .any, .any, .any, .any, .any, .any, .any, .any, .any, .any, .any, .any, .any, .any, .any, .any, .any, .any, .any, .any, .any, .any, .any, .any, .any, .any, .any, .any, .any, .any, .any, .any, .any], [], [], none⟩) :
   den env fn18_l1 st = match ancR z0 a b with
     | (false, c, e) => some (.normal, ⟨[.any, .any, .any, .any, .any, .any, .pv (.int .i64 c), .pv (.int .i64 e), .any, .any, .any, .any, .any, .any, .any, .any, .any, .any, .any, .any, .any, .any, .any, .any, .any, .any, .any, .any, .any, .any, .any, .any, .any, .any, .any, .any, .any, .any, .any, .any, .any, .any, .any, .any, .any, .any, .any, .any, .any, .any, .any, .any, .any, .any, .any, .any, .any, .any, .any, .any, .any, .any, .any, .any, .any, .any, .any, .any], [], [], none⟩)
     | (true, c, e) => some (.normal, ⟨[.any, .any, .any, .any, .any, .any, .pv (.int .i64 c), .pv (.int .i64 e), .any, .any, .any, .any, .any, .any, .any, .any, .any, .any, .any, .any, .any, .any, .any, .any, .any, .any, .any, .any, .any, .any, .any, .any, .any, .any, .any, .any, .any, .any, .any, .any, .any, .any, .any, .any, .any, .any, .any, .any, .any, .any, .any, .any, .any, .any, .any, .any, .any, .any, .any, .any, .any, .any, .any, .any, .any, .any, .any, .any], [], [], none⟩) := by
  unfold fn18_l1
  refine clean_upP (env := env) (min a.length b.length) (fun _ => True) (fun i => ⟨[.pv (.list 3 (a.map eSpn)), .pv (.list 3 (b.map eSpn)), .any, .any, .any, .any, .pv (.int .i64 (lastOf a i).to), .pv (.int .i64 (lastOf a i).epoch), .pv (.int .i64 i), .any, .any, .any, .any, .any, .any, .any, .any, .any, .any, .any, .any, .any, .any, .any, .any, .any, .any, .any, .any, .any, .any, .any, .any, .any, .any, .any, .any, .any, .any, .any, .any, .any, .any, .any, .any, .any, .any, .any, .any, .any, .any, .any, .any, .any, .any, .any, .any, .any, .any, .any, .any, .any, .any, .any, .any, .any, .any, .any], [], [], none⟩)
    (fun i => match ancR (lastOf a i) (a.drop i) (b.drop i) with
     | (false, c, e) => some (.normal, ⟨[.any, .any, .any, .any, .any, .any, .pv (.int .i64 c), .pv (.int .i64 e), .any, .any, .any, .any, .any, .any, .any, .any, .any, .any, .any, .any, .any, .any, .any, .any, .any, .any, .any, .any, .any, .any, .any, .any, .any, .any, .any, .any, .any, .any, .any, .any, .any, .any, .any, .any, .any, .any, .any, .any, .any, .any, .any, .any, .any, .any, .any, .any, .any, .any, .any, .any, .any, .any, .any, .any, .any, .any, .any, .any], [], [], none⟩)
     | (true, c, e) => some (.normal, ⟨[.any, .any, .any, .any, .any, .any, .pv (.int .i64 c), .pv (.int .i64 e), .any, .any, .any, .any, .any, .any, .any, .any, .any, .any, .any, .any, .any, .any, .any, .any, .any, .any, .any, .any, .any, .any, .any, .any, .any, .any, .any, .any, .any, .any, .any, .any, .any, .any, .any, .any, .any, .any, .any, .any, .any, .any, .any, .any, .any, .any, .any, .any, .any, .any, .any, .any, .any, .any, .any, .any, .any, .any, .any, .any], [], [], none⟩)) h trivial (fun _ => rfl) (fun _ => rfl) ?_ ?_
  · intro i rb hi _ ih
    have hia : i < a.length := by omega
    have hib : i < b.length := by omega
    have hi1 := i64_next hia ha
    have F1 : ((i : Int) < (if (b.length : Int) < (a.length : Int) then (b.length : Int) else (a.length : Int))) = True := eq_true (by split <;> omega)
    have hx : a[i]? = some a[i] := List.getElem?_eq_getElem hia
    have hy : b[i]? = some b[i] := List.getElem?_eq_getElem hib
    rw [lastOf_succ hia] at ih
    rw [List.drop_eq_getElem_cons hia, List.drop_eq_getElem_cons hib]
    unfold ancR
    generalize lastOf a i = p at *
    generalize a[i] = x at *
    generalize b[i] = y at *
    obtain ⟨pe, pf, pt⟩ := p
    obtain ⟨xe, xf, xt⟩ := x
    obtain ⟨ye, yf, yt⟩ := y
    by_cases c1 : xe = ye
    rotate_left
    · have G1 : (xe == ye) = false := by simpa using c1
      have G0 : (xe = ye) = False := eq_false c1
      simp only [G1, G0, if_false, fn18_b0, F1, hx, hy, eSpn, index_nat hia, index_nat hib, List.getElem?_map, Option.map_some, memAll, vAll, reduceCtorEq, Nat.reduceEqDiff, Nat.reduceAdd, Nat.reduceLT, Nat.reduceLeDiff, Nat.beq] <;> rfl
    have G1 : (xe == ye) = true := by simpa using c1
    by_cases c2 : xt = yt
    rotate_left
    · have G2 : (xt != yt) = true := by simpa using c2
      have G0 : (xt = yt) = False := eq_false c2
      simp only [G1, G2, c1, G0, if_false, if_true, fn18_b0, F1, hx, hy, eSpn, index_nat hia, index_nat hib, List.getElem?_map, Option.map_some, memAll, vAll, reduceCtorEq, Nat.reduceEqDiff, Nat.reduceAdd, Nat.reduceLT, Nat.reduceLeDiff, Nat.beq] <;> rfl
    subst c1 c2
    have G1 : (xe == xe) = true := by simp
    have G2 : (xt != xt) = false := by simp
    simp only [G1, G2, Int.lt_irrefl, if_false, if_true, fn18_b0, F1, hx, hy, eSpn, index_nat hia, index_nat hib, List.getElem?_map, Option.map_some, memAll, vAll, reduceCtorEq, Nat.reduceEqDiff, Nat.reduceAdd, Nat.reduceLT, Nat.reduceLeDiff, Nat.beq]
    rw [ih trivial _ (by simp only [hi1]; rfl)]
  · intro rb _
    have F1 : (((min a.length b.length : Nat) : Int) < (if (b.length : Int) < (a.length : Int) then (b.length : Int) else (a.length : Int))) = False := eq_false (by split <;> omega)
    simp only [fn18_b0, F1, memAll, vAll, reduceCtorEq, Nat.reduceEqDiff, Nat.reduceAdd, Nat.reduceLT, Nat.reduceLeDiff, Nat.beq]
    by_cases h1 : a.length ≤ b.length
    · have e : min a.length b.length = a.length := by omega
      rw [e, List.drop_length]
      rfl
    · have e : min a.length b.length = b.length := by omega
      rw [e, List.drop_length]
      cases a.drop b.length <;> rfl
end Go.Proofs.YtaaokejjmdbfaaaDoor.V

namespace Go.Proofs.YtaaokejjmdbfaaaDoor.V

theorem cal18 {a b : List Spn} (ha : a.length ≤ lim) (hb : b.length ≤ lim) : cal env 18 [.list 3 (a.map eSpn), .list 3 (b.map eSpn)] = some [(.int .i64 (ancX a b).1, false), (.int .i64 (ancX a b).2, false)] := by
  have e1 := cal49 ha
  have e2 := cal49 hb
  unfold ancX
  cases h1 : linOk a with
  | false =>
    rw [h1] at e1
    rw [cal_code env18 rfl]; simp only [fn18]; simp only [start, z_map_cons, z_map_nil, z_len_cons, z_len_nil, z_repl_zero, z_repl_succ, z_cons_app, z_nil_app, Nat.reduceAdd, Nat.reduceSub]
    simp only [e1, Bool.false_and, Bool.false_eq_true, if_false, memAll, vAll, reduceCtorEq, Nat.reduceEqDiff, Nat.reduceAdd, Nat.reduceLT, Nat.reduceLeDiff, Nat.beq]
  | true =>
    rw [h1] at e1
    cases h2 : linOk b with
    | false =>
      rw [h2] at e2
      rw [cal_code env18 rfl]; simp only [fn18]; simp only [start, z_map_cons, z_map_nil, z_len_cons, z_len_nil, z_repl_zero, z_repl_succ, z_cons_app, z_nil_app, Nat.reduceAdd, Nat.reduceSub]
      simp only [e1, e2, Bool.and_false, Bool.false_eq_true, if_false, memAll, vAll, reduceCtorEq, Nat.reduceEqDiff, Nat.reduceAdd, Nat.reduceLT, Nat.reduceLeDiff, Nat.beq]
    | true =>
      rw [h2] at e2
      rw [cal_code env18 rfl]; simp only [fn18]; simp only [start, z_map_cons, z_map_nil, z_len_cons, z_len_nil, z_repl_zero, z_repl_succ, z_cons_app, z_nil_app, Nat.reduceAdd, Nat.reduceSub]
      simp only [e1, e2, Bool.and_self, if_true, memAll, vAll, reduceCtorEq, Nat.reduceEqDiff, Nat.reduceAdd, Nat.reduceLT, Nat.reduceLeDiff, Nat.beq]
      rw [loop18 ha hb]
      rotate_left
      · rfl
      · cases h : ancR z0 a b with
        | mk t q =>
          obtain ⟨c, e⟩ := q
          cases t with
          | true => simp only [memAll, vAll, reduceCtorEq, Nat.reduceEqDiff, Nat.reduceAdd, Nat.reduceLT, Nat.reduceLeDiff, Nat.beq]
          | false => simp only [memAll, vAll, reduceCtorEq, Nat.reduceEqDiff, Nat.reduceAdd, Nat.reduceLT, Nat.reduceLeDiff, Nat.beq]
end Go.Proofs.YtaaokejjmdbfaaaDoor.V

namespace Go.Proofs.YtaaokejjmdbfaaaDoor.V
def epo : List Spn → Int → Int
  | [], _ => 0
  | x :: l, s => if x.fr ≤ s ∧ s ≤ x.to then x.epoch else epo l s
theorem linGo_cons {p x : Spn} {l : List Spn} (h : linGo p (x :: l) = true) : (x.fr = p.to + 1 ∧ x.fr ≤ x.to ∧ p.epoch < x.epoch ∧ x.to ≤ 1073741824) ∧ linGo x l = true := by
  unfold linGo at h
  rw [Bool.and_eq_true] at h
  obtain ⟨h1, h2⟩ := h
  simp only [okNext, Bool.and_eq_true, decide_eq_true_eq] at h1
  exact ⟨by omega, h2⟩
theorem linGo_congr {p q : Spn} (h1 : p.to = q.to) (h2 : p.epoch = q.epoch) (l : List Spn) : linGo p l = linGo q l := by
  cases l with
  | nil => rfl
  | cons x l => unfold linGo okNext; rw [h1, h2]
theorem epo_low : ∀ (l : List Spn) (p : Spn), linGo p l = true → ∀ s, s ≤ p.to → epo l s = 0
  | [], _, _, _, _ => rfl
  | x :: l, p, h, s, hs => by
    obtain ⟨⟨h1, h2, h3, h4⟩, h5⟩ := linGo_cons h
    unfold epo
    rw [if_neg (by omega)]
    exact epo_low l x h5 s (by omega)
theorem epo_new : ∀ (l : List Spn) (p : Spn), linGo p l = true → ∀ s, epo l s = 0 ∨ p.epoch < epo l s
  | [], _, _, _ => .inl rfl
  | x :: l, p, h, s => by
    obtain ⟨⟨h1, h2, h3, h4⟩, h5⟩ := linGo_cons h
    unfold epo
    split
    · exact .inr h3
    · rcases epo_new l x h5 s with h | h
      · exact .inl h
      · exact .inr (by omega)
theorem lin_fr : ∀ (l : List Spn) (p : Spn), linGo p l = true → ∀ x ∈ l, p.to < x.fr ∧ x.fr ≤ x.to
  | [], _, _, _, hx => by cases hx
  | y :: l, p, h, x, hx => by
    obtain ⟨⟨h1, h2, h3, h4⟩, h5⟩ := linGo_cons h
    rcases List.mem_cons.1 hx with rfl | hx
    · omega
    · have := lin_fr l y h5 x hx
      omega
theorem anc_law : ∀ (a b : List Spn) (p : Spn), linGo p a = true → linGo p b = true →
    p.to ≤ (ancR p a b).2.1 ∧ (∀ s, p.to < s → s ≤ (ancR p a b).2.1 → epo a s = epo b s) ∧
    ((ancR p a b).2.1 = p.to ∧ (ancR p a b).2.2 = p.epoch ∨ p.to < (ancR p a b).2.1 ∧ (ancR p a b).2.2 = epo a (ancR p a b).2.1) ∧
    ¬ (epo a ((ancR p a b).2.1 + 1) = epo b ((ancR p a b).2.1 + 1) ∧ epo a ((ancR p a b).2.1 + 1) ≠ 0)
  | [], b, p, _, _ => by
    unfold ancR
    exact ⟨by simp only; omega, fun s h1 h2 => by simp only at h2; omega, .inl ⟨rfl, rfl⟩, fun h => h.2 rfl⟩
  | x :: a, [], p, _, _ => by
    unfold ancR
    exact ⟨by simp only; omega, fun s h1 h2 => by simp only at h2; omega, .inl ⟨rfl, rfl⟩, fun h => h.2 (by rw [h.1]; rfl)⟩
  | x :: a, y :: b, p, ha, hb => by
    obtain ⟨⟨h1, h2, h3, h4⟩, h5⟩ := linGo_cons ha
    obtain ⟨⟨k1, k2, k3, k4⟩, k5⟩ := linGo_cons hb
    have ex : ∀ s, x.fr ≤ s → s ≤ x.to → epo (x :: a) s = x.epoch := fun s q1 q2 => by unfold epo; rw [if_pos ⟨q1, q2⟩]
    have ey : ∀ s, y.fr ≤ s → s ≤ y.to → epo (y :: b) s = y.epoch := fun s q1 q2 => by unfold epo; rw [if_pos ⟨q1, q2⟩]
    have ex' : ∀ s, x.to < s → epo (x :: a) s = epo a s := fun s q1 => by rw [epo, if_neg (by omega)]
    have ey' : ∀ s, y.to < s → epo (y :: b) s = epo b s := fun s q1 => by rw [epo, if_neg (by omega)]
    unfold ancR
    by_cases c1 : x.epoch = y.epoch
    · rw [if_pos c1]
      by_cases c2 : x.to = y.to
      · rw [if_pos c2]
        obtain ⟨r1, r2, r3, r4⟩ := anc_law a b x h5 (by rw [linGo_congr c2 c1]; exact k5)
        refine ⟨by omega, fun s q1 q2 => ?_, .inr ⟨by omega, ?_⟩, ?_⟩
        · by_cases q : s ≤ x.to
          · rw [ex s (by omega) q, ey s (by omega) (by omega), c1]
          · rw [ex' s (by omega), ey' s (by omega)]
            exact r2 s (by omega) q2
        · rcases r3 with ⟨r5, r6⟩ | ⟨r5, r6⟩
          · rw [r5, r6, ex x.to (by omega) (by omega)]
          · rw [ex' _ r5]; exact r6
        · rw [ex' _ (by omega), ey' _ (by omega)]
          exact r4
      · rw [if_neg c2]
        simp only
        by_cases c3 : y.to < x.to
        · rw [if_pos c3]
          refine ⟨by omega, fun s q1 q2 => ?_, .inr ⟨by omega, ?_⟩, ?_⟩
          · rw [ex s (by omega) (by omega), ey s (by omega) (by omega), c1]
          · rw [ex _ (by omega) (by omega)]
          · rw [ex _ (by omega) (by omega), ey' _ (by omega)]
            rintro ⟨q1, q2⟩
            rcases epo_new b y k5 (y.to + 1) with q | q
            · omega
            · omega
        · rw [if_neg c3]
          refine ⟨by omega, fun s q1 q2 => ?_, .inr ⟨by omega, ?_⟩, ?_⟩
          · rw [ex s (by omega) (by omega), ey s (by omega) (by omega), c1]
          · rw [ex _ (by omega) (by omega)]
          · rw [ex' _ (by omega), ey _ (by omega) (by omega)]
            rintro ⟨q1, q2⟩
            rcases epo_new a x h5 (x.to + 1) with q | q
            · omega
            · omega
    · rw [if_neg c1]
      simp only
      refine ⟨by omega, fun s q1 q2 => by omega, .inl ⟨trivial, trivial⟩, ?_⟩
      rw [ex _ (by omega) (by omega), ey _ (by omega) (by omega)]
      exact fun h => c1 h.1
theorem anc_comm : ∀ (a b : List Spn) (p q : Spn), p.to = q.to → p.epoch = q.epoch → (ancR p a b).2 = (ancR q b a).2
  | [], [], p, q, h1, h2 => by unfold ancR; simp only; rw [h1, h2]
  | [], y :: b, p, q, h1, h2 => by unfold ancR; simp only; rw [h1, h2]
  | x :: a, [], p, q, h1, h2 => by unfold ancR; simp only; rw [h1, h2]
  | x :: a, y :: b, p, q, h1, h2 => by
    unfold ancR
    by_cases c1 : x.epoch = y.epoch
    · rw [if_pos c1, if_pos c1.symm]
      by_cases c2 : x.to = y.to
      · rw [if_pos c2, if_pos c2.symm]
        exact anc_comm a b x y c2 c1
      · rw [if_neg c2, if_neg (show ¬ y.to = x.to from fun h => c2 h.symm)]
        simp only [Prod.mk.injEq]
        refine ⟨?_, c1⟩
        split <;> split <;> omega
    · rw [if_neg c1, if_neg (show ¬ y.epoch = x.epoch from fun h => c1 h.symm)]
      simp only
      rw [h1, h2]
theorem ancR_B : ∀ (a b : List Spn) (p : Spn), linGo p a = true → p.to ≤ 1073741824 → (ancR p a b).2.1 ≤ 1073741824
  | [], b, p, _, h => by unfold ancR; exact h
  | x :: a, [], p, _, h => by unfold ancR; exact h
  | x :: a, y :: b, p, ha, h => by
    obtain ⟨⟨h1, h2, h3, h4⟩, h5⟩ := linGo_cons ha
    unfold ancR
    split
    · split
      · exact ancR_B a b x h5 h4
      · simp only
        split <;> omega
    · exact h
end Go.Proofs.YtaaokejjmdbfaaaDoor.V

namespace Go.Proofs.YtaaokejjmdbfaaaDoor.V
def headOf (l : List Spn) : Spn := lastOf l l.length
theorem cal28 {l : List Spn} (hl : l.length ≤ lim) : cal env 28 [.list 3 (l.map eSpn)] = some [(.int .i64 (headOf l).epoch, false), (.int .i64 (headOf l).to, false)] := by
  by_cases h0 : l.length = 0
  · obtain rfl := List.eq_nil_of_length_eq_zero h0
    have F1 : (((0 : Nat) : Int) == 0) = true := rfl
    rw [cal_code env28 rfl]; simp only [fn28]; simp only [start, z_map_cons, z_map_nil, z_len_cons, z_len_nil, z_repl_zero, z_repl_succ, z_cons_app, z_nil_app, Nat.reduceAdd, Nat.reduceSub]
    simp only [F1, List.length_nil, List.map_nil, memAll, vAll, reduceCtorEq, Nat.reduceEqDiff, Nat.reduceAdd, Nat.reduceLT, Nat.reduceLeDiff, Nat.beq]
    rfl
  · obtain ⟨k, hk⟩ : ∃ k, l.length = k + 1 := ⟨l.length - 1, by omega⟩
    have hkl : k < l.length := by omega
    have hx : l[k]? = some l[k] := List.getElem?_eq_getElem hkl
    have he : headOf l = l[k] := by rw [headOf, hk, lastOf_succ hkl]
    have hl' := hl
    unfold lim at hl'
    have F1 : ((l.length : Int) == 0) = false := by simpa using h0
    have F2 : IntKind.i64.wrap ((l.length : Int) - 1) = (k : Int) := by rw [i64_fits (by omega)]; omega
    rw [he]
    generalize l[k] = x at *
    obtain ⟨xe, xf, xt⟩ := x
    rw [cal_code env28 rfl]; simp only [fn28]; simp only [start, z_map_cons, z_map_nil, z_len_cons, z_len_nil, z_repl_zero, z_repl_succ, z_cons_app, z_nil_app, Nat.reduceAdd, Nat.reduceSub]
    simp only [F1, F2, hx, eSpn, index_nat hkl, List.getElem?_map, Option.map_some, memAll, vAll, reduceCtorEq, Nat.reduceEqDiff, Nat.reduceAdd, Nat.reduceLT, Nat.reduceLeDiff, Nat.beq]
end Go.Proofs.YtaaokejjmdbfaaaDoor.V

namespace Go.Proofs.YtaaokejjmdbfaaaDoor.V
theorem cal31 {es : List PV} (hl : es.length ≤ lim) : cal env 31 [.list 3 es] = some [(.list 3 es, true)] := (cal_ext env31).trans (if_pos ⟨rfl, hl⟩)
end Go.Proofs.YtaaokejjmdbfaaaDoor.V
