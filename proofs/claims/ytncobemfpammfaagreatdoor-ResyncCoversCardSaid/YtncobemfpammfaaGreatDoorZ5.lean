/-
  Part 5 of the texts that the statement stands on.
-/
import Derived.Test.YtncobemfpammfaaGreatDoorZ4
import Derived.Lib.TrailingZeros
import Derived.Test.YtncobemfpammfaaGreatDoorProg
import Derived.Shelf.SlSortCmp.WholeK
import Derived.Shelf.SlSortCmp.NoneTotal
import Derived.Shelf.SlicesG.Cmp
import Derived.Shelf.Small.Bits
import Derived.Ground.SlsfProg
import Derived.Ground.SlgcProg
import Derived.Ground.NamesProg
set_option linter.all false
namespace Go.Proofs.YtncobemfpammfaaGreatDoor.V

def few7 (im : Img) : Bool := decide (im.length ≤ 9) && im.all fun v => decide (v.length ≤ 24)
theorem loop4 {im : Img} (hl : im.length ≤ lim) {st : St} (h : st.head [0, 3] st.boxes.length = some ⟨[.pv (.list 1 (im.map eSecs)), .any, .any, .pv (.int .i64 (0 : Nat)), .any, .any, .any, .any, .any, .any, .any, .any, .any, .any, .any, .any, .any, .any, .any], [], [], none⟩) :
   den env fn4_l1 st = if im.all (fun v => decide (v.length ≤ 24)) then some (.normal, ⟨[.any, .any, .any, .any, .any, .any, .any, .any, .any, .any, .any, .any, .any, .any, .any, .any, .any, .any, .any], [], [], none⟩) else some (.ret, ⟨[.any, .any, .pv (.bool false), .any, .any, .any, .any, .any, .any, .any, .any, .any, .any, .any, .any, .any, .any, .any, .any], [], [], none⟩) := by
  unfold fn4_l1
  rw [ clean_up (env := env) (im.length) (fun i => ⟨[.pv (.list 1 (im.map eSecs)), .any, .any, .pv (.int .i64 i), .any, .any, .any, .any, .any, .any, .any, .any, .any, .any, .any, .any, .any, .any, .any], [], [], none⟩) (fun i => if (im.drop i).all (fun v => decide (v.length ≤ 24)) then some (.normal, ⟨[.any, .any, .any, .any, .any, .any, .any, .any, .any, .any, .any, .any, .any, .any, .any, .any, .any, .any, .any], [], [], none⟩) else some (.ret, ⟨[.any, .any, .pv (.bool false), .any, .any, .any, .any, .any, .any, .any, .any, .any, .any, .any, .any, .any, .any, .any, .any], [], [], none⟩)) h (fun _ => rfl) (fun _ => rfl) ?_ ?_]
  · first | rfl | simp only [List.drop_zero, List.take_zero, List.map_nil, Nat.zero_add, List.nil_append, List.foldl_nil]
  · intro i rb hi ih

    have hi1 := i64_next hi hl
    have F1 : ((i : Int) < (im.length : Int)) = True := eq_true (by omega)
    simp only [fn4_b0, F1, eSecs, index_nat hi, List.getElem?_map, List.getElem?_eq_getElem hi, memAll, vAll, reduceCtorEq, Nat.reduceEqDiff, Nat.reduceAdd, Nat.reduceLT, Nat.reduceLeDiff, Nat.beq]
    rw [List.drop_eq_getElem_cons hi, List.all_cons]
    (try simp only [bcase_bind, bcase_map, tail_bcase]); refine bcase_split (fun hb => ?_) (fun hb => ?_) <;> try simp only [hb,  memAll, vAll, reduceCtorEq, Nat.reduceEqDiff, Nat.reduceAdd, Nat.reduceLT, Nat.reduceLeDiff, Nat.beq]
    · rw [decide_eq_false (by simp at hb; omega)]; rfl
    · rw [ih _ (by simp only [hi1]; rfl), decide_eq_true (show im[i].length ≤ 24 by simp at hb; omega), Bool.true_and]
  · intro rb

    simp only [fn4_b0, Int.lt_irrefl,  memAll, vAll, reduceCtorEq, Nat.reduceEqDiff, Nat.reduceAdd, Nat.reduceLT, Nat.reduceLeDiff, Nat.beq]
    rw [List.drop_length]
    rfl

theorem cal4 {im : Img} : cal env 4 [.list 1 (im.map eSecs)] = some [(.bool (few7 im), false)] := by
  rw [cal_code env4 rfl]; simp only [fn4]; simp only [start, z_map_cons, z_map_nil, z_len_cons, z_len_nil, z_repl_zero, z_repl_succ, z_cons_app, z_nil_app, Nat.reduceAdd, Nat.reduceSub]
  simp only [ memAll, vAll, reduceCtorEq, Nat.reduceEqDiff, Nat.reduceAdd, Nat.reduceLT, Nat.reduceLeDiff, Nat.beq]
  (try simp only [bcase_bind, bcase_map, tail_bcase]); refine bcase_split (fun hb => ?_) (fun hb => ?_) <;> try simp only [hb,  memAll, vAll, reduceCtorEq, Nat.reduceEqDiff, Nat.reduceAdd, Nat.reduceLT, Nat.reduceLeDiff, Nat.beq]
  · simp at hb
    rw [few7, decide_eq_false (by omega)]; rfl
  · have hl : im.length ≤ 9 := by simp at hb; omega
    rw [loop4 (im := im) (by unfold lim; omega)]
    rotate_left
    · rfl
    · rw [few7, decide_eq_true hl, Bool.true_and]
      cases im.all (fun v => decide (v.length ≤ 24)) <;> simp only [vAll, reduceCtorEq, Nat.reduceEqDiff, Nat.reduceAdd, Nat.reduceLT, Nat.reduceLeDiff, Nat.beq]
theorem loop33 {a b : List Sec} (hl : a.length ≤ lim) (hab : a.length = b.length) {st : St} (h : st.head [0, 1, 5] st.boxes.length = some ⟨[.pv (.list 8 (a.map eSec)), .pv (.list 8 (b.map eSec)), .any, .any, .any, .pv (.int .i64 (0 : Nat)), .any, .any, .any, .any, .any, .any, .any, .any, .any, .any, .any, .any, .any, .any, .any, .any, .any, .any, .any, .any], [], [], none⟩) :
   den env fn33_l1 st = if a = b then some (.normal, ⟨[.any, .any, .any, .any, .any, .any, .any, .any, .any, .any, .any, .any, .any, .any, .any, .any, .any, .any, .any, .any, .any, .any, .any, .any, .any, .any], [], [], none⟩) else some (.ret, ⟨[.any, .any, .any, .any, .pv (.bool false), .any, .any, .any, .any, .any, .any, .any, .any, .any, .any, .any, .any, .any, .any, .any, .any, .any, .any, .any, .any, .any], [], [], none⟩) := by
  unfold fn33_l1
  rw [ clean_up (env := env) (a.length) (fun i => ⟨[.pv (.list 8 (a.map eSec)), .pv (.list 8 (b.map eSec)), .any, .any, .any, .pv (.int .i64 i), .any, .any, .any, .any, .any, .any, .any, .any, .any, .any, .any, .any, .any, .any, .any, .any, .any, .any, .any, .any], [], [], none⟩) (fun i => if a.drop i = b.drop i then some (.normal, ⟨[.any, .any, .any, .any, .any, .any, .any, .any, .any, .any, .any, .any, .any, .any, .any, .any, .any, .any, .any, .any, .any, .any, .any, .any, .any, .any], [], [], none⟩) else some (.ret, ⟨[.any, .any, .any, .any, .pv (.bool false), .any, .any, .any, .any, .any, .any, .any, .any, .any, .any, .any, .any, .any, .any, .any, .any, .any, .any, .any, .any, .any], [], [], none⟩)) h (fun _ => rfl) (fun _ => rfl) ?_ ?_]
  · first | rfl | simp only [List.drop_zero, List.take_zero, List.map_nil, Nat.zero_add, List.nil_append, List.foldl_nil]
  · intro i rb hi ih

    have hi1 := i64_next hi hl
    have hj : i < b.length := by omega
    have F1 : ((i : Int) < (a.length : Int)) = True := eq_true (by omega)
    simp only [fn33_b0, F1, eSec, index_nat hi, index_nat hj, List.getElem?_map, List.getElem?_eq_getElem hi, List.getElem?_eq_getElem hj, part_sec, secPV_length, eqCells_sec, memAll, vAll, reduceCtorEq, Nat.reduceEqDiff, Nat.reduceAdd, Nat.reduceLT, Nat.reduceLeDiff, Nat.beq]
    rw [List.drop_eq_getElem_cons hi, List.drop_eq_getElem_cons hj]
    (try simp only [bcase_bind, bcase_map, tail_bcase]); refine bcase_split (fun hb => ?_) (fun hb => ?_) <;> try simp only [hb,  memAll, vAll, reduceCtorEq, Nat.reduceEqDiff, Nat.reduceAdd, Nat.reduceLT, Nat.reduceLeDiff, Nat.beq]
    · rw [ih _ (by simp only [hi1]; rfl)]
      simp only [decide_eq_true_eq] at hb
      simp only [hb, List.cons.injEq, true_and]
    · simp only [decide_eq_false_iff_not] at hb
      simp only [hb, List.cons.injEq, false_and, if_false]
      rfl
  · intro rb

    simp only [fn33_b0, Int.lt_irrefl,  memAll, vAll, reduceCtorEq, Nat.reduceEqDiff, Nat.reduceAdd, Nat.reduceLT, Nat.reduceLeDiff, Nat.beq]
    rw [List.drop_length, hab, List.drop_length, if_pos rfl]
    rfl

theorem cal33 {a b : List Sec} (hl : a.length ≤ lim) : cal env 33 [.list 8 (a.map eSec), .list 8 (b.map eSec)] = some [(.bool (decide (a = b)), false)] := by
  rw [cal_code env33 rfl]; simp only [fn33]; simp only [start, z_map_cons, z_map_nil, z_len_cons, z_len_nil, z_repl_zero, z_repl_succ, z_cons_app, z_nil_app, Nat.reduceAdd, Nat.reduceSub]
  simp only [ memAll, vAll, reduceCtorEq, Nat.reduceEqDiff, Nat.reduceAdd, Nat.reduceLT, Nat.reduceLeDiff, Nat.beq]
  (try simp only [bcase_bind, bcase_map, tail_bcase]); refine bcase_split (fun hb => ?_) (fun hb => ?_) <;> try simp only [hb,  memAll, vAll, reduceCtorEq, Nat.reduceEqDiff, Nat.reduceAdd, Nat.reduceLT, Nat.reduceLeDiff, Nat.beq]
  · have hab : a.length = b.length := by simp at hb; omega
    rw [loop33 hl hab]
    rotate_left
    · rfl
    · by_cases e : a = b <;> simp only [e, vAll, reduceCtorEq, Nat.reduceEqDiff, Nat.reduceAdd, Nat.reduceLT, Nat.reduceLeDiff, Nat.beq]
  · have : a ≠ b := fun e => by subst e; simp at hb
    simp only [this, vAll, reduceCtorEq, Nat.reduceEqDiff, Nat.reduceAdd, Nat.reduceLT, Nat.reduceLeDiff, Nat.beq]
theorem loop13 {a b : Img} (hl : a.length ≤ lim) (hr : ∀ v ∈ a, v.length ≤ lim) (hab : a.length = b.length) {st : St} (h : st.head [0, 1, 5] st.boxes.length = some ⟨[.pv (.list 1 (a.map eSecs)), .pv (.list 1 (b.map eSecs)), .any, .any, .any, .pv (.int .i64 (0 : Nat)), .any, .any, .any, .any, .any, .any, .any, .any, .any, .any, .any, .any, .any, .any, .any, .any, .any, .any, .any, .any, .any], [], [], none⟩) :
   den env fn13_l1 st = if a = b then some (.normal, ⟨[.any, .any, .any, .any, .any, .any, .any, .any, .any, .any, .any, .any, .any, .any, .any, .any, .any, .any, .any, .any, .any, .any, .any, .any, .any, .any, .any], [], [], none⟩) else some (.ret, ⟨[.any, .any, .any, .any, .pv (.bool false), .any, .any, .any, .any, .any, .any, .any, .any, .any, .any, .any, .any, .any, .any, .any, .any, .any, .any, .any, .any, .any, .any], [], [], none⟩) := by
  unfold fn13_l1
  rw [ clean_up (env := env) (a.length) (fun i => ⟨[.pv (.list 1 (a.map eSecs)), .pv (.list 1 (b.map eSecs)), .any, .any, .any, .pv (.int .i64 i), .any, .any, .any, .any, .any, .any, .any, .any, .any, .any, .any, .any, .any, .any, .any, .any, .any, .any, .any, .any, .any], [], [], none⟩) (fun i => if a.drop i = b.drop i then some (.normal, ⟨[.any, .any, .any, .any, .any, .any, .any, .any, .any, .any, .any, .any, .any, .any, .any, .any, .any, .any, .any, .any, .any, .any, .any, .any, .any, .any, .any], [], [], none⟩) else some (.ret, ⟨[.any, .any, .any, .any, .pv (.bool false), .any, .any, .any, .any, .any, .any, .any, .any, .any, .any, .any, .any, .any, .any, .any, .any, .any, .any, .any, .any, .any, .any], [], [], none⟩)) h (fun _ => rfl) (fun _ => rfl) ?_ ?_]
  · first | rfl | simp only [List.drop_zero, List.take_zero, List.map_nil, Nat.zero_add, List.nil_append, List.foldl_nil]
  · intro i rb hi ih

    have hi1 := i64_next hi hl
    have hj : i < b.length := by omega
    have F1 : ((i : Int) < (a.length : Int)) = True := eq_true (by omega)
    have e1 := cal33 (b := b[i]) (hr _ (List.getElem_mem hi))
    simp only [fn13_b0, F1, e1, eSecs, index_nat hi, index_nat hj, List.getElem?_map, List.getElem?_eq_getElem hi, List.getElem?_eq_getElem hj, memAll, vAll, reduceCtorEq, Nat.reduceEqDiff, Nat.reduceAdd, Nat.reduceLT, Nat.reduceLeDiff, Nat.beq]
    rw [List.drop_eq_getElem_cons hi, List.drop_eq_getElem_cons hj]
    (try simp only [bcase_bind, bcase_map, tail_bcase]); refine bcase_split (fun hb => ?_) (fun hb => ?_) <;> try simp only [hb,  memAll, vAll, reduceCtorEq, Nat.reduceEqDiff, Nat.reduceAdd, Nat.reduceLT, Nat.reduceLeDiff, Nat.beq]
    · rw [ih _ (by simp only [hi1]; rfl)]
      simp only [decide_eq_true_eq] at hb
      simp only [hb, List.cons.injEq, true_and]
    · simp only [decide_eq_false_iff_not] at hb
      simp only [hb, List.cons.injEq, false_and, if_false]
      rfl
  · intro rb

    simp only [fn13_b0, Int.lt_irrefl,  memAll, vAll, reduceCtorEq, Nat.reduceEqDiff, Nat.reduceAdd, Nat.reduceLT, Nat.reduceLeDiff, Nat.beq]
    rw [List.drop_length, hab, List.drop_length, if_pos rfl]
    rfl

theorem cal13 {a b : Img} (hl : a.length ≤ lim) (hr : ∀ v ∈ a, v.length ≤ lim) : cal env 13 [.list 1 (a.map eSecs), .list 1 (b.map eSecs)] = some [(.bool (decide (a = b)), false)] := by
  rw [cal_code env13 rfl]; simp only [fn13]; simp only [start, z_map_cons, z_map_nil, z_len_cons, z_len_nil, z_repl_zero, z_repl_succ, z_cons_app, z_nil_app, Nat.reduceAdd, Nat.reduceSub]
  simp only [ memAll, vAll, reduceCtorEq, Nat.reduceEqDiff, Nat.reduceAdd, Nat.reduceLT, Nat.reduceLeDiff, Nat.beq]
  (try simp only [bcase_bind, bcase_map, tail_bcase]); refine bcase_split (fun hb => ?_) (fun hb => ?_) <;> try simp only [hb,  memAll, vAll, reduceCtorEq, Nat.reduceEqDiff, Nat.reduceAdd, Nat.reduceLT, Nat.reduceLeDiff, Nat.beq]
  · have hab : a.length = b.length := by simp at hb; omega
    rw [loop13 hl hr hab]
    rotate_left
    · rfl
    · by_cases e : a = b <;> simp only [e, vAll, reduceCtorEq, Nat.reduceEqDiff, Nat.reduceAdd, Nat.reduceLT, Nat.reduceLeDiff, Nat.beq]
  · have : a ≠ b := fun e => by subst e; simp at hb
    simp only [this, vAll, reduceCtorEq, Nat.reduceEqDiff, Nat.reduceAdd, Nat.reduceLT, Nat.reduceLeDiff, Nat.beq]
end Go.Proofs.YtncobemfpammfaaGreatDoor.V

namespace Go.Proofs.YtncobemfpammfaaGreatDoor

noncomputable def iter (env : Env) (f : Nat) (caps : List PV) (stop : Option Nat) : Option (List (List PV)) := iterRes (den env) env f caps stop
def ystart (n : Nat) (caps : List PV) (stop : Option Nat) : St := ⟨.yld :: (caps.map .pv ++ List.replicate (n - (caps.length + 1)) .any), [], [], some stop⟩
def yfin : Ex × St → Option (List (List PV))
  | (.exit _, _) => none
  | (_, st) => some st.ys
section
variable {env : Env}
theorem yfin_normal (st : St) : yfin (.normal, st) = some st.ys := (rfl)
theorem yfin_ret (st : St) : yfin (.ret, st) = some st.ys := (rfl)
theorem iter_code {f : Nat} {fn : VFn} {caps : List PV} {stop : Option Nat} (h : env f = some (.code fn)) (hl : caps.length + 1 = fn.nargs) (hr : fn.results.isEmpty = true) : iter env f caps stop = (den env fn.body (ystart fn.ntmps caps stop)).bind yfin := by
  unfold iter iterRes
  rw [h]
  simp only [if_pos (And.intro hl hr)]
  show (den env fn.body _).bind _ = _
  congr 1
  funext ⟨e, st⟩
  cases e <;> rfl

noncomputable def round1 (env : Env) (slots : List AV) (ps : List Nat) (assign body : VCode) (nb : Nat) (x : List PV) (st : St) : Option (Ex × St) :=
  (setParams slots ps x).bind fun sl => (den env assign { st with slots := sl }).bind fun p => match p with
    | (.normal, st) => (den env body st).bind fun p => match p with
      | (.normal, st) => if nb ≤ st.boxes.length then some (.normal, { st with boxes := st.boxes.take nb }) else none
      | p => some p
    | _ => none
theorem rounds_cons {slots : List AV} {ps : List Nat} {assign body : VCode} {nb k : Nat} {x : List PV} {xs : List (List PV)} {st : St} :
    rounds (den env) slots ps assign body nb k (x :: xs) st = (round1 env slots ps assign body nb x st).bind fun p => match p with
      | (.normal, st) => rounds (den env) slots ps assign body nb (k + 1) xs st
      | (e, st) => some (some (e, k + 1), st) := by
  conv => lhs; unfold rounds
  unfold round1
  show (setParams slots ps x).bind _ = _
  cases setParams slots ps x with
  | none => rfl
  | some sl =>
    simp only [Option.bind_some]
    show (den env assign _).bind _ = _
    cases den env assign { st with slots := sl } with
    | none => rfl
    | some p =>
      obtain ⟨e, s⟩ := p
      simp only [Option.bind_some]
      cases e with
      | normal =>
        simp only
        show (den env body _).bind _ = _
        cases den env body s with
        | none => rfl
        | some p =>
          obtain ⟨e, s⟩ := p
          simp only [Option.bind_some]
          cases e with
          | normal =>
            simp only
            split <;> rfl
          | exit i => rfl
          | ret => rfl
      | exit i => rfl
      | ret => rfl
theorem rng_all {g : Opd} {ps : List Nat} {assign body : VCode} {st st1 : St} {f : Nat} {caps : List PV} {xs : List (List PV)} (hg : st.pvOf g = some (.func f caps)) (hi : iter env f caps none = some xs)
    (hr : rounds (den env) (st.slots.map AV.froze) ps assign body st.boxes.length 0 xs { st with slots := st.slots.map AV.froze } = some (none, st1)) : den env (.rng g ps assign body) st = some (.normal, { st1 with slots := st.slots.map AV.froze }) := by
  rw [den_eq]
  show ranged (den env) env g ps assign body st = _
  unfold ranged
  rw [hg]
  unfold iter at hi
  simp only [z_bind_eq, Option.bind_some, hi, hr]
theorem rng_idx (B : Nat → List Box) {g : Opd} {ps : List Nat} {assign body : VCode} {st : St} {f : Nat} {caps : List PV} {xs : List (List PV)} (hg : st.pvOf g = some (.func f caps)) (hi : iter env f caps none = some xs) (hB : st.boxes = B 0)
    (h : ∀ j x, xs[j]? = some x → ∀ sl0, ∃ sl1, round1 env (st.slots.map AV.froze) ps assign body st.boxes.length x ⟨sl0, B j, st.ys, st.stop⟩ = some (.normal, ⟨sl1, B (j + 1), st.ys, st.stop⟩)) :
    den env (.rng g ps assign body) st = some (.normal, ⟨st.slots.map AV.froze, B xs.length, st.ys, st.stop⟩) := by
  have key : ∀ (l : List (List PV)) (j : Nat), xs.drop j = l → ∀ (k : Nat) (sl0 : List AV), ∃ sl1, rounds (den env) (st.slots.map AV.froze) ps assign body st.boxes.length k l ⟨sl0, B j, st.ys, st.stop⟩ = some (none, ⟨sl1, B (j + l.length), st.ys, st.stop⟩) := by
    intro l
    induction l with
    | nil => intro j _ k sl0; exact ⟨sl0, rfl⟩
    | cons x l ih =>
      intro j hj k sl0
      have hx : xs[j]? = some x := by rw [← List.head?_drop, hj]; rfl
      have hd : xs.drop (j + 1) = l := by rw [← List.drop_drop, hj]; rfl
      obtain ⟨sl1, q⟩ := h j x hx sl0
      obtain ⟨sl2, q2⟩ := ih (j + 1) hd (k + 1) sl1
      refine ⟨sl2, ?_⟩
      rw [rounds_cons, q]
      simp only [Option.bind_some, q2, List.length_cons]
      rw [show j + 1 + l.length = j + (l.length + 1) by omega]
  obtain ⟨sl1, q⟩ := key xs 0 (by simp) 0 (st.slots.map AV.froze)
  rw [← hB, Nat.zero_add] at q
  have r := rng_all hg hi q
  exact r
theorem clean_upP {keep post : List Nat} {id nb : Nat} {b : VCode} (n : Nat) (P : Nat → Prop) (S : Nat → St) (R : Nat → Option (Ex × St)) {st : St} (h : st.head keep st.boxes.length = some (S 0)) (hP : P 0) (hS : ∀ i, (S i).boxes.length = nb) (hh : ∀ i, (S i).head keep nb = some (S i))
    (step : ∀ i rb, i < n → P i → (P (i + 1) → ∀ s, s.head keep nb = some (S (i + 1)) → tailOf env id post nb (den env rb s) = R (i + 1)) → tailOf env id post nb ((den env b (S i)).bind (next env rb)) = R i)
    (last : ∀ rb, P n → tailOf env id post nb ((den env b (S n)).bind (next env rb)) = R n) :
    den env (.clean keep post (.block id (.loop keep b))) st = R 0 := by
  refine clean_rec S R (fun i => i ≤ n ∧ P i) (fun i => n - i) 0 h ⟨Nat.zero_le _, hP⟩ hS hh fun i rb hi ih => ?_
  by_cases hn : i = n
  · subst hn; exact last rb hi.2
  · exact step i rb (by omega) hi.2 fun hp s hs => ih (i + 1) (by omega) ⟨by omega, hp⟩ s hs
noncomputable def rassign (env : Env) (body : VCode) (nb : Nat) : Ex × St → Option (Ex × St)
  | (.normal, st) => (den env body st).bind fun p => match p with
    | (.normal, st) => if nb ≤ st.boxes.length then some (.normal, { st with boxes := st.boxes.take nb }) else none
    | p => some p
  | _ => none
def rend (nb : Nat) : Ex × St → Option (Ex × St)
  | (.normal, st) => if nb ≤ st.boxes.length then some (.normal, { st with boxes := st.boxes.take nb }) else none
  | p => some p
theorem round1_eq (slots : List AV) (ps : List Nat) (assign body : VCode) (nb : Nat) (x : List PV) (st : St) : round1 env slots ps assign body nb x st = (setParams slots ps x).bind fun sl => (den env assign { st with slots := sl }).bind (rassign env body nb) := by
  unfold round1
  rfl
theorem rassign_normal (body : VCode) (nb : Nat) (st : St) : rassign env body nb (.normal, st) = (den env body st).bind (rend nb) := by
  rfl
theorem rend_normal (nb : Nat) (st : St) : rend nb (.normal, st) = if nb ≤ st.boxes.length then some (.normal, { st with boxes := st.boxes.take nb }) else none := (rfl)
theorem rend_exit (nb i : Nat) (st : St) : rend nb (.exit i, st) = some (.exit i, st) := (rfl)
theorem rend_ret (nb : Nat) (st : St) : rend nb (.ret, st) = some (.ret, st) := (rfl)
theorem setP_nil (slots : List AV) : setParams slots [] [] = some slots := (rfl)
theorem setP_cons (slots : List AV) (p : Nat) (ps : List Nat) (v : PV) (vs : List PV) : setParams slots (p :: ps) (v :: vs) = setParams (slots.set p (.pv v)) ps vs := (rfl)
theorem froze_pv (v : PV) : AV.froze (.pv v) = .pv v := (rfl)
theorem froze_row (sz : Nat) (es : List PV) : AV.froze (.row sz es) = .pv (.list sz es) := (rfl)
theorem froze_any : AV.froze .any = .any := (rfl)
theorem froze_tup (k : Bool) (l : List AV) : AV.froze (.tup k l) = .any := (rfl)
theorem froze_ref (r : Root) (i j : Nat) : AV.froze (.ref r i j) = .any := (rfl)
theorem froze_pel (r : Root) (i j : Nat) : AV.froze (.pel r i j) = .any := (rfl)
theorem froze_pbox (i j : Nat) : AV.froze (.pbox i j) = .pbox i j := (rfl)
theorem froze_fn (f : Nat) (l : List AV) : AV.froze (.fn f l) = .fn f l := (rfl)
theorem froze_yld : AV.froze .yld = .yld := (rfl)
end
def vRng := And.intro @round1_eq (And.intro @rassign_normal (And.intro @rend_normal (And.intro @rend_exit (And.intro @rend_ret (And.intro @setP_nil (And.intro @setP_cons (And.intro @froze_pv (And.intro @froze_row (And.intro @froze_any (And.intro @froze_tup (And.intro @froze_ref (And.intro @froze_pel (And.intro @froze_pbox (And.intro @froze_fn (And.intro @froze_yld (And.intro @yfin_normal @yfin_ret))))))))))))))))
end Go.Proofs.YtncobemfpammfaaGreatDoor

namespace Go.Proofs.YtncobemfpammfaaGreatDoor.V

def dif (a b : List Sec) (i : Nat) : Bool := decide (a[i]? ≠ b[i]?)
def difN (a b : List Sec) (n : Nat) : List Nat := (List.range n).filter (dif a b)
def difs (a b : List Sec) : List Nat := difN a b a.length
def addAt (out : List Exn) (i : Nat) : List Exn := match out.getLast? with
  | some x => if x.start + x.count = (i : Int) then out.dropLast ++ [⟨x.start, x.count + 1⟩] else out ++ [⟨i, 1⟩]
  | none => [⟨i, 1⟩]
def exts (l : List Nat) : List Exn := l.foldl addAt []
def volDiff (a b : List Sec) : List Exn := exts (difs a b)
theorem difN_succ (a b : List Sec) (n : Nat) : difN a b (n + 1) = if dif a b n then difN a b n ++ [n] else difN a b n := by
  simp only [difN, List.range_succ, List.filter_append, List.filter_cons, List.filter_nil]
  cases dif a b n <;> simp
theorem addAt_snoc (pre : List Exn) (x : Exn) (i : Nat) : addAt (pre ++ [x]) i = if x.start + x.count = (i : Int) then pre ++ [⟨x.start, x.count + 1⟩] else pre ++ [x] ++ [⟨i, 1⟩] := by
  simp [addAt]
theorem exts_snoc (l : List Nat) (i : Nat) : exts (l ++ [i]) = addAt (exts l) i := by simp [exts]
theorem snoc_cases {α : Type} (l : List α) : l = [] ∨ ∃ p x, l = p ++ [x] := by
  rcases List.eq_nil_or_concat l with h | ⟨p, x, h⟩
  · exact .inl h
  · exact .inr ⟨p, x, by rw [h]; simp⟩
theorem exts_last : ∀ (n : Nat) (l : List Nat), l.length = n → ∀ i : Nat, ∃ pre x, exts (l ++ [i]) = pre ++ [x] ∧ x.start + x.count = (i : Int) + 1 ∧ 0 ≤ x.start ∧ 1 ≤ x.count ∧ pre.length ≤ l.length := by
  intro n
  induction n with
  | zero =>
    intro l hl i
    have := List.eq_nil_of_length_eq_zero hl
    subst this
    exact ⟨[], ⟨i, 1⟩, rfl, rfl, by simp, by simp, by simp⟩
  | succ n ih =>
    intro l hl i
    rcases snoc_cases l with rfl | ⟨p, j, rfl⟩
    · simp at hl
    · obtain ⟨pre, x, e, h1, h2, h3, h4⟩ := ih p (by simpa using hl) j
      rw [exts_snoc, e, addAt_snoc]
      split
      · rename_i hx
        exact ⟨pre, _, rfl, by simp; omega, h2, by simp; omega, by simp; omega⟩
      · exact ⟨pre ++ [x], _, rfl, by simp, by simp, by simp, by simp; omega⟩
theorem difN_lt {a b : List Sec} {n i : Nat} (h : i ∈ difN a b n) : i < n := by
  simp [difN] at h; exact h.1
theorem difN_len (a b : List Sec) (n : Nat) : (difN a b n).length ≤ n := by
  have := List.length_filter_le (dif a b) (List.range n); simpa [difN] using this
theorem wrap_pred {n : Nat} (h : n ≤ lim) : IntKind.i64.wrap (((n + 1 : Nat) : Int) - 1) = (n : Int) := by
  rw [i64_fits (by unfold lim at h; omega)]; omega
theorem cal81 {a b : List Sec} : cal env 81 [.list 8 (a.map eSec), .list 8 (b.map eSec)] = some [(.func 87 [.iptr [.list 8 (a.map eSec)] 0, .iptr [.list 8 (b.map eSec)] 0], false)] := by
  rw [cal_code env81 rfl]; simp only [fn81]; simp only [start, z_map_cons, z_map_nil, z_len_cons, z_len_nil, z_repl_zero, z_repl_succ, z_cons_app, z_nil_app, Nat.reduceAdd, Nat.reduceSub]
  simp only [ memAll, vAll, reduceCtorEq, Nat.reduceEqDiff, Nat.reduceAdd, Nat.reduceLT, Nat.reduceLeDiff, Nat.beq]
def yI (l : List Nat) : List (List PV) := l.map fun (i : Nat) => [PV.int .i64 (i : Int)]
theorem yI_snoc (l : List Nat) (i : Nat) : yI (l ++ [i]) = yI l ++ [[.int .i64 (i : Int)]] := by simp [yI]
theorem iter87 {a b : List Sec} (hl : a.length ≤ lim) (hab : a.length = b.length) : iter env 87 [.iptr [.list 8 (a.map eSec)] 0, .iptr [.list 8 (b.map eSec)] 0] none = some (yI (difs a b)) := by
  have loop : ∀ {st : St} (h : st.head [0, 1, 2, 6, 7] st.boxes.length = some ⟨[.yld, .pv (.iptr [.list 8 (a.map eSec)] 0), .pv (.iptr [.list 8 (b.map eSec)] 0), .any, .any, .any, .pv (.int .i64 a.length), .pv (.int .i64 (0 : Nat)), .any, .any, .any, .any, .any, .any, .any, .any, .any, .any, .any, .any, .any, .any, .any, .any, .any, .any], [], yI (difN a b 0), some none⟩),
     den env fn87_l1 st = some (.normal, ⟨[.any, .any, .any, .any, .any, .any, .any, .any, .any, .any, .any, .any, .any, .any, .any, .any, .any, .any, .any, .any, .any, .any, .any, .any, .any, .any], [], yI (difN a b a.length), some none⟩) := by
    intro st h
    unfold fn87_l1
    refine clean_up (env := env) a.length (fun i => ⟨[.yld, .pv (.iptr [.list 8 (a.map eSec)] 0), .pv (.iptr [.list 8 (b.map eSec)] 0), .any, .any, .any, .pv (.int .i64 a.length), .pv (.int .i64 i), .any, .any, .any, .any, .any, .any, .any, .any, .any, .any, .any, .any, .any, .any, .any, .any, .any, .any], [], yI (difN a b i), some none⟩) (fun _ => some (.normal, ⟨[.any, .any, .any, .any, .any, .any, .any, .any, .any, .any, .any, .any, .any, .any, .any, .any, .any, .any, .any, .any, .any, .any, .any, .any, .any, .any], [], yI (difN a b a.length), some none⟩)) h (fun _ => rfl) (fun _ => rfl) ?_ ?_
    · intro i rb hi ih
      have hi1 := i64_next hi hl
      have hj : i < b.length := by omega
      have F1 : ((i : Int) < (a.length : Int)) = True := eq_true (by omega)
      by_cases hd : a[i] = b[i]
      · simp only [fn87_b0, F1, eSec, index_nat hi, index_nat hj, List.getElem?_map, List.getElem?_eq_getElem hi, List.getElem?_eq_getElem hj, part_sec, secPV_length, eqCells_sec, hd, decide_true, memAll, vAll, reduceCtorEq, Nat.reduceEqDiff, Nat.reduceAdd, Nat.reduceLT, Nat.reduceLeDiff, Nat.beq]
        rw [ih _ (by simp only [hi1]; rw [difN_succ, if_neg (by simp [dif, List.getElem?_eq_getElem hi, List.getElem?_eq_getElem hj, hd])]; rfl)]
      · have hdd : dif a b i = true := by simp [dif, List.getElem?_eq_getElem hi, List.getElem?_eq_getElem hj, hd]
        have hdf := decide_eq_false hd
        simp only [fn87_b0, F1, eSec, index_nat hi, index_nat hj, List.getElem?_map, List.getElem?_eq_getElem hi, List.getElem?_eq_getElem hj, part_sec, secPV_length, eqCells_sec, hdf, memAll, vAll, reduceCtorEq, Nat.reduceEqDiff, Nat.reduceAdd, Nat.reduceLT, Nat.reduceLeDiff, Nat.beq]
        rw [ih _ (by simp only [hi1]; rw [difN_succ, if_pos hdd, yI_snoc]; rfl)]
    · intro rb
      simp only [fn87_b0, Int.lt_irrefl, memAll, vAll, reduceCtorEq, Nat.reduceEqDiff, Nat.reduceAdd, Nat.reduceLT, Nat.reduceLeDiff, Nat.beq]
      rfl
  rw [iter_code env87 rfl rfl]
  simp only [fn87, ystart, z_map_cons, z_map_nil, z_len_cons, z_len_nil, z_repl_zero, z_repl_succ, z_cons_app, z_nil_app, Nat.reduceAdd, Nat.reduceSub]
  simp only [ memAll, vAll, reduceCtorEq, Nat.reduceEqDiff, Nat.reduceAdd, Nat.reduceLT, Nat.reduceLeDiff, Nat.beq]
  rw [loop]
  rotate_left
  · rfl
  · rfl
def endOf (l : List Nat) : Int := match l.getLast? with
  | some i => i + 1
  | none => -1
theorem endOf_snoc (l : List Nat) (i : Nat) : endOf (l ++ [i]) = (i : Int) + 1 := by simp [endOf]
theorem sorted_take {a b : List Sec} {j : Nat} {i : Nat} (h : (difs a b)[j]? = some i) : i < a.length ∧ j ≤ i ∧ ∀ k ∈ (difs a b).take j, k < i := by
  have hs : (difs a b).Pairwise (· < ·) := (List.pairwise_lt_range (n := a.length)).filter _
  obtain ⟨hj, rfl⟩ := List.getElem?_eq_some_iff.1 h
  refine ⟨difN_lt (List.getElem_mem hj), ?_, ?_⟩
  · have : ∀ (l : List Nat), l.Pairwise (· < ·) → ∀ (j : Nat) (hj : j < l.length), j ≤ l[j] := by
      intro l
      induction l with
      | nil => intro _ j hj; simp at hj
      | cons x l ih =>
        intro hp j hj
        cases j with
        | zero => simp
        | succ j =>
          have h1 := ih (List.pairwise_cons.1 hp).2
          simp only [List.length_cons, Nat.add_lt_add_iff_right] at hj
          simp only [List.getElem_cons_succ]
          cases j with
          | zero => have := (List.pairwise_cons.1 hp).1 l[0] (List.getElem_mem hj); omega
          | succ j =>
            have h2 := h1 (j + 1) hj
            have h3 : ∀ (m : Nat) (hm : m < l.length), x + m + 1 ≤ l[m] := by
              intro m
              induction m with
              | zero => intro hm; have := (List.pairwise_cons.1 hp).1 l[0] (List.getElem_mem hm); omega
              | succ m ihm =>
                intro hm
                have := ihm (by omega)
                have h4 := List.pairwise_iff_getElem.1 (List.pairwise_cons.1 hp).2 m (m + 1) (by omega) hm (by omega)
                omega
            have := h3 (j + 1) hj
            omega
    exact this _ hs j hj
  · intro k hk
    obtain ⟨m, hm, rfl⟩ := List.mem_iff_getElem.1 hk
    rw [List.getElem_take]
    simp only [List.length_take] at hm
    exact List.pairwise_iff_getElem.1 hs m j (by omega) hj (by omega)
theorem cal64 {a b : List Sec} (hl : a.length ≤ lim) (hab : a.length = b.length) : cal env 64 [.list 8 (a.map eSec), .list 8 (b.map eSec)] = some [(.list 2 ((volDiff a b).map eExt), true)] := by
  have e1 := cal81 (a := a) (b := b)
  rw [cal_code env64 rfl]; simp only [fn64]; simp only [start, z_map_cons, z_map_nil, z_len_cons, z_len_nil, z_repl_zero, z_repl_succ, z_cons_app, z_nil_app, Nat.reduceAdd, Nat.reduceSub]
  simp only [e1, memAll, vAll, reduceCtorEq, Nat.reduceEqDiff, Nat.reduceAdd, Nat.reduceLT, Nat.reduceLeDiff, Nat.beq]
  rw [rng_idx (env := env) (fun j => [⟨false, [.row 2 ((exts ((difs a b).take j)).map eExt)]⟩, ⟨false, [.pv (.int .i64 (endOf ((difs a b).take j)))]⟩]) (xs := yI (difs a b)) rfl (iter87 hl hab) rfl ?_]
  · simp only [yI, List.length_map, List.take_length, vRng, memAll, vAll, reduceCtorEq, Nat.reduceEqDiff, Nat.reduceAdd, Nat.reduceLT, Nat.reduceLeDiff, Nat.beq]
    rfl
  · intro j x hx sl0
    simp only [yI, List.getElem?_map, Option.map_eq_some_iff] at hx
    obtain ⟨i, hi, rfl⟩ := hx
    obtain ⟨k1, k2, k3⟩ := sorted_take hi
    have hlim : lim = 1073741824 := rfl
    have hj := (List.getElem?_eq_some_iff.1 hi).1
    have ht : (difs a b).take (j + 1) = (difs a b).take j ++ [i] := by rw [List.take_add_one, hi]; rfl
    have hlen : ((difs a b).take j).length = j := by simp; omega
    rw [ht]
    rcases snoc_cases ((difs a b).take j) with h0 | ⟨p, q, h0⟩
    · have F2 : ((i : Int) == -1) = false := by simp
      have F3 : (0 + 1 ≤ lim) = True := eq_true (by omega)
      have F4 : IntKind.i64.wrap ((i : Int) + 1) = (i : Int) + 1 := i64_fits (by omega)
      have e0 : exts ([] : List Nat) = [] := rfl
      have e1 : endOf ([] : List Nat) = -1 := rfl
      have e2 : exts [i] = [⟨i, 1⟩] := rfl
      have e3 : endOf [i] = (i : Int) + 1 := rfl
      refine ⟨?_, ?_⟩
      rotate_left
      · simp only [h0, fn64_b0, fn64_b1, F2, F3, F4, e0, e1, e2, e3, eExt, List.map_nil, vRng, memAll, vAll, reduceCtorEq, Nat.reduceEqDiff, Nat.reduceAdd, Nat.reduceLT, Nat.reduceLeDiff, Nat.beq]
        rfl
    · obtain ⟨pre, ⟨s, c⟩, e0, h1, h2, h3, h4⟩ := exts_last _ p rfl q
      have hqi : q < i := k3 q (by rw [h0]; simp)
      simp only at h1 h2 h3
      have hpl : p.length + 1 = j := by rw [h0] at hlen; simpa using hlen
      have F3 := wrap_pred (n := pre.length) (by omega)
      have F4 : IntKind.i64.wrap ((i : Int) + 1) = (i : Int) + 1 := i64_fits (by omega)
      have F5 : IntKind.i64.wrap (c + 1) = c + 1 := i64_fits (by omega)
      have F6 : (pre.length + 1 + 1 ≤ lim) = True := eq_true (by omega)
      have F7 : index (.int .i64 (pre.length : Int)) (pre.length + 1) = some pre.length := index_nat (by omega)
      by_cases hc : (i : Int) = (q : Int) + 1
      · have F8 : ((i : Int) == (q : Int) + 1) = true := by simpa using hc
        have e2 : exts (p ++ [q] ++ [i]) = pre ++ [⟨s, c + 1⟩] := by rw [exts_snoc, e0, addAt_snoc, if_pos (by simp only; omega)]
        refine ⟨?_, ?_⟩
        rotate_left
        · simp only [h0, fn64_b0, fn64_b1, endOf_snoc, e0, e2, F3, F4, F5, F6, F7, F8, eExt, List.map_append, List.map_cons, List.map_nil, vRng, memAll, vAll, reduceCtorEq, Nat.reduceEqDiff, Nat.reduceAdd, Nat.reduceLT, Nat.reduceLeDiff, Nat.beq]
          rfl
      · have F8 : ((i : Int) == (q : Int) + 1) = false := by simpa using hc
        have e2 : exts (p ++ [q] ++ [i]) = pre ++ [⟨s, c⟩] ++ [⟨i, 1⟩] := by rw [exts_snoc, e0, addAt_snoc, if_neg (by simp only; omega)]
        refine ⟨?_, ?_⟩
        rotate_left
        · simp only [h0, fn64_b0, fn64_b1, endOf_snoc, e0, e2, F3, F4, F5, F6, F7, F8, eExt, List.map_append, List.map_cons, List.map_nil, vRng, memAll, vAll, reduceCtorEq, Nat.reduceEqDiff, Nat.reduceAdd, Nat.reduceLT, Nat.reduceLeDiff, Nat.beq]
          rfl
end Go.Proofs.YtncobemfpammfaaGreatDoor.V

namespace Go.Proofs.YtncobemfpammfaaGreatDoor.V
def ext (p : Nat → Bool) (n : Nat) : List Exn := exts ((List.range n).filter p)
theorem ext_zero (p : Nat → Bool) : ext p 0 = [] := rfl
theorem ext_succ (p : Nat → Bool) (n : Nat) : ext p (n + 1) = if p n then addAt (ext p n) n else ext p n := by
  unfold ext
  rw [List.range_succ, List.filter_append]
  cases h : p n
  · simp [h]
  · rw [List.filter_cons_of_pos h, List.filter_nil, exts_snoc]; rfl
theorem ext_new {p : Nat → Bool} {n : Nat} (h : n = 0 ∨ p (n - 1) = false) : addAt (ext p n) n = ext p n ++ [⟨(n : Int), 1⟩] := by
  unfold ext
  rcases snoc_cases ((List.range n).filter p) with h0 | ⟨l, j, h0⟩
  · rw [h0]; rfl
  · obtain ⟨pre, ⟨s, c⟩, e0, h1, h2, h3, h4⟩ := exts_last _ l rfl j
    have hmem : j ∈ (List.range n).filter p := by rw [h0]; simp
    obtain ⟨q1, q2⟩ := List.mem_filter.1 hmem
    have hj := List.mem_range.1 q1
    simp only at h1
    rw [h0, e0, addAt_snoc, if_neg]
    intro hh
    simp only at hh
    have : j = n - 1 := by omega
    rcases h with h | h
    · omega
    · rw [← this, q2] at h; cases h
theorem ext_false {p : Nat → Bool} {a : Nat} : ∀ k, (∀ s, a ≤ s → s < a + k → p s = false) → ext p (a + k) = ext p a
  | 0, _ => rfl
  | k + 1, h => by
    rw [← Nat.add_assoc, ext_succ, h (a + k) (by omega) (by omega), if_neg (by simp)]
    exact ext_false k fun s h1 h2 => h s h1 (by omega)
theorem ext_true {p : Nat → Bool} {a : Nat} {pre : List Exn} {s0 : Int} (h0 : ext p a = pre ++ [⟨s0, a - s0⟩]) : ∀ k, (∀ s, a ≤ s → s < a + k → p s = true) → ext p (a + k) = pre ++ [⟨s0, ((a + k : Nat) : Int) - s0⟩]
  | 0, _ => h0
  | k + 1, h => by
    rw [← Nat.add_assoc, ext_succ, h (a + k) (by omega) (by omega), if_pos rfl, ext_true h0 k fun s h1 h2 => h s h1 (by omega), addAt_snoc, if_pos (by simp only; omega)]
    congr 2
    simp only [Exn.mk.injEq, true_and]
    omega
theorem ext_begin {p : Nat → Bool} {a k : Nat} (hn : a = 0 ∨ p (a - 1) = false) (h : ∀ s, a ≤ s → s < a + (k + 1) → p s = true) : ext p (a + (k + 1)) = ext p a ++ [⟨(a : Int), ((a + (k + 1) : Nat) : Int) - a⟩] := by
  have h1 : ext p (a + 1) = ext p a ++ [⟨(a : Int), ((a + 1 : Nat) : Int) - a⟩] := by
    rw [ext_succ, h a (Nat.le_refl _) (by omega), if_pos rfl, ext_new hn]
    congr 2
    simp only [Exn.mk.injEq, true_and]
    omega
  have := ext_true (a := a + 1) h1 k fun s h2 h3 => h s (by omega) (by omega)
  rw [show a + (k + 1) = a + 1 + k by omega]
  exact this
theorem ext_congr {p q : Nat → Bool} {n : Nat} (h : ∀ s, s < n → p s = q s) : ext p n = ext q n := by
  unfold ext
  rw [List.filter_congr fun s hs => h s (List.mem_range.1 hs)]
def dep (i : Nat) (s : Nat) : List End → Int
  | [] => 0
  | x :: l => (if x.list = i ∧ x.pos ≤ s then x.step else 0) + dep i s l
def tot (i : Nat) : List End → Int
  | [] => 0
  | x :: l => (if x.list = i then x.step else 0) + tot i l
theorem dep_app (i s : Nat) : ∀ l m : List End, dep i s (l ++ m) = dep i s l + dep i s m
  | [], m => by simp [dep]
  | x :: l, m => by simp only [List.cons_append, dep, dep_app i s l m]; omega
theorem dep_all {i s : Nat} : ∀ {l : List End}, (∀ x ∈ l, x.pos ≤ s) → dep i s l = tot i l
  | [], _ => rfl
  | x :: l, h => by
    have h1 := h x (by simp)
    have ih := dep_all (i := i) (s := s) (l := l) fun y hy => h y (by simp [hy])
    simp only [dep, tot, ih, h1, and_true]
theorem dep_none {i s : Nat} : ∀ {l : List End}, (∀ x ∈ l, s < x.pos) → dep i s l = 0
  | [], _ => rfl
  | x :: l, h => by
    have h1 := h x (by simp)
    have ih := dep_none (i := i) (s := s) (l := l) fun y hy => h y (by simp [hy])
    simp only [dep, ih]
    rw [if_neg (by omega)]; rfl
theorem tot_app (i : Nat) : ∀ l m : List End, tot i (l ++ m) = tot i l + tot i m
  | [], m => by simp [tot]
  | x :: l, m => by simp only [List.cons_append, tot, tot_app i l m]; omega
def keepOf (keep : Bool → Bool → Bool) (l : List End) (s : Nat) : Bool := keep (decide (dep 0 s l > 0)) (decide (dep 1 s l > 0))
def nextSame (x : End) : List End → Bool
  | [] => false
  | y :: _ => decide (y.pos = x.pos)
def swGo (keep : Bool → Bool → Bool) : List End → Int → Int → Int → Bool → List Exn
  | [], _, _, _, _ => []
  | x :: l, d0, d1, st, ins =>
    if nextSame x l then swGo keep l (if x.list = 0 then d0 + x.step else d0) (if x.list = 1 then d1 + x.step else d1) st ins
    else
      (if !keep (decide ((if x.list = 0 then d0 + x.step else d0) > 0)) (decide ((if x.list = 1 then d1 + x.step else d1) > 0)) && ins then [⟨st, x.pos - st⟩] else []) ++
      swGo keep l (if x.list = 0 then d0 + x.step else d0) (if x.list = 1 then d1 + x.step else d1)
        (if keep (decide ((if x.list = 0 then d0 + x.step else d0) > 0)) (decide ((if x.list = 1 then d1 + x.step else d1) > 0)) && !ins then x.pos else st)
        (keep (decide ((if x.list = 0 then d0 + x.step else d0) > 0)) (decide ((if x.list = 1 then d1 + x.step else d1) > 0)))
def Asc : List End → Prop
  | [] => True
  | [_] => True
  | x :: y :: l => x.pos ≤ y.pos ∧ Asc (y :: l)
theorem Asc.tail {x : End} {l : List End} (h : Asc (x :: l)) : Asc l := by
  cases l with
  | nil => trivial
  | cons y l => exact h.2
theorem Asc.le {x : End} : ∀ {l : List End}, Asc (x :: l) → ∀ y ∈ l, x.pos ≤ y.pos
  | [], _, y, hy => by cases hy
  | z :: l, h, y, hy => by
    rcases List.mem_cons.1 hy with rfl | hy
    · exact h.1
    · exact Nat.le_trans h.1 (Asc.le h.2 y hy)
def atStart (N : Nat) : List End → Nat → Prop
  | [], a => a = N
  | x :: _, a => a = x.pos
theorem swGo_ok {keep : Bool → Bool → Bool} (hk : keep false false = false) {L : List End} {N : Nat} (hN : ∀ x ∈ L, x.pos ≤ N) (h0 : tot 0 L = 0) (h1 : tot 1 L = 0) :
    ∀ (R P : List End) (out : List Exn) (st : Int) (ins : Bool) (a : Nat), L = P ++ R → Asc R → (∀ x ∈ P, ∀ y ∈ R, x.pos ≤ y.pos) → (∀ x ∈ P, x.pos ≤ a) →
      atStart N R a → ext (keepOf keep L) a = out ++ (if ins then [⟨st, a - st⟩] else []) → (a = 0 ∨ ins = true ∨ keepOf keep L (a - 1) = false) → (R = [] → ins = false) → (a = 0 → ins = false) →
      ext (keepOf keep L) N = out ++ swGo keep R (tot 0 P) (tot 1 P) st ins
  | [], P, out, st, ins, a, hL, _, _, _, ha, he, hi, hr, _ => by
    have ha : a = N := ha
    rw [hr rfl] at he
    rw [ha] at he
    simpa [swGo] using he
  | x :: l, P, out, st, ins, a, hL, hs, hP, hPa, ha, he, hi, _, hz => by
    have ha : a = x.pos := ha
    subst ha
    have hL2 : L = (P ++ [x]) ++ l := by rw [hL]; simp
    have t0 : tot 0 (P ++ [x]) = (if x.list = 0 then tot 0 P + x.step else tot 0 P) := by
      rw [tot_app]; simp only [tot]; split <;> omega
    have t1 : tot 1 (P ++ [x]) = (if x.list = 1 then tot 1 P + x.step else tot 1 P) := by
      rw [tot_app]; simp only [tot]; split <;> omega
    have hP2 : ∀ z ∈ P ++ [x], ∀ y ∈ l, z.pos ≤ y.pos := by
      intro z hz y hy
      rcases List.mem_append.1 hz with hz | hz
      · exact hP z hz y (by simp [hy])
      · simp only [List.mem_singleton] at hz; rw [hz]; exact hs.le y hy
    have hPx : ∀ z ∈ P ++ [x], z.pos ≤ x.pos := by
      intro z hz
      rcases List.mem_append.1 hz with hz | hz
      · exact hP z hz x (by simp)
      · simp only [List.mem_singleton] at hz; rw [hz]; exact Nat.le_refl _
    unfold swGo
    rw [← t0, ← t1]
    by_cases hn : nextSame x l = true
    · rw [if_pos hn]
      cases l with
      | nil => simp [nextSame] at hn
      | cons y l =>
        have hy : y.pos = x.pos := by simpa [nextSame] using hn
        exact swGo_ok hk hN h0 h1 (y :: l) (P ++ [x]) out st ins x.pos hL2 hs.tail hP2 hPx hy.symm he hi (fun e => by cases e) hz
    · rw [if_neg hn]
      -- the next place
      obtain ⟨b, hb, hbl, hbx, hbm⟩ : ∃ b, x.pos ≤ b ∧ (∀ y ∈ l, b ≤ y.pos) ∧ (l ≠ [] → x.pos < b) ∧ atStart N l b := by
        cases l with
        | nil => exact ⟨N, hN x (by rw [hL]; simp), fun y hy => (by cases hy), fun h => absurd rfl h, rfl⟩
        | cons y l =>
          have hy : y.pos ≠ x.pos := by simpa [nextSame] using hn
          have := hs.1
          exact ⟨y.pos, hs.1, fun z hz => by
            rcases List.mem_cons.1 hz with rfl | hz
            · exact Nat.le_refl _
            · exact hs.tail.le z hz, fun _ => by omega, rfl⟩
      have hconst : ∀ s, x.pos ≤ s → s < b → keepOf keep L s = keep (decide (tot 0 (P ++ [x]) > 0)) (decide (tot 1 (P ++ [x]) > 0)) := by
        intro s hs1 hs2
        unfold keepOf
        have e : ∀ i, dep i s L = tot i (P ++ [x]) := by
          intro i
          rw [hL2, dep_app, dep_all (fun z hz => by have := hPx z hz; omega), dep_none (fun z hz => by have := hbl z hz; omega)]
          omega
        rw [e 0, e 1]
      have hlast : l = [] → keep (decide (tot 0 (P ++ [x]) > 0)) (decide (tot 1 (P ++ [x]) > 0)) = false := by
        intro hl
        have e0 : tot 0 (P ++ [x]) = 0 := by rw [← h0, hL2, hl, List.append_nil]
        have e1 : tot 1 (P ++ [x]) = 0 := by rw [← h1, hL2, hl, List.append_nil]
        rw [e0, e1]
        exact hk
      have hPb : ∀ z ∈ P ++ [x], z.pos ≤ b := fun z hz => Nat.le_trans (hPx z hz) hb
      obtain ⟨k, rfl⟩ : ∃ k, b = x.pos + k := ⟨b - x.pos, by omega⟩
      generalize keep (decide (tot 0 (P ++ [x]) > 0)) (decide (tot 1 (P ++ [x]) > 0)) = now at *
      have hprev : k ≠ 0 → keepOf keep L (x.pos + k - 1) = now := fun hk0 => hconst _ (by omega) (by omega)
      cases now with
      | false =>
        have hf := ext_false (p := keepOf keep L) (a := x.pos) k fun s q1 q2 => hconst s q1 q2
        cases ins with
        | false =>
          simp only [Bool.not_false, Bool.and_false, Bool.false_eq_true, if_false, List.nil_append, Bool.and_true, Bool.false_and, List.append_nil, if_true] at he ⊢
          refine swGo_ok hk hN h0 h1 l (P ++ [x]) out _ false (x.pos + k) hL2 hs.tail hP2 hPb hbm ?_ ?_ (fun _ => rfl) (fun _ => rfl)
          · rw [hf, he]; simp
          · by_cases hk0 : k = 0
            · subst hk0
              rcases hi with hi | hi | hi
              · exact .inl hi
              · cases hi
              · exact .inr (.inr hi)
            · exact .inr (.inr (hprev hk0))
        | true =>
          simp only [Bool.not_false, Bool.and_self, if_true, Bool.not_true, Bool.and_false, Bool.false_and, Bool.false_eq_true, if_false] at he ⊢
          rw [← List.append_assoc]
          by_cases hk0 : k = 0
          · subst hk0
            have hl : l = [] := by
              cases l with
              | nil => rfl
              | cons y l => have := hbx (by simp); omega
            subst hl
            have hb2 : x.pos + 0 = N := hbm
            simp only [swGo, List.append_nil]
            rw [← hb2]
            exact he
          · refine swGo_ok hk hN h0 h1 l (P ++ [x]) _ _ false (x.pos + k) hL2 hs.tail hP2 hPb hbm ?_ (.inr (.inr (hprev hk0))) (fun _ => rfl) (fun _ => rfl)
            rw [hf, he]; simp
      | true =>
        have hl : l ≠ [] := fun e => by have := hlast e; cases this
        have hk1 := hbx hl
        obtain ⟨j, rfl⟩ : ∃ j, k = j + 1 := ⟨k - 1, by omega⟩
        cases ins with
        | false =>
          simp only [Bool.not_true, Bool.false_and, Bool.false_eq_true, if_false, List.nil_append, Bool.not_false, Bool.and_self, if_true, List.append_nil] at he ⊢
          refine swGo_ok hk hN h0 h1 l (P ++ [x]) out _ true (x.pos + (j + 1)) hL2 hs.tail hP2 hPb hbm ?_ (.inr (.inl rfl)) (fun e => absurd e hl) (fun e => by omega)
          have hi2 : x.pos = 0 ∨ keepOf keep L (x.pos - 1) = false := by
            rcases hi with hi | hi | hi
            · exact .inl hi
            · cases hi
            · exact .inr hi
          rw [ext_begin hi2 fun s q1 q2 => hconst s q1 q2, he]
          simp
        | true =>
          simp only [Bool.not_true, Bool.false_and, Bool.false_eq_true, if_false, List.nil_append, Bool.and_false, if_true] at he ⊢
          refine swGo_ok hk hN h0 h1 l (P ++ [x]) out st true (x.pos + (j + 1)) hL2 hs.tail hP2 hPb hbm ?_ (.inr (.inl rfl)) (fun e => absurd e hl) (fun e => by omega)
          rw [ext_true he (j + 1) fun s q1 q2 => hconst s q1 q2]
          simp
theorem sweep_ok {keep : Bool → Bool → Bool} (hk : keep false false = false) {L : List End} {N : Nat} (hs : Asc L) (hN : ∀ x ∈ L, x.pos ≤ N) (h0 : tot 0 L = 0) (h1 : tot 1 L = 0) :
    swGo keep L 0 0 0 false = ext (keepOf keep L) N := by
  cases L with
  | nil =>
    have : ext (keepOf keep ([] : List End)) (0 + N) = ext (keepOf keep []) 0 := ext_false N fun s _ _ => hk
    rw [Nat.zero_add] at this
    rw [this]; rfl
  | cons x l =>
    have hb : ext (keepOf keep (x :: l)) (0 + x.pos) = ext (keepOf keep (x :: l)) 0 := ext_false x.pos fun s _ h2 => by
      unfold keepOf
      have e : ∀ i, dep i s (x :: l) = 0 := fun i => dep_none fun y hy => by
        rcases List.mem_cons.1 hy with rfl | hy
        · omega
        · have := hs.le y hy; omega
      rw [e 0, e 1]
      exact hk
    rw [Nat.zero_add] at hb
    have := swGo_ok hk hN h0 h1 (x :: l) [] [] 0 false x.pos rfl hs (fun z hz => by cases hz) (fun z hz => by cases hz) rfl (by rw [hb]; rfl) (by
      by_cases h : x.pos = 0
      · exact .inl h
      · refine .inr (.inr ?_)
        unfold keepOf
        have e : ∀ i, dep i (x.pos - 1) (x :: l) = 0 := fun i => dep_none fun y hy => by
          rcases List.mem_cons.1 hy with rfl | hy
          · omega
          · have := hs.le y hy; omega
        rw [e 0, e 1]
        exact hk) (fun e => by cases e) (fun _ => rfl)
    rw [this]; rfl
end Go.Proofs.YtncobemfpammfaaGreatDoor.V

namespace Go.Proofs.YtncobemfpammfaaGreatDoor.V
abbrev Wd := BitVec 64
structure Bm where
  size : Int
  ws : List Wd
  deriving DecidableEq
def eW (w : Wd) : PV := .int .u64 (w.toNat : Int)
def eBm (b : Bm) : PV := .agg [.int .i64 b.size, .list 1 (b.ws.map eW)]
def bit (ws : List Wd) (i : Nat) : Bool := (ws.getD (i / 64) 0).getLsbD (i % 64)
theorem bit_at {ws : List Wd} {k : Nat} (h : k < ws.length) {j : Nat} (hj : j < 64) : bit ws (64 * k + j) = ws[k].getLsbD j := by
  unfold bit
  have e1 : (64 * k + j) / 64 = k := by omega
  have e2 : (64 * k + j) % 64 = j := by omega
  rw [e1, e2]; simp [h]
theorem bit_of {ws : List Wd} {i : Nat} (h : i / 64 < ws.length) : bit ws i = ws[i / 64].getLsbD (i % 64) := by
  unfold bit; simp [h]
theorem bit_out {ws : List Wd} {i : Nat} (h : 64 * ws.length ≤ i) : bit ws i = false := by
  unfold bit
  have : ws.length ≤ i / 64 := by omega
  rw [List.getD_eq_getElem?_getD, List.getElem?_eq_none this]; simp
theorem w_of (w : Wd) : BitVec.ofInt 64 (w.toNat : Int) = w := by
  apply BitVec.eq_of_toNat_eq
  have := w.isLt
  rw [BitVec.toNat_ofInt]
  omega
theorem u64_wrap (n : Int) : IntKind.u64.wrap n = n % 2 ^ 64 := by
  simp only [IntKind.wrap, IntKind.bits, IntKind.signed, Bool.false_and, Bool.false_eq_true, if_false]
theorem w_wrap (w : Wd) : IntKind.u64.wrap (w.toNat : Int) = (w.toNat : Int) := by
  have := w.isLt
  simp only [IntKind.wrap, IntKind.bits, IntKind.signed, Bool.false_and, Bool.false_eq_true, if_false]
  omega
theorem w_or (a b : Wd) : IntKind.u64.wrap ((BitVec.ofInt IntKind.u64.bits (a.toNat : Int) ||| BitVec.ofInt IntKind.u64.bits (b.toNat : Int)).toNat : Int) = ((a ||| b).toNat : Int) := by
  show IntKind.u64.wrap ((BitVec.ofInt 64 (a.toNat : Int) ||| BitVec.ofInt 64 (b.toNat : Int)).toNat : Int) = _
  rw [w_of, w_of, w_wrap]
theorem w_and (a b : Wd) : IntKind.u64.wrap ((BitVec.ofInt IntKind.u64.bits (a.toNat : Int) &&& BitVec.ofInt IntKind.u64.bits (b.toNat : Int)).toNat : Int) = ((a &&& b).toNat : Int) := by
  show IntKind.u64.wrap ((BitVec.ofInt 64 (a.toNat : Int) &&& BitVec.ofInt 64 (b.toNat : Int)).toNat : Int) = _
  rw [w_of, w_of, w_wrap]
theorem w_shr (w : Wd) {s : Int} {n : Nat} (hs : s = (n : Int)) : (w.toNat : Int).fdiv (2 ^ (min s.toNat IntKind.u64.bits)) = ((w >>> n).toNat : Int) := by
  subst hs
  rw [BitVec.toNat_ushiftRight, Nat.shiftRight_eq_div_pow, Int.toNat_natCast]
  have hw := w.isLt
  show (w.toNat : Int).fdiv (2 ^ (min n 64)) = _
  by_cases h : n ≤ 64
  · have h2 : (0 : Int) ≤ 2 ^ n := by have := Int.natCast_nonneg (2 ^ n); push_cast at this; exact this
    rw [Nat.min_eq_left h, Int.fdiv_eq_ediv_of_nonneg _ h2]
    push_cast
    rfl
  · rw [Nat.min_eq_right (by omega), Int.fdiv_eq_ediv_of_nonneg _ (by decide)]
    have h1 : w.toNat / 2 ^ n = 0 := Nat.div_eq_of_lt (Nat.lt_of_lt_of_le hw (Nat.pow_le_pow_right (by decide) (by omega)))
    rw [h1]
    omega
theorem w_shl (w : Wd) {s : Int} {n : Nat} (hs : s = (n : Int)) : IntKind.u64.wrap ((w.toNat : Int) * 2 ^ (min s.toNat IntKind.u64.bits)) = ((w <<< n).toNat : Int) := by
  subst hs
  rw [BitVec.toNat_shiftLeft, Nat.shiftLeft_eq, Int.toNat_natCast]
  have hw := w.isLt
  rw [u64_wrap]
  show ((w.toNat : Int) * 2 ^ (min n 64)) % 2 ^ 64 = _
  by_cases h : n ≤ 64
  · have e2 : ((2 ^ n : Nat) : Int) = 2 ^ n := by push_cast; rfl
    have e3 : ((2 ^ 64 : Nat) : Int) = 2 ^ 64 := by decide
    rw [Nat.min_eq_left h, Int.natCast_emod, Int.natCast_mul, e2, e3]
  · rw [Nat.min_eq_right (by omega)]
    have e : 2 ^ n = 2 ^ 64 * 2 ^ (n - 64) := by rw [← Nat.pow_add]; congr 1; omega
    have : w.toNat * 2 ^ n % 2 ^ 64 = 0 := by
      rw [e, Nat.mul_left_comm]; exact Nat.mul_mod_right _ _
    rw [this]
    exact Int.mul_emod_left _ _
theorem w_sub (a b : Wd) : IntKind.u64.wrap ((a.toNat : Int) - (b.toNat : Int)) = ((a - b).toNat : Int) := by
  have h1 := a.isLt
  have h2 := b.isLt
  simp only [IntKind.wrap, IntKind.bits, IntKind.signed, Bool.false_and, Bool.false_eq_true, if_false]
  rw [BitVec.toNat_sub]
  omega
theorem w_beq (a b : Wd) : ((a.toNat : Int) == (b.toNat : Int)) = decide (a = b) := by
  by_cases h : a = b
  · subst h; simp
  · have : a.toNat ≠ b.toNat := fun e => h (BitVec.eq_of_toNat_eq e)
    simp [h]; omega

/-! Masks. -/
def maskW (k : Nat) (a b : Int) : Wd :=
  if max (a - 64 * (k : Int)) 0 ≥ min (b - 64 * (k : Int)) 64 then 0
  else (BitVec.allOnes 64 >>> (64 - (min (b - 64 * (k : Int)) 64 - max (a - 64 * (k : Int)) 0)).toNat) <<< (max (a - 64 * (k : Int)) 0).toNat
theorem mask_bit (k : Nat) (a b : Int) {j : Nat} (hj : j < 64) : (maskW k a b).getLsbD j = decide (a ≤ 64 * (k : Int) + j ∧ 64 * (k : Int) + j < b) := by
  unfold maskW
  split
  · rename_i h
    rw [show (0 : Wd).getLsbD j = false by simp]
    symm
    apply decide_eq_false
    omega
  · rename_i h
    rw [BitVec.getLsbD_shiftLeft, BitVec.getLsbD_ushiftRight, BitVec.getLsbD_allOnes]
    rw [Bool.eq_iff_iff]
    simp only [Bool.and_eq_true, decide_eq_true_eq, Bool.not_eq_true', decide_eq_false_iff_not]
    omega
def bitsOf (w : Wd) : List Nat := (List.range 64).filter fun j => w.getLsbD j
theorem bits_zero : bitsOf 0 = [] := by
  unfold bitsOf
  rw [List.filter_eq_nil_iff]
  intro j _
  simp
theorem ctz_low {w : Wd} (h : w ≠ 0) : Lib.ctz 64 w.toNat < 64 ∧ (∀ j, j < Lib.ctz 64 w.toNat → w.getLsbD j = false) ∧ w.getLsbD (Lib.ctz 64 w.toNat) = true ∧ ∀ j, j < 64 → (w &&& (w - 1)).getLsbD j = (w.getLsbD j && decide (j ≠ Lib.ctz 64 w.toNat)) := by
  have h0 : 0 < w.toNat := by
    rcases Nat.eq_zero_or_pos w.toNat with e | e
    · exact absurd (BitVec.eq_of_toNat_eq (by simpa using e)) h
    · exact e
  have hl : Lib.ctz 64 w.toNat = Lib.ctzFrom 64 w.toNat := by unfold Lib.ctz; rw [if_neg (by omega)]
  rw [hl]
  obtain ⟨m, h1, h2⟩ := Lib.ctzFrom_spec 64 w.toNat h0 w.isLt
  generalize Lib.ctzFrom 64 w.toNat = c at h1 h2
  have hbit : ∀ j, w.getLsbD j = if j < c then false else (2 * m + 1).testBit (j - c) := fun j => by
    rw [← BitVec.testBit_toNat, h1, Nat.testBit_two_pow_mul]
    by_cases hc : j < c
    · rw [if_pos hc, decide_eq_false (by omega), Bool.false_and]
    · rw [if_neg hc, decide_eq_true (by omega), Bool.true_and]
  have hsub : (w - 1).toNat = 2 ^ c * (2 * m) + (2 ^ c - 1) := by
    have hp : 0 < 2 ^ c := Nat.pow_pos (by decide)
    rw [BitVec.toNat_sub]
    have := w.isLt
    have e1 : (1 : Wd).toNat = 1 := rfl
    rw [e1, show 2 ^ 64 - 1 + w.toNat = (w.toNat - 1) + 2 ^ 64 by omega, Nat.add_mod_right, Nat.mod_eq_of_lt (by omega), h1, Nat.mul_add, Nat.mul_one]
    omega
  have hbit2 : ∀ j, (w - 1).getLsbD j = if j < c then true else (2 * m).testBit (j - c) := fun j => by
    rw [← BitVec.testBit_toNat, hsub]
    have hp : 2 ^ c - 1 < 2 ^ c := by have : 0 < 2 ^ c := Nat.pow_pos (by decide); omega
    by_cases hc : j < c
    · rw [if_pos hc, Nat.testBit_two_pow_mul_add _ hp, if_pos hc, Nat.testBit_two_pow_sub_one]
      simp [hc]
    · rw [if_neg hc, Nat.testBit_two_pow_mul_add _ hp, if_neg hc]
  refine ⟨h2, fun j hj => by rw [hbit, if_pos hj], by rw [hbit, if_neg (Nat.lt_irrefl _), Nat.sub_self]; simp, fun j hj => ?_⟩
  rw [BitVec.getLsbD_and, hbit, hbit2]
  by_cases hc : j < c
  · simp [hc]
  · rw [if_neg hc, if_neg hc]
    by_cases he : j = c
    · subst he; simp
    · obtain ⟨d, hd⟩ : ∃ d, j - c = d + 1 := ⟨j - c - 1, by omega⟩
      rw [hd, Nat.testBit_succ, Nat.testBit_succ, show (2 * m + 1) / 2 = m by omega, show 2 * m / 2 = m by omega]
      simp [he]
theorem filter_first {p q : Nat → Bool} {c n : Nat} (hc : c < n) (hlow : ∀ j, j < c → p j = false) (hp : p c = true) (hq : ∀ j, j < n → q j = (p j && decide (j ≠ c))) : (List.range n).filter p = c :: (List.range n).filter q := by
  have e : List.range n = List.range c ++ (c :: (List.range (n - c - 1)).map (c + 1 + ·)) := by
    apply List.ext_getElem
    · simp; omega
    · intro i h1 h2
      simp only [List.length_range] at h1
      rw [List.getElem_range, List.getElem_append]
      split
      · simp
      · rename_i h
        simp only [List.length_range] at h ⊢
        obtain ⟨d, hd⟩ : ∃ d, i = c + d := ⟨i - c, by omega⟩
        subst hd
        cases d with
        | zero => simp
        | succ d => simp [show c + (d + 1) - c = d + 1 by omega]; omega
  have hq' : ∀ j, j ∈ List.range n → q j = (p j && decide (j ≠ c)) := fun j hj => hq j (List.mem_range.1 hj)
  rw [List.filter_congr hq', e, List.filter_append, List.filter_append]
  have h1 : (List.range c).filter p = [] := by
    rw [List.filter_eq_nil_iff]; intro j hj; rw [hlow j (List.mem_range.1 hj)]; simp
  have h2 : (List.range c).filter (fun j => p j && decide (j ≠ c)) = [] := by
    rw [List.filter_eq_nil_iff]; intro j hj; rw [hlow j (List.mem_range.1 hj)]; simp
  rw [h1, h2, List.nil_append, List.nil_append, List.filter_cons_of_pos hp, List.filter_cons_of_neg (by simp)]
  congr 1
  apply List.filter_congr
  intro j hj
  obtain ⟨d, _, rfl⟩ := List.mem_map.1 hj
  simp; omega
theorem bits_cons {w : Wd} (h : w ≠ 0) : bitsOf w = Lib.ctz 64 w.toNat :: bitsOf (w &&& (w - 1)) := by
  obtain ⟨h1, h2, h3, h4⟩ := ctz_low h
  exact filter_first h1 h2 h3 h4
def elemsW (ws : List Wd) (a b : Int) : List Nat := (List.range (64 * ws.length)).filter fun (i : Nat) => bit ws i && decide (a ≤ (i : Int) ∧ (i : Int) < b)
theorem range_add (n m : Nat) : List.range (n + m) = List.range n ++ (List.range m).map (n + ·) := List.range_add
theorem elems_take {ws : List Wd} {k : Nat} (h : k < ws.length) (a b : Int) : (List.range (64 * (k + 1))).filter (fun (i : Nat) => bit ws i && decide (a ≤ (i : Int) ∧ (i : Int) < b))
    = (List.range (64 * k)).filter (fun (i : Nat) => bit ws i && decide (a ≤ (i : Int) ∧ (i : Int) < b)) ++ (bitsOf (ws[k] &&& maskW k a b)).map (64 * k + ·) := by
  rw [show 64 * (k + 1) = 64 * k + 64 by omega, List.range_add, List.filter_append, List.filter_map]
  congr 2
  unfold bitsOf
  apply List.filter_congr
  intro j hj
  have hj := List.mem_range.1 hj
  rw [BitVec.getLsbD_and, mask_bit k a b hj]
  show (bit ws (64 * k + j) && _) = _
  rw [bit_at h hj]
  push_cast
  rfl
def setW (ws : List Wd) (a b : Int) : List Wd := ws.mapIdx fun k w => w ||| maskW k a b
theorem bit_set {ws : List Wd} {a b : Int} {i : Nat} (h : i < 64 * ws.length) : bit (setW ws a b) i = (bit ws i || decide (a ≤ (i : Int) ∧ (i : Int) < b)) := by
  have hk : i / 64 < ws.length := by omega
  have hk2 : i / 64 < (setW ws a b).length := by simp [setW, hk]
  rw [bit_of hk, bit_of hk2]
  simp only [setW, List.getElem_mapIdx, BitVec.getLsbD_or]
  rw [mask_bit _ _ _ (Nat.mod_lt _ (by decide))]
  congr 2
  have : (64 * ((i / 64 : Nat) : Int)) + ((i % 64 : Nat) : Int) = (i : Int) := by omega
  rw [this]
def zipB (f : Wd → Wd → Wd) (a b : List Wd) : List Wd := List.zipWith f a b
theorem bit_zip {f : Wd → Wd → Wd} {g : Bool → Bool → Bool} (hf : ∀ x y j, j < 64 → (f x y).getLsbD j = g (x.getLsbD j) (y.getLsbD j)) {a b : List Wd} (hl : a.length = b.length) {i : Nat} (h : i < 64 * a.length) : bit (zipB f a b) i = g (bit a i) (bit b i) := by
  have hk : i / 64 < a.length := by omega
  have hk1 : i / 64 < b.length := by omega
  have hk2 : i / 64 < (zipB f a b).length := by simp [zipB]; omega
  rw [bit_of hk, bit_of hk1, bit_of hk2]
  simp only [zipB, List.getElem_zipWith]
  rw [hf _ _ _ (Nat.mod_lt _ (by decide))]

/-! Well-formed bitmaps. -/
def wdsN (n : Int) : Int := (n + 63) / 64
def okB (b : Bm) : Bool := decide (0 ≤ b.size ∧ b.size ≤ 4096 ∧ (b.ws.length : Int) = wdsN b.size) && (List.range (64 * b.ws.length)).all fun (i : Nat) => decide ((i : Int) < b.size) || !bit b.ws i
theorem okB_iff {b : Bm} : okB b = true ↔ (0 ≤ b.size ∧ b.size ≤ 4096 ∧ (b.ws.length : Int) = wdsN b.size) ∧ ∀ i : Nat, b.size ≤ (i : Int) → bit b.ws i = false := by
  unfold okB
  simp only [Bool.and_eq_true, decide_eq_true_eq, List.all_eq_true, List.mem_range, Bool.or_eq_true, Bool.not_eq_true']
  refine and_congr Iff.rfl ⟨fun h i hi => ?_, fun h i hi => ?_⟩
  · by_cases c : i < 64 * b.ws.length
    · exact (h i c).resolve_left (by omega)
    · exact bit_out (by omega)
  · by_cases c : (i : Int) < b.size
    · exact .inl c
    · exact .inr (h i (by omega))
theorem okB_size {b : Bm} (h : okB b = true) : 0 ≤ b.size ∧ b.size ≤ 4096 ∧ b.ws.length ≤ 64 ∧ b.size ≤ 64 * (b.ws.length : Int) ∧ 64 * (b.ws.length : Int) < b.size + 64 := by
  have := (okB_iff.1 h).1
  unfold wdsN at this
  omega
theorem rest_iff {b : Bm} (h : 0 ≤ b.size ∧ b.size ≤ 4096 ∧ (b.ws.length : Int) = wdsN b.size) : okB b = true ↔ (b.size % 64 = 0 ∨ ∀ (hw : b.ws.length - 1 < b.ws.length), b.ws[b.ws.length - 1] >>> (b.size % 64).toNat = 0) := by
  rw [okB_iff]
  unfold wdsN at h ⊢
  constructor
  · rintro ⟨_, h2⟩
    by_cases c : b.size % 64 = 0
    · exact .inl c
    · refine .inr fun hw => ?_
      apply BitVec.eq_of_getLsbD_eq
      intro j hj
      rw [BitVec.getLsbD_ushiftRight]
      by_cases cj : (b.size % 64).toNat + j < 64
      · rw [← bit_at hw cj, h2 _ (by omega)]; simp
      · rw [BitVec.getLsbD_of_ge _ _ (by omega)]; simp
  · intro hr
    refine ⟨by omega, fun i hi => ?_⟩
    by_cases c : i < 64 * b.ws.length
    · have hw : b.ws.length - 1 < b.ws.length := by omega
      have hk : i / 64 = b.ws.length - 1 := by omega
      rcases hr with hr | hr
      · omega
      · have := congrArg (fun w : Wd => w.getLsbD (i % 64 - (b.size % 64).toNat)) (hr hw)
        simp only [BitVec.getLsbD_ushiftRight, BitVec.getLsbD_zero] at this
        rw [show (b.size % 64).toNat + (i % 64 - (b.size % 64).toNat) = i % 64 by omega] at this
        rw [show i = 64 * (b.ws.length - 1) + i % 64 by omega, bit_at hw (Nat.mod_lt _ (by decide))]
        simpa using this
    · exact bit_out (by omega)
def bmExts (b : Bm) : List Exn := ext (bit b.ws) b.size.toNat
def bmE (b : Bm) : Int := if okB b then 0 else 3
theorem elems_ok {b : Bm} (h : okB b = true) (a : Int) (ha : a ≤ 0) : elemsW b.ws a b.size = (List.range b.size.toNat).filter (bit b.ws) := by
  unfold elemsW
  obtain ⟨h1, h2, h3, h4, h5⟩ := okB_size h
  rw [show 64 * b.ws.length = b.size.toNat + (64 * b.ws.length - b.size.toNat) by omega, List.range_add, List.filter_append]
  have e : (((List.range (64 * b.ws.length - b.size.toNat)).map (b.size.toNat + ·)).filter fun (i : Nat) => bit b.ws i && decide (a ≤ (i : Int) ∧ (i : Int) < b.size)) = [] := by
    rw [List.filter_eq_nil_iff]
    intro i hi
    obtain ⟨d, _, rfl⟩ := List.mem_map.1 hi
    rw [decide_eq_false (by omega)]; simp
  rw [e, List.append_nil]
  apply List.filter_congr
  intro i hi
  have hi := List.mem_range.1 hi
  rw [decide_eq_true (by omega), Bool.and_true]
end Go.Proofs.YtncobemfpammfaaGreatDoor.V

namespace Go.Proofs.YtncobemfpammfaaGreatDoor.V
theorem bmE_ok {b : Bm} (h : okB b = true) : bmE b = 0 := by unfold bmE; rw [if_pos h]
theorem bmE_no {b : Bm} (h : okB b = false) : bmE b = 3 := by unfold bmE; rw [if_neg (by rw [h]; exact Bool.false_ne_true)]
theorem q64 {n : Int} (h : 0 ≤ n) : (n + 64 - 1).tdiv 64 = wdsN n := by
  unfold wdsN; rw [Int.tdiv_eq_ediv_of_nonneg (by omega)]; congr 1; omega
theorem z64 : ((64 : Int) = 0) = False := eq_false (by decide)
theorem cal22 {n : Int} (h : 0 ≤ n ∧ n ≤ 4096) : cal env 22 [.int .i64 n] = some [(.int .i64 (wdsN n), false)] := by
  have W1 : IntKind.i64.wrap (n + 64) = n + 64 := i64_fits (by omega)
  have W2 : IntKind.i64.wrap (n + 64 - 1) = n + 64 - 1 := i64_fits (by omega)
  have W3 : IntKind.i64.wrap (wdsN n) = wdsN n := i64_fits (by unfold wdsN; omega)
  rw [cal_code env22 rfl]; simp only [fn22]; simp only [start, z_map_cons, z_map_nil, z_len_cons, z_len_nil, z_repl_zero, z_repl_succ, z_cons_app, z_nil_app, Nat.reduceAdd, Nat.reduceSub]
  simp only [W1, W2, q64 h.1, W3, z64, memAll, vAll, reduceCtorEq, Nat.reduceEqDiff, Nat.reduceAdd, Nat.reduceLT, Nat.reduceLeDiff, Nat.beq]
theorem cal48 {b : Bm} : cal env 48 [eBm b] = some [(.int .i64 (bmE b), false)] := by
  unfold eBm
  have P : ∀ x y : PV, part [x, y] 0 (some 2) = some (.agg [x, y]) := fun _ _ => rfl
  by_cases c0 : b.size < 0
  · have hE : bmE b = 3 := bmE_no (by rw [Bool.eq_false_iff]; intro h; have := okB_size h; omega)
    rw [hE]
    rw [cal_code env48 rfl]; simp only [fn48]; simp only [start, z_map_cons, z_map_nil, z_len_cons, z_len_nil, z_repl_zero, z_repl_succ, z_cons_app, z_nil_app, Nat.reduceAdd, Nat.reduceSub]
    simp only [c0, P, memAll, vAll, reduceCtorEq, Nat.reduceEqDiff, Nat.reduceAdd, Nat.reduceLT, Nat.reduceLeDiff, Nat.beq]
  · by_cases c1 : b.size > 4096
    · have hE : bmE b = 3 := bmE_no (by rw [Bool.eq_false_iff]; intro h; have := okB_size h; omega)
      rw [hE]
      have F1 : (b.size > 4096) = True := eq_true c1
      rw [cal_code env48 rfl]; simp only [fn48]; simp only [start, z_map_cons, z_map_nil, z_len_cons, z_len_nil, z_repl_zero, z_repl_succ, z_cons_app, z_nil_app, Nat.reduceAdd, Nat.reduceSub]
      simp only [c0, F1, P, memAll, vAll, reduceCtorEq, Nat.reduceEqDiff, Nat.reduceAdd, Nat.reduceLT, Nat.reduceLeDiff, Nat.beq]
    · have F1 : (b.size > 4096) = False := eq_false c1
      have e1 := cal22 (n := b.size) (by omega)
      by_cases c2 : (b.ws.length : Int) = wdsN b.size
      · have F2 : ((b.ws.length : Int) != wdsN b.size) = false := by simp [c2]
        have hr := rest_iff (b := b) ⟨by omega, by omega, c2⟩
        have hw := c2
        unfold wdsN at hw
        have M : b.size.tmod 64 = b.size % 64 := Int.tmod_eq_emod_of_nonneg (by omega)
        by_cases c3 : b.size % 64 = 0
        · have hE : bmE b = 0 := bmE_ok (hr.2 (.inl c3))
          rw [hE]
          have F3 : (b.size % 64 > 0) = False := eq_false (by omega)
          rw [cal_code env48 rfl]; simp only [fn48]; simp only [start, z_map_cons, z_map_nil, z_len_cons, z_len_nil, z_repl_zero, z_repl_succ, z_cons_app, z_nil_app, Nat.reduceAdd, Nat.reduceSub]
          simp only [c0, F1, F2, F3, M, e1, z64, P, memAll, vAll, reduceCtorEq, Nat.reduceEqDiff, Nat.reduceAdd, Nat.reduceLT, Nat.reduceLeDiff, Nat.beq]
        · have F3 : (b.size % 64 > 0) = True := eq_true (by omega)
          have hi : b.ws.length - 1 < b.ws.length := by omega
          have W : IntKind.i64.wrap ((b.ws.length : Int) - 1) = ((b.ws.length - 1 : Nat) : Int) := by rw [i64_fits (by omega)]; omega
          have S0 : (b.size % 64 < 0) = False := eq_false (by omega)
          have S := w_shr b.ws[b.ws.length - 1] (s := b.size % 64) (n := (b.size % 64).toNat) (by omega)
          have B := w_beq (b.ws[b.ws.length - 1] >>> (b.size % 64).toNat) 0
          have B0 : ((0 : Wd).toNat : Int) = 0 := rfl
          rw [B0] at B
          have B' : (((b.ws[b.ws.length - 1] >>> (b.size % 64).toNat).toNat : Int) != 0) = !decide (b.ws[b.ws.length - 1] >>> (b.size % 64).toNat = 0) := by unfold bne; rw [B]
          by_cases c4 : b.ws[b.ws.length - 1] >>> (b.size % 64).toNat = 0
          · have hE : bmE b = 0 := bmE_ok (hr.2 (.inr fun _ => c4))
            rw [hE]
            rw [decide_eq_true c4] at B'
            rw [cal_code env48 rfl]; simp only [fn48]; simp only [start, z_map_cons, z_map_nil, z_len_cons, z_len_nil, z_repl_zero, z_repl_succ, z_cons_app, z_nil_app, Nat.reduceAdd, Nat.reduceSub]
            simp only [c0, F1, F2, F3, M, e1, z64, P, W, S0, S, B', index_nat hi, eW, List.getElem?_map, List.getElem?_eq_getElem hi, memAll, vAll, reduceCtorEq, Nat.reduceEqDiff, Nat.reduceAdd, Nat.reduceLT, Nat.reduceLeDiff, Nat.beq]
          · have hE : bmE b = 3 := bmE_no (by
              rw [Bool.eq_false_iff]; intro h
              rcases hr.1 h with h | h
              · exact c3 h
              · exact c4 (h hi))
            rw [hE]
            rw [decide_eq_false c4] at B'
            rw [cal_code env48 rfl]; simp only [fn48]; simp only [start, z_map_cons, z_map_nil, z_len_cons, z_len_nil, z_repl_zero, z_repl_succ, z_cons_app, z_nil_app, Nat.reduceAdd, Nat.reduceSub]
            simp only [c0, F1, F2, F3, M, e1, z64, P, W, S0, S, B', index_nat hi, eW, List.getElem?_map, List.getElem?_eq_getElem hi, memAll, vAll, reduceCtorEq, Nat.reduceEqDiff, Nat.reduceAdd, Nat.reduceLT, Nat.reduceLeDiff, Nat.beq]
      · have F2 : ((b.ws.length : Int) != wdsN b.size) = true := by simp [c2]
        have hE : bmE b = 3 := bmE_no (by rw [Bool.eq_false_iff]; intro h; exact c2 (okB_iff.1 h).1.2.2)
        rw [hE]
        rw [cal_code env48 rfl]; simp only [fn48]; simp only [start, z_map_cons, z_map_nil, z_len_cons, z_len_nil, z_repl_zero, z_repl_succ, z_cons_app, z_nil_app, Nat.reduceAdd, Nat.reduceSub]
        simp only [c0, F1, F2, e1, P, memAll, vAll, reduceCtorEq, Nat.reduceEqDiff, Nat.reduceAdd, Nat.reduceLT, Nat.reduceLeDiff, Nat.beq]
theorem cal51 {k : Nat} {a b : Int} (hk : k ≤ 100000) (ha : -1000000 ≤ a ∧ a ≤ 1000000) (hb' : -1000000 ≤ b ∧ b ≤ 1000000) : cal env 51 [.int .i64 (k : Nat), .int .i64 a, .int .i64 b] = some [(eW (maskW k a b), false)] := by
  have W0 : IntKind.i64.wrap ((k : Int) * 64) = 64 * (k : Int) := by rw [i64_fits (by omega)]; omega
  have W1 : IntKind.i64.wrap (a - 64 * (k : Int)) = a - 64 * (k : Int) := i64_fits (by omega)
  have W2 : IntKind.i64.wrap (b - 64 * (k : Int)) = b - 64 * (k : Int) := i64_fits (by omega)
  have X1 : (if a - 64 * (k : Int) < 0 then 0 else a - 64 * (k : Int)) = max (a - 64 * (k : Int)) 0 := by split <;> omega
  have X2 : (if 64 < b - 64 * (k : Int) then 64 else b - 64 * (k : Int)) = min (b - 64 * (k : Int)) 64 := by split <;> omega
  unfold maskW eW
  generalize hf : max (a - 64 * (k : Int)) 0 = f at X1 ⊢
  generalize ht : min (b - 64 * (k : Int)) 64 = t at X2 ⊢
  by_cases c : f ≥ t
  · have F1 : (f ≥ t) = True := eq_true c
    rw [if_pos c]
    have B0 : ((0 : Wd).toNat : Int) = 0 := rfl
    rw [B0]
    rw [cal_code env51 rfl]; simp only [fn51]; simp only [start, z_map_cons, z_map_nil, z_len_cons, z_len_nil, z_repl_zero, z_repl_succ, z_cons_app, z_nil_app, Nat.reduceAdd, Nat.reduceSub]
    simp only [W0, W1, W2, X1, X2, F1, memAll, vAll, reduceCtorEq, Nat.reduceEqDiff, Nat.reduceAdd, Nat.reduceLT, Nat.reduceLeDiff, Nat.beq]
  · have F1 : (f ≥ t) = False := eq_false c
    rw [if_neg c]
    have W3 : IntKind.i64.wrap (t - f) = t - f := i64_fits (by omega)
    have W4 : IntKind.i64.wrap (64 - (t - f)) = 64 - (t - f) := i64_fits (by omega)
    have A : (18446744073709551615 : Int) = ((BitVec.allOnes 64).toNat : Int) := rfl
    have S0 : (64 - (t - f) < 0) = False := eq_false (by omega)
    have S1 : (f < 0) = False := eq_false (by omega)
    have S2 := w_shr (BitVec.allOnes 64) (s := 64 - (t - f)) (n := (64 - (t - f)).toNat) (by omega)
    have S3 := w_shl (BitVec.allOnes 64 >>> (64 - (t - f)).toNat) (s := f) (n := f.toNat) (by omega)
    rw [← A] at S2
    rw [cal_code env51 rfl]; simp only [fn51]; simp only [start, z_map_cons, z_map_nil, z_len_cons, z_len_nil, z_repl_zero, z_repl_succ, z_cons_app, z_nil_app, Nat.reduceAdd, Nat.reduceSub]
    simp only [W0, W1, W2, W3, W4, X1, X2, F1, S0, S1, S2, S3, memAll, vAll, reduceCtorEq, Nat.reduceEqDiff, Nat.reduceAdd, Nat.reduceLT, Nat.reduceLeDiff, Nat.beq]
end Go.Proofs.YtncobemfpammfaaGreatDoor.V

namespace Go.Proofs.YtncobemfpammfaaGreatDoor.V
def eB2 (b : Bm) : List PV := [.int .i64 b.size, .list 1 (b.ws.map eW)]
def tz (w : Wd) : Nat := Lib.ctz 64 w.toNat
theorem cal77 {w : Wd} : cal env 77 [.int .u64 (w.toNat : Int)] = some [(.int .i64 (tz w : Nat), false)] := by
  rw [cal_ext env77]
  have := w.isLt
  have e : tzX [.int .u64 (w.toNat : Int)] = if (0 : Int) ≤ (w.toNat : Int) ∧ (w.toNat : Int) < 18446744073709551616 then some [(.int .i64 (Lib.ctz 64 (w.toNat : Int).toNat : Nat), false)] else none := rfl
  rw [e, if_pos (by omega), Int.toNat_natCast]
  rfl
theorem loop76 {b : Bm} {a : Int} {k : Nat} {w0 : Wd} {ys0 : List (List PV)} (hk : k ≤ 100000)
   {st : St} (h : st.head [0, 1, 2, 4, 5, 10, 11, 12] st.boxes.length = some ⟨[.yld, .pv (.iptr (eB2 b) 0), .pv (.iptr [.int .i64 a] 0), .any, .pv (.int .i64 (k : Nat)), .pv (eW w0), .any, .any, .any, .any, .pv (.list 1 (b.ws.map eW)), .pv (.int .i64 b.ws.length), .pv (.int .i64 (k : Nat)), .any, .any, .any, .any, .any, .any, .any, .any, .any, .any, .any, .any, .any, .any, .any, .any, .any, .any, .any, .any, .any, .any, .any, .any, .any, .any], [], ys0, some none⟩) :
   den env fn76_l1 st = some (.normal, ⟨[.yld, .pv (.iptr (eB2 b) 0), .pv (.iptr [.int .i64 a] 0), .any, .any, .any, .any, .any, .any, .any, .pv (.list 1 (b.ws.map eW)), .pv (.int .i64 b.ws.length), .pv (.int .i64 (k : Nat)), .any, .any, .any, .any, .any, .any, .any, .any, .any, .any, .any, .any, .any, .any, .any, .any, .any, .any, .any, .any, .any, .any, .any, .any, .any, .any], [], ys0 ++ yI ((bitsOf w0).map (64 * k + ·)), some none⟩) := by
  unfold fn76_l1
  refine clean_rec (env := env) (fun p : Wd × List (List PV) => ⟨[.yld, .pv (.iptr (eB2 b) 0), .pv (.iptr [.int .i64 a] 0), .any, .pv (.int .i64 (k : Nat)), .pv (eW p.1), .any, .any, .any, .any, .pv (.list 1 (b.ws.map eW)), .pv (.int .i64 b.ws.length), .pv (.int .i64 (k : Nat)), .any, .any, .any, .any, .any, .any, .any, .any, .any, .any, .any, .any, .any, .any, .any, .any, .any, .any, .any, .any, .any, .any, .any, .any, .any, .any], [], p.2, some none⟩)
    (fun p => some (.normal, ⟨[.yld, .pv (.iptr (eB2 b) 0), .pv (.iptr [.int .i64 a] 0), .any, .any, .any, .any, .any, .any, .any, .pv (.list 1 (b.ws.map eW)), .pv (.int .i64 b.ws.length), .pv (.int .i64 (k : Nat)), .any, .any, .any, .any, .any, .any, .any, .any, .any, .any, .any, .any, .any, .any, .any, .any, .any, .any, .any, .any, .any, .any, .any, .any, .any, .any], [], p.2 ++ yI ((bitsOf p.1).map (64 * k + ·)), some none⟩)) (fun _ => True) (fun p => (bitsOf p.1).length) (w0, ys0) h trivial (fun _ => rfl) (fun _ => rfl) ?_
  rintro ⟨w, ys⟩ rb _ ih
  simp only [eW] at ih ⊢
  have B := w_beq w 0
  have B0 : ((0 : Wd).toNat : Int) = 0 := rfl
  rw [B0] at B
  have B' : ((w.toNat : Int) != 0) = !decide (w = 0) := by unfold bne; rw [B]
  by_cases c : w = 0
  · rw [decide_eq_true c] at B'
    subst c
    simp only [fn76_b0, B', bits_zero, List.map_nil, memAll, vAll, reduceCtorEq, Nat.reduceEqDiff, Nat.reduceAdd, Nat.reduceLT, Nat.reduceLeDiff, Nat.beq]
    simp only [yI, List.map_nil, List.append_nil]
    rfl
  · rw [decide_eq_false c] at B'
    have e1 := cal77 (w := w)
    have ht := (ctz_low c).1
    have W0 : IntKind.i64.wrap ((k : Int) * 64) = 64 * (k : Int) := by rw [i64_fits (by omega)]; omega
    have W1 : IntKind.i64.wrap (64 * (k : Int) + ((tz w : Nat) : Int)) = ((64 * k + tz w : Nat) : Int) := by unfold tz; rw [i64_fits (by omega)]; omega
    have W2 := w_sub w 1
    have W3 := w_and w (w - 1)
    have B1 : ((1 : Wd).toNat : Int) = 1 := rfl
    rw [B1] at W2
    have hc := bits_cons c
    simp only [fn76_b0, B', e1, W0, W1, W2, W3, memAll, vAll, reduceCtorEq, Nat.reduceEqDiff, Nat.reduceAdd, Nat.reduceLT, Nat.reduceLeDiff, Nat.beq]
    rw [ih (w &&& (w - 1), ys ++ [[.int .i64 ((64 * k + tz w : Nat) : Int)]]) (by simp only; rw [hc, List.length_cons]; omega) trivial _ rfl]
    rw [hc]
    simp only [yI, List.map_cons, List.append_assoc, List.cons_append, List.nil_append]
    rfl
theorem loop76b {b : Bm} {a : Int} (hb : b.ws.length ≤ 64) (hs : 0 ≤ b.size ∧ b.size ≤ 4096) (ha : -1000000 ≤ a ∧ a ≤ 1000000)
   {st : St} (h : st.head [0, 1, 2, 10, 11, 12] st.boxes.length = some ⟨[.yld, .pv (.iptr (eB2 b) 0), .pv (.iptr [.int .i64 a] 0), .any, .any, .any, .any, .any, .any, .any, .pv (.list 1 (b.ws.map eW)), .pv (.int .i64 b.ws.length), .pv (.int .i64 (0 : Nat)), .any, .any, .any, .any, .any, .any, .any, .any, .any, .any, .any, .any, .any, .any, .any, .any, .any, .any, .any, .any, .any, .any, .any, .any, .any, .any], [], [], some none⟩) :
   den env fn76_l3 st = some (.normal, ⟨[.any, .any, .any, .any, .any, .any, .any, .any, .any, .any, .any, .any, .any, .any, .any, .any, .any, .any, .any, .any, .any, .any, .any, .any, .any, .any, .any, .any, .any, .any, .any, .any, .any, .any, .any, .any, .any, .any, .any], [], yI (elemsW b.ws a b.size), some none⟩) := by
  unfold fn76_l3
  refine clean_up (env := env) b.ws.length (fun k => ⟨[.yld, .pv (.iptr (eB2 b) 0), .pv (.iptr [.int .i64 a] 0), .any, .any, .any, .any, .any, .any, .any, .pv (.list 1 (b.ws.map eW)), .pv (.int .i64 b.ws.length), .pv (.int .i64 k), .any, .any, .any, .any, .any, .any, .any, .any, .any, .any, .any, .any, .any, .any, .any, .any, .any, .any, .any, .any, .any, .any, .any, .any, .any, .any], [], yI ((List.range (64 * k)).filter fun (i : Nat) => bit b.ws i && decide (a ≤ (i : Int) ∧ (i : Int) < b.size)), some none⟩)
    (fun _ => some (.normal, ⟨[.any, .any, .any, .any, .any, .any, .any, .any, .any, .any, .any, .any, .any, .any, .any, .any, .any, .any, .any, .any, .any, .any, .any, .any, .any, .any, .any, .any, .any, .any, .any, .any, .any, .any, .any, .any, .any, .any, .any], [], yI (elemsW b.ws a b.size), some none⟩)) h (fun _ => rfl) (fun _ => rfl) ?_ ?_
  · intro k rb hi ih
    have hi1 := i64_next hi (by unfold lim; omega)
    have F1 : ((k : Int) < (b.ws.length : Int)) = True := eq_true (by omega)
    have e1 := cal51 (k := k) (a := a) (b := b.size) (by omega) ha (by omega)
    have W3 := w_and b.ws[k] (maskW k a b.size)
    rw [elems_take hi] at ih
    unfold eW at e1
    simp only [fn76_b2, F1, e1, W3, eB2, eW, index_nat hi, List.getElem?_map, List.getElem?_eq_getElem hi, memAll, vAll, reduceCtorEq, Nat.reduceEqDiff, Nat.reduceAdd, Nat.reduceLT, Nat.reduceLeDiff, Nat.beq]
    rw [loop76 (b := b) (a := a) (k := k) (w0 := b.ws[k] &&& maskW k a b.size) (ys0 := yI ((List.range (64 * k)).filter fun (i : Nat) => bit b.ws i && decide (a ≤ (i : Int) ∧ (i : Int) < b.size))) (by omega)]
    rotate_left
    · rfl
    simp only [memAll, vAll, reduceCtorEq, Nat.reduceEqDiff, Nat.reduceAdd, Nat.reduceLT, Nat.reduceLeDiff, Nat.beq]
    rw [ih _ (by simp only [hi1]; simp only [yI, List.map_append]; rfl)]
  · intro rb
    simp only [fn76_b2, Int.lt_irrefl, memAll, vAll, reduceCtorEq, Nat.reduceEqDiff, Nat.reduceAdd, Nat.reduceLT, Nat.reduceLeDiff, Nat.beq]
    rfl
theorem iter76 {b : Bm} {a : Int} (ha : -1000000 ≤ a ∧ a ≤ 1000000) : iter env 76 [.iptr (eB2 b) 0, .iptr [.int .i64 a] 0] none = some (yI (if okB b then elemsW b.ws a b.size else [])) := by
  have P : part (eB2 b) 0 (some 2) = some (eBm b) := rfl
  have e1 := cal48 (b := b)
  rw [iter_code env76 rfl rfl]
  simp only [fn76, ystart, z_map_cons, z_map_nil, z_len_cons, z_len_nil, z_repl_zero, z_repl_succ, z_cons_app, z_nil_app, Nat.reduceAdd, Nat.reduceSub]
  cases c : okB b with
  | false =>
    rw [bmE_no c] at e1
    have Z : ((3 : Int) != 0) = true := rfl
    simp only [P, e1, Z, vRng, memAll, vAll, reduceCtorEq, Nat.reduceEqDiff, Nat.reduceAdd, Nat.reduceLT, Nat.reduceLeDiff, Nat.beq]
    rfl
  | true =>
    rw [bmE_ok c] at e1
    have Z : ((0 : Int) != 0) = false := rfl
    obtain ⟨h1, h2, h3, _⟩ := okB_size c
    have P2 : part (eB2 b) 1 none = some (.list 1 (b.ws.map eW)) := rfl
    simp only [P, P2, e1, Z, List.length_map, vRng, memAll, vAll, reduceCtorEq, Nat.reduceEqDiff, Nat.reduceAdd, Nat.reduceLT, Nat.reduceLeDiff, Nat.beq]
    rw [loop76b (a := a) h3 ⟨h1, h2⟩ ha]
    rotate_left
    · rfl
    · rfl
theorem cal54 {b : Bm} {a : Int} : cal env 54 [eBm b, .int .i64 a] = some [(.func 76 [.iptr (eB2 b) 0, .iptr [.int .i64 a] 0], false)] := by
  unfold eBm eB2
  rw [cal_code env54 rfl]; simp only [fn54]; simp only [start, z_map_cons, z_map_nil, z_len_cons, z_len_nil, z_repl_zero, z_repl_succ, z_cons_app, z_nil_app, Nat.reduceAdd, Nat.reduceSub]
  simp only [ memAll, vAll, reduceCtorEq, Nat.reduceEqDiff, Nat.reduceAdd, Nat.reduceLT, Nat.reduceLeDiff, Nat.beq]
end Go.Proofs.YtncobemfpammfaaGreatDoor.V

namespace Go.Proofs.YtncobemfpammfaaGreatDoor

def look : List (Nat × AV) → Nat → AV
  | [], _ => .any
  | (j, v) :: l, i => bcase (Nat.beq i j) v (look l i)
def sl (n : Nat) (l : List (Nat × AV)) : List AV := (List.range n).map (look l)
def mapA (f : AV → AV) : List (Nat × AV) → List (Nat × AV)
  | [] => []
  | (j, v) :: l => (j, f v) :: mapA f l
def keepA (l : List (Nat × AV)) : List Nat → List (Nat × AV)
  | [] => []
  | k :: ks => (k, look l k) :: keepA l ks
def argsA : Nat → List PV → List (Nat × AV)
  | _, [] => []
  | k, v :: l => (k, .pv v) :: argsA (k + 1) l
def lowA (nb : Nat) : List (Nat × AV) → Bool
  | [] => true
  | (_, v) :: l => AV.low nb v && lowA nb l
def insA (n : Nat) : List Nat → Bool
  | [] => true
  | k :: ks => decide (k < n) && insA n ks
theorem look_hit (i : Nat) (v : AV) (l : List (Nat × AV)) : look ((i, v) :: l) i = v := by
  show bcase (Nat.beq i i) v _ = v
  rw [Nat.beq_refl]; rfl
theorem look_nil (i : Nat) : look [] i = .any := (rfl)
theorem sl_get {n i : Nat} {l : List (Nat × AV)} (h' : i < n) : (sl n l).getD i .any = look l i := by
  simp [sl, List.getD_eq_getElem?_getD, h']
theorem sl_some {n i : Nat} {l : List (Nat × AV)} (h' : i < n) : (sl n l)[i]? = some (look l i) := by
  simp [sl, h']
theorem look_cons (l : List (Nat × AV)) (i j : Nat) (v : AV) : look ((j, v) :: l) i = if i = j then v else look l i := by
  show bcase (Nat.beq i j) v _ = _
  by_cases h : i = j
  · subst h; rw [Nat.beq_refl, if_pos rfl]; rfl
  · rw [if_neg h]
    have : Nat.beq i j = false := by
      cases e : Nat.beq i j with
      | false => rfl
      | true => exact absurd (Nat.eq_of_beq_eq_true e) h
    rw [this]; rfl
theorem sl_set (n i : Nat) (v : AV) (l : List (Nat × AV)) : (sl n l).set i v = sl n ((i, v) :: l) := by
  apply List.ext_getElem (by simp [sl])
  intro k h1 h2
  have hk : k < n := by simpa [sl] using h2
  simp only [sl, List.getElem_set, List.getElem_map, List.getElem_range, look_cons]
  by_cases h : i = k
  · subst h; simp
  · rw [if_neg h, if_neg (fun e => h e.symm)]
theorem look_skip {i j : Nat} {v : AV} {l : List (Nat × AV)} (h : (i == j) = false) : look ((j, v) :: l) i = look l i := by
  rw [look_cons, if_neg (by simpa using h)]
theorem look_mapA (f : AV → AV) (hf : f .any = .any) : ∀ (l : List (Nat × AV)) (i : Nat), look (mapA f l) i = f (look l i)
  | [], i => hf.symm
  | (j, v) :: l, i => by
    show look ((j, f v) :: mapA f l) i = _
    rw [look_cons, look_cons, look_mapA f hf l i]
    split <;> rfl
theorem sl_map {f : AV → AV} (hf : f .any = .any) (n : Nat) (l : List (Nat × AV)) : (sl n l).map f = sl n (mapA f l) := by
  unfold sl
  rw [List.map_map]
  apply List.map_congr_left
  intro i _
  exact (look_mapA f hf l i).symm
theorem sl_kill (n d : Nat) (l : List (Nat × AV)) : (sl n l).map (AV.kill d) = sl n (mapA (AV.kill d) l) := sl_map rfl n l
theorem sl_killc (n d : Nat) (l : List (Nat × AV)) : (sl n l).map (AV.killCell d) = sl n (mapA (AV.killCell d) l) := sl_map rfl n l
theorem sl_froze (n : Nat) (l : List (Nat × AV)) : (sl n l).map AV.froze = sl n (mapA AV.froze l) := sl_map rfl n l
theorem mapA_nil (f : AV → AV) : mapA f [] = [] := (rfl)
theorem mapA_cons (f : AV → AV) (j : Nat) (v : AV) (l : List (Nat × AV)) : mapA f ((j, v) :: l) = (j, f v) :: mapA f l := (rfl)
theorem keepA_nil (l : List (Nat × AV)) : keepA l [] = [] := (rfl)
theorem keepA_cons (l : List (Nat × AV)) (k : Nat) (ks : List Nat) : keepA l (k :: ks) = (k, look l k) :: keepA l ks := (rfl)
theorem lowA_nil (nb : Nat) : lowA nb [] = true := (rfl)
theorem lowA_cons (nb k : Nat) (v : AV) (l : List (Nat × AV)) : lowA nb ((k, v) :: l) = (AV.low nb v && lowA nb l) := (rfl)
theorem insA_nil (n : Nat) : insA n [] = true := (rfl)
theorem insA_cons (n k : Nat) (l : List Nat) : insA n (k :: l) = (decide (k < n) && insA n l) := (rfl)
theorem argsA_nil (k : Nat) : argsA k [] = [] := (rfl)
theorem argsA_cons (k : Nat) (v : PV) (l : List PV) : argsA k (v :: l) = (k, .pv v) :: argsA (k + 1) l := (rfl)
theorem look_keepA (l : List (Nat × AV)) : ∀ (ks : List Nat) (i : Nat), look (keepA l ks) i = if ks.contains i then look l i else .any
  | [], i => rfl
  | k :: ks, i => by
    rw [keepA_cons, look_cons, look_keepA l ks i, List.contains_cons]
    by_cases h : i = k
    · subst h; simp
    · have : (i == k) = false := by simpa using h
      rw [if_neg h, this, Bool.false_or]
theorem lowA_iff (nb n : Nat) (l : List (Nat × AV)) : ∀ ks : List Nat, insA n ks = true → (lowA nb (keepA l ks) = true ↔ ∀ k ∈ ks, (look l k).low nb = true)
  | [], _ => by simp [keepA, lowA]
  | k :: ks, h => by
    rw [insA_cons, Bool.and_eq_true] at h
    rw [keepA_cons, lowA_cons, Bool.and_eq_true, lowA_iff nb n l ks h.2]
    simp
theorem head_sl {n nb : Nat} {l : List (Nat × AV)} {keep : List Nat} {bx : List Box} {ys : List (List PV)} {sp : Option (Option Nat)} (h : insA n keep = true) (hb : nb ≤ bx.length) (hl : lowA nb (keepA l keep) = true) :
    St.head ⟨sl n l, bx, ys, sp⟩ keep nb = some ⟨sl n (keepA l keep), bx.take nb, ys, sp⟩ := by
  have e : ((sl n l).zipIdx.map fun (v, i) => if keep.contains i then v else AV.any) = sl n (keepA l keep) := by
    apply List.ext_getElem (by simp [sl])
    intro i h1 h2
    simp only [sl, List.getElem_map, List.getElem_zipIdx, List.getElem_range, look_keepA, Nat.zero_add]
  unfold St.head
  simp only
  rw [e, if_pos]
  rw [Bool.and_eq_true, decide_eq_true_eq]
  refine ⟨?_, hb⟩
  rw [List.all_eq_true]
  intro v hv
  unfold sl at hv
  obtain ⟨i, hi, rfl⟩ := List.mem_map.1 hv
  rw [look_keepA]
  split
  · rename_i hc
    exact (lowA_iff nb n l keep h).1 hl i (by simpa using hc)
  · rfl
theorem clean_sl {n nb : Nat} {e : Ex} {l : List (Nat × AV)} {keep : List Nat} {bx : List Box} {ys : List (List PV)} {sp : Option (Option Nat)} (h : insA n keep = true) (hb : nb ≤ bx.length) (hl : lowA nb (keepA l keep) = true) :
    cleanEnd keep nb (e, ⟨sl n l, bx, ys, sp⟩) = some (e, ⟨sl n (keepA l keep), bx.take nb, ys, sp⟩) := by
  unfold cleanEnd
  simp only
  rw [head_sl h hb hl]
  rfl
theorem start_sl {n : Nat} {args : List PV} (hn : args.length ≤ n) : start n args = ⟨sl n (argsA 0 args), [], [], none⟩ := by
  have key : ∀ (l : List PV) (k i : Nat), look (argsA k l) i = if k ≤ i then ((l[i - k]?).map AV.pv).getD .any else .any := by
    intro l
    induction l with
    | nil => intro k i; simp [argsA, look]
    | cons v l ih =>
      intro k i
      rw [argsA_cons, look_cons, ih]
      by_cases h1 : i = k
      · subst h1; simp
      · rw [if_neg h1]
        by_cases h2 : k ≤ i
        · rw [if_pos (by omega), if_pos h2, show i - k = (i - (k + 1)) + 1 by omega, List.getElem?_cons_succ]
        · rw [if_neg (by omega), if_neg h2]
  unfold start
  congr 1
  apply List.ext_getElem (by simp [sl]; omega)
  intro i h1 h2
  simp only [sl, List.getElem_map, List.getElem_range, key, Nat.zero_le, if_true, Nat.sub_zero]
  by_cases hi : i < args.length
  · rw [List.getElem_append_left (by simpa using hi)]
    simp [hi]
  · rw [List.getElem_append_right (by simp; omega)]
    simp [hi]
theorem low_pv (nb : Nat) (v : PV) : AV.low nb (.pv v) = true := (rfl)
theorem low_any (nb : Nat) : AV.low nb .any = true := (rfl)
theorem low_yld (nb : Nat) : AV.low nb .yld = true := (rfl)
theorem low_row (nb sz : Nat) (es : List PV) : AV.low nb (.row sz es) = true := (rfl)
theorem low_pbox (nb o j : Nat) : AV.low nb (.pbox o j) = decide (o < nb) := (rfl)
theorem low_refs (nb t off len : Nat) : AV.low nb (.ref (.slot t) off len) = true := (rfl)
theorem low_refc (nb o j off len : Nat) : AV.low nb (.ref (.cell o j) off len) = decide (o < nb) := (rfl)
theorem low_pels (nb t i j : Nat) : AV.low nb (.pel (.slot t) i j) = true := (rfl)
theorem low_pelc (nb o q i j : Nat) : AV.low nb (.pel (.cell o q) i j) = decide (o < nb) := (rfl)
theorem low_fn (nb f : Nat) (caps : List AV) : AV.low nb (.fn f caps) = caps.all fun c => match c with
    | .pv _ => true
    | .pbox o _ => o < nb
    | _ => false := (rfl)
def slAll := And.intro @look_hit (And.intro @look_skip (And.intro @look_nil (And.intro @sl_get (And.intro @sl_some (And.intro @sl_set (And.intro @sl_kill (And.intro @sl_killc (And.intro @sl_froze (And.intro @mapA_nil (And.intro @mapA_cons (And.intro @keepA_nil (And.intro @keepA_cons (And.intro @lowA_nil (And.intro @lowA_cons (And.intro @insA_nil (And.intro @insA_cons (And.intro @argsA_nil (And.intro @argsA_cons (And.intro @head_sl (And.intro @clean_sl (And.intro @start_sl (And.intro @low_pv (And.intro @low_any (And.intro @low_yld (And.intro @low_row (And.intro @low_pbox (And.intro @low_refs (And.intro @low_refc (And.intro @low_pels (And.intro @low_pelc (@low_fn)))))))))))))))))))))))))))))))
end Go.Proofs.YtncobemfpammfaaGreatDoor

namespace Go.Proofs.YtncobemfpammfaaGreatDoor.V
def fillR (l : List PV) (z : PV) (i : Nat) : List PV := l.take i ++ List.replicate (l.length - i) z
theorem fillR_len {l : List PV} {z : PV} {i : Nat} (h : i ≤ l.length) : (fillR l z i).length = l.length := by simp [fillR]; omega
theorem fillR_get {l : List PV} {z : PV} {i : Nat} (h : i < l.length) : (fillR l z i)[i]? = some z := by
  unfold fillR
  have e : (l.take i).length = i := by simp; omega
  rw [List.getElem?_append_right (by omega), e, Nat.sub_self, List.getElem?_replicate, if_pos (by omega)]
theorem fillR_set {l : List PV} {z x : PV} {i : Nat} (h : i < l.length) (hx : l[i]? = some x) : (fillR l z i).set i x = fillR l z (i + 1) := by
  unfold fillR
  have e : (l.take i).length = i := by simp; omega
  rw [List.set_append_right _ _ (by omega), e, Nat.sub_self, show l.length - i = (l.length - (i + 1)) + 1 by omega, List.replicate_succ, List.set_cons_zero, List.take_add_one, hx, Option.toList, List.append_assoc]
  rfl
theorem fillR_zero (l : List PV) (z : PV) : fillR l z 0 = List.replicate l.length z := by simp [fillR]
theorem fillR_all (l : List PV) (z : PV) : fillR l z l.length = l := by simp [fillR]
theorem eBm_zero : eBm ⟨0, []⟩ = .agg [.int .i64 0, .list 1 []] := rfl
def bothE (a b : Bm) : Int := if okB a = false then 3 else if okB b = false then 3 else if a.size ≠ b.size then 22 else 0
def bothO (f : Wd → Wd → Wd) (a b : Bm) : Bm := if bothE a b = 0 then ⟨a.size, zipB f a.ws b.ws⟩ else ⟨0, []⟩
theorem both_ok {a b : Bm} (h : bothE a b = 0) : okB a = true ∧ okB b = true ∧ a.size = b.size ∧ a.ws.length = b.ws.length := by
  unfold bothE at h
  split at h
  · omega
  · split at h
    · omega
    · split at h
      · omega
      · rename_i c1 c2 c3
        have c1 : okB a = true := by cases h : okB a <;> simp_all
        have c2 : okB b = true := by cases h : okB b <;> simp_all
        have e : a.size = b.size := Classical.not_not.1 c3
        have h1 := (okB_iff.1 c1).1.2.2
        have h2 := (okB_iff.1 c2).1.2.2
        exact ⟨c1, c2, e, by rw [e] at h1; omega⟩
theorem zipB_len {f : Wd → Wd → Wd} {a b : List Wd} (h : a.length = b.length) : (zipB f a b).length = a.length := by simp [zipB, h]
theorem zipB_get {f : Wd → Wd → Wd} {a b : List Wd} {i : Nat} (h1 : i < a.length) (h2 : i < b.length) : (zipB f a b)[i]? = some (f a[i] b[i]) := by
  have h : i < (zipB f a b).length := by simp [zipB]; omega
  rw [List.getElem?_eq_getElem h]
  simp [zipB]
set_option maxRecDepth 20000 in
theorem loop74 {a b : Bm} {f : Wd → Wd → Wd} {gf : Nat} (hf : ∀ x y, cal env gf [eW x, eW y] = some [(eW (f x y), false)]) (hl : a.ws.length = b.ws.length) (hm : a.ws.length ≤ 64) {st : St} (h : st.head [2, 3, 4, 6, 10, 33, 35, 36] st.boxes.length = some ⟨sl 59 [(2, .pv (.func gf [])), (3, .pbox 0 0), (4, .pbox 1 0), (6, .pbox 2 0), (10, .row 1 (fillR ((zipB f a.ws b.ws).map eW) (.int .u64 0) ((0 : Nat)))), (33, .any), (35, .pv (.int .i64 a.ws.length)), (36, .pv (.int .i64 (0 : Nat)))], [⟨false, [.pv (.int .i64 a.size), .pv (.list 1 (a.ws.map eW))]⟩, ⟨false, [.pv (.int .i64 b.size), .pv (.list 1 (b.ws.map eW))]⟩, ⟨false, [.pv (.int .i64 0), .row 1 []]⟩], [], none⟩) :
   den env fn74_l1 st = some (.normal, ⟨sl 59 [(3, .pbox 0 0), (6, .pbox 2 0), (7, .any), (10, .row 1 ((zipB f a.ws b.ws).map eW))], [⟨false, [.pv (.int .i64 a.size), .pv (.list 1 (a.ws.map eW))]⟩, ⟨false, [.pv (.int .i64 b.size), .pv (.list 1 (b.ws.map eW))]⟩, ⟨false, [.pv (.int .i64 0), .row 1 []]⟩], [], none⟩) := by
  unfold fn74_l1
  refine clean_up (env := env) (nb := 3) (a.ws.length) (fun i => ⟨sl 59 [(2, .pv (.func gf [])), (3, .pbox 0 0), (4, .pbox 1 0), (6, .pbox 2 0), (10, .row 1 (fillR ((zipB f a.ws b.ws).map eW) (.int .u64 0) (i))), (33, .any), (35, .pv (.int .i64 a.ws.length)), (36, .pv (.int .i64 i))], [⟨false, [.pv (.int .i64 a.size), .pv (.list 1 (a.ws.map eW))]⟩, ⟨false, [.pv (.int .i64 b.size), .pv (.list 1 (b.ws.map eW))]⟩, ⟨false, [.pv (.int .i64 0), .row 1 []]⟩], [], none⟩) (fun i => some (.normal, ⟨sl 59 [(3, .pbox 0 0), (6, .pbox 2 0), (7, .any), (10, .row 1 ((zipB f a.ws b.ws).map eW))], [⟨false, [.pv (.int .i64 a.size), .pv (.list 1 (a.ws.map eW))]⟩, ⟨false, [.pv (.int .i64 b.size), .pv (.list 1 (b.ws.map eW))]⟩, ⟨false, [.pv (.int .i64 0), .row 1 []]⟩], [], none⟩)) h (fun _ => rfl) (fun _ => by simp only [slAll, slsAll, Nat.reduceMul, Nat.reduceBEq, Nat.reduceLT, Nat.reduceLeDiff, Nat.reduceAdd, decide_true, Bool.and_self, Bool.true_and]) ?_ ?_
  · intro i rb hi ih

    have hi1 := i64_next hi (by unfold lim; omega)
    have hj : i < b.ws.length := by omega
    have F1 : ((i : Int) < (a.ws.length : Int)) = True := eq_true (by omega)
    have zl : ((zipB f a.ws b.ws).map eW).length = a.ws.length := by rw [List.length_map, zipB_len hl]
    have f1 := fillR_len (l := (zipB f a.ws b.ws).map eW) (z := .int .u64 0) (i := i) (by omega)
    have f2 := fillR_get (l := (zipB f a.ws b.ws).map eW) (z := .int .u64 0) (i := i) (by omega)
    have f3 := fillR_set (l := (zipB f a.ws b.ws).map eW) (z := .int .u64 0) (i := i) (x := eW (f a.ws[i] b.ws[i])) (by omega) (by rw [List.getElem?_map, zipB_get hi hj]; rfl)
    have e1 := hf a.ws[i] b.ws[i]
    rw [zl] at f1
    unfold eW at e1 f1 f2 f3 ih ⊢
    simp only [fn74_b0, F1, e1, f1, f2, f3, index_nat hi, index_nat hj, List.getElem?_map, List.getElem?_eq_getElem hi, List.getElem?_eq_getElem hj, Option.map_some, List.length_map, slAll, slsAll, Nat.reduceMul, Nat.reduceBEq, Nat.reduceLT, Nat.reduceLeDiff, memAll, vAll, reduceCtorEq, Nat.reduceEqDiff, Nat.reduceAdd, Nat.reduceLT, Nat.reduceLeDiff, Nat.beq]
    rw [ih _ (by simp only [hi1, slAll, slsAll, Nat.reduceMul, Nat.reduceBEq, Nat.reduceLT, Nat.reduceLeDiff, memAll, vAll, reduceCtorEq, Nat.reduceEqDiff, Nat.reduceAdd, Nat.reduceLT, Nat.reduceLeDiff, Nat.beq] <;> rfl)]
  · intro rb

    have zl : ((zipB f a.ws b.ws).map eW).length = a.ws.length := by rw [List.length_map, zipB_len hl]
    have f4 := fillR_all ((zipB f a.ws b.ws).map eW) (.int .u64 0)
    rw [zl] at f4
    rw [f4]
    simp only [fn74_b0, Int.lt_irrefl, slAll, slsAll, Nat.reduceMul, Nat.reduceBEq, Nat.reduceLT, Nat.reduceLeDiff, memAll, vAll, reduceCtorEq, Nat.reduceEqDiff, Nat.reduceAdd, Nat.reduceLT, Nat.reduceLeDiff, Nat.beq]

theorem cal74 {a b : Bm} {f : Wd → Wd → Wd} {gf : Nat} (hf : ∀ x y, cal env gf [eW x, eW y] = some [(eW (f x y), false)]) :
    cal env 74 [eBm a, eBm b, .func gf []] = some [(eBm (bothO f a b), false), (.int .i64 (bothE a b), false)] := by
  have P : ∀ b : Bm, part [PV.int .i64 b.size, .list 1 (b.ws.map eW)] 0 (some 2) = some (eBm b) := fun _ => rfl
  have e1 := cal48 (b := a)
  have e2 := cal48 (b := b)
  have Z0 : ((0 : Int) != 0) = false := rfl
  have Z3 : ((3 : Int) != 0) = true := rfl
  have hz := eBm_zero
  unfold bothO
  cases c1 : okB a with
  | false =>
    have hE : bothE a b = 3 := by unfold bothE; rw [if_pos c1]
    rw [hE, if_neg (by decide), hz]
    rw [bmE_no c1] at e1
    have eA : eBm a = .agg [.int .i64 a.size, .list 1 (a.ws.map eW)] := rfl
    have eB : eBm b = .agg [.int .i64 b.size, .list 1 (b.ws.map eW)] := rfl
    rw [eA] at e1 ⊢; rw [eB]
    rw [cal_code env74 rfl]; simp only [fn74, slAll, Nat.reduceBEq, Nat.reduceLeDiff, Nat.reduceAdd, List.length_cons, List.length_nil]
    simp only [e1, Z3, part_more, part_succ, part_one, slAll, slsAll, Nat.reduceMul, Nat.reduceBEq, Nat.reduceLT, Nat.reduceLeDiff, memAll, vAll, reduceCtorEq, Nat.reduceEqDiff, Nat.reduceAdd, Nat.reduceLT, Nat.reduceLeDiff, Nat.beq]
  | true =>
    rw [bmE_ok c1] at e1
    cases c2 : okB b with
    | false =>
      have hE : bothE a b = 3 := by unfold bothE; rw [if_neg (by rw [c1]; decide), if_pos c2]
      rw [hE, if_neg (by decide), hz]
      rw [bmE_no c2] at e2
      have eA : eBm a = .agg [.int .i64 a.size, .list 1 (a.ws.map eW)] := rfl
      have eB : eBm b = .agg [.int .i64 b.size, .list 1 (b.ws.map eW)] := rfl
      rw [eA] at e1 ⊢; rw [eB] at e2 ⊢
      rw [cal_code env74 rfl]; simp only [fn74, slAll, Nat.reduceBEq, Nat.reduceLeDiff, Nat.reduceAdd, List.length_cons, List.length_nil]
      simp only [e1, e2, Z3, Z0, slAll, slsAll, Nat.reduceMul, Nat.reduceBEq, Nat.reduceLT, Nat.reduceLeDiff, memAll, vAll, reduceCtorEq, Nat.reduceEqDiff, Nat.reduceAdd, Nat.reduceLT, Nat.reduceLeDiff, Nat.beq]
    | true =>
      rw [bmE_ok c2] at e2
      by_cases c3 : a.size = b.size
      · have hE : bothE a b = 0 := by unfold bothE; rw [if_neg (by rw [c1]; decide), if_neg (by rw [c2]; decide), if_neg (by simpa using c3)]
        obtain ⟨_, _, _, hl⟩ := both_ok hE
        have hm := (okB_size c1).2.2.1
        have G : (a.size != b.size) = false := by simp [c3]
        have F3 : ((0 : Int) ≤ (a.ws.length : Int)) = True := eq_true (by omega)
        have F4 : ((a.ws.length : Int) ≤ (lim : Int)) = True := eq_true (by unfold lim; omega)
        rw [hE, if_pos rfl]
        have eA : eBm a = .agg [.int .i64 a.size, .list 1 (a.ws.map eW)] := rfl
        have eB : eBm b = .agg [.int .i64 b.size, .list 1 (b.ws.map eW)] := rfl
        rw [eA] at e1 ⊢; rw [eB] at e2 ⊢
        rw [cal_code env74 rfl]; simp only [fn74, slAll, Nat.reduceBEq, Nat.reduceLeDiff, Nat.reduceAdd, List.length_cons, List.length_nil]
        simp only [e1, e2, Z0, G, F3, F4, Int.toNat_natCast, List.length_map, List.length_replicate, slAll, slsAll, Nat.reduceMul, Nat.reduceBEq, Nat.reduceLT, Nat.reduceLeDiff, memAll, vAll, reduceCtorEq, Nat.reduceEqDiff, Nat.reduceAdd, Nat.reduceLT, Nat.reduceLeDiff, Nat.beq]
        rw [loop74 hf hl hm]
        rotate_left
        · have zl : ((zipB f a.ws b.ws).map eW).length = a.ws.length := by rw [List.length_map, zipB_len hl]
          rw [fillR_zero, zl]
          simp only [slAll, slsAll, Nat.reduceMul, Nat.reduceBEq, Nat.reduceLT, Nat.reduceLeDiff, Nat.reduceAdd, decide_true, Bool.and_self, Bool.true_and] <;> rfl
        · simp only [e1, e2, Z0, G, F3, F4, Int.toNat_natCast, List.length_map, List.length_replicate, slAll, slsAll, Nat.reduceMul, Nat.reduceBEq, Nat.reduceLT, Nat.reduceLeDiff, memAll, vAll, reduceCtorEq, Nat.reduceEqDiff, Nat.reduceAdd, Nat.reduceLT, Nat.reduceLeDiff, Nat.beq]
          rfl
      · have hE : bothE a b = 22 := by unfold bothE; rw [if_neg (by rw [c1]; decide), if_neg (by rw [c2]; decide), if_pos (by simpa using c3)]
        have G : (a.size != b.size) = true := by simp [c3]
        rw [hE, if_neg (by decide), hz]
        have eA : eBm a = .agg [.int .i64 a.size, .list 1 (a.ws.map eW)] := rfl
        have eB : eBm b = .agg [.int .i64 b.size, .list 1 (b.ws.map eW)] := rfl
        rw [eA] at e1 ⊢; rw [eB] at e2 ⊢
        rw [cal_code env74 rfl]; simp only [fn74, slAll, Nat.reduceBEq, Nat.reduceLeDiff, Nat.reduceAdd, List.length_cons, List.length_nil]
        simp only [e1, e2, Z0, G, slAll, slsAll, Nat.reduceMul, Nat.reduceBEq, Nat.reduceLT, Nat.reduceLeDiff, memAll, vAll, reduceCtorEq, Nat.reduceEqDiff, Nat.reduceAdd, Nat.reduceLT, Nat.reduceLeDiff, Nat.beq]
theorem cal75 (x y : Wd) : cal env 75 [eW x, eW y] = some [(eW (x ||| y), false)] := by
  have W := w_or x y
  unfold eW
  rw [cal_code env75 rfl]; simp only [fn75]; simp only [start, z_map_cons, z_map_nil, z_len_cons, z_len_nil, z_repl_zero, z_repl_succ, z_cons_app, z_nil_app, Nat.reduceAdd, Nat.reduceSub]
  simp only [W, memAll, vAll, reduceCtorEq, Nat.reduceEqDiff, Nat.reduceAdd, Nat.reduceLT, Nat.reduceLeDiff, Nat.beq]
def orW (x y : Wd) : Wd := x ||| y
theorem cal53 {a b : Bm} : cal env 53 [eBm a, eBm b] = some [(eBm (bothO orW a b), false), (.int .i64 (bothE a b), false)] := by
  have e1 := cal74 (a := a) (b := b) (f := orW) (gf := 75) cal75
  have eA : ∀ a : Bm, eBm a = .agg [.int .i64 a.size, .list 1 (a.ws.map eW)] := fun _ => rfl
  rw [eA, eA, eA] at e1 ⊢
  rw [cal_code env53 rfl]; simp only [fn53]; simp only [start, z_map_cons, z_map_nil, z_len_cons, z_len_nil, z_repl_zero, z_repl_succ, z_cons_app, z_nil_app, Nat.reduceAdd, Nat.reduceSub]
  simp only [e1, memAll, vAll, reduceCtorEq, Nat.reduceEqDiff, Nat.reduceAdd, Nat.reduceLT, Nat.reduceLeDiff, Nat.beq]
end Go.Proofs.YtncobemfpammfaaGreatDoor.V

namespace Go.Proofs.YtncobemfpammfaaGreatDoor.V
theorem wds_nat {n : Int} (h : 0 ≤ n) : ((wdsN n).toNat : Int) = wdsN n := by unfold wdsN; omega
def newE (n : Int) : Int := if n < 0 ∨ n > 4096 then 2 else 0
def newO (n : Int) : Bm := if n < 0 ∨ n > 4096 then ⟨0, []⟩ else ⟨n, List.replicate (wdsN n).toNat 0⟩
theorem cal8 {n : Int} : cal env 8 [.int .i64 n] = some [(eBm (newO n), false), (.int .i64 (newE n), false)] := by
  have hz := eBm_zero
  unfold newE newO
  by_cases c0 : n < 0
  · rw [if_pos (.inl c0), if_pos (.inl c0), hz]
    have F0 : (n < 0) = True := eq_true c0
    rw [cal_code env8 rfl]; simp only [fn8, slAll, Nat.reduceBEq, Nat.reduceLeDiff, Nat.reduceAdd, List.length_cons, List.length_nil]
    simp only [F0, slAll, slsAll, Nat.reduceMul, Nat.reduceBEq, Nat.reduceLT, Nat.reduceLeDiff, memAll, vAll, reduceCtorEq, Nat.reduceEqDiff, Nat.reduceAdd, Nat.reduceLT, Nat.reduceLeDiff, Nat.beq]
  · have F0 : (n < 0) = False := eq_false c0
    by_cases c1 : n > 4096
    · rw [if_pos (.inr c1), if_pos (.inr c1), hz]
      have F1 : (n > 4096) = True := eq_true c1
      rw [cal_code env8 rfl]; simp only [fn8, slAll, Nat.reduceBEq, Nat.reduceLeDiff, Nat.reduceAdd, List.length_cons, List.length_nil]
      simp only [F0, F1, slAll, slsAll, Nat.reduceMul, Nat.reduceBEq, Nat.reduceLT, Nat.reduceLeDiff, memAll, vAll, reduceCtorEq, Nat.reduceEqDiff, Nat.reduceAdd, Nat.reduceLT, Nat.reduceLeDiff, Nat.beq]
    · have F1 : (n > 4096) = False := eq_false c1
      rw [if_neg (by omega), if_neg (by omega)]
      have e1 := cal22 (n := n) (by omega)
      have hw : 0 ≤ wdsN n ∧ wdsN n ≤ 64 := by unfold wdsN; omega
      have F3 : (0 ≤ wdsN n) = True := eq_true hw.1
      have F4 : (wdsN n ≤ (lim : Int)) = True := eq_true (by unfold lim; omega)
      have F5 : (wdsN n ≤ wdsN n) = True := eq_true (Int.le_refl _)
      have z0 : eW 0 = .int .u64 0 := rfl
      unfold eBm
      rw [List.map_replicate, z0]
      rw [cal_code env8 rfl]; simp only [fn8, slAll, Nat.reduceBEq, Nat.reduceLeDiff, Nat.reduceAdd, List.length_cons, List.length_nil]
      simp only [F0, F1, e1, F3, F4, F5, slAll, slsAll, Nat.reduceMul, Nat.reduceBEq, Nat.reduceLT, Nat.reduceLeDiff, memAll, vAll, reduceCtorEq, Nat.reduceEqDiff, Nat.reduceAdd, Nat.reduceLT, Nat.reduceLeDiff, Nat.beq]
def bmFit (size : Int) (e : Exn) : Bool := decide (0 ≤ e.start) && decide (0 ≤ e.count) && decide (e.start ≤ size) && decide (e.count ≤ size - e.start)
theorem bmFit_iff {size : Int} {e : Exn} : bmFit size e = true ↔ 0 ≤ e.start ∧ 0 ≤ e.count ∧ e.start ≤ size ∧ e.count ≤ size - e.start := by
  unfold bmFit; simp [and_assoc]
theorem cal49 {size : Int} {e : Exn} (hs : 0 ≤ size ∧ size ≤ 4096) : cal env 49 [eExt e, .int .i64 size] = some [(.bool (bmFit size e), false)] := by
  unfold bmFit eExt
  by_cases c0 : 0 ≤ e.start
  · have F0 : (e.start ≥ 0) = True := eq_true c0
    rw [decide_eq_true c0]
    by_cases c1 : 0 ≤ e.count
    · have F1 : (e.count ≥ 0) = True := eq_true c1
      rw [decide_eq_true c1]
      by_cases c2 : e.start ≤ size
      · have F2 : (e.start ≤ size) = True := eq_true c2
        have W : IntKind.i64.wrap (size - e.start) = size - e.start := i64_fits (by omega)
        rw [decide_eq_true c2]
        rw [cal_code env49 rfl]; simp only [fn49, slAll, Nat.reduceBEq, Nat.reduceLeDiff, Nat.reduceAdd, List.length_cons, List.length_nil]
        simp only [F0, F1, F2, W, slAll, slsAll, Nat.reduceMul, Nat.reduceBEq, Nat.reduceLT, Nat.reduceLeDiff, memAll, vAll, reduceCtorEq, Nat.reduceEqDiff, Nat.reduceAdd, Nat.reduceLT, Nat.reduceLeDiff, Nat.beq]
      · have F2 : (e.start ≤ size) = False := eq_false c2
        rw [decide_eq_false c2]
        rw [cal_code env49 rfl]; simp only [fn49, slAll, Nat.reduceBEq, Nat.reduceLeDiff, Nat.reduceAdd, List.length_cons, List.length_nil]
        simp only [F0, F1, F2, slAll, slsAll, Nat.reduceMul, Nat.reduceBEq, Nat.reduceLT, Nat.reduceLeDiff, memAll, vAll, reduceCtorEq, Nat.reduceEqDiff, Nat.reduceAdd, Nat.reduceLT, Nat.reduceLeDiff, Nat.beq]
    · have F1 : (e.count ≥ 0) = False := eq_false c1
      rw [decide_eq_false c1]
      rw [cal_code env49 rfl]; simp only [fn49, slAll, Nat.reduceBEq, Nat.reduceLeDiff, Nat.reduceAdd, List.length_cons, List.length_nil]
      simp only [F0, F1, slAll, slsAll, Nat.reduceMul, Nat.reduceBEq, Nat.reduceLT, Nat.reduceLeDiff, memAll, vAll, reduceCtorEq, Nat.reduceEqDiff, Nat.reduceAdd, Nat.reduceLT, Nat.reduceLeDiff, Nat.beq]
  · have F0 : (e.start ≥ 0) = False := eq_false c0
    rw [decide_eq_false c0]
    rw [cal_code env49 rfl]; simp only [fn49, slAll, Nat.reduceBEq, Nat.reduceLeDiff, Nat.reduceAdd, List.length_cons, List.length_nil]
    simp only [F0, slAll, slsAll, Nat.reduceMul, Nat.reduceBEq, Nat.reduceLT, Nat.reduceLeDiff, memAll, vAll, reduceCtorEq, Nat.reduceEqDiff, Nat.reduceAdd, Nat.reduceLT, Nat.reduceLeDiff, Nat.beq]
def chW (f : Wd → Wd → Wd) (ws : List Wd) (e : Exn) : List Wd := ws.mapIdx fun k w => f w (maskW k e.start (e.start + e.count))
theorem chW_len (f : Wd → Wd → Wd) (ws : List Wd) (e : Exn) : (chW f ws e).length = ws.length := by simp [chW]
def chE (b : Bm) (e : Exn) : Int := if okB b = false then 3 else if bmFit b.size e = false then 2 else 0
def chO (f : Wd → Wd → Wd) (b : Bm) (e : Exn) : Bm := if chE b e = 0 then ⟨b.size, chW f b.ws e⟩ else ⟨0, []⟩
def mixR (a b : List Wd) (i : Nat) : List PV := (a.take i ++ b.drop i).map eW
theorem mixR_len {a b : List Wd} (h : a.length = b.length) (i : Nat) : (mixR a b i).length = b.length := by simp [mixR]; omega
theorem mixR_get {a b : List Wd} (h : a.length = b.length) {i : Nat} (hi : i < b.length) : (mixR a b i)[i]? = some (eW b[i]) := by
  unfold mixR
  rw [List.getElem?_map, List.getElem?_append_right (by simp; omega), List.length_take, Nat.min_eq_left (by omega), Nat.sub_self, List.getElem?_drop, Nat.add_zero, List.getElem?_eq_getElem hi]
  rfl
theorem mixR_set {a b : List Wd} (h : a.length = b.length) {i : Nat} (hi : i < a.length) : (mixR a b i).set i (eW a[i]) = mixR a b (i + 1) := by
  unfold mixR
  rw [← List.map_set, List.set_append_right _ _ (by simp; omega), List.length_take, Nat.min_eq_left (by omega), Nat.sub_self, List.take_succ_eq_append_getElem hi, List.append_assoc]
  congr 2
  rw [List.drop_eq_getElem_cons (show i < b.length by omega)]
  rfl
theorem mixR_zero (a b : List Wd) : mixR a b 0 = b.map eW := by simp [mixR]
theorem mixR_all {a b : List Wd} (h : a.length = b.length) : mixR a b b.length = a.map eW := by
  unfold mixR
  rw [List.take_of_length_le (by omega), List.drop_of_length_le (Nat.le_refl _), List.append_nil]
theorem chW_get {f : Wd → Wd → Wd} {ws : List Wd} {e : Exn} {i : Nat} (h : i < (chW f ws e).length) (h2 : i < ws.length) : (chW f ws e)[i] = f ws[i] (maskW i e.start (e.start + e.count)) := by
  simp [chW]
theorem cal50 {es : List PV} (hl : es.length ≤ lim) : cal env 50 [.list 1 es] = some [(.list 1 es, true)] := (cal_ext env50).trans (if_pos ⟨rfl, hl⟩)
set_option maxRecDepth 20000 in
theorem loop24 {b : Bm} {e : Exn} {f : Wd → Wd → Wd} {gf : Nat} (hf : ∀ x y, cal env gf [eW x, eW y] = some [(eW (f x y), false)]) (hm : b.ws.length ≤ 64) (he : 0 ≤ e.start ∧ e.start ≤ 4096 ∧ 0 ≤ e.count ∧ e.count ≤ 4096) {st : St} (h : st.head [3, 4, 5, 6, 9, 25, 27, 28] st.boxes.length = some ⟨sl 55 [(3, .pbox 0 0), (4, .pbox 1 0), (5, .pbox 2 0), (6, .pbox 3 0), (9, .row 1 (mixR (chW f b.ws e) b.ws ((0 : Nat)))), (25, .any), (27, .pv (.int .i64 b.ws.length)), (28, .pv (.int .i64 (0 : Nat)))], [⟨false, [.pv (.func gf [])]⟩, ⟨false, [.pv (.int .i64 b.size), .pv (.list 1 (b.ws.map eW))]⟩, ⟨false, [.pv (.int .i64 e.start), .pv (.int .i64 e.count)]⟩, ⟨false, [.pv (.int .i64 0), .row 1 []]⟩], [], none⟩) :
   den env fn24_l1 st = some (.normal, ⟨sl 55 [(4, .pbox 1 0), (6, .pbox 3 0), (7, .any), (9, .row 1 ((chW f b.ws e).map eW))], [⟨false, [.pv (.func gf [])]⟩, ⟨false, [.pv (.int .i64 b.size), .pv (.list 1 (b.ws.map eW))]⟩, ⟨false, [.pv (.int .i64 e.start), .pv (.int .i64 e.count)]⟩, ⟨false, [.pv (.int .i64 0), .row 1 []]⟩], [], none⟩) := by
  unfold fn24_l1
  refine clean_up (env := env) (nb := 4) (b.ws.length) (fun i => ⟨sl 55 [(3, .pbox 0 0), (4, .pbox 1 0), (5, .pbox 2 0), (6, .pbox 3 0), (9, .row 1 (mixR (chW f b.ws e) b.ws (i))), (25, .any), (27, .pv (.int .i64 b.ws.length)), (28, .pv (.int .i64 i))], [⟨false, [.pv (.func gf [])]⟩, ⟨false, [.pv (.int .i64 b.size), .pv (.list 1 (b.ws.map eW))]⟩, ⟨false, [.pv (.int .i64 e.start), .pv (.int .i64 e.count)]⟩, ⟨false, [.pv (.int .i64 0), .row 1 []]⟩], [], none⟩) (fun i => some (.normal, ⟨sl 55 [(4, .pbox 1 0), (6, .pbox 3 0), (7, .any), (9, .row 1 ((chW f b.ws e).map eW))], [⟨false, [.pv (.func gf [])]⟩, ⟨false, [.pv (.int .i64 b.size), .pv (.list 1 (b.ws.map eW))]⟩, ⟨false, [.pv (.int .i64 e.start), .pv (.int .i64 e.count)]⟩, ⟨false, [.pv (.int .i64 0), .row 1 []]⟩], [], none⟩)) h (fun _ => rfl) (fun _ => by simp only [slAll, slsAll, Nat.reduceMul, Nat.reduceBEq, Nat.reduceLT, Nat.reduceLeDiff, Nat.reduceAdd, decide_true, Bool.and_self, Bool.true_and]) ?_ ?_
  · intro i rb hi ih

    have hi1 := i64_next hi (by unfold lim; omega)
    have F1 : ((i : Int) < (b.ws.length : Int)) = True := eq_true (by omega)
    have hcl := chW_len f b.ws e
    have f1 := mixR_len hcl i
    have f2 := mixR_get hcl hi
    have f3 := mixR_set hcl (i := i) (by omega)
    have e1 := hf b.ws[i] (maskW i e.start (e.start + e.count))
    rw [chW_get (by omega) hi] at f3
    have W : IntKind.i64.wrap (e.start + e.count) = e.start + e.count := i64_fits (by omega)
    have e2 := cal51 (k := i) (a := e.start) (b := e.start + e.count) (by omega) (by omega) (by omega)
    unfold eW at e1 e2 f2 f3 ih ⊢
    simp only [fn24_b0, F1, W, e1, e2, f1, f2, f3, index_nat hi, Option.map_some, List.length_map, slAll, slsAll, Nat.reduceMul, Nat.reduceBEq, Nat.reduceLT, Nat.reduceLeDiff, memAll, vAll, reduceCtorEq, Nat.reduceEqDiff, Nat.reduceAdd, Nat.reduceLT, Nat.reduceLeDiff, Nat.beq]
    rw [ih _ (by simp only [hi1, slAll, slsAll, Nat.reduceMul, Nat.reduceBEq, Nat.reduceLT, Nat.reduceLeDiff, memAll, vAll, reduceCtorEq, Nat.reduceEqDiff, Nat.reduceAdd, Nat.reduceLT, Nat.reduceLeDiff, Nat.beq] <;> rfl)]
  · intro rb

    rw [mixR_all (chW_len f b.ws e)]
    simp only [fn24_b0, Int.lt_irrefl, slAll, slsAll, Nat.reduceMul, Nat.reduceBEq, Nat.reduceLT, Nat.reduceLeDiff, memAll, vAll, reduceCtorEq, Nat.reduceEqDiff, Nat.reduceAdd, Nat.reduceLT, Nat.reduceLeDiff, Nat.beq]

theorem cal24 {b : Bm} {e : Exn} {f : Wd → Wd → Wd} {gf : Nat} (hf : ∀ x y, cal env gf [eW x, eW y] = some [(eW (f x y), false)]) :
    cal env 24 [.agg [.func gf []], eBm b, eExt e] = some [(eBm (chO f b e), false), (.int .i64 (chE b e), false)] := by
  have P : ∀ b : Bm, part [PV.int .i64 b.size, .list 1 (b.ws.map eW)] 0 (some 2) = some (eBm b) := fun _ => rfl
  have e1 := cal48 (b := b)
  have Z0 : ((0 : Int) != 0) = false := rfl
  have Z3 : ((3 : Int) != 0) = true := rfl
  have hz := eBm_zero
  have eA : eBm b = .agg [.int .i64 b.size, .list 1 (b.ws.map eW)] := rfl
  have eX : eExt e = .agg [.int .i64 e.start, .int .i64 e.count] := rfl
  unfold chO
  cases c1 : okB b with
  | false =>
    have hE : chE b e = 3 := by unfold chE; rw [if_pos c1]
    rw [hE, if_neg (by decide), hz]
    rw [bmE_no c1] at e1
    rw [eA] at e1 ⊢; rw [eX]
    rw [cal_code env24 rfl]; simp only [fn24, slAll, Nat.reduceBEq, Nat.reduceLeDiff, Nat.reduceAdd, List.length_cons, List.length_nil]
    simp only [e1, Z3, part_more, part_succ, part_one, slAll, slsAll, Nat.reduceMul, Nat.reduceBEq, Nat.reduceLT, Nat.reduceLeDiff, memAll, vAll, reduceCtorEq, Nat.reduceEqDiff, Nat.reduceAdd, Nat.reduceLT, Nat.reduceLeDiff, Nat.beq]
  | true =>
    rw [bmE_ok c1] at e1
    have hsz := okB_size c1
    have e2 := cal49 (size := b.size) (e := e) ⟨hsz.1, hsz.2.1⟩
    cases c2 : bmFit b.size e with
    | false =>
      have hE : chE b e = 2 := by unfold chE; rw [if_neg (by rw [c1]; decide), if_pos c2]
      rw [hE, if_neg (by decide), hz]
      rw [c2] at e2
      rw [eA] at e1 ⊢; rw [eX] at e2 ⊢
      rw [cal_code env24 rfl]; simp only [fn24, slAll, Nat.reduceBEq, Nat.reduceLeDiff, Nat.reduceAdd, List.length_cons, List.length_nil]
      simp only [e1, e2, Z0, slAll, slsAll, Nat.reduceMul, Nat.reduceBEq, Nat.reduceLT, Nat.reduceLeDiff, memAll, vAll, reduceCtorEq, Nat.reduceEqDiff, Nat.reduceAdd, Nat.reduceLT, Nat.reduceLeDiff, Nat.beq]
    | true =>
      have hE : chE b e = 0 := by unfold chE; rw [if_neg (by rw [c1]; decide), if_neg (by rw [c2]; decide)]
      rw [hE, if_pos rfl]
      rw [c2] at e2
      have hfi := bmFit_iff.1 c2
      have k1 := cal50 (es := b.ws.map eW) (by rw [List.length_map]; unfold lim; omega)
      rw [eA] at e1 ⊢; rw [eX] at e2 ⊢
      rw [cal_code env24 rfl]; simp only [fn24, slAll, Nat.reduceBEq, Nat.reduceLeDiff, Nat.reduceAdd, List.length_cons, List.length_nil]
      simp only [e1, e2, k1, Z0, List.length_map, slAll, slsAll, Nat.reduceMul, Nat.reduceBEq, Nat.reduceLT, Nat.reduceLeDiff, memAll, vAll, reduceCtorEq, Nat.reduceEqDiff, Nat.reduceAdd, Nat.reduceLT, Nat.reduceLeDiff, Nat.beq]
      have q1 : b.ws.length ≤ 64 := by omega
      have q2 : 0 ≤ e.start ∧ e.start ≤ 4096 ∧ 0 ≤ e.count ∧ e.count ≤ 4096 := by omega
      rw [loop24 hf q1 q2]
      rotate_left
      · rw [mixR_zero]
        simp only [slAll, slsAll, Nat.reduceMul, Nat.reduceBEq, Nat.reduceLT, Nat.reduceLeDiff, Nat.reduceAdd, decide_true, Bool.and_self, Bool.true_and] <;> rfl
      · simp only [e1, e2, k1, Z0, List.length_map, slAll, slsAll, Nat.reduceMul, Nat.reduceBEq, Nat.reduceLT, Nat.reduceLeDiff, memAll, vAll, reduceCtorEq, Nat.reduceEqDiff, Nat.reduceAdd, Nat.reduceLT, Nat.reduceLeDiff, Nat.beq]
        rfl
theorem cal23 (x y : Wd) : cal env 23 [eW x, eW y] = some [(eW (x ||| y), false)] := by
  have W := w_or x y
  unfold eW
  rw [cal_code env23 rfl]; simp only [fn23]; simp only [start, z_map_cons, z_map_nil, z_len_cons, z_len_nil, z_repl_zero, z_repl_succ, z_cons_app, z_nil_app, Nat.reduceAdd, Nat.reduceSub]
  simp only [W, memAll, vAll, reduceCtorEq, Nat.reduceEqDiff, Nat.reduceAdd, Nat.reduceLT, Nat.reduceLeDiff, Nat.beq]
theorem cal9 {b : Bm} {e : Exn} : cal env 9 [eBm b, eExt e] = some [(eBm (chO orW b e), false), (.int .i64 (chE b e), false)] := by
  have e1 := cal24 (b := b) (e := e) (f := orW) (gf := 23) cal23
  have eA : ∀ a : Bm, eBm a = .agg [.int .i64 a.size, .list 1 (a.ws.map eW)] := fun _ => rfl
  have eX : eExt e = .agg [.int .i64 e.start, .int .i64 e.count] := rfl
  rw [eA, eA, eX] at e1 ⊢
  rw [cal_code env9 rfl]; simp only [fn9]; simp only [start, z_map_cons, z_map_nil, z_len_cons, z_len_nil, z_repl_zero, z_repl_succ, z_cons_app, z_nil_app, Nat.reduceAdd, Nat.reduceSub]
  simp only [e1, memAll, vAll, reduceCtorEq, Nat.reduceEqDiff, Nat.reduceAdd, Nat.reduceLT, Nat.reduceLeDiff, Nat.beq]
end Go.Proofs.YtncobemfpammfaaGreatDoor.V

namespace Go.Proofs.YtncobemfpammfaaGreatDoor.V
theorem sorted_at {l : List Nat} (hs : l.Pairwise (· < ·)) {j i : Nat} (h : l[j]? = some i) : j ≤ i ∧ ∀ k ∈ l.take j, k < i := by
  obtain ⟨hj, rfl⟩ := List.getElem?_eq_some_iff.1 h
  have hp := List.pairwise_iff_getElem.1 hs
  refine ⟨?_, fun k hk => ?_⟩
  · clear h
    induction j with
    | zero => exact Nat.zero_le _
    | succ j ih =>
      have h1 := ih (by omega)
      have h2 := hp j (j + 1) (by omega) hj (by omega)
      omega
  · obtain ⟨m, hm, rfl⟩ := List.mem_iff_getElem.1 hk
    rw [List.getElem_take]
    simp only [List.length_take] at hm
    exact hp m j (by omega) hj (by omega)
def bmEl (b : Bm) : List Nat := if okB b then elemsW b.ws 0 b.size else []
theorem bmEl_at {b : Bm} {j i : Nat} (h : (bmEl b)[j]? = some i) : i < 4096 ∧ j ≤ i ∧ ∀ k ∈ (bmEl b).take j, k < i := by
  unfold bmEl at h ⊢
  split at h
  · rename_i c
    rw [if_pos c]
    have hs : (elemsW b.ws 0 b.size).Pairwise (· < ·) := List.pairwise_lt_range.filter _
    have hm := List.mem_of_getElem? h
    simp only [elemsW, List.mem_filter, List.mem_range, Bool.and_eq_true, decide_eq_true_eq] at hm
    have := okB_size c
    exact ⟨by omega, sorted_at hs h⟩
  · simp at h
def bmX (b : Bm) : List Exn := if okB b then bmExts b else []
theorem bmEl_x (b : Bm) : exts (bmEl b) = bmX b := by
  unfold bmEl bmX bmExts ext
  split
  · rename_i c; rw [elems_ok c 0 (by omega)]
  · rfl
theorem cal28 {b : Bm} : cal env 28 [eBm b] = some [(.list 2 ((bmX b).map eExt), true)] := by
  have e1 := cal54 (b := b) (a := 0)
  have eA : ∀ a : Bm, eBm a = .agg [.int .i64 a.size, .list 1 (a.ws.map eW)] := fun _ => rfl
  rw [eA] at e1 ⊢
  rw [cal_code env28 rfl]; simp only [fn28]; simp only [start, z_map_cons, z_map_nil, z_len_cons, z_len_nil, z_repl_zero, z_repl_succ, z_cons_app, z_nil_app, Nat.reduceAdd, Nat.reduceSub]
  simp only [e1, memAll, vAll, reduceCtorEq, Nat.reduceEqDiff, Nat.reduceAdd, Nat.reduceLT, Nat.reduceLeDiff, Nat.beq]
  rw [rng_idx (env := env) (fun j => [⟨false, [.pv (.int .i64 b.size), .pv (.list 1 (b.ws.map eW))]⟩, ⟨false, [.row 2 ((exts ((bmEl b).take j)).map eExt)]⟩]) (xs := yI (bmEl b)) rfl (by have := iter76 (b := b) (a := 0) (by omega); exact this) rfl ?_]
  · simp only [yI, List.length_map, List.take_length, vRng, memAll, vAll, reduceCtorEq, Nat.reduceEqDiff, Nat.reduceAdd, Nat.reduceLT, Nat.reduceLeDiff, Nat.beq]
    rw [bmEl_x]
  · intro j x hx sl0
    simp only [yI, List.getElem?_map, Option.map_eq_some_iff] at hx
    obtain ⟨i, hi, rfl⟩ := hx
    obtain ⟨k1, k2, k3⟩ := bmEl_at hi
    have hlim : lim = 1073741824 := rfl
    have hj := (List.getElem?_eq_some_iff.1 hi).1
    have ht : (bmEl b).take (j + 1) = (bmEl b).take j ++ [i] := by rw [List.take_add_one, hi]; rfl
    have hlen : ((bmEl b).take j).length = j := by simp; omega
    rw [ht]
    rcases snoc_cases ((bmEl b).take j) with h0 | ⟨p, q, h0⟩
    · have F2 : (((0 : Nat) : Int) > 0) = False := eq_false (by omega)
      have F3 : (0 + 1 ≤ lim) = True := eq_true (by omega)
      have e0 : exts ([] : List Nat) = [] := rfl
      have e2 : exts [i] = [⟨i, 1⟩] := rfl
      refine ⟨?_, ?_⟩
      rotate_left
      · simp only [h0, List.nil_append, fn28_b0, fn28_b1, F2, F3, e0, e2, eExt, List.map_nil, List.map_cons, vRng, memAll, vAll, reduceCtorEq, Nat.reduceEqDiff, Nat.reduceAdd, Nat.reduceLT, Nat.reduceLeDiff, Nat.beq]
        rfl
    · obtain ⟨pre, ⟨s, c⟩, e0, h1, h2, h3, h4⟩ := exts_last _ p rfl q
      have hqi : q < i := k3 q (by rw [h0]; simp)
      simp only at h1 h2 h3
      have hpl : p.length + 1 = j := by rw [h0] at hlen; simpa using hlen
      have F2 : (((pre.length + 1 : Nat) : Int) > 0) = True := eq_true (by omega)
      have F3 := wrap_pred (n := pre.length) (by omega)
      have F4 : IntKind.i64.wrap (s + c) = s + c := i64_fits (by omega)
      have F5 : IntKind.i64.wrap (c + 1) = c + 1 := i64_fits (by omega)
      have F6 : (pre.length + 1 + 1 ≤ lim) = True := eq_true (by omega)
      have F7 : index (.int .i64 (pre.length : Int)) (pre.length + 1) = some pre.length := index_nat (by omega)
      by_cases hc : s + c = (i : Int)
      · have F8 : (s + c == (i : Int)) = true := by simpa using hc
        have e2 : exts (p ++ [q] ++ [i]) = pre ++ [⟨s, c + 1⟩] := by rw [exts_snoc, e0, addAt_snoc, if_pos hc]
        refine ⟨?_, ?_⟩
        rotate_left
        · simp only [h0, fn28_b0, fn28_b1, e0, e2, F2, F3, F4, F5, F6, F7, F8, eExt, List.map_append, List.map_cons, List.map_nil, vRng, memAll, vAll, reduceCtorEq, Nat.reduceEqDiff, Nat.reduceAdd, Nat.reduceLT, Nat.reduceLeDiff, Nat.beq]
          rfl
      · have F8 : (s + c == (i : Int)) = false := by simpa using hc
        have e2 : exts (p ++ [q] ++ [i]) = pre ++ [⟨s, c⟩] ++ [⟨i, 1⟩] := by rw [exts_snoc, e0, addAt_snoc, if_neg hc]
        refine ⟨?_, ?_⟩
        rotate_left
        · simp only [h0, fn28_b0, fn28_b1, e0, e2, F2, F3, F4, F5, F6, F7, F8, eExt, List.map_append, List.map_cons, List.map_nil, vRng, memAll, vAll, reduceCtorEq, Nat.reduceEqDiff, Nat.reduceAdd, Nat.reduceLT, Nat.reduceLeDiff, Nat.beq]
          rfl
end Go.Proofs.YtncobemfpammfaaGreatDoor.V

namespace Go.Proofs.YtncobemfpammfaaGreatDoor.V
end Go.Proofs.YtncobemfpammfaaGreatDoor.V

namespace Go.Proofs.YtncobemfpammfaaGreatDoor.V
def each2E {α β : Type} (e : α → β → Int) : List α → List β → Int
  | x :: a, y :: b => if e x y = 0 then each2E e a b else e x y
  | _, _ => 0
def each2P {α β γ : Type} (g : α → β → γ) (e : α → β → Int) : List α → List β → List γ
  | x :: a, y :: b => if e x y = 0 then g x y :: each2P g e a b else []
  | _, _ => []
def each2I {α β γ : Type} (g : α → β → γ) (e : α → β → Int) (a : List α) (b : List β) (i : Nat) : Prop := each2E e a b = each2E e (a.drop i) (b.drop i) ∧ each2P g e a b = (List.zipWith g a b).take i ++ each2P g e (a.drop i) (b.drop i)
theorem each2_I0 {α β γ : Type} (g : α → β → γ) (e : α → β → Int) (a : List α) (b : List β) : each2I g e a b 0 := ⟨rfl, by simp⟩
theorem take_zip_snoc {α β γ : Type} (g : α → β → γ) {a : List α} {b : List β} {i : Nat} (h1 : i < a.length) (h2 : i < b.length) : (List.zipWith g a b).take (i + 1) = (List.zipWith g a b).take i ++ [g a[i] b[i]] := by
  have h : i < (List.zipWith g a b).length := by simp; omega
  rw [List.take_succ_eq_append_getElem h, List.getElem_zipWith]
theorem each2_good {α β γ : Type} {g : α → β → γ} {e : α → β → Int} {a : List α} {b : List β} {i : Nat} (h : each2I g e a b i) (h1 : i < a.length) (h2 : i < b.length) (hz : e a[i] b[i] = 0) : each2I g e a b (i + 1) := by
  obtain ⟨k1, k2⟩ := h
  rw [List.drop_eq_getElem_cons h1, List.drop_eq_getElem_cons h2] at k1 k2
  simp only [each2E, each2P, if_pos hz] at k1 k2
  exact ⟨k1, by rw [k2, take_zip_snoc g h1 h2, List.append_assoc]; rfl⟩
theorem each2_bad {α β γ : Type} {g : α → β → γ} {e : α → β → Int} {a : List α} {b : List β} {i : Nat} (h : each2I g e a b i) (h1 : i < a.length) (h2 : i < b.length) (hz : e a[i] b[i] ≠ 0) : each2E e a b = e a[i] b[i] ∧ each2P g e a b = (List.zipWith g a b).take i := by
  obtain ⟨k1, k2⟩ := h
  rw [List.drop_eq_getElem_cons h1, List.drop_eq_getElem_cons h2] at k1 k2
  simp only [each2E, each2P, if_neg hz, List.append_nil] at k1 k2
  exact ⟨k1, k2⟩
theorem each2_end {α β γ : Type} {g : α → β → γ} {e : α → β → Int} {a : List α} {b : List β} (h : each2I g e a b a.length) (hl : a.length = b.length) : each2E e a b = 0 ∧ each2P g e a b = List.zipWith g a b := by
  obtain ⟨k1, k2⟩ := h
  have z1 : b.drop a.length = [] := by rw [hl, List.drop_length]
  rw [List.drop_length, z1] at k1 k2
  exact ⟨k1, by rw [k2, List.take_of_length_le (by rw [List.length_zipWith]; exact Nat.min_le_left _ _)]; exact List.append_nil _⟩
theorem each2_ok {α β : Type} {e : α → β → Int} : ∀ {a : List α} {b : List β}, each2E e a b = 0 → ∀ i (h1 : i < a.length) (h2 : i < b.length), e a[i] b[i] = 0
  | [], _, _, i, h1, _ => by simp at h1
  | _ :: _, [], _, i, _, h2 => by simp at h2
  | x :: a, y :: b, h, i, h1, h2 => by
    simp only [each2E] at h
    split at h
    · rename_i h0
      cases i with
      | zero => exact h0
      | succ i => exact each2_ok h i (by simpa using h1) (by simpa using h2)
    · rename_i h0; exact absurd h h0
def mrgE (a b : List Bm) : Int := if a.length ≠ b.length then 6 else each2E bothE a b
def mrgO (a b : List Bm) : List Bm := if mrgE a b = 0 then List.zipWith (bothO orW) a b else []
set_option maxRecDepth 20000 in
theorem loop52 {a b : List Bm} {gf : Nat} (hf : ∀ x y : Bm, cal env gf [eBm x, eBm y] = some [(eBm (bothO orW x y), false), (.int .i64 (bothE x y), false)]) (hl : a.length = b.length) (hm : a.length ≤ lim) (hI0 : each2I (bothO orW) bothE a b 0) {st : St} (h : st.head [0, 1, 2, 8, 13, 14, 36] st.boxes.length = some ⟨sl 39 [(0, .pv (.list 2 (a.map eBm))), (1, .pv (.list 2 (b.map eBm))), (2, .pv (.func gf [])), (8, .row 2 (((List.zipWith (bothO orW) a b).take ((0 : Nat))).map eBm)), (13, .pv (.int .i64 a.length)), (14, .pv (.int .i64 (0 : Nat))), (36, .any)], [], [], none⟩) :
   den env fn52_l1 st = if each2E bothE a b = 0 then some (.normal, ⟨sl 39 [(6, .any), (7, .any), (8, .row 2 ((each2P (bothO orW) bothE a b).map eBm))], [], [], none⟩) else some (.ret, ⟨sl 39 [(6, .row 2 []), (7, .pv (.int .i64 (each2E bothE a b))), (8, .row 2 ((each2P (bothO orW) bothE a b).map eBm))], [], [], none⟩) := by
  unfold fn52_l1
  refine clean_upP (env := env) (a.length) (fun i => each2I (bothO orW) bothE a b (i)) (fun i => ⟨sl 39 [(0, .pv (.list 2 (a.map eBm))), (1, .pv (.list 2 (b.map eBm))), (2, .pv (.func gf [])), (8, .row 2 (((List.zipWith (bothO orW) a b).take (i)).map eBm)), (13, .pv (.int .i64 a.length)), (14, .pv (.int .i64 i)), (36, .any)], [], [], none⟩) (fun i => if each2E bothE a b = 0 then some (.normal, ⟨sl 39 [(6, .any), (7, .any), (8, .row 2 ((each2P (bothO orW) bothE a b).map eBm))], [], [], none⟩) else some (.ret, ⟨sl 39 [(6, .row 2 []), (7, .pv (.int .i64 (each2E bothE a b))), (8, .row 2 ((each2P (bothO orW) bothE a b).map eBm))], [], [], none⟩)) h hI0 (fun _ => rfl) (fun _ => by simp only [slAll, slsAll, Nat.reduceMul, Nat.reduceBEq, Nat.reduceLT, Nat.reduceLeDiff, Nat.reduceAdd, decide_true, Bool.and_self, Bool.true_and]) ?_ ?_
  · intro i rb hi hp ih

    have hi1 := i64_next hi hm
    have hj : i < b.length := by omega
    have F1 : ((i : Int) < (a.length : Int)) = True := eq_true (by omega)
    have e1 : cal env gf [eBm a[i], eBm b[i]] = some [(.agg [.int .i64 (bothO orW a[i] b[i]).size, .list 1 ((bothO orW a[i] b[i]).ws.map eW)], false), (.int .i64 (bothE a[i] b[i]), false)] := hf a[i] b[i]
    have eC : ∀ a : Bm, (eBm a).cells = [.int .i64 a.size, .list 1 (a.ws.map eW)] := fun _ => rfl
    have P : ∀ a : Bm, part [PV.int .i64 a.size, .list 1 (a.ws.map eW)] 0 (some 2) = some (eBm a) := fun _ => rfl
    have F3 : (((List.zipWith (bothO orW) a b).take i).length + 1 ≤ lim) = True := eq_true (by rw [List.length_take]; omega)
    by_cases c : bothE a[i] b[i] = 0
    · have hs := take_zip_snoc (bothO orW) hi hj
      have G : ((0 : Int) != 0) = false := rfl
      rw [c] at e1
      simp only [fn52_b0, F1, F3, e1, G, eC, P, index_nat hi, index_nat hj, List.getElem?_map, List.getElem?_eq_getElem hi, List.getElem?_eq_getElem hj, Option.map_some, List.length_map, slAll, slsAll, Nat.reduceMul, Nat.reduceBEq, Nat.reduceLT, Nat.reduceLeDiff, memAll, vAll, reduceCtorEq, Nat.reduceEqDiff, Nat.reduceAdd, Nat.reduceLT, Nat.reduceLeDiff, Nat.beq]
      rw [ih (each2_good hp hi hj c) _ (by rw [hs, List.map_append]; simp only [hi1, slAll, slsAll, Nat.reduceMul, Nat.reduceBEq, Nat.reduceLT, Nat.reduceLeDiff, memAll, vAll, reduceCtorEq, Nat.reduceEqDiff, Nat.reduceAdd, Nat.reduceLT, Nat.reduceLeDiff, Nat.beq] <;> rfl)]
    · obtain ⟨q1, q2⟩ := each2_bad hp hi hj c
      have G : (bothE a[i] b[i] != 0) = true := by simp [c]
      rw [q1, q2, if_neg c]
      simp only [fn52_b0, F1, F3, e1, G, eC, P, index_nat hi, index_nat hj, List.getElem?_map, List.getElem?_eq_getElem hi, List.getElem?_eq_getElem hj, Option.map_some, List.length_map, slAll, slsAll, Nat.reduceMul, Nat.reduceBEq, Nat.reduceLT, Nat.reduceLeDiff, memAll, vAll, reduceCtorEq, Nat.reduceEqDiff, Nat.reduceAdd, Nat.reduceLT, Nat.reduceLeDiff, Nat.beq]
  · intro rb hp

    obtain ⟨q1, q2⟩ := each2_end hp hl
    have q3 : (List.zipWith (bothO orW) a b).take a.length = List.zipWith (bothO orW) a b := List.take_of_length_le (by rw [List.length_zipWith]; exact Nat.min_le_left _ _)
    rw [q1, q2, q3, if_pos rfl]
    simp only [fn52_b0, Int.lt_irrefl, slAll, slsAll, Nat.reduceMul, Nat.reduceBEq, Nat.reduceLT, Nat.reduceLeDiff, memAll, vAll, reduceCtorEq, Nat.reduceEqDiff, Nat.reduceAdd, Nat.reduceLT, Nat.reduceLeDiff, Nat.beq]

theorem cal52 {a b : List Bm} {gf : Nat} (hf : ∀ x y : Bm, cal env gf [eBm x, eBm y] = some [(eBm (bothO orW x y), false), (.int .i64 (bothE x y), false)]) (hl : a.length = b.length) (hm : a.length ≤ lim) :
    cal env 52 [.list 2 (a.map eBm), .list 2 (b.map eBm), .func gf []] = some [(.list 2 ((if each2E bothE a b = 0 then List.zipWith (bothO orW) a b else []).map eBm), true), (.int .i64 (each2E bothE a b), false)] := by
  have hI := each2_I0 (bothO orW) bothE a b
  rw [cal_code env52 rfl]; simp only [fn52, slAll, Nat.reduceBEq, Nat.reduceLeDiff, Nat.reduceAdd, List.length_cons, List.length_nil]
  simp only [List.length_map, slAll, slsAll, Nat.reduceMul, Nat.reduceBEq, Nat.reduceLT, Nat.reduceLeDiff, memAll, vAll, reduceCtorEq, Nat.reduceEqDiff, Nat.reduceAdd, Nat.reduceLT, Nat.reduceLeDiff, Nat.beq]
  rw [loop52 hf hl hm hI]
  rotate_left
  · simp only [slAll, slsAll, Nat.reduceMul, Nat.reduceBEq, Nat.reduceLT, Nat.reduceLeDiff, Nat.reduceAdd, decide_true, Bool.and_self, Bool.true_and] <;> rfl
  · by_cases c : each2E bothE a b = 0
    · have h2 : each2P (bothO orW) bothE a b = List.zipWith (bothO orW) a b := by
        have key : ∀ i, i ≤ a.length → each2I (bothO orW) bothE a b i := by
          intro i
          induction i with
          | zero => intro _; exact hI
          | succ i ih => intro hi; exact each2_good (ih (by omega)) (by omega) (by omega) (each2_ok c i (by omega) (by omega))
        exact (each2_end (key _ (Nat.le_refl _)) hl).2
      rw [if_pos c, if_pos c, h2, c]
      simp only [slAll, slsAll, Nat.reduceMul, Nat.reduceBEq, Nat.reduceLT, Nat.reduceLeDiff, memAll, vAll, reduceCtorEq, Nat.reduceEqDiff, Nat.reduceAdd, Nat.reduceLT, Nat.reduceLeDiff, Nat.beq]
    · rw [if_neg c, if_neg c]
      simp only [List.map_nil, slAll, slsAll, Nat.reduceMul, Nat.reduceBEq, Nat.reduceLT, Nat.reduceLeDiff, memAll, vAll, reduceCtorEq, Nat.reduceEqDiff, Nat.reduceAdd, Nat.reduceLT, Nat.reduceLeDiff, Nat.beq]
end Go.Proofs.YtncobemfpammfaaGreatDoor.V

namespace Go.Proofs.YtncobemfpammfaaGreatDoor.V
theorem take_snoc1 {α : Type} {l : List α} {i : Nat} (h : i < l.length) : l.take (i + 1) = l.take i ++ [l[i]] := by rw [List.take_succ_eq_append_getElem h]
def okE (x : Exn) : Prop := (-9223372036854775808 ≤ x.start ∧ x.start ≤ 9223372036854775807) ∧ (-9223372036854775808 ≤ x.count ∧ x.count ≤ 9223372036854775807)
def okEs (l : List Exn) : Prop := ∀ x ∈ l, okE x
def wFrom (e : Exn) : Int := max e.start 0
def wTo (e : Exn) : Int := if e.start < 0 ∨ e.count < 4096 - e.start then min (e.start + e.count) 4096 else 4096
def wX (e : Exn) : Int × Int × Bool := if e.count ≤ 0 then (0, 0, false) else (wFrom e, wTo e, decide (wFrom e < wTo e))
def inE (e : Exn) (s : Nat) : Bool := decide (0 < e.count) && (decide (e.start ≤ (s : Int)) && decide ((s : Int) < e.start + e.count))
theorem wX_true {e : Exn} (h : (wX e).2.2 = true) : ∃ n m : Nat, wX e = ((n : Int), (m : Int), true) ∧ n < m ∧ m ≤ 4096 ∧ ∀ s : Nat, s < 4096 → (inE e s = true ↔ n ≤ s ∧ s < m) := by
  unfold wX at h ⊢
  by_cases c : e.count ≤ 0
  · rw [if_pos c] at h; cases h
  · rw [if_neg c] at h ⊢
    have h2 : wFrom e < wTo e := by simpa using h
    have h3 : 0 ≤ wFrom e := by unfold wFrom; omega
    have h4 : wTo e ≤ 4096 := by unfold wTo; split <;> omega
    refine ⟨(wFrom e).toNat, (wTo e).toNat, ?_, by omega, by omega, fun s hs => ?_⟩
    · rw [Int.toNat_of_nonneg h3, Int.toNat_of_nonneg (by omega), decide_eq_true h2]
    · unfold inE
      simp only [Bool.and_eq_true, decide_eq_true_eq]
      have e1 : (wFrom e).toNat ≤ s ↔ wFrom e ≤ (s : Int) := by omega
      have e2 : s < (wTo e).toNat ↔ (s : Int) < wTo e := by omega
      rw [e1, e2]
      unfold wFrom wTo
      split <;> omega
theorem wX_false {e : Exn} (h : (wX e).2.2 = false) {s : Nat} (hs : s < 4096) : inE e s = false := by
  unfold wX at h
  by_cases c : e.count ≤ 0
  · unfold inE
    rw [decide_eq_false (by omega), Bool.false_and]
  · rw [if_neg c] at h
    have h2 : ¬ wFrom e < wTo e := by simpa using h
    unfold inE
    cases hq : (decide (0 < e.count) && (decide (e.start ≤ (s : Int)) && decide ((s : Int) < e.start + e.count))) with
    | false => rfl
    | true =>
      exfalso
      simp only [Bool.and_eq_true, decide_eq_true_eq] at hq
      apply h2
      unfold wFrom wTo
      split <;> omega
theorem cal57 {e : Exn} (ho : okE e) : cal env 57 [eExt e] = some [(.int .i64 (wX e).1, false), (.int .i64 (wX e).2.1, false), (.bool (wX e).2.2, false)] := by
  obtain ⟨⟨o1, o2⟩, o3, o4⟩ := ho
  unfold wX
  simp only [eExt]
  by_cases c : e.count ≤ 0
  · rw [if_pos c]
    rw [cal_code env57 rfl]; simp only [fn57, slAll, Nat.reduceBEq, Nat.reduceLeDiff, Nat.reduceAdd, List.length_cons, List.length_nil]
    simp only [c, slAll, slsAll, Nat.reduceMul, Nat.reduceBEq, Nat.reduceLT, Nat.reduceLeDiff, memAll, vAll, reduceCtorEq, Nat.reduceEqDiff, Nat.reduceAdd, Nat.reduceLT, Nat.reduceLeDiff, Nat.beq]
  · rw [if_neg c]
    unfold wFrom wTo
    have hmin : min (e.start + e.count) 4096 = if 4096 < e.start + e.count then 4096 else e.start + e.count := by split <;> omega
    by_cases c1 : e.start < 0
    · have hmax : max e.start 0 = 0 := by omega
      rw [hmin, hmax]
      have W1 : IntKind.i64.wrap (e.start + e.count) = e.start + e.count := i64_fits (by omega)
      rw [if_pos (.inl c1)]
      rw [cal_code env57 rfl]; simp only [fn57, slAll, Nat.reduceBEq, Nat.reduceLeDiff, Nat.reduceAdd, List.length_cons, List.length_nil]
      simp only [c, c1, W1, slAll, slsAll, Nat.reduceMul, Nat.reduceBEq, Nat.reduceLT, Nat.reduceLeDiff, memAll, vAll, reduceCtorEq, Nat.reduceEqDiff, Nat.reduceAdd, Nat.reduceLT, Nat.reduceLeDiff, Nat.beq]
    · have hmax : max e.start 0 = e.start := by omega
      rw [hmin, hmax]
      have W2 : IntKind.i64.wrap (4096 - e.start) = 4096 - e.start := i64_fits (by omega)
      by_cases c2 : e.count < 4096 - e.start
      · have W1 : IntKind.i64.wrap (e.start + e.count) = e.start + e.count := i64_fits (by omega)
        rw [if_pos (.inr c2)]
        rw [cal_code env57 rfl]; simp only [fn57, slAll, Nat.reduceBEq, Nat.reduceLeDiff, Nat.reduceAdd, List.length_cons, List.length_nil]
        simp only [c, c1, c2, W1, W2, slAll, slsAll, Nat.reduceMul, Nat.reduceBEq, Nat.reduceLT, Nat.reduceLeDiff, memAll, vAll, reduceCtorEq, Nat.reduceEqDiff, Nat.reduceAdd, Nat.reduceLT, Nat.reduceLeDiff, Nat.beq]
      · rw [if_neg (by omega)]
        rw [cal_code env57 rfl]; simp only [fn57, slAll, Nat.reduceBEq, Nat.reduceLeDiff, Nat.reduceAdd, List.length_cons, List.length_nil]
        simp only [c, c1, c2, W2, slAll, slsAll, Nat.reduceMul, Nat.reduceBEq, Nat.reduceLT, Nat.reduceLeDiff, memAll, vAll, reduceCtorEq, Nat.reduceEqDiff, Nat.reduceAdd, Nat.reduceLT, Nat.reduceLeDiff, Nat.beq]

def rawOf (i : Nat) (l : List Exn) : List End := l.flatMap fun e => if (wX e).2.2 then [⟨(wX e).1.toNat, i, 1⟩, ⟨(wX e).2.1.toNat, i, -1⟩] else []
theorem rawOf_snoc (i : Nat) (l : List Exn) (e : Exn) : rawOf i (l ++ [e]) = rawOf i l ++ (if (wX e).2.2 then [⟨(wX e).1.toNat, i, 1⟩, ⟨(wX e).2.1.toNat, i, -1⟩] else []) := by simp [rawOf]
theorem rawOf_len (i : Nat) : ∀ l : List Exn, (rawOf i l).length ≤ 2 * l.length
  | [] => Nat.le_refl _
  | e :: l => by
    have := rawOf_len i l
    have h : rawOf i (e :: l) = (if (wX e).2.2 then [⟨(wX e).1.toNat, i, 1⟩, ⟨(wX e).2.1.toNat, i, -1⟩] else []) ++ rawOf i l := by simp [rawOf]
    rw [h, List.length_append, List.length_cons]
    split <;> simp <;> omega
def rawFrom : Nat → List (List Exn) → List End
  | _, [] => []
  | i, l :: ls => rawOf i l ++ rawFrom (i + 1) ls
theorem rawFrom_snoc : ∀ (ls : List (List Exn)) (i : Nat) (l : List Exn), rawFrom i (ls ++ [l]) = rawFrom i ls ++ rawOf (i + ls.length) l
  | [], i, l => by simp [rawFrom]
  | m :: ls, i, l => by
    simp only [List.cons_append, rawFrom, rawFrom_snoc ls (i + 1) l, List.length_cons, List.append_assoc]
    rw [show i + 1 + ls.length = i + (ls.length + 1) by omega]
theorem rawFrom_len {n : Nat} : ∀ (ls : List (List Exn)) (i : Nat), (∀ l ∈ ls, l.length ≤ n) → (rawFrom i ls).length ≤ 2 * n * ls.length
  | [], i, _ => Nat.zero_le _
  | l :: ls, i, h => by
    have h1 := rawFrom_len ls (i + 1) fun x hx => h x (by simp [hx])
    have h2 := rawOf_len i l
    have h3 := h l (by simp)
    simp only [rawFrom, List.length_append, List.length_cons]
    rw [Nat.mul_add]
    omega
set_option maxRecDepth 20000 in
theorem loop84 {D : PV} {l : List Exn} {pre : List End} {v n : Nat} {q17 : AV} (hq : q17 = .pv (.list 2 (l.map eExt))) (ho : okEs l) (hl : l.length ≤ 100000) (hpre : pre.length ≤ 10000000) {st : St} (h : st.head [0, 3, 4, 5, 11, 12, 13, 17, 18, 19, 20, 39] st.boxes.length = some ⟨sl 45 [(0, .pv D), (3, .row 3 ((pre ++ rawOf v (l.take ((0 : Nat)))).map eEnd)), (4, .pv (.int .i64 v)), (5, .pv (.list 2 (l.map eExt))), (11, .pv D), (12, .pv (.int .i64 n)), (13, .pv (.int .i64 v)), (17, .pv (.list 2 (l.map eExt))), (18, .pv (.list 2 (l.map eExt))), (19, .pv (.int .i64 l.length)), (20, .pv (.int .i64 (0 : Nat))), (39, .any)], [], [], none⟩) :
   den env fn84_l1 st = some (.normal, ⟨sl 45 [(0, .pv D), (2, .any), (3, .row 3 ((pre ++ rawOf v l).map eEnd)), (11, .pv D), (12, .pv (.int .i64 n)), (13, .pv (.int .i64 v)), (39, .any)], [], [], none⟩) := by
  unfold fn84_l1
  refine clean_up (env := env) (l.length) (fun i => ⟨sl 45 [(0, .pv D), (3, .row 3 ((pre ++ rawOf v (l.take (i))).map eEnd)), (4, .pv (.int .i64 v)), (5, .pv (.list 2 (l.map eExt))), (11, .pv D), (12, .pv (.int .i64 n)), (13, .pv (.int .i64 v)), (17, .pv (.list 2 (l.map eExt))), (18, .pv (.list 2 (l.map eExt))), (19, .pv (.int .i64 l.length)), (20, .pv (.int .i64 i)), (39, .any)], [], [], none⟩) (fun i => some (.normal, ⟨sl 45 [(0, .pv D), (2, .any), (3, .row 3 ((pre ++ rawOf v l).map eEnd)), (11, .pv D), (12, .pv (.int .i64 n)), (13, .pv (.int .i64 v)), (39, .any)], [], [], none⟩)) h (fun _ => rfl) (fun _ => by simp only [slAll, slsAll, Nat.reduceMul, Nat.reduceBEq, Nat.reduceLT, Nat.reduceLeDiff, Nat.reduceAdd, decide_true, Bool.and_self, Bool.true_and]) ?_ ?_
  · intro i rb hi ih

    have hlim : lim = 1073741824 := rfl
    have hi1 := i64_next hi (by omega)
    have F1 : ((i : Int) < (l.length : Int)) = True := eq_true (by omega)
    have hx : l[i]? = some l[i] := List.getElem?_eq_getElem hi
    have ht := take_snoc1 hi
    have hox := ho _ (List.getElem_mem hi)
    generalize l[i] = x at *
    have e1 := cal57 hox
    have hrl := rawOf_len v (l.take i)
    rw [List.length_take] at hrl
    have P2 : part [PV.int .i64 x.start, .int .i64 x.count] 0 (some 2) = some (.agg [.int .i64 x.start, .int .i64 x.count]) := rfl
    simp only [eExt] at e1
    cases hw : (wX x).2.2 with
    | false =>
      rw [hw] at e1
      have hs : rawOf v (l.take (i + 1)) = rawOf v (l.take i) := by rw [ht, rawOf_snoc, hw]; simp
      simp only [fn84_b0, F1, hx, e1, eExt, P2, index_nat hi, List.getElem?_map, Option.map_some, List.length_map, List.length_cons, List.length_nil, slAll, slsAll, Nat.reduceMul, Nat.reduceBEq, Nat.reduceLT, Nat.reduceLeDiff, memAll, vAll, reduceCtorEq, Nat.reduceEqDiff, Nat.reduceAdd, Nat.reduceLT, Nat.reduceLeDiff, Nat.beq]
      rw [ih _ (by simp only [hi1, hs, slAll, slsAll, Nat.reduceMul, Nat.reduceBEq, Nat.reduceLT, Nat.reduceLeDiff, memAll, vAll, reduceCtorEq, Nat.reduceEqDiff, Nat.reduceAdd, Nat.reduceLT, Nat.reduceLeDiff, Nat.beq] <;> rfl)]
    | true =>
      obtain ⟨a, b, hab, -, -, -⟩ := wX_true hw
      have hs : rawOf v (l.take (i + 1)) = rawOf v (l.take i) ++ [⟨a, v, 1⟩, ⟨b, v, -1⟩] := by rw [ht, rawOf_snoc, hab]; simp
      rw [hab] at e1
      have F2 : ((pre ++ rawOf v (l.take i)).length + 1 + 1 ≤ lim) = True := eq_true (by rw [List.length_append]; omega)
      have F3 : ((pre ++ rawOf v (l.take i)).length + 2 ≤ lim) = True := eq_true (by rw [List.length_append]; omega)
      simp only [fn84_b0, F1, F2, F3, hx, e1, eExt, P2, index_nat hi, List.getElem?_map, Option.map_some, List.length_map, List.length_cons, List.length_nil, slAll, slsAll, Nat.reduceMul, Nat.reduceBEq, Nat.reduceLT, Nat.reduceLeDiff, memAll, vAll, reduceCtorEq, Nat.reduceEqDiff, Nat.reduceAdd, Nat.reduceLT, Nat.reduceLeDiff, Nat.beq]
      rw [ih _ (by simp only [hi1, hs, ← List.append_assoc, List.map_append, List.map_cons, List.map_nil, eEnd, slAll, slsAll, Nat.reduceMul, Nat.reduceBEq, Nat.reduceLT, Nat.reduceLeDiff, memAll, vAll, reduceCtorEq, Nat.reduceEqDiff, Nat.reduceAdd, Nat.reduceLT, Nat.reduceLeDiff, Nat.beq] <;> rfl)]
  · intro rb

    simp only [fn84_b0, Int.lt_irrefl, List.length_map, List.take_length, slAll, slsAll, Nat.reduceMul, Nat.reduceBEq, Nat.reduceLT, Nat.reduceLeDiff, memAll, vAll, reduceCtorEq, Nat.reduceEqDiff, Nat.reduceAdd, Nat.reduceLT, Nat.reduceLeDiff, Nat.beq]

set_option maxRecDepth 20000 in
theorem loop84l3 {ls : List (List Exn)} (ho : ∀ l ∈ ls, okEs l) (hr : ∀ l ∈ ls, l.length ≤ 100000) (hl : ls.length ≤ 10) {st : St} (h : st.head [0, 3, 11, 12, 13, 39] st.boxes.length = some ⟨sl 45 [(0, .pv (.list 1 (ls.map eExts))), (3, .row 3 ((rawFrom 0 (ls.take ((0 : Nat)))).map eEnd)), (11, .pv (.list 1 (ls.map eExts))), (12, .pv (.int .i64 ls.length)), (13, .pv (.int .i64 (0 : Nat))), (39, .any)], [], [], none⟩) :
   den env fn84_l3 st = some (.normal, ⟨sl 45 [(2, .any), (3, .row 3 ((rawFrom 0 ls).map eEnd))], [], [], none⟩) := by
  unfold fn84_l3
  refine clean_up (env := env) (ls.length) (fun i => ⟨sl 45 [(0, .pv (.list 1 (ls.map eExts))), (3, .row 3 ((rawFrom 0 (ls.take (i))).map eEnd)), (11, .pv (.list 1 (ls.map eExts))), (12, .pv (.int .i64 ls.length)), (13, .pv (.int .i64 i)), (39, .any)], [], [], none⟩) (fun i => some (.normal, ⟨sl 45 [(2, .any), (3, .row 3 ((rawFrom 0 ls).map eEnd))], [], [], none⟩)) h (fun _ => rfl) (fun _ => by simp only [slAll, slsAll, Nat.reduceMul, Nat.reduceBEq, Nat.reduceLT, Nat.reduceLeDiff, Nat.reduceAdd, decide_true, Bool.and_self, Bool.true_and]) ?_ ?_
  · intro i rb hi ih

    have hlim : lim = 1073741824 := rfl
    have hi1 := i64_next hi (by omega)
    have F1 : ((i : Int) < (ls.length : Int)) = True := eq_true (by omega)
    have hx : ls[i]? = some ls[i] := List.getElem?_eq_getElem hi
    have ht := take_snoc1 hi
    have hox := ho _ (List.getElem_mem hi)
    have hrx := hr _ (List.getElem_mem hi)
    have hli : (ls.take i).length = i := by rw [List.length_take]; omega
    have hp := rawFrom_len (n := 100000) (ls.take i) 0 fun l hl => hr l (List.mem_of_mem_take hl)
    rw [hli] at hp
    generalize ls[i] = l at *
    have hs : rawFrom 0 (ls.take (i + 1)) = rawFrom 0 (ls.take i) ++ rawOf i l := by rw [ht, rawFrom_snoc, hli, Nat.zero_add]
    have hr0 : rawOf i ([] : List Exn) = [] := rfl
    simp only [fn84_b2, F1, hx, eExts, index_nat hi, List.getElem?_map, Option.map_some, List.length_map, slAll, slsAll, Nat.reduceMul, Nat.reduceBEq, Nat.reduceLT, Nat.reduceLeDiff, memAll, vAll, reduceCtorEq, Nat.reduceEqDiff, Nat.reduceAdd, Nat.reduceLT, Nat.reduceLeDiff, Nat.beq]
    rw [loop84 (l := l) (pre := rawFrom 0 (ls.take i)) (v := i) (q17 := .pv (.list 2 (l.map eExt))) rfl hox hrx (by omega)]
    rotate_left
    · simp only [z_take_zero, hr0, List.append_nil, eExts, slAll, slsAll, Nat.reduceMul, Nat.reduceBEq, Nat.reduceLT, Nat.reduceLeDiff, memAll, vAll, reduceCtorEq, Nat.reduceEqDiff, Nat.reduceAdd, Nat.reduceLT, Nat.reduceLeDiff, Nat.beq] <;> rfl
    simp only [slAll, slsAll, Nat.reduceMul, Nat.reduceBEq, Nat.reduceLT, Nat.reduceLeDiff, memAll, vAll, reduceCtorEq, Nat.reduceEqDiff, Nat.reduceAdd, Nat.reduceLT, Nat.reduceLeDiff, Nat.beq]
    rw [ih _ (by simp only [hi1, hs, eExts, slAll, slsAll, Nat.reduceMul, Nat.reduceBEq, Nat.reduceLT, Nat.reduceLeDiff, memAll, vAll, reduceCtorEq, Nat.reduceEqDiff, Nat.reduceAdd, Nat.reduceLT, Nat.reduceLeDiff, Nat.beq] <;> rfl)]
  · intro rb

    simp only [fn84_b2, Int.lt_irrefl, List.length_map, List.take_length, slAll, slsAll, Nat.reduceMul, Nat.reduceBEq, Nat.reduceLT, Nat.reduceLeDiff, memAll, vAll, reduceCtorEq, Nat.reduceEqDiff, Nat.reduceAdd, Nat.reduceLT, Nat.reduceLeDiff, Nat.beq]

def endsOf (ls : List (List Exn)) : List End := sortE (rawFrom 0 ls)
theorem cal84 {ls : List (List Exn)} (ho : ∀ l ∈ ls, okEs l) (hr : ∀ l ∈ ls, l.length ≤ 10000) (hl : ls.length ≤ 2) (hsl : (endsOf ls).length = (rawFrom 0 ls).length) : cal env 84 [.list 1 (ls.map eExts)] = some [(.list 3 ((endsOf ls).map eEnd), true)] := by
  have hp := rawFrom_len (n := 10000) ls 0 hr
  have hp2 : (rawFrom 0 ls).length ≤ 1000000 := by
    have : 2 * 10000 * ls.length ≤ 2 * 10000 * 2 := Nat.mul_le_mul_left _ hl
    omega
  have h1 := sortEndsX_enc (g := 89) (l := rawFrom 0 ls) hp2
  have h2 : ((sortE (rawFrom 0 ls)).map eEnd).length = ((rawFrom 0 ls).map eEnd).length := by
    rw [List.length_map, List.length_map]; exact hsl
  unfold endsOf
  have hcond : (0 = 0 ∧ (rawFrom 0 ls).length = ((rawFrom 0 ls).map eEnd).length ∧ ((sortE (rawFrom 0 ls)).map eEnd).length = ((rawFrom 0 ls).map eEnd).length) = True := eq_true ⟨rfl, by simp, h2⟩
  rw [cal_code env84 rfl]; simp only [fn84, slAll, Nat.reduceBEq, Nat.reduceLeDiff, Nat.reduceAdd, List.length_cons, List.length_nil]
  simp only [List.length_map, env88, h1, hsl, slAll, slsAll, Nat.reduceMul, Nat.reduceBEq, Nat.reduceLT, Nat.reduceLeDiff, memAll, vAll, reduceCtorEq, Nat.reduceEqDiff, Nat.reduceAdd, Nat.reduceLT, Nat.reduceLeDiff, Nat.beq]
  rw [loop84l3 ho (fun l h => by have := hr l h; omega) (by omega) (by simp only [z_take_zero, rawFrom, List.map_nil, slAll, slsAll, Nat.reduceMul, Nat.reduceBEq, Nat.reduceLT, Nat.reduceLeDiff, memAll, vAll, reduceCtorEq, Nat.reduceEqDiff, Nat.reduceAdd, Nat.reduceLT, Nat.reduceLeDiff, Nat.beq] <;> rfl)]
  simp only [h2, List.length_map, env88, h1, hsl, slAll, slsAll, Nat.reduceMul, Nat.reduceBEq, Nat.reduceLT, Nat.reduceLeDiff, memAll, vAll, reduceCtorEq, Nat.reduceEqDiff, Nat.reduceAdd, Nat.reduceLT, Nat.reduceLeDiff, Nat.beq]
  rw [← hsl]
  unfold endsOf
  rw [take_map_all]
end Go.Proofs.YtncobemfpammfaaGreatDoor.V

namespace Go.Proofs
open Go.Shelf
def Tryz.sortEnd_ren : Go.Shelf.Ren := ⟨fun | 6 => 88 | 15 => 92 | 14 => 91 | 28 => 102 | 29 => 103 | 20 => 94 | 21 => 95 | 22 => 96 | 23 => 97 | 24 => 98 | 25 => 99 | 26 => 100 | 27 => 101 | 46 => 104 | 47 => 105 | 48 => 106 | 49 => 107 | 50 => 108 | 57 => 109 | n => n, fun | 22 => 131 | 24 => 135 | 25 => 141 | 3 => 3 | 39 => 138 | 0 => 0 | 53 => 153 | 55 => 65 | 4 => 4 | 46 => 146 | 45 => 145 | 50 => 150 | 5 => 5 | 9 => 9 | 66 => 154 | 70 => 158 | 76 => 160 | 77 => 46 | n => n, fun | n => n⟩
theorem Tryz.sortEnd : Go.Proofs.SlLaysF0.n6 Tryz.prog Tryz.sortEnd_ren := {
  mixed := by kernel_rfl
  f6 := ⟨Tryz.f88.name, by decide, Tryz.func88.trans (congrArg some (by kernel_rfl))⟩
  f14 := ⟨Tryz.f91.name, by decide, Tryz.func91.trans (congrArg some (by kernel_rfl))⟩
  f15 := Tryz.func92.trans (congrArg some (by kernel_rfl))
  f20 := ⟨Tryz.f94.name, by decide, Tryz.func94.trans (congrArg some (by kernel_rfl))⟩
  f21 := ⟨Tryz.f95.name, by decide, Tryz.func95.trans (congrArg some (by kernel_rfl))⟩
  f22 := ⟨Tryz.f96.name, by decide, Tryz.func96.trans (congrArg some (by kernel_rfl))⟩
  f23 := ⟨Tryz.f97.name, by decide, Tryz.func97.trans (congrArg some (by kernel_rfl))⟩
  f24 := ⟨Tryz.f98.name, by decide, Tryz.func98.trans (congrArg some (by kernel_rfl))⟩
  f25 := ⟨Tryz.f99.name, by decide, Tryz.func99.trans (congrArg some (by kernel_rfl))⟩
  f26 := ⟨Tryz.f100.name, by decide, Tryz.func100.trans (congrArg some (by kernel_rfl))⟩
  f27 := ⟨Tryz.f101.name, by decide, Tryz.func101.trans (congrArg some (by kernel_rfl))⟩
  f28 := Tryz.func102.trans (congrArg some (by kernel_rfl))
  f29 := Tryz.func103.trans (congrArg some (by kernel_rfl))
  f46 := ⟨Tryz.f104.name, by decide, Tryz.func104.trans (congrArg some (by kernel_rfl))⟩
  f47 := Tryz.func105.trans (congrArg some (by kernel_rfl))
  f48 := Tryz.func106.trans (congrArg some (by kernel_rfl))
  f49 := ⟨Tryz.f107.name, by decide, Tryz.func107.trans (congrArg some (by kernel_rfl))⟩
  f50 := ⟨Tryz.f108.name, by decide, Tryz.func108.trans (congrArg some (by kernel_rfl))⟩
  f57 := ⟨Tryz.f109.name, by decide, Tryz.func109.trans (congrArg some (by kernel_rfl))⟩
  t0 := Tryz.underlying0
  a0 := Tryz.isAgg0
  z0 := Tryz.sizeOf0
  v0 := Tryz.zeroValue0
  t3 := Tryz.underlying3
  a3 := Tryz.isAgg3
  z3 := Tryz.sizeOf3
  v3 := Tryz.zeroValue3
  t4 := Tryz.underlying4
  a4 := Tryz.isAgg4
  z4 := Tryz.sizeOf4
  v4 := Tryz.zeroValue4
  t5 := Tryz.underlying5
  a5 := Tryz.isAgg5
  z5 := Tryz.sizeOf5
  v5 := Tryz.zeroValue5
  t9 := Tryz.underlying9
  a9 := Tryz.isAgg9
  z9 := Tryz.sizeOf9
  v9 := Tryz.zeroValue9
  t22 := Tryz.underlying131
  a22 := Tryz.isAgg131
  z22 := Tryz.sizeOf131
  v22 := Tryz.zeroValue131
  t25 := Tryz.underlying141
  a25 := Tryz.isAgg141
  z25 := Tryz.sizeOf141
  v25 := Tryz.zeroValue141
  t39 := Tryz.underlying138
  a39 := Tryz.isAgg138
  z39 := Tryz.sizeOf138
  v39 := Tryz.zeroValue138
  t45 := Tryz.underlying145
  a45 := Tryz.isAgg145
  z45 := Tryz.sizeOf145
  v45 := Tryz.zeroValue145
  t46 := Tryz.underlying146
  a46 := Tryz.isAgg146
  z46 := Tryz.sizeOf146
  v46 := Tryz.zeroValue146
  t50 := Tryz.underlying150
  a50 := Tryz.isAgg150
  z50 := Tryz.sizeOf150
  v50 := Tryz.zeroValue150
  t53 := Tryz.underlying153
  a53 := Tryz.isAgg153
  z53 := Tryz.sizeOf153
  v53 := Tryz.zeroValue153
  t55 := Tryz.underlying65
  a55 := Tryz.isAgg65
  z55 := Tryz.sizeOf65
  v55 := Tryz.zeroValue65
  t66 := Tryz.underlying154
  a66 := Tryz.isAgg154
  z66 := Tryz.sizeOf154
  v66 := Tryz.zeroValue154
  t70 := Tryz.underlying158
  a70 := Tryz.isAgg158
  z70 := Tryz.sizeOf158
  v70 := Tryz.zeroValue158
  t76 := Tryz.underlying160
  a76 := Tryz.isAgg160
  z76 := Tryz.sizeOf160
  v76 := Tryz.zeroValue160
  t77 := Tryz.underlying46
  a77 := Tryz.isAgg46
  z77 := Tryz.sizeOf46
  v77 := Tryz.zeroValue46 }
def Tryz.cmpInt_ren : Go.Shelf.Ren := ⟨fun | 5 => 90 | 7 => 93 | n => n, fun | 22 => 3 | 3 => 3 | 4 => 4 | n => n, fun | n => n⟩
theorem Tryz.cmpInt : Go.Proofs.SlLaysC2.n5 Tryz.prog Tryz.cmpInt_ren := {
  mixed := by kernel_rfl
  f5 := ⟨Tryz.f90.name, by decide, Tryz.func90.trans (congrArg some (by kernel_rfl))⟩
  f7 := ⟨Tryz.f93.name, by decide, Tryz.func93.trans (congrArg some (by kernel_rfl))⟩
  t3 := Tryz.underlying3
  a3 := Tryz.isAgg3
  z3 := Tryz.sizeOf3
  v3 := Tryz.zeroValue3
  t4 := Tryz.underlying4
  a4 := Tryz.isAgg4
  z4 := Tryz.sizeOf4
  v4 := Tryz.zeroValue4
  t22 := Tryz.underlying3
  a22 := Tryz.isAgg3
  z22 := Tryz.sizeOf3
  v22 := Tryz.zeroValue3 }
end Go.Proofs
