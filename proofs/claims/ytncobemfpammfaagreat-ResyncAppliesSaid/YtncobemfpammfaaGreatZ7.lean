/-
  Part 7 of the texts that the statement stands on.
-/
import Derived.Test.YtncobemfpammfaaGreatZ6
import Derived.Test.YtncobemfpammfaaGreatProg
import Derived.Shelf.SlSortCmp.WholeK
import Derived.Shelf.SlSortCmp.NoneTotal
import Derived.Shelf.SlicesG.Cmp
import Derived.Shelf.Small.Bits
import Derived.Ground.SlsfProg
import Derived.Ground.SlgcProg
import Derived.Ground.NamesProg
set_option linter.all false
namespace Go.Proofs.YtncobemfpammfaaGreat

noncomputable def iter (env : Env) (f : Nat) (caps : List PV) (stop : Option Nat) : Option (List (List PV)) := iterRes (den env) env f caps stop
def ystart (n : Nat) (caps : List PV) (stop : Option Nat) : St := ⟨.yld :: (caps.map .pv ++ List.replicate (n - (caps.length + 1)) .any), [], [], some stop⟩
def yfin : Ex × St → Option (List (List PV))
  | (.exit _, _) => none
  | (_, st) => some st.ys
section
variable {env : Env}
theorem yfin_normal (st : St) : yfin (.normal, st) = some st.ys := (rfl)
theorem yfin_ret (st : St) : yfin (.ret, st) = some st.ys := (rfl)
theorem iter_code {f : Nat} {fn : VFn} {caps : List PV} {stop : Option Nat} (h : env f = some (.code fn)) (hl : caps.length + 1 = fn.nargs) (hr : fn.results.isEmpty = true) : iter env f caps stop = (den env fn.body (ystart fn.ntmps caps stop)).bind yfin := by
  unfold iter iterRes
  rw [h]
  simp only [if_pos (And.intro hl hr)]
  show (den env fn.body _).bind _ = _
  congr 1
  funext ⟨e, st⟩
  cases e <;> rfl

noncomputable def round1 (env : Env) (slots : List AV) (ps : List Nat) (assign body : VCode) (nb : Nat) (x : List PV) (st : St) : Option (Ex × St) :=
  (setParams slots ps x).bind fun sl => (den env assign { st with slots := sl }).bind fun p => match p with
    | (.normal, st) => (den env body st).bind fun p => match p with
      | (.normal, st) => if nb ≤ st.boxes.length then some (.normal, { st with boxes := st.boxes.take nb }) else none
      | p => some p
    | _ => none
theorem rounds_cons {slots : List AV} {ps : List Nat} {assign body : VCode} {nb k : Nat} {x : List PV} {xs : List (List PV)} {st : St} :
    rounds (den env) slots ps assign body nb k (x :: xs) st = (round1 env slots ps assign body nb x st).bind fun p => match p with
      | (.normal, st) => rounds (den env) slots ps assign body nb (k + 1) xs st
      | (e, st) => some (some (e, k + 1), st) := by
  conv => lhs; unfold rounds
  unfold round1
  show (setParams slots ps x).bind _ = _
  cases setParams slots ps x with
  | none => rfl
  | some sl =>
    simp only [Option.bind_some]
    show (den env assign _).bind _ = _
    cases den env assign { st with slots := sl } with
    | none => rfl
    | some p =>
      obtain ⟨e, s⟩ := p
      simp only [Option.bind_some]
      cases e with
      | normal =>
        simp only
        show (den env body _).bind _ = _
        cases den env body s with
        | none => rfl
        | some p =>
          obtain ⟨e, s⟩ := p
          simp only [Option.bind_some]
          cases e with
          | normal =>
            simp only
            split <;> rfl
          | exit i => rfl
          | ret => rfl
      | exit i => rfl
      | ret => rfl
theorem rng_all {g : Opd} {ps : List Nat} {assign body : VCode} {st st1 : St} {f : Nat} {caps : List PV} {xs : List (List PV)} (hg : st.pvOf g = some (.func f caps)) (hi : iter env f caps none = some xs)
    (hr : rounds (den env) (st.slots.map AV.froze) ps assign body st.boxes.length 0 xs { st with slots := st.slots.map AV.froze } = some (none, st1)) : den env (.rng g ps assign body) st = some (.normal, { st1 with slots := st.slots.map AV.froze }) := by
  rw [den_eq]
  show ranged (den env) env g ps assign body st = _
  unfold ranged
  rw [hg]
  unfold iter at hi
  simp only [z_bind_eq, Option.bind_some, hi, hr]
theorem rng_idx (B : Nat → List Box) {g : Opd} {ps : List Nat} {assign body : VCode} {st : St} {f : Nat} {caps : List PV} {xs : List (List PV)} (hg : st.pvOf g = some (.func f caps)) (hi : iter env f caps none = some xs) (hB : st.boxes = B 0)
    (h : ∀ j x, xs[j]? = some x → ∀ sl0, ∃ sl1, round1 env (st.slots.map AV.froze) ps assign body st.boxes.length x ⟨sl0, B j, st.ys, st.stop⟩ = some (.normal, ⟨sl1, B (j + 1), st.ys, st.stop⟩)) :
    den env (.rng g ps assign body) st = some (.normal, ⟨st.slots.map AV.froze, B xs.length, st.ys, st.stop⟩) := by
  have key : ∀ (l : List (List PV)) (j : Nat), xs.drop j = l → ∀ (k : Nat) (sl0 : List AV), ∃ sl1, rounds (den env) (st.slots.map AV.froze) ps assign body st.boxes.length k l ⟨sl0, B j, st.ys, st.stop⟩ = some (none, ⟨sl1, B (j + l.length), st.ys, st.stop⟩) := by
    intro l
    induction l with
    | nil => intro j _ k sl0; exact ⟨sl0, rfl⟩
    | cons x l ih =>
      intro j hj k sl0
      have hx : xs[j]? = some x := by rw [← List.head?_drop, hj]; rfl
      have hd : xs.drop (j + 1) = l := by rw [← List.drop_drop, hj]; rfl
      obtain ⟨sl1, q⟩ := h j x hx sl0
      obtain ⟨sl2, q2⟩ := ih (j + 1) hd (k + 1) sl1
      refine ⟨sl2, ?_⟩
      rw [rounds_cons, q]
      simp only [Option.bind_some, q2, List.length_cons]
      rw [show j + 1 + l.length = j + (l.length + 1) by omega]
  obtain ⟨sl1, q⟩ := key xs 0 (by simp) 0 (st.slots.map AV.froze)
  rw [← hB, Nat.zero_add] at q
  have r := rng_all hg hi q
  exact r
noncomputable def rassign (env : Env) (body : VCode) (nb : Nat) : Ex × St → Option (Ex × St)
  | (.normal, st) => (den env body st).bind fun p => match p with
    | (.normal, st) => if nb ≤ st.boxes.length then some (.normal, { st with boxes := st.boxes.take nb }) else none
    | p => some p
  | _ => none
def rend (nb : Nat) : Ex × St → Option (Ex × St)
  | (.normal, st) => if nb ≤ st.boxes.length then some (.normal, { st with boxes := st.boxes.take nb }) else none
  | p => some p
theorem round1_eq (slots : List AV) (ps : List Nat) (assign body : VCode) (nb : Nat) (x : List PV) (st : St) : round1 env slots ps assign body nb x st = (setParams slots ps x).bind fun sl => (den env assign { st with slots := sl }).bind (rassign env body nb) := by
  unfold round1
  rfl
theorem rassign_normal (body : VCode) (nb : Nat) (st : St) : rassign env body nb (.normal, st) = (den env body st).bind (rend nb) := by
  rfl
theorem rend_normal (nb : Nat) (st : St) : rend nb (.normal, st) = if nb ≤ st.boxes.length then some (.normal, { st with boxes := st.boxes.take nb }) else none := (rfl)
theorem rend_exit (nb i : Nat) (st : St) : rend nb (.exit i, st) = some (.exit i, st) := (rfl)
theorem rend_ret (nb : Nat) (st : St) : rend nb (.ret, st) = some (.ret, st) := (rfl)
theorem setP_nil (slots : List AV) : setParams slots [] [] = some slots := (rfl)
theorem setP_cons (slots : List AV) (p : Nat) (ps : List Nat) (v : PV) (vs : List PV) : setParams slots (p :: ps) (v :: vs) = setParams (slots.set p (.pv v)) ps vs := (rfl)
theorem froze_pv (v : PV) : AV.froze (.pv v) = .pv v := (rfl)
theorem froze_row (sz : Nat) (es : List PV) : AV.froze (.row sz es) = .pv (.list sz es) := (rfl)
theorem froze_any : AV.froze .any = .any := (rfl)
theorem froze_tup (l : List AV) : AV.froze (.tup l) = .any := (rfl)
theorem froze_ref (r : Root) (i j : Nat) : AV.froze (.ref r i j) = .any := (rfl)
theorem froze_pel (r : Root) (i j : Nat) : AV.froze (.pel r i j) = .any := (rfl)
theorem froze_pbox (i j : Nat) : AV.froze (.pbox i j) = .pbox i j := (rfl)
theorem froze_fn (f : Nat) (l : List AV) : AV.froze (.fn f l) = .fn f l := (rfl)
theorem froze_yld : AV.froze .yld = .yld := (rfl)
end
def vRng := And.intro @round1_eq (And.intro @rassign_normal (And.intro @rend_normal (And.intro @rend_exit (And.intro @rend_ret (And.intro @setP_nil (And.intro @setP_cons (And.intro @froze_pv (And.intro @froze_row (And.intro @froze_any (And.intro @froze_tup (And.intro @froze_ref (And.intro @froze_pel (And.intro @froze_pbox (And.intro @froze_fn (And.intro @froze_yld (And.intro @yfin_normal @yfin_ret))))))))))))))))
end Go.Proofs.YtncobemfpammfaaGreat

namespace Go.Proofs.YtncobemfpammfaaGreat.V

def dif (a b : List Sec) (i : Nat) : Bool := decide (a[i]? ≠ b[i]?)
def difN (a b : List Sec) (n : Nat) : List Nat := (List.range n).filter (dif a b)
def difs (a b : List Sec) : List Nat := difN a b a.length
def addAt (out : List Exn) (i : Nat) : List Exn := match out.getLast? with
  | some x => if x.start + x.count = (i : Int) then out.dropLast ++ [⟨x.start, x.count + 1⟩] else out ++ [⟨i, 1⟩]
  | none => [⟨i, 1⟩]
def exts (l : List Nat) : List Exn := l.foldl addAt []
def volDiff (a b : List Sec) : List Exn := exts (difs a b)
theorem difN_succ (a b : List Sec) (n : Nat) : difN a b (n + 1) = if dif a b n then difN a b n ++ [n] else difN a b n := by
  simp only [difN, List.range_succ, List.filter_append, List.filter_cons, List.filter_nil]
  cases dif a b n <;> simp
theorem addAt_snoc (pre : List Exn) (x : Exn) (i : Nat) : addAt (pre ++ [x]) i = if x.start + x.count = (i : Int) then pre ++ [⟨x.start, x.count + 1⟩] else pre ++ [x] ++ [⟨i, 1⟩] := by
  simp [addAt]
theorem exts_snoc (l : List Nat) (i : Nat) : exts (l ++ [i]) = addAt (exts l) i := by simp [exts]
theorem snoc_cases {α : Type} (l : List α) : l = [] ∨ ∃ p x, l = p ++ [x] := by
  rcases List.eq_nil_or_concat l with h | ⟨p, x, h⟩
  · exact .inl h
  · exact .inr ⟨p, x, by rw [h]; simp⟩
theorem exts_last : ∀ (n : Nat) (l : List Nat), l.length = n → ∀ i : Nat, ∃ pre x, exts (l ++ [i]) = pre ++ [x] ∧ x.start + x.count = (i : Int) + 1 ∧ 0 ≤ x.start ∧ 1 ≤ x.count ∧ pre.length ≤ l.length := by
  intro n
  induction n with
  | zero =>
    intro l hl i
    have := List.eq_nil_of_length_eq_zero hl
    subst this
    exact ⟨[], ⟨i, 1⟩, rfl, rfl, by simp, by simp, by simp⟩
  | succ n ih =>
    intro l hl i
    rcases snoc_cases l with rfl | ⟨p, j, rfl⟩
    · simp at hl
    · obtain ⟨pre, x, e, h1, h2, h3, h4⟩ := ih p (by simpa using hl) j
      rw [exts_snoc, e, addAt_snoc]
      split
      · rename_i hx
        exact ⟨pre, _, rfl, by simp; omega, h2, by simp; omega, by simp; omega⟩
      · exact ⟨pre ++ [x], _, rfl, by simp, by simp, by simp, by simp; omega⟩
theorem difN_lt {a b : List Sec} {n i : Nat} (h : i ∈ difN a b n) : i < n := by
  simp [difN] at h; exact h.1
theorem difN_len (a b : List Sec) (n : Nat) : (difN a b n).length ≤ n := by
  have := List.length_filter_le (dif a b) (List.range n); simpa [difN] using this
theorem wrap_pred {n : Nat} (h : n ≤ lim) : IntKind.i64.wrap (((n + 1 : Nat) : Int) - 1) = (n : Int) := by
  rw [i64_fits (by unfold lim at h; omega)]; omega
theorem cal69 {a b : List Sec} : cal env 69 [.list 8 (a.map eSec), .list 8 (b.map eSec)] = some [(.func 91 [.iptr [.list 8 (a.map eSec)] 0, .iptr [.list 8 (b.map eSec)] 0], false)] := by
  rw [cal_code env69 rfl]; simp only [fn69]; simp only [start, z_map_cons, z_map_nil, z_len_cons, z_len_nil, z_repl_zero, z_repl_succ, z_cons_app, z_nil_app, Nat.reduceAdd, Nat.reduceSub]
  simp only [ List.isEmpty_nil, val_pvs, frozen_pvs, msnoc_len, msnoc_get, msnoc_set, msnoc_take, Int.le_refl, take_map_all, Nat.le_refl, St.freezeRows, BV.frozen, List.take_length, List.take_append_drop, z_repl_zero, Int.toNat_zero, true_and, and_true, and_self, eq_self, z_take_zero, List.drop_nil, List.take_nil, vAll, List.foldl_nil, List.foldl_cons, resultsOf, resultList, resultOf, zBV, splice, PV.remade, St.freezeAt, St.freezeBox, St.freezeCap, PV.single, plain, act, dstOf, if_true, if_false, reduceCtorEq, St.get, St.put, St.pvOf, St.putRow, St.consume, St.freeze, St.row, St.elems, St.grab, St.takeRow, St.setRow, St.place, St.optPv, St.setCell, St.setCellRow, binPV, intBin, unPV, BV.val, Nat.reduceEqDiff, bound, consumeAll, buildParts, capsOf, capOf, List.append_nil, Nat.reduceAdd, Nat.reduceLT, Nat.reduceLeDiff, beq_self_eq_true, List.length_map, Nat.beq, dcall, dcallP, List.mapM_cons, St.snapFn, St.snap, St.layAll, St.lay, St.freezeArg, St.freezeArg1]
def yI (l : List Nat) : List (List PV) := l.map fun (i : Nat) => [PV.int .i64 (i : Int)]
theorem yI_snoc (l : List Nat) (i : Nat) : yI (l ++ [i]) = yI l ++ [[.int .i64 (i : Int)]] := by simp [yI]
theorem iter91 {a b : List Sec} (hl : a.length ≤ lim) (hab : a.length = b.length) : iter env 91 [.iptr [.list 8 (a.map eSec)] 0, .iptr [.list 8 (b.map eSec)] 0] none = some (yI (difs a b)) := by
  have loop : ∀ {st : St} (h : st.head [0, 1, 2, 6, 7] st.boxes.length = some ⟨[.yld, .pv (.iptr [.list 8 (a.map eSec)] 0), .pv (.iptr [.list 8 (b.map eSec)] 0), .any, .any, .any, .pv (.int .i64 a.length), .pv (.int .i64 (0 : Nat)), .any, .any, .any, .any, .any, .any, .any, .any, .any, .any, .any, .any, .any, .any, .any, .any, .any, .any], [], yI (difN a b 0), some none⟩),
     den env fn91_l1 st = some (.normal, ⟨[.any, .any, .any, .any, .any, .any, .any, .any, .any, .any, .any, .any, .any, .any, .any, .any, .any, .any, .any, .any, .any, .any, .any, .any, .any, .any], [], yI (difN a b a.length), some none⟩) := by
    intro st h
    unfold fn91_l1
    refine clean_up (env := env) a.length (fun i => ⟨[.yld, .pv (.iptr [.list 8 (a.map eSec)] 0), .pv (.iptr [.list 8 (b.map eSec)] 0), .any, .any, .any, .pv (.int .i64 a.length), .pv (.int .i64 i), .any, .any, .any, .any, .any, .any, .any, .any, .any, .any, .any, .any, .any, .any, .any, .any, .any, .any], [], yI (difN a b i), some none⟩) (fun _ => some (.normal, ⟨[.any, .any, .any, .any, .any, .any, .any, .any, .any, .any, .any, .any, .any, .any, .any, .any, .any, .any, .any, .any, .any, .any, .any, .any, .any, .any], [], yI (difN a b a.length), some none⟩)) h (fun _ => rfl) (fun _ => rfl) ?_ ?_
    · intro i rb hi ih
      have hi1 := i64_next hi hl
      have hj : i < b.length := by omega
      have F1 : ((i : Int) < (a.length : Int)) = True := eq_true (by omega)
      by_cases hd : a[i] = b[i]
      · simp only [fn91_b0, F1, eSec, index_nat hi, index_nat hj, List.getElem?_map, List.getElem?_eq_getElem hi, List.getElem?_eq_getElem hj, part_sec, secPV_length, eqCells_sec, hd, decide_true, List.isEmpty_nil, val_pvs, frozen_pvs, msnoc_len, msnoc_get, msnoc_set, msnoc_take, Int.le_refl, take_map_all, Nat.le_refl, St.freezeRows, BV.frozen, List.take_length, List.take_append_drop, z_repl_zero, Int.toNat_zero, true_and, and_true, and_self, eq_self, z_take_zero, List.drop_nil, List.take_nil, vAll, List.foldl_nil, List.foldl_cons, resultsOf, resultList, resultOf, zBV, splice, PV.remade, St.freezeAt, St.freezeBox, St.freezeCap, PV.single, plain, act, dstOf, if_true, if_false, reduceCtorEq, St.get, St.put, St.pvOf, St.putRow, St.consume, St.freeze, St.row, St.elems, St.grab, St.takeRow, St.setRow, St.place, St.optPv, St.setCell, St.setCellRow, binPV, intBin, unPV, BV.val, Nat.reduceEqDiff, bound, consumeAll, buildParts, capsOf, capOf, List.append_nil, Nat.reduceAdd, Nat.reduceLT, Nat.reduceLeDiff, beq_self_eq_true, List.length_map, Nat.beq, dcall, dcallP, List.mapM_cons, St.snapFn, St.snap, St.layAll, St.lay, St.freezeArg, St.freezeArg1]
        rw [ih _ (by simp only [hi1]; rw [difN_succ, if_neg (by simp [dif, List.getElem?_eq_getElem hi, List.getElem?_eq_getElem hj, hd])]; rfl)]
      · have hdd : dif a b i = true := by simp [dif, List.getElem?_eq_getElem hi, List.getElem?_eq_getElem hj, hd]
        have hdf := decide_eq_false hd
        simp only [fn91_b0, F1, eSec, index_nat hi, index_nat hj, List.getElem?_map, List.getElem?_eq_getElem hi, List.getElem?_eq_getElem hj, part_sec, secPV_length, eqCells_sec, hdf, List.isEmpty_nil, val_pvs, frozen_pvs, msnoc_len, msnoc_get, msnoc_set, msnoc_take, Int.le_refl, take_map_all, Nat.le_refl, St.freezeRows, BV.frozen, List.take_length, List.take_append_drop, z_repl_zero, Int.toNat_zero, true_and, and_true, and_self, eq_self, z_take_zero, List.drop_nil, List.take_nil, vAll, List.foldl_nil, List.foldl_cons, resultsOf, resultList, resultOf, zBV, splice, PV.remade, St.freezeAt, St.freezeBox, St.freezeCap, PV.single, plain, act, dstOf, if_true, if_false, reduceCtorEq, St.get, St.put, St.pvOf, St.putRow, St.consume, St.freeze, St.row, St.elems, St.grab, St.takeRow, St.setRow, St.place, St.optPv, St.setCell, St.setCellRow, binPV, intBin, unPV, BV.val, Nat.reduceEqDiff, bound, consumeAll, buildParts, capsOf, capOf, List.append_nil, Nat.reduceAdd, Nat.reduceLT, Nat.reduceLeDiff, beq_self_eq_true, List.length_map, Nat.beq, dcall, dcallP, List.mapM_cons, St.snapFn, St.snap, St.layAll, St.lay, St.freezeArg, St.freezeArg1]
        rw [ih _ (by simp only [hi1]; rw [difN_succ, if_pos hdd, yI_snoc]; rfl)]
    · intro rb
      simp only [fn91_b0, Int.lt_irrefl, List.isEmpty_nil, val_pvs, frozen_pvs, msnoc_len, msnoc_get, msnoc_set, msnoc_take, Int.le_refl, take_map_all, Nat.le_refl, St.freezeRows, BV.frozen, List.take_length, List.take_append_drop, z_repl_zero, Int.toNat_zero, true_and, and_true, and_self, eq_self, z_take_zero, List.drop_nil, List.take_nil, vAll, List.foldl_nil, List.foldl_cons, resultsOf, resultList, resultOf, zBV, splice, PV.remade, St.freezeAt, St.freezeBox, St.freezeCap, PV.single, plain, act, dstOf, if_true, if_false, reduceCtorEq, St.get, St.put, St.pvOf, St.putRow, St.consume, St.freeze, St.row, St.elems, St.grab, St.takeRow, St.setRow, St.place, St.optPv, St.setCell, St.setCellRow, binPV, intBin, unPV, BV.val, Nat.reduceEqDiff, bound, consumeAll, buildParts, capsOf, capOf, List.append_nil, Nat.reduceAdd, Nat.reduceLT, Nat.reduceLeDiff, beq_self_eq_true, List.length_map, Nat.beq, dcall, dcallP, List.mapM_cons, St.snapFn, St.snap, St.layAll, St.lay, St.freezeArg, St.freezeArg1]
      rfl
  rw [iter_code env91 rfl rfl]
  simp only [fn91, ystart, z_map_cons, z_map_nil, z_len_cons, z_len_nil, z_repl_zero, z_repl_succ, z_cons_app, z_nil_app, Nat.reduceAdd, Nat.reduceSub]
  simp only [ List.isEmpty_nil, val_pvs, frozen_pvs, msnoc_len, msnoc_get, msnoc_set, msnoc_take, Int.le_refl, take_map_all, Nat.le_refl, St.freezeRows, BV.frozen, List.take_length, List.take_append_drop, z_repl_zero, Int.toNat_zero, true_and, and_true, and_self, eq_self, z_take_zero, List.drop_nil, List.take_nil, vAll, List.foldl_nil, List.foldl_cons, resultsOf, resultList, resultOf, zBV, splice, PV.remade, St.freezeAt, St.freezeBox, St.freezeCap, PV.single, plain, act, dstOf, if_true, if_false, reduceCtorEq, St.get, St.put, St.pvOf, St.putRow, St.consume, St.freeze, St.row, St.elems, St.grab, St.takeRow, St.setRow, St.place, St.optPv, St.setCell, St.setCellRow, binPV, intBin, unPV, BV.val, Nat.reduceEqDiff, bound, consumeAll, buildParts, capsOf, capOf, List.append_nil, Nat.reduceAdd, Nat.reduceLT, Nat.reduceLeDiff, beq_self_eq_true, List.length_map, Nat.beq, dcall, dcallP, List.mapM_cons, St.snapFn, St.snap, St.layAll, St.lay, St.freezeArg, St.freezeArg1]
  rw [loop]
  rotate_left
  · rfl
  · rfl
def endOf (l : List Nat) : Int := match l.getLast? with
  | some i => i + 1
  | none => -1
theorem endOf_snoc (l : List Nat) (i : Nat) : endOf (l ++ [i]) = (i : Int) + 1 := by simp [endOf]
theorem sorted_take {a b : List Sec} {j : Nat} {i : Nat} (h : (difs a b)[j]? = some i) : i < a.length ∧ j ≤ i ∧ ∀ k ∈ (difs a b).take j, k < i := by
  have hs : (difs a b).Pairwise (· < ·) := (List.pairwise_lt_range (n := a.length)).filter _
  obtain ⟨hj, rfl⟩ := List.getElem?_eq_some_iff.1 h
  refine ⟨difN_lt (List.getElem_mem hj), ?_, ?_⟩
  · have : ∀ (l : List Nat), l.Pairwise (· < ·) → ∀ (j : Nat) (hj : j < l.length), j ≤ l[j] := by
      intro l
      induction l with
      | nil => intro _ j hj; simp at hj
      | cons x l ih =>
        intro hp j hj
        cases j with
        | zero => simp
        | succ j =>
          have h1 := ih (List.pairwise_cons.1 hp).2
          simp only [List.length_cons, Nat.add_lt_add_iff_right] at hj
          simp only [List.getElem_cons_succ]
          cases j with
          | zero => have := (List.pairwise_cons.1 hp).1 l[0] (List.getElem_mem hj); omega
          | succ j =>
            have h2 := h1 (j + 1) hj
            have h3 : ∀ (m : Nat) (hm : m < l.length), x + m + 1 ≤ l[m] := by
              intro m
              induction m with
              | zero => intro hm; have := (List.pairwise_cons.1 hp).1 l[0] (List.getElem_mem hm); omega
              | succ m ihm =>
                intro hm
                have := ihm (by omega)
                have h4 := List.pairwise_iff_getElem.1 (List.pairwise_cons.1 hp).2 m (m + 1) (by omega) hm (by omega)
                omega
            have := h3 (j + 1) hj
            omega
    exact this _ hs j hj
  · intro k hk
    obtain ⟨m, hm, rfl⟩ := List.mem_iff_getElem.1 hk
    rw [List.getElem_take]
    simp only [List.length_take] at hm
    exact List.pairwise_iff_getElem.1 hs m j (by omega) hj (by omega)
theorem cal38 {a b : List Sec} (hl : a.length ≤ lim) (hab : a.length = b.length) : cal env 38 [.list 8 (a.map eSec), .list 8 (b.map eSec)] = some [(.list 2 ((volDiff a b).map eExt), true)] := by
  have e1 := cal69 (a := a) (b := b)
  rw [cal_code env38 rfl]; simp only [fn38]; simp only [start, z_map_cons, z_map_nil, z_len_cons, z_len_nil, z_repl_zero, z_repl_succ, z_cons_app, z_nil_app, Nat.reduceAdd, Nat.reduceSub]
  simp only [e1, List.isEmpty_nil, val_pvs, frozen_pvs, msnoc_len, msnoc_get, msnoc_set, msnoc_take, Int.le_refl, take_map_all, Nat.le_refl, St.freezeRows, BV.frozen, List.take_length, List.take_append_drop, z_repl_zero, Int.toNat_zero, true_and, and_true, and_self, eq_self, z_take_zero, List.drop_nil, List.take_nil, vAll, List.foldl_nil, List.foldl_cons, resultsOf, resultList, resultOf, zBV, splice, PV.remade, St.freezeAt, St.freezeBox, St.freezeCap, PV.single, plain, act, dstOf, if_true, if_false, reduceCtorEq, St.get, St.put, St.pvOf, St.putRow, St.consume, St.freeze, St.row, St.elems, St.grab, St.takeRow, St.setRow, St.place, St.optPv, St.setCell, St.setCellRow, binPV, intBin, unPV, BV.val, Nat.reduceEqDiff, bound, consumeAll, buildParts, capsOf, capOf, List.append_nil, Nat.reduceAdd, Nat.reduceLT, Nat.reduceLeDiff, beq_self_eq_true, List.length_map, Nat.beq, dcall, dcallP, List.mapM_cons, St.snapFn, St.snap, St.layAll, St.lay, St.freezeArg, St.freezeArg1]
  rw [rng_idx (env := env) (fun j => [⟨false, [.row 2 ((exts ((difs a b).take j)).map eExt)]⟩, ⟨false, [.pv (.int .i64 (endOf ((difs a b).take j)))]⟩]) (xs := yI (difs a b)) rfl (iter91 hl hab) rfl ?_]
  · simp only [yI, List.length_map, List.take_length, vRng, List.isEmpty_nil, val_pvs, frozen_pvs, msnoc_len, msnoc_get, msnoc_set, msnoc_take, Int.le_refl, take_map_all, Nat.le_refl, St.freezeRows, BV.frozen, List.take_length, List.take_append_drop, z_repl_zero, Int.toNat_zero, true_and, and_true, and_self, eq_self, z_take_zero, List.drop_nil, List.take_nil, vAll, List.foldl_nil, List.foldl_cons, resultsOf, resultList, resultOf, zBV, splice, PV.remade, St.freezeAt, St.freezeBox, St.freezeCap, PV.single, plain, act, dstOf, if_true, if_false, reduceCtorEq, St.get, St.put, St.pvOf, St.putRow, St.consume, St.freeze, St.row, St.elems, St.grab, St.takeRow, St.setRow, St.place, St.optPv, St.setCell, St.setCellRow, binPV, intBin, unPV, BV.val, Nat.reduceEqDiff, bound, consumeAll, buildParts, capsOf, capOf, List.append_nil, Nat.reduceAdd, Nat.reduceLT, Nat.reduceLeDiff, beq_self_eq_true, List.length_map, Nat.beq, dcall, dcallP, List.mapM_cons, St.snapFn, St.snap, St.layAll, St.lay, St.freezeArg, St.freezeArg1]
    rfl
  · intro j x hx sl0
    simp only [yI, List.getElem?_map, Option.map_eq_some_iff] at hx
    obtain ⟨i, hi, rfl⟩ := hx
    obtain ⟨k1, k2, k3⟩ := sorted_take hi
    have hlim : lim = 1073741824 := rfl
    have hj := (List.getElem?_eq_some_iff.1 hi).1
    have ht : (difs a b).take (j + 1) = (difs a b).take j ++ [i] := by rw [List.take_add_one, hi]; rfl
    have hlen : ((difs a b).take j).length = j := by simp; omega
    rw [ht]
    rcases snoc_cases ((difs a b).take j) with h0 | ⟨p, q, h0⟩
    · have F2 : ((i : Int) == -1) = false := by simp
      have F3 : (0 + 1 ≤ lim) = True := eq_true (by omega)
      have F4 : IntKind.i64.wrap ((i : Int) + 1) = (i : Int) + 1 := i64_fits (by omega)
      have e0 : exts ([] : List Nat) = [] := rfl
      have e1 : endOf ([] : List Nat) = -1 := rfl
      have e2 : exts [i] = [⟨i, 1⟩] := rfl
      have e3 : endOf [i] = (i : Int) + 1 := rfl
      refine ⟨?_, ?_⟩
      rotate_left
      · simp only [h0, fn38_b0, fn38_b1, F2, F3, F4, e0, e1, e2, e3, eExt, List.map_nil, vRng, List.isEmpty_nil, val_pvs, frozen_pvs, msnoc_len, msnoc_get, msnoc_set, msnoc_take, Int.le_refl, take_map_all, Nat.le_refl, St.freezeRows, BV.frozen, List.take_length, List.take_append_drop, z_repl_zero, Int.toNat_zero, true_and, and_true, and_self, eq_self, z_take_zero, List.drop_nil, List.take_nil, vAll, List.foldl_nil, List.foldl_cons, resultsOf, resultList, resultOf, zBV, splice, PV.remade, St.freezeAt, St.freezeBox, St.freezeCap, PV.single, plain, act, dstOf, if_true, if_false, reduceCtorEq, St.get, St.put, St.pvOf, St.putRow, St.consume, St.freeze, St.row, St.elems, St.grab, St.takeRow, St.setRow, St.place, St.optPv, St.setCell, St.setCellRow, binPV, intBin, unPV, BV.val, Nat.reduceEqDiff, bound, consumeAll, buildParts, capsOf, capOf, List.append_nil, Nat.reduceAdd, Nat.reduceLT, Nat.reduceLeDiff, beq_self_eq_true, List.length_map, Nat.beq, dcall, dcallP, List.mapM_cons, St.snapFn, St.snap, St.layAll, St.lay, St.freezeArg, St.freezeArg1]
        rfl
    · obtain ⟨pre, ⟨s, c⟩, e0, h1, h2, h3, h4⟩ := exts_last _ p rfl q
      have hqi : q < i := k3 q (by rw [h0]; simp)
      simp only at h1 h2 h3
      have hpl : p.length + 1 = j := by rw [h0] at hlen; simpa using hlen
      have F3 := wrap_pred (n := pre.length) (by omega)
      have F4 : IntKind.i64.wrap ((i : Int) + 1) = (i : Int) + 1 := i64_fits (by omega)
      have F5 : IntKind.i64.wrap (c + 1) = c + 1 := i64_fits (by omega)
      have F6 : (pre.length + 1 + 1 ≤ lim) = True := eq_true (by omega)
      have F7 : index (.int .i64 (pre.length : Int)) (pre.length + 1) = some pre.length := index_nat (by omega)
      by_cases hc : (i : Int) = (q : Int) + 1
      · have F8 : ((i : Int) == (q : Int) + 1) = true := by simpa using hc
        have e2 : exts (p ++ [q] ++ [i]) = pre ++ [⟨s, c + 1⟩] := by rw [exts_snoc, e0, addAt_snoc, if_pos (by simp only; omega)]
        refine ⟨?_, ?_⟩
        rotate_left
        · simp only [h0, fn38_b0, fn38_b1, endOf_snoc, e0, e2, F3, F4, F5, F6, F7, F8, eExt, List.map_append, List.map_cons, List.map_nil, vRng, List.isEmpty_nil, val_pvs, frozen_pvs, msnoc_len, msnoc_get, msnoc_set, msnoc_take, Int.le_refl, take_map_all, Nat.le_refl, St.freezeRows, BV.frozen, List.take_length, List.take_append_drop, z_repl_zero, Int.toNat_zero, true_and, and_true, and_self, eq_self, z_take_zero, List.drop_nil, List.take_nil, vAll, List.foldl_nil, List.foldl_cons, resultsOf, resultList, resultOf, zBV, splice, PV.remade, St.freezeAt, St.freezeBox, St.freezeCap, PV.single, plain, act, dstOf, if_true, if_false, reduceCtorEq, St.get, St.put, St.pvOf, St.putRow, St.consume, St.freeze, St.row, St.elems, St.grab, St.takeRow, St.setRow, St.place, St.optPv, St.setCell, St.setCellRow, binPV, intBin, unPV, BV.val, Nat.reduceEqDiff, bound, consumeAll, buildParts, capsOf, capOf, List.append_nil, Nat.reduceAdd, Nat.reduceLT, Nat.reduceLeDiff, beq_self_eq_true, List.length_map, Nat.beq, dcall, dcallP, List.mapM_cons, St.snapFn, St.snap, St.layAll, St.lay, St.freezeArg, St.freezeArg1]
          rfl
      · have F8 : ((i : Int) == (q : Int) + 1) = false := by simpa using hc
        have e2 : exts (p ++ [q] ++ [i]) = pre ++ [⟨s, c⟩] ++ [⟨i, 1⟩] := by rw [exts_snoc, e0, addAt_snoc, if_neg (by simp only; omega)]
        refine ⟨?_, ?_⟩
        rotate_left
        · simp only [h0, fn38_b0, fn38_b1, endOf_snoc, e0, e2, F3, F4, F5, F6, F7, F8, eExt, List.map_append, List.map_cons, List.map_nil, vRng, List.isEmpty_nil, val_pvs, frozen_pvs, msnoc_len, msnoc_get, msnoc_set, msnoc_take, Int.le_refl, take_map_all, Nat.le_refl, St.freezeRows, BV.frozen, List.take_length, List.take_append_drop, z_repl_zero, Int.toNat_zero, true_and, and_true, and_self, eq_self, z_take_zero, List.drop_nil, List.take_nil, vAll, List.foldl_nil, List.foldl_cons, resultsOf, resultList, resultOf, zBV, splice, PV.remade, St.freezeAt, St.freezeBox, St.freezeCap, PV.single, plain, act, dstOf, if_true, if_false, reduceCtorEq, St.get, St.put, St.pvOf, St.putRow, St.consume, St.freeze, St.row, St.elems, St.grab, St.takeRow, St.setRow, St.place, St.optPv, St.setCell, St.setCellRow, binPV, intBin, unPV, BV.val, Nat.reduceEqDiff, bound, consumeAll, buildParts, capsOf, capOf, List.append_nil, Nat.reduceAdd, Nat.reduceLT, Nat.reduceLeDiff, beq_self_eq_true, List.length_map, Nat.beq, dcall, dcallP, List.mapM_cons, St.snapFn, St.snap, St.layAll, St.lay, St.freezeArg, St.freezeArg1]
          rfl
end Go.Proofs.YtncobemfpammfaaGreat.V

namespace Go.Proofs.YtncobemfpammfaaGreat.V
def ext (p : Nat → Bool) (n : Nat) : List Exn := exts ((List.range n).filter p)
theorem ext_zero (p : Nat → Bool) : ext p 0 = [] := rfl
theorem ext_succ (p : Nat → Bool) (n : Nat) : ext p (n + 1) = if p n then addAt (ext p n) n else ext p n := by
  unfold ext
  rw [List.range_succ, List.filter_append]
  cases h : p n
  · simp [h]
  · rw [List.filter_cons_of_pos h, List.filter_nil, exts_snoc]; rfl
theorem ext_new {p : Nat → Bool} {n : Nat} (h : n = 0 ∨ p (n - 1) = false) : addAt (ext p n) n = ext p n ++ [⟨(n : Int), 1⟩] := by
  unfold ext
  rcases snoc_cases ((List.range n).filter p) with h0 | ⟨l, j, h0⟩
  · rw [h0]; rfl
  · obtain ⟨pre, ⟨s, c⟩, e0, h1, h2, h3, h4⟩ := exts_last _ l rfl j
    have hmem : j ∈ (List.range n).filter p := by rw [h0]; simp
    obtain ⟨q1, q2⟩ := List.mem_filter.1 hmem
    have hj := List.mem_range.1 q1
    simp only at h1
    rw [h0, e0, addAt_snoc, if_neg]
    intro hh
    simp only at hh
    have : j = n - 1 := by omega
    rcases h with h | h
    · omega
    · rw [← this, q2] at h; cases h
theorem ext_false {p : Nat → Bool} {a : Nat} : ∀ k, (∀ s, a ≤ s → s < a + k → p s = false) → ext p (a + k) = ext p a
  | 0, _ => rfl
  | k + 1, h => by
    rw [← Nat.add_assoc, ext_succ, h (a + k) (by omega) (by omega), if_neg (by simp)]
    exact ext_false k fun s h1 h2 => h s h1 (by omega)
theorem ext_true {p : Nat → Bool} {a : Nat} {pre : List Exn} {s0 : Int} (h0 : ext p a = pre ++ [⟨s0, a - s0⟩]) : ∀ k, (∀ s, a ≤ s → s < a + k → p s = true) → ext p (a + k) = pre ++ [⟨s0, ((a + k : Nat) : Int) - s0⟩]
  | 0, _ => h0
  | k + 1, h => by
    rw [← Nat.add_assoc, ext_succ, h (a + k) (by omega) (by omega), if_pos rfl, ext_true h0 k fun s h1 h2 => h s h1 (by omega), addAt_snoc, if_pos (by simp only; omega)]
    congr 2
    simp only [Exn.mk.injEq, true_and]
    omega
theorem ext_begin {p : Nat → Bool} {a k : Nat} (hn : a = 0 ∨ p (a - 1) = false) (h : ∀ s, a ≤ s → s < a + (k + 1) → p s = true) : ext p (a + (k + 1)) = ext p a ++ [⟨(a : Int), ((a + (k + 1) : Nat) : Int) - a⟩] := by
  have h1 : ext p (a + 1) = ext p a ++ [⟨(a : Int), ((a + 1 : Nat) : Int) - a⟩] := by
    rw [ext_succ, h a (Nat.le_refl _) (by omega), if_pos rfl, ext_new hn]
    congr 2
    simp only [Exn.mk.injEq, true_and]
    omega
  have := ext_true (a := a + 1) h1 k fun s h2 h3 => h s (by omega) (by omega)
  rw [show a + (k + 1) = a + 1 + k by omega]
  exact this
theorem ext_congr {p q : Nat → Bool} {n : Nat} (h : ∀ s, s < n → p s = q s) : ext p n = ext q n := by
  unfold ext
  rw [List.filter_congr fun s hs => h s (List.mem_range.1 hs)]
def dep (i : Nat) (s : Nat) : List End → Int
  | [] => 0
  | x :: l => (if x.list = i ∧ x.pos ≤ s then x.step else 0) + dep i s l
def tot (i : Nat) : List End → Int
  | [] => 0
  | x :: l => (if x.list = i then x.step else 0) + tot i l
theorem dep_app (i s : Nat) : ∀ l m : List End, dep i s (l ++ m) = dep i s l + dep i s m
  | [], m => by simp [dep]
  | x :: l, m => by simp only [List.cons_append, dep, dep_app i s l m]; omega
theorem dep_all {i s : Nat} : ∀ {l : List End}, (∀ x ∈ l, x.pos ≤ s) → dep i s l = tot i l
  | [], _ => rfl
  | x :: l, h => by
    have h1 := h x (by simp)
    have ih := dep_all (i := i) (s := s) (l := l) fun y hy => h y (by simp [hy])
    simp only [dep, tot, ih, h1, and_true]
theorem dep_none {i s : Nat} : ∀ {l : List End}, (∀ x ∈ l, s < x.pos) → dep i s l = 0
  | [], _ => rfl
  | x :: l, h => by
    have h1 := h x (by simp)
    have ih := dep_none (i := i) (s := s) (l := l) fun y hy => h y (by simp [hy])
    simp only [dep, ih]
    rw [if_neg (by omega)]; rfl
theorem tot_app (i : Nat) : ∀ l m : List End, tot i (l ++ m) = tot i l + tot i m
  | [], m => by simp [tot]
  | x :: l, m => by simp only [List.cons_append, tot, tot_app i l m]; omega
def keepOf (keep : Bool → Bool → Bool) (l : List End) (s : Nat) : Bool := keep (decide (dep 0 s l > 0)) (decide (dep 1 s l > 0))
def nextSame (x : End) : List End → Bool
  | [] => false
  | y :: _ => decide (y.pos = x.pos)
def swGo (keep : Bool → Bool → Bool) : List End → Int → Int → Int → Bool → List Exn
  | [], _, _, _, _ => []
  | x :: l, d0, d1, st, ins =>
    if nextSame x l then swGo keep l (if x.list = 0 then d0 + x.step else d0) (if x.list = 1 then d1 + x.step else d1) st ins
    else
      (if !keep (decide ((if x.list = 0 then d0 + x.step else d0) > 0)) (decide ((if x.list = 1 then d1 + x.step else d1) > 0)) && ins then [⟨st, x.pos - st⟩] else []) ++
      swGo keep l (if x.list = 0 then d0 + x.step else d0) (if x.list = 1 then d1 + x.step else d1)
        (if keep (decide ((if x.list = 0 then d0 + x.step else d0) > 0)) (decide ((if x.list = 1 then d1 + x.step else d1) > 0)) && !ins then x.pos else st)
        (keep (decide ((if x.list = 0 then d0 + x.step else d0) > 0)) (decide ((if x.list = 1 then d1 + x.step else d1) > 0)))
def Asc : List End → Prop
  | [] => True
  | [_] => True
  | x :: y :: l => x.pos ≤ y.pos ∧ Asc (y :: l)
theorem Asc.tail {x : End} {l : List End} (h : Asc (x :: l)) : Asc l := by
  cases l with
  | nil => trivial
  | cons y l => exact h.2
theorem Asc.le {x : End} : ∀ {l : List End}, Asc (x :: l) → ∀ y ∈ l, x.pos ≤ y.pos
  | [], _, y, hy => by cases hy
  | z :: l, h, y, hy => by
    rcases List.mem_cons.1 hy with rfl | hy
    · exact h.1
    · exact Nat.le_trans h.1 (Asc.le h.2 y hy)
def atStart (N : Nat) : List End → Nat → Prop
  | [], a => a = N
  | x :: _, a => a = x.pos
theorem swGo_ok {keep : Bool → Bool → Bool} (hk : keep false false = false) {L : List End} {N : Nat} (hN : ∀ x ∈ L, x.pos ≤ N) (h0 : tot 0 L = 0) (h1 : tot 1 L = 0) :
    ∀ (R P : List End) (out : List Exn) (st : Int) (ins : Bool) (a : Nat), L = P ++ R → Asc R → (∀ x ∈ P, ∀ y ∈ R, x.pos ≤ y.pos) → (∀ x ∈ P, x.pos ≤ a) →
      atStart N R a → ext (keepOf keep L) a = out ++ (if ins then [⟨st, a - st⟩] else []) → (a = 0 ∨ ins = true ∨ keepOf keep L (a - 1) = false) → (R = [] → ins = false) → (a = 0 → ins = false) →
      ext (keepOf keep L) N = out ++ swGo keep R (tot 0 P) (tot 1 P) st ins
  | [], P, out, st, ins, a, hL, _, _, _, ha, he, hi, hr, _ => by
    have ha : a = N := ha
    rw [hr rfl] at he
    rw [ha] at he
    simpa [swGo] using he
  | x :: l, P, out, st, ins, a, hL, hs, hP, hPa, ha, he, hi, _, hz => by
    have ha : a = x.pos := ha
    subst ha
    have hL2 : L = (P ++ [x]) ++ l := by rw [hL]; simp
    have t0 : tot 0 (P ++ [x]) = (if x.list = 0 then tot 0 P + x.step else tot 0 P) := by
      rw [tot_app]; simp only [tot]; split <;> omega
    have t1 : tot 1 (P ++ [x]) = (if x.list = 1 then tot 1 P + x.step else tot 1 P) := by
      rw [tot_app]; simp only [tot]; split <;> omega
    have hP2 : ∀ z ∈ P ++ [x], ∀ y ∈ l, z.pos ≤ y.pos := by
      intro z hz y hy
      rcases List.mem_append.1 hz with hz | hz
      · exact hP z hz y (by simp [hy])
      · simp only [List.mem_singleton] at hz; rw [hz]; exact hs.le y hy
    have hPx : ∀ z ∈ P ++ [x], z.pos ≤ x.pos := by
      intro z hz
      rcases List.mem_append.1 hz with hz | hz
      · exact hP z hz x (by simp)
      · simp only [List.mem_singleton] at hz; rw [hz]; exact Nat.le_refl _
    unfold swGo
    rw [← t0, ← t1]
    by_cases hn : nextSame x l = true
    · rw [if_pos hn]
      cases l with
      | nil => simp [nextSame] at hn
      | cons y l =>
        have hy : y.pos = x.pos := by simpa [nextSame] using hn
        exact swGo_ok hk hN h0 h1 (y :: l) (P ++ [x]) out st ins x.pos hL2 hs.tail hP2 hPx hy.symm he hi (fun e => by cases e) hz
    · rw [if_neg hn]
      -- the next place
      obtain ⟨b, hb, hbl, hbx, hbm⟩ : ∃ b, x.pos ≤ b ∧ (∀ y ∈ l, b ≤ y.pos) ∧ (l ≠ [] → x.pos < b) ∧ atStart N l b := by
        cases l with
        | nil => exact ⟨N, hN x (by rw [hL]; simp), fun y hy => (by cases hy), fun h => absurd rfl h, rfl⟩
        | cons y l =>
          have hy : y.pos ≠ x.pos := by simpa [nextSame] using hn
          have := hs.1
          exact ⟨y.pos, hs.1, fun z hz => by
            rcases List.mem_cons.1 hz with rfl | hz
            · exact Nat.le_refl _
            · exact hs.tail.le z hz, fun _ => by omega, rfl⟩
      have hconst : ∀ s, x.pos ≤ s → s < b → keepOf keep L s = keep (decide (tot 0 (P ++ [x]) > 0)) (decide (tot 1 (P ++ [x]) > 0)) := by
        intro s hs1 hs2
        unfold keepOf
        have e : ∀ i, dep i s L = tot i (P ++ [x]) := by
          intro i
          rw [hL2, dep_app, dep_all (fun z hz => by have := hPx z hz; omega), dep_none (fun z hz => by have := hbl z hz; omega)]
          omega
        rw [e 0, e 1]
      have hlast : l = [] → keep (decide (tot 0 (P ++ [x]) > 0)) (decide (tot 1 (P ++ [x]) > 0)) = false := by
        intro hl
        have e0 : tot 0 (P ++ [x]) = 0 := by rw [← h0, hL2, hl, List.append_nil]
        have e1 : tot 1 (P ++ [x]) = 0 := by rw [← h1, hL2, hl, List.append_nil]
        rw [e0, e1]
        exact hk
      have hPb : ∀ z ∈ P ++ [x], z.pos ≤ b := fun z hz => Nat.le_trans (hPx z hz) hb
      obtain ⟨k, rfl⟩ : ∃ k, b = x.pos + k := ⟨b - x.pos, by omega⟩
      generalize keep (decide (tot 0 (P ++ [x]) > 0)) (decide (tot 1 (P ++ [x]) > 0)) = now at *
      have hprev : k ≠ 0 → keepOf keep L (x.pos + k - 1) = now := fun hk0 => hconst _ (by omega) (by omega)
      cases now with
      | false =>
        have hf := ext_false (p := keepOf keep L) (a := x.pos) k fun s q1 q2 => hconst s q1 q2
        cases ins with
        | false =>
          simp only [Bool.not_false, Bool.and_false, Bool.false_eq_true, if_false, List.nil_append, Bool.and_true, Bool.false_and, List.append_nil, if_true] at he ⊢
          refine swGo_ok hk hN h0 h1 l (P ++ [x]) out _ false (x.pos + k) hL2 hs.tail hP2 hPb hbm ?_ ?_ (fun _ => rfl) (fun _ => rfl)
          · rw [hf, he]; simp
          · by_cases hk0 : k = 0
            · subst hk0
              rcases hi with hi | hi | hi
              · exact .inl hi
              · cases hi
              · exact .inr (.inr hi)
            · exact .inr (.inr (hprev hk0))
        | true =>
          simp only [Bool.not_false, Bool.and_self, if_true, Bool.not_true, Bool.and_false, Bool.false_and, Bool.false_eq_true, if_false] at he ⊢
          rw [← List.append_assoc]
          by_cases hk0 : k = 0
          · subst hk0
            have hl : l = [] := by
              cases l with
              | nil => rfl
              | cons y l => have := hbx (by simp); omega
            subst hl
            have hb2 : x.pos + 0 = N := hbm
            simp only [swGo, List.append_nil]
            rw [← hb2]
            exact he
          · refine swGo_ok hk hN h0 h1 l (P ++ [x]) _ _ false (x.pos + k) hL2 hs.tail hP2 hPb hbm ?_ (.inr (.inr (hprev hk0))) (fun _ => rfl) (fun _ => rfl)
            rw [hf, he]; simp
      | true =>
        have hl : l ≠ [] := fun e => by have := hlast e; cases this
        have hk1 := hbx hl
        obtain ⟨j, rfl⟩ : ∃ j, k = j + 1 := ⟨k - 1, by omega⟩
        cases ins with
        | false =>
          simp only [Bool.not_true, Bool.false_and, Bool.false_eq_true, if_false, List.nil_append, Bool.not_false, Bool.and_self, if_true, List.append_nil] at he ⊢
          refine swGo_ok hk hN h0 h1 l (P ++ [x]) out _ true (x.pos + (j + 1)) hL2 hs.tail hP2 hPb hbm ?_ (.inr (.inl rfl)) (fun e => absurd e hl) (fun e => by omega)
          have hi2 : x.pos = 0 ∨ keepOf keep L (x.pos - 1) = false := by
            rcases hi with hi | hi | hi
            · exact .inl hi
            · cases hi
            · exact .inr hi
          rw [ext_begin hi2 fun s q1 q2 => hconst s q1 q2, he]
          simp
        | true =>
          simp only [Bool.not_true, Bool.false_and, Bool.false_eq_true, if_false, List.nil_append, Bool.and_false, if_true] at he ⊢
          refine swGo_ok hk hN h0 h1 l (P ++ [x]) out st true (x.pos + (j + 1)) hL2 hs.tail hP2 hPb hbm ?_ (.inr (.inl rfl)) (fun e => absurd e hl) (fun e => by omega)
          rw [ext_true he (j + 1) fun s q1 q2 => hconst s q1 q2]
          simp
theorem sweep_ok {keep : Bool → Bool → Bool} (hk : keep false false = false) {L : List End} {N : Nat} (hs : Asc L) (hN : ∀ x ∈ L, x.pos ≤ N) (h0 : tot 0 L = 0) (h1 : tot 1 L = 0) :
    swGo keep L 0 0 0 false = ext (keepOf keep L) N := by
  cases L with
  | nil =>
    have : ext (keepOf keep ([] : List End)) (0 + N) = ext (keepOf keep []) 0 := ext_false N fun s _ _ => hk
    rw [Nat.zero_add] at this
    rw [this]; rfl
  | cons x l =>
    have hb : ext (keepOf keep (x :: l)) (0 + x.pos) = ext (keepOf keep (x :: l)) 0 := ext_false x.pos fun s _ h2 => by
      unfold keepOf
      have e : ∀ i, dep i s (x :: l) = 0 := fun i => dep_none fun y hy => by
        rcases List.mem_cons.1 hy with rfl | hy
        · omega
        · have := hs.le y hy; omega
      rw [e 0, e 1]
      exact hk
    rw [Nat.zero_add] at hb
    have := swGo_ok hk hN h0 h1 (x :: l) [] [] 0 false x.pos rfl hs (fun z hz => by cases hz) (fun z hz => by cases hz) rfl (by rw [hb]; rfl) (by
      by_cases h : x.pos = 0
      · exact .inl h
      · refine .inr (.inr ?_)
        unfold keepOf
        have e : ∀ i, dep i (x.pos - 1) (x :: l) = 0 := fun i => dep_none fun y hy => by
          rcases List.mem_cons.1 hy with rfl | hy
          · omega
          · have := hs.le y hy; omega
        rw [e 0, e 1]
        exact hk) (fun e => by cases e) (fun _ => rfl)
    rw [this]; rfl
end Go.Proofs.YtncobemfpammfaaGreat.V

namespace Go.Proofs.YtncobemfpammfaaGreat

def look : List (Nat × AV) → Nat → AV
  | [], _ => .any
  | (j, v) :: l, i => bcase (Nat.beq i j) v (look l i)
def sl (n : Nat) (l : List (Nat × AV)) : List AV := (List.range n).map (look l)
def mapA (f : AV → AV) : List (Nat × AV) → List (Nat × AV)
  | [] => []
  | (j, v) :: l => (j, f v) :: mapA f l
def keepA (l : List (Nat × AV)) : List Nat → List (Nat × AV)
  | [] => []
  | k :: ks => (k, look l k) :: keepA l ks
def argsA : Nat → List PV → List (Nat × AV)
  | _, [] => []
  | k, v :: l => (k, .pv v) :: argsA (k + 1) l
def lowA (nb : Nat) : List (Nat × AV) → Bool
  | [] => true
  | (_, v) :: l => AV.low nb v && lowA nb l
def insA (n : Nat) : List Nat → Bool
  | [] => true
  | k :: ks => decide (k < n) && insA n ks
theorem look_hit (i : Nat) (v : AV) (l : List (Nat × AV)) : look ((i, v) :: l) i = v := by
  show bcase (Nat.beq i i) v _ = v
  rw [Nat.beq_refl]; rfl
theorem look_nil (i : Nat) : look [] i = .any := (rfl)
theorem sl_get {n i : Nat} {l : List (Nat × AV)} (h' : i < n) : (sl n l).getD i .any = look l i := by
  simp [sl, List.getD_eq_getElem?_getD, h']
theorem sl_some {n i : Nat} {l : List (Nat × AV)} (h' : i < n) : (sl n l)[i]? = some (look l i) := by
  simp [sl, h']
theorem look_cons (l : List (Nat × AV)) (i j : Nat) (v : AV) : look ((j, v) :: l) i = if i = j then v else look l i := by
  show bcase (Nat.beq i j) v _ = _
  by_cases h : i = j
  · subst h; rw [Nat.beq_refl, if_pos rfl]; rfl
  · rw [if_neg h]
    have : Nat.beq i j = false := by
      cases e : Nat.beq i j with
      | false => rfl
      | true => exact absurd (Nat.eq_of_beq_eq_true e) h
    rw [this]; rfl
theorem sl_set (n i : Nat) (v : AV) (l : List (Nat × AV)) : (sl n l).set i v = sl n ((i, v) :: l) := by
  apply List.ext_getElem (by simp [sl])
  intro k h1 h2
  have hk : k < n := by simpa [sl] using h2
  simp only [sl, List.getElem_set, List.getElem_map, List.getElem_range, look_cons]
  by_cases h : i = k
  · subst h; simp
  · rw [if_neg h, if_neg (fun e => h e.symm)]
theorem look_skip {i j : Nat} {v : AV} {l : List (Nat × AV)} (h : (i == j) = false) : look ((j, v) :: l) i = look l i := by
  rw [look_cons, if_neg (by simpa using h)]
theorem look_mapA (f : AV → AV) (hf : f .any = .any) : ∀ (l : List (Nat × AV)) (i : Nat), look (mapA f l) i = f (look l i)
  | [], i => hf.symm
  | (j, v) :: l, i => by
    show look ((j, f v) :: mapA f l) i = _
    rw [look_cons, look_cons, look_mapA f hf l i]
    split <;> rfl
theorem sl_map {f : AV → AV} (hf : f .any = .any) (n : Nat) (l : List (Nat × AV)) : (sl n l).map f = sl n (mapA f l) := by
  unfold sl
  rw [List.map_map]
  apply List.map_congr_left
  intro i _
  exact (look_mapA f hf l i).symm
theorem sl_kill (n d : Nat) (l : List (Nat × AV)) : (sl n l).map (AV.kill d) = sl n (mapA (AV.kill d) l) := sl_map rfl n l
theorem sl_killc (n d : Nat) (l : List (Nat × AV)) : (sl n l).map (AV.killCell d) = sl n (mapA (AV.killCell d) l) := sl_map rfl n l
theorem sl_froze (n : Nat) (l : List (Nat × AV)) : (sl n l).map AV.froze = sl n (mapA AV.froze l) := sl_map rfl n l
theorem mapA_nil (f : AV → AV) : mapA f [] = [] := (rfl)
theorem mapA_cons (f : AV → AV) (j : Nat) (v : AV) (l : List (Nat × AV)) : mapA f ((j, v) :: l) = (j, f v) :: mapA f l := (rfl)
theorem keepA_nil (l : List (Nat × AV)) : keepA l [] = [] := (rfl)
theorem keepA_cons (l : List (Nat × AV)) (k : Nat) (ks : List Nat) : keepA l (k :: ks) = (k, look l k) :: keepA l ks := (rfl)
theorem lowA_nil (nb : Nat) : lowA nb [] = true := (rfl)
theorem lowA_cons (nb k : Nat) (v : AV) (l : List (Nat × AV)) : lowA nb ((k, v) :: l) = (AV.low nb v && lowA nb l) := (rfl)
theorem insA_nil (n : Nat) : insA n [] = true := (rfl)
theorem insA_cons (n k : Nat) (l : List Nat) : insA n (k :: l) = (decide (k < n) && insA n l) := (rfl)
theorem argsA_nil (k : Nat) : argsA k [] = [] := (rfl)
theorem argsA_cons (k : Nat) (v : PV) (l : List PV) : argsA k (v :: l) = (k, .pv v) :: argsA (k + 1) l := (rfl)
theorem look_keepA (l : List (Nat × AV)) : ∀ (ks : List Nat) (i : Nat), look (keepA l ks) i = if ks.contains i then look l i else .any
  | [], i => rfl
  | k :: ks, i => by
    rw [keepA_cons, look_cons, look_keepA l ks i, List.contains_cons]
    by_cases h : i = k
    · subst h; simp
    · have : (i == k) = false := by simpa using h
      rw [if_neg h, this, Bool.false_or]
theorem lowA_iff (nb n : Nat) (l : List (Nat × AV)) : ∀ ks : List Nat, insA n ks = true → (lowA nb (keepA l ks) = true ↔ ∀ k ∈ ks, (look l k).low nb = true)
  | [], _ => by simp [keepA, lowA]
  | k :: ks, h => by
    rw [insA_cons, Bool.and_eq_true] at h
    rw [keepA_cons, lowA_cons, Bool.and_eq_true, lowA_iff nb n l ks h.2]
    simp
theorem head_sl {n nb : Nat} {l : List (Nat × AV)} {keep : List Nat} {bx : List Box} {ys : List (List PV)} {sp : Option (Option Nat)} (h : insA n keep = true) (hb : nb ≤ bx.length) (hl : lowA nb (keepA l keep) = true) :
    St.head ⟨sl n l, bx, ys, sp⟩ keep nb = some ⟨sl n (keepA l keep), bx.take nb, ys, sp⟩ := by
  have e : ((sl n l).zipIdx.map fun (v, i) => if keep.contains i then v else AV.any) = sl n (keepA l keep) := by
    apply List.ext_getElem (by simp [sl])
    intro i h1 h2
    simp only [sl, List.getElem_map, List.getElem_zipIdx, List.getElem_range, look_keepA, Nat.zero_add]
  unfold St.head
  simp only
  rw [e, if_pos]
  rw [Bool.and_eq_true, decide_eq_true_eq]
  refine ⟨?_, hb⟩
  rw [List.all_eq_true]
  intro v hv
  unfold sl at hv
  obtain ⟨i, hi, rfl⟩ := List.mem_map.1 hv
  rw [look_keepA]
  split
  · rename_i hc
    exact (lowA_iff nb n l keep h).1 hl i (by simpa using hc)
  · rfl
theorem clean_sl {n nb : Nat} {e : Ex} {l : List (Nat × AV)} {keep : List Nat} {bx : List Box} {ys : List (List PV)} {sp : Option (Option Nat)} (h : insA n keep = true) (hb : nb ≤ bx.length) (hl : lowA nb (keepA l keep) = true) :
    cleanEnd keep nb (e, ⟨sl n l, bx, ys, sp⟩) = some (e, ⟨sl n (keepA l keep), bx.take nb, ys, sp⟩) := by
  unfold cleanEnd
  simp only
  rw [head_sl h hb hl]
  rfl
theorem start_sl {n : Nat} {args : List PV} (hn : args.length ≤ n) : start n args = ⟨sl n (argsA 0 args), [], [], none⟩ := by
  have key : ∀ (l : List PV) (k i : Nat), look (argsA k l) i = if k ≤ i then ((l[i - k]?).map AV.pv).getD .any else .any := by
    intro l
    induction l with
    | nil => intro k i; simp [argsA, look]
    | cons v l ih =>
      intro k i
      rw [argsA_cons, look_cons, ih]
      by_cases h1 : i = k
      · subst h1; simp
      · rw [if_neg h1]
        by_cases h2 : k ≤ i
        · rw [if_pos (by omega), if_pos h2, show i - k = (i - (k + 1)) + 1 by omega, List.getElem?_cons_succ]
        · rw [if_neg (by omega), if_neg h2]
  unfold start
  congr 1
  apply List.ext_getElem (by simp [sl]; omega)
  intro i h1 h2
  simp only [sl, List.getElem_map, List.getElem_range, key, Nat.zero_le, if_true, Nat.sub_zero]
  by_cases hi : i < args.length
  · rw [List.getElem_append_left (by simpa using hi)]
    simp [hi]
  · rw [List.getElem_append_right (by simp; omega)]
    simp [hi]
theorem low_pv (nb : Nat) (v : PV) : AV.low nb (.pv v) = true := (rfl)
theorem low_any (nb : Nat) : AV.low nb .any = true := (rfl)
theorem low_yld (nb : Nat) : AV.low nb .yld = true := (rfl)
theorem low_row (nb sz : Nat) (es : List PV) : AV.low nb (.row sz es) = true := (rfl)
theorem low_pbox (nb o j : Nat) : AV.low nb (.pbox o j) = decide (o < nb) := (rfl)
theorem low_refs (nb t off len : Nat) : AV.low nb (.ref (.slot t) off len) = true := (rfl)
theorem low_refc (nb o j off len : Nat) : AV.low nb (.ref (.cell o j) off len) = decide (o < nb) := (rfl)
theorem low_pels (nb t i j : Nat) : AV.low nb (.pel (.slot t) i j) = true := (rfl)
theorem low_pelc (nb o q i j : Nat) : AV.low nb (.pel (.cell o q) i j) = decide (o < nb) := (rfl)
theorem low_fn (nb f : Nat) (caps : List AV) : AV.low nb (.fn f caps) = caps.all fun c => match c with
    | .pv _ => true
    | .pbox o _ => o < nb
    | _ => false := (rfl)
def slAll := And.intro @look_hit (And.intro @look_skip (And.intro @look_nil (And.intro @sl_get (And.intro @sl_some (And.intro @sl_set (And.intro @sl_kill (And.intro @sl_killc (And.intro @sl_froze (And.intro @mapA_nil (And.intro @mapA_cons (And.intro @keepA_nil (And.intro @keepA_cons (And.intro @lowA_nil (And.intro @lowA_cons (And.intro @insA_nil (And.intro @insA_cons (And.intro @argsA_nil (And.intro @argsA_cons (And.intro @head_sl (And.intro @clean_sl (And.intro @start_sl (And.intro @low_pv (And.intro @low_any (And.intro @low_yld (And.intro @low_row (And.intro @low_pbox (And.intro @low_refs (And.intro @low_refc (And.intro @low_pels (And.intro @low_pelc (@low_fn)))))))))))))))))))))))))))))))
end Go.Proofs.YtncobemfpammfaaGreat

namespace Go.Proofs.YtncobemfpammfaaGreat.V
theorem take_snoc1 {α : Type} {l : List α} {i : Nat} (h : i < l.length) : l.take (i + 1) = l.take i ++ [l[i]] := by rw [List.take_succ_eq_append_getElem h]
def okE (x : Exn) : Prop := (-9223372036854775808 ≤ x.start ∧ x.start ≤ 9223372036854775807) ∧ (-9223372036854775808 ≤ x.count ∧ x.count ≤ 9223372036854775807)
def okEs (l : List Exn) : Prop := ∀ x ∈ l, okE x
def wFrom (e : Exn) : Int := max e.start 0
def wTo (e : Exn) : Int := if e.start < 0 ∨ e.count < 4096 - e.start then min (e.start + e.count) 4096 else 4096
def wX (e : Exn) : Int × Int × Bool := if e.count ≤ 0 then (0, 0, false) else (wFrom e, wTo e, decide (wFrom e < wTo e))
def inE (e : Exn) (s : Nat) : Bool := decide (0 < e.count) && (decide (e.start ≤ (s : Int)) && decide ((s : Int) < e.start + e.count))
theorem wX_true {e : Exn} (h : (wX e).2.2 = true) : ∃ n m : Nat, wX e = ((n : Int), (m : Int), true) ∧ n < m ∧ m ≤ 4096 ∧ ∀ s : Nat, s < 4096 → (inE e s = true ↔ n ≤ s ∧ s < m) := by
  unfold wX at h ⊢
  by_cases c : e.count ≤ 0
  · rw [if_pos c] at h; cases h
  · rw [if_neg c] at h ⊢
    have h2 : wFrom e < wTo e := by simpa using h
    have h3 : 0 ≤ wFrom e := by unfold wFrom; omega
    have h4 : wTo e ≤ 4096 := by unfold wTo; split <;> omega
    refine ⟨(wFrom e).toNat, (wTo e).toNat, ?_, by omega, by omega, fun s hs => ?_⟩
    · rw [Int.toNat_of_nonneg h3, Int.toNat_of_nonneg (by omega), decide_eq_true h2]
    · unfold inE
      simp only [Bool.and_eq_true, decide_eq_true_eq]
      have e1 : (wFrom e).toNat ≤ s ↔ wFrom e ≤ (s : Int) := by omega
      have e2 : s < (wTo e).toNat ↔ (s : Int) < wTo e := by omega
      rw [e1, e2]
      unfold wFrom wTo
      split <;> omega
theorem wX_false {e : Exn} (h : (wX e).2.2 = false) {s : Nat} (hs : s < 4096) : inE e s = false := by
  unfold wX at h
  by_cases c : e.count ≤ 0
  · unfold inE
    rw [decide_eq_false (by omega), Bool.false_and]
  · rw [if_neg c] at h
    have h2 : ¬ wFrom e < wTo e := by simpa using h
    unfold inE
    cases hq : (decide (0 < e.count) && (decide (e.start ≤ (s : Int)) && decide ((s : Int) < e.start + e.count))) with
    | false => rfl
    | true =>
      exfalso
      simp only [Bool.and_eq_true, decide_eq_true_eq] at hq
      apply h2
      unfold wFrom wTo
      split <;> omega
theorem cal73 {e : Exn} (ho : okE e) : cal env 73 [eExt e] = some [(.int .i64 (wX e).1, false), (.int .i64 (wX e).2.1, false), (.bool (wX e).2.2, false)] := by
  obtain ⟨⟨o1, o2⟩, o3, o4⟩ := ho
  unfold wX
  simp only [eExt]
  by_cases c : e.count ≤ 0
  · rw [if_pos c]
    rw [cal_code env73 rfl]; simp only [fn73, slAll, Nat.reduceBEq, Nat.reduceLeDiff, Nat.reduceAdd, List.length_cons, List.length_nil]
    simp only [c, slAll, Nat.reduceMul, Nat.reduceBEq, Nat.reduceLT, Nat.reduceLeDiff, Nat.zero_le, List.take_zero, List.take_nil, List.take_succ_cons, List.length_cons, List.length_nil, Nat.le_refl, List.isEmpty_nil, val_pvs, frozen_pvs, msnoc_len, msnoc_get, msnoc_set, msnoc_take, Int.le_refl, take_map_all, Nat.le_refl, St.freezeRows, BV.frozen, List.take_length, List.take_append_drop, z_repl_zero, Int.toNat_zero, true_and, and_true, and_self, eq_self, z_take_zero, List.drop_nil, List.take_nil, vAll, List.foldl_nil, List.foldl_cons, resultsOf, resultList, resultOf, zBV, splice, PV.remade, St.freezeAt, St.freezeBox, St.freezeCap, PV.single, plain, act, dstOf, if_true, if_false, reduceCtorEq, St.get, St.put, St.pvOf, St.putRow, St.consume, St.freeze, St.row, St.elems, St.grab, St.takeRow, St.setRow, St.place, St.optPv, St.setCell, St.setCellRow, binPV, intBin, unPV, BV.val, Nat.reduceEqDiff, bound, consumeAll, buildParts, capsOf, capOf, List.append_nil, Nat.reduceAdd, Nat.reduceLT, Nat.reduceLeDiff, beq_self_eq_true, List.length_map, Nat.beq, dcall, dcallP, List.mapM_cons, St.snapFn, St.snap, St.layAll, St.lay, St.freezeArg, St.freezeArg1]
  · rw [if_neg c]
    unfold wFrom wTo
    have hmin : min (e.start + e.count) 4096 = if 4096 < e.start + e.count then 4096 else e.start + e.count := by split <;> omega
    by_cases c1 : e.start < 0
    · have hmax : max e.start 0 = 0 := by omega
      rw [hmin, hmax]
      have W1 : IntKind.i64.wrap (e.start + e.count) = e.start + e.count := i64_fits (by omega)
      rw [if_pos (.inl c1)]
      rw [cal_code env73 rfl]; simp only [fn73, slAll, Nat.reduceBEq, Nat.reduceLeDiff, Nat.reduceAdd, List.length_cons, List.length_nil]
      simp only [c, c1, W1, slAll, Nat.reduceMul, Nat.reduceBEq, Nat.reduceLT, Nat.reduceLeDiff, Nat.zero_le, List.take_zero, List.take_nil, List.take_succ_cons, List.length_cons, List.length_nil, Nat.le_refl, List.isEmpty_nil, val_pvs, frozen_pvs, msnoc_len, msnoc_get, msnoc_set, msnoc_take, Int.le_refl, take_map_all, Nat.le_refl, St.freezeRows, BV.frozen, List.take_length, List.take_append_drop, z_repl_zero, Int.toNat_zero, true_and, and_true, and_self, eq_self, z_take_zero, List.drop_nil, List.take_nil, vAll, List.foldl_nil, List.foldl_cons, resultsOf, resultList, resultOf, zBV, splice, PV.remade, St.freezeAt, St.freezeBox, St.freezeCap, PV.single, plain, act, dstOf, if_true, if_false, reduceCtorEq, St.get, St.put, St.pvOf, St.putRow, St.consume, St.freeze, St.row, St.elems, St.grab, St.takeRow, St.setRow, St.place, St.optPv, St.setCell, St.setCellRow, binPV, intBin, unPV, BV.val, Nat.reduceEqDiff, bound, consumeAll, buildParts, capsOf, capOf, List.append_nil, Nat.reduceAdd, Nat.reduceLT, Nat.reduceLeDiff, beq_self_eq_true, List.length_map, Nat.beq, dcall, dcallP, List.mapM_cons, St.snapFn, St.snap, St.layAll, St.lay, St.freezeArg, St.freezeArg1]
    · have hmax : max e.start 0 = e.start := by omega
      rw [hmin, hmax]
      have W2 : IntKind.i64.wrap (4096 - e.start) = 4096 - e.start := i64_fits (by omega)
      by_cases c2 : e.count < 4096 - e.start
      · have W1 : IntKind.i64.wrap (e.start + e.count) = e.start + e.count := i64_fits (by omega)
        rw [if_pos (.inr c2)]
        rw [cal_code env73 rfl]; simp only [fn73, slAll, Nat.reduceBEq, Nat.reduceLeDiff, Nat.reduceAdd, List.length_cons, List.length_nil]
        simp only [c, c1, c2, W1, W2, slAll, Nat.reduceMul, Nat.reduceBEq, Nat.reduceLT, Nat.reduceLeDiff, Nat.zero_le, List.take_zero, List.take_nil, List.take_succ_cons, List.length_cons, List.length_nil, Nat.le_refl, List.isEmpty_nil, val_pvs, frozen_pvs, msnoc_len, msnoc_get, msnoc_set, msnoc_take, Int.le_refl, take_map_all, Nat.le_refl, St.freezeRows, BV.frozen, List.take_length, List.take_append_drop, z_repl_zero, Int.toNat_zero, true_and, and_true, and_self, eq_self, z_take_zero, List.drop_nil, List.take_nil, vAll, List.foldl_nil, List.foldl_cons, resultsOf, resultList, resultOf, zBV, splice, PV.remade, St.freezeAt, St.freezeBox, St.freezeCap, PV.single, plain, act, dstOf, if_true, if_false, reduceCtorEq, St.get, St.put, St.pvOf, St.putRow, St.consume, St.freeze, St.row, St.elems, St.grab, St.takeRow, St.setRow, St.place, St.optPv, St.setCell, St.setCellRow, binPV, intBin, unPV, BV.val, Nat.reduceEqDiff, bound, consumeAll, buildParts, capsOf, capOf, List.append_nil, Nat.reduceAdd, Nat.reduceLT, Nat.reduceLeDiff, beq_self_eq_true, List.length_map, Nat.beq, dcall, dcallP, List.mapM_cons, St.snapFn, St.snap, St.layAll, St.lay, St.freezeArg, St.freezeArg1]
      · rw [if_neg (by omega)]
        rw [cal_code env73 rfl]; simp only [fn73, slAll, Nat.reduceBEq, Nat.reduceLeDiff, Nat.reduceAdd, List.length_cons, List.length_nil]
        simp only [c, c1, c2, W2, slAll, Nat.reduceMul, Nat.reduceBEq, Nat.reduceLT, Nat.reduceLeDiff, Nat.zero_le, List.take_zero, List.take_nil, List.take_succ_cons, List.length_cons, List.length_nil, Nat.le_refl, List.isEmpty_nil, val_pvs, frozen_pvs, msnoc_len, msnoc_get, msnoc_set, msnoc_take, Int.le_refl, take_map_all, Nat.le_refl, St.freezeRows, BV.frozen, List.take_length, List.take_append_drop, z_repl_zero, Int.toNat_zero, true_and, and_true, and_self, eq_self, z_take_zero, List.drop_nil, List.take_nil, vAll, List.foldl_nil, List.foldl_cons, resultsOf, resultList, resultOf, zBV, splice, PV.remade, St.freezeAt, St.freezeBox, St.freezeCap, PV.single, plain, act, dstOf, if_true, if_false, reduceCtorEq, St.get, St.put, St.pvOf, St.putRow, St.consume, St.freeze, St.row, St.elems, St.grab, St.takeRow, St.setRow, St.place, St.optPv, St.setCell, St.setCellRow, binPV, intBin, unPV, BV.val, Nat.reduceEqDiff, bound, consumeAll, buildParts, capsOf, capOf, List.append_nil, Nat.reduceAdd, Nat.reduceLT, Nat.reduceLeDiff, beq_self_eq_true, List.length_map, Nat.beq, dcall, dcallP, List.mapM_cons, St.snapFn, St.snap, St.layAll, St.lay, St.freezeArg, St.freezeArg1]

def rawOf (i : Nat) (l : List Exn) : List End := l.flatMap fun e => if (wX e).2.2 then [⟨(wX e).1.toNat, i, 1⟩, ⟨(wX e).2.1.toNat, i, -1⟩] else []
theorem rawOf_snoc (i : Nat) (l : List Exn) (e : Exn) : rawOf i (l ++ [e]) = rawOf i l ++ (if (wX e).2.2 then [⟨(wX e).1.toNat, i, 1⟩, ⟨(wX e).2.1.toNat, i, -1⟩] else []) := by simp [rawOf]
theorem rawOf_len (i : Nat) : ∀ l : List Exn, (rawOf i l).length ≤ 2 * l.length
  | [] => Nat.le_refl _
  | e :: l => by
    have := rawOf_len i l
    have h : rawOf i (e :: l) = (if (wX e).2.2 then [⟨(wX e).1.toNat, i, 1⟩, ⟨(wX e).2.1.toNat, i, -1⟩] else []) ++ rawOf i l := by simp [rawOf]
    rw [h, List.length_append, List.length_cons]
    split <;> simp <;> omega
def rawFrom : Nat → List (List Exn) → List End
  | _, [] => []
  | i, l :: ls => rawOf i l ++ rawFrom (i + 1) ls
theorem rawFrom_snoc : ∀ (ls : List (List Exn)) (i : Nat) (l : List Exn), rawFrom i (ls ++ [l]) = rawFrom i ls ++ rawOf (i + ls.length) l
  | [], i, l => by simp [rawFrom]
  | m :: ls, i, l => by
    simp only [List.cons_append, rawFrom, rawFrom_snoc ls (i + 1) l, List.length_cons, List.append_assoc]
    rw [show i + 1 + ls.length = i + (ls.length + 1) by omega]
theorem rawFrom_len {n : Nat} : ∀ (ls : List (List Exn)) (i : Nat), (∀ l ∈ ls, l.length ≤ n) → (rawFrom i ls).length ≤ 2 * n * ls.length
  | [], i, _ => Nat.zero_le _
  | l :: ls, i, h => by
    have h1 := rawFrom_len ls (i + 1) fun x hx => h x (by simp [hx])
    have h2 := rawOf_len i l
    have h3 := h l (by simp)
    simp only [rawFrom, List.length_append, List.length_cons]
    rw [Nat.mul_add]
    omega
set_option maxRecDepth 20000 in
theorem loop95 {D : PV} {l : List Exn} {pre : List End} {v n : Nat} {q17 : AV} (hq : q17 = .pv (.list 2 (l.map eExt))) (ho : okEs l) (hl : l.length ≤ 100000) (hpre : pre.length ≤ 10000000) {st : St} (h : st.head [0, 3, 4, 5, 11, 12, 13, 17, 18, 19, 20, 39] st.boxes.length = some ⟨sl 45 [(0, .pv D), (3, .row 3 ((pre ++ rawOf v (l.take ((0 : Nat)))).map eEnd)), (4, .pv (.int .i64 v)), (5, .pv (.list 2 (l.map eExt))), (11, .pv D), (12, .pv (.int .i64 n)), (13, .pv (.int .i64 v)), (17, .pv (.list 2 (l.map eExt))), (18, .pv (.list 2 (l.map eExt))), (19, .pv (.int .i64 l.length)), (20, .pv (.int .i64 (0 : Nat))), (39, .any)], [], [], none⟩) :
   den env fn95_l1 st = some (.normal, ⟨sl 45 [(0, .pv D), (2, .any), (3, .row 3 ((pre ++ rawOf v l).map eEnd)), (11, .pv D), (12, .pv (.int .i64 n)), (13, .pv (.int .i64 v)), (39, .any)], [], [], none⟩) := by
  unfold fn95_l1
  refine clean_up (env := env) (l.length) (fun i => ⟨sl 45 [(0, .pv D), (3, .row 3 ((pre ++ rawOf v (l.take (i))).map eEnd)), (4, .pv (.int .i64 v)), (5, .pv (.list 2 (l.map eExt))), (11, .pv D), (12, .pv (.int .i64 n)), (13, .pv (.int .i64 v)), (17, .pv (.list 2 (l.map eExt))), (18, .pv (.list 2 (l.map eExt))), (19, .pv (.int .i64 l.length)), (20, .pv (.int .i64 i)), (39, .any)], [], [], none⟩) (fun i => some (.normal, ⟨sl 45 [(0, .pv D), (2, .any), (3, .row 3 ((pre ++ rawOf v l).map eEnd)), (11, .pv D), (12, .pv (.int .i64 n)), (13, .pv (.int .i64 v)), (39, .any)], [], [], none⟩)) h (fun _ => rfl) (fun _ => by simp only [slAll, Nat.reduceMul, Nat.reduceBEq, Nat.reduceLT, Nat.reduceLeDiff, Nat.zero_le, List.take_zero, List.take_nil, List.take_succ_cons, List.length_cons, List.length_nil, Nat.le_refl, Nat.reduceAdd, decide_true, Bool.and_self, Bool.true_and]) ?_ ?_
  · intro i rb hi ih

    have hlim : lim = 1073741824 := rfl
    have hi1 := i64_next hi (by omega)
    have F1 : ((i : Int) < (l.length : Int)) = True := eq_true (by omega)
    have hx : l[i]? = some l[i] := List.getElem?_eq_getElem hi
    have ht := take_snoc1 hi
    have hox := ho _ (List.getElem_mem hi)
    generalize l[i] = x at *
    have e1 := cal73 hox
    have hrl := rawOf_len v (l.take i)
    rw [List.length_take] at hrl
    have P2 : part [PV.int .i64 x.start, .int .i64 x.count] 0 (some 2) = some (.agg [.int .i64 x.start, .int .i64 x.count]) := rfl
    simp only [eExt] at e1
    cases hw : (wX x).2.2 with
    | false =>
      rw [hw] at e1
      have hs : rawOf v (l.take (i + 1)) = rawOf v (l.take i) := by rw [ht, rawOf_snoc, hw]; simp
      simp only [fn95_b0, F1, hx, e1, eExt, P2, index_nat hi, List.getElem?_map, Option.map_some, List.length_map, List.length_cons, List.length_nil, slAll, Nat.reduceMul, Nat.reduceBEq, Nat.reduceLT, Nat.reduceLeDiff, Nat.zero_le, List.take_zero, List.take_nil, List.take_succ_cons, List.length_cons, List.length_nil, Nat.le_refl, List.isEmpty_nil, val_pvs, frozen_pvs, msnoc_len, msnoc_get, msnoc_set, msnoc_take, Int.le_refl, take_map_all, Nat.le_refl, St.freezeRows, BV.frozen, List.take_length, List.take_append_drop, z_repl_zero, Int.toNat_zero, true_and, and_true, and_self, eq_self, z_take_zero, List.drop_nil, List.take_nil, vAll, List.foldl_nil, List.foldl_cons, resultsOf, resultList, resultOf, zBV, splice, PV.remade, St.freezeAt, St.freezeBox, St.freezeCap, PV.single, plain, act, dstOf, if_true, if_false, reduceCtorEq, St.get, St.put, St.pvOf, St.putRow, St.consume, St.freeze, St.row, St.elems, St.grab, St.takeRow, St.setRow, St.place, St.optPv, St.setCell, St.setCellRow, binPV, intBin, unPV, BV.val, Nat.reduceEqDiff, bound, consumeAll, buildParts, capsOf, capOf, List.append_nil, Nat.reduceAdd, Nat.reduceLT, Nat.reduceLeDiff, beq_self_eq_true, List.length_map, Nat.beq, dcall, dcallP, List.mapM_cons, St.snapFn, St.snap, St.layAll, St.lay, St.freezeArg, St.freezeArg1]
      rw [ih _ (by simp only [hi1, hs, slAll, Nat.reduceMul, Nat.reduceBEq, Nat.reduceLT, Nat.reduceLeDiff, Nat.zero_le, List.take_zero, List.take_nil, List.take_succ_cons, List.length_cons, List.length_nil, Nat.le_refl, List.isEmpty_nil, val_pvs, frozen_pvs, msnoc_len, msnoc_get, msnoc_set, msnoc_take, Int.le_refl, take_map_all, Nat.le_refl, St.freezeRows, BV.frozen, List.take_length, List.take_append_drop, z_repl_zero, Int.toNat_zero, true_and, and_true, and_self, eq_self, z_take_zero, List.drop_nil, List.take_nil, vAll, List.foldl_nil, List.foldl_cons, resultsOf, resultList, resultOf, zBV, splice, PV.remade, St.freezeAt, St.freezeBox, St.freezeCap, PV.single, plain, act, dstOf, if_true, if_false, reduceCtorEq, St.get, St.put, St.pvOf, St.putRow, St.consume, St.freeze, St.row, St.elems, St.grab, St.takeRow, St.setRow, St.place, St.optPv, St.setCell, St.setCellRow, binPV, intBin, unPV, BV.val, Nat.reduceEqDiff, bound, consumeAll, buildParts, capsOf, capOf, List.append_nil, Nat.reduceAdd, Nat.reduceLT, Nat.reduceLeDiff, beq_self_eq_true, List.length_map, Nat.beq, dcall, dcallP, List.mapM_cons, St.snapFn, St.snap, St.layAll, St.lay, St.freezeArg, St.freezeArg1] <;> rfl)]
    | true =>
      obtain ⟨a, b, hab, -, -, -⟩ := wX_true hw
      have hs : rawOf v (l.take (i + 1)) = rawOf v (l.take i) ++ [⟨a, v, 1⟩, ⟨b, v, -1⟩] := by rw [ht, rawOf_snoc, hab]; simp
      rw [hab] at e1
      have F2 : ((pre ++ rawOf v (l.take i)).length + 1 + 1 ≤ lim) = True := eq_true (by rw [List.length_append]; omega)
      have F3 : ((pre ++ rawOf v (l.take i)).length + 2 ≤ lim) = True := eq_true (by rw [List.length_append]; omega)
      simp only [fn95_b0, F1, F2, F3, hx, e1, eExt, P2, index_nat hi, List.getElem?_map, Option.map_some, List.length_map, List.length_cons, List.length_nil, slAll, Nat.reduceMul, Nat.reduceBEq, Nat.reduceLT, Nat.reduceLeDiff, Nat.zero_le, List.take_zero, List.take_nil, List.take_succ_cons, List.length_cons, List.length_nil, Nat.le_refl, List.isEmpty_nil, val_pvs, frozen_pvs, msnoc_len, msnoc_get, msnoc_set, msnoc_take, Int.le_refl, take_map_all, Nat.le_refl, St.freezeRows, BV.frozen, List.take_length, List.take_append_drop, z_repl_zero, Int.toNat_zero, true_and, and_true, and_self, eq_self, z_take_zero, List.drop_nil, List.take_nil, vAll, List.foldl_nil, List.foldl_cons, resultsOf, resultList, resultOf, zBV, splice, PV.remade, St.freezeAt, St.freezeBox, St.freezeCap, PV.single, plain, act, dstOf, if_true, if_false, reduceCtorEq, St.get, St.put, St.pvOf, St.putRow, St.consume, St.freeze, St.row, St.elems, St.grab, St.takeRow, St.setRow, St.place, St.optPv, St.setCell, St.setCellRow, binPV, intBin, unPV, BV.val, Nat.reduceEqDiff, bound, consumeAll, buildParts, capsOf, capOf, List.append_nil, Nat.reduceAdd, Nat.reduceLT, Nat.reduceLeDiff, beq_self_eq_true, List.length_map, Nat.beq, dcall, dcallP, List.mapM_cons, St.snapFn, St.snap, St.layAll, St.lay, St.freezeArg, St.freezeArg1]
      rw [ih _ (by simp only [hi1, hs, ← List.append_assoc, List.map_append, List.map_cons, List.map_nil, eEnd, slAll, Nat.reduceMul, Nat.reduceBEq, Nat.reduceLT, Nat.reduceLeDiff, Nat.zero_le, List.take_zero, List.take_nil, List.take_succ_cons, List.length_cons, List.length_nil, Nat.le_refl, List.isEmpty_nil, val_pvs, frozen_pvs, msnoc_len, msnoc_get, msnoc_set, msnoc_take, Int.le_refl, take_map_all, Nat.le_refl, St.freezeRows, BV.frozen, List.take_length, List.take_append_drop, z_repl_zero, Int.toNat_zero, true_and, and_true, and_self, eq_self, z_take_zero, List.drop_nil, List.take_nil, vAll, List.foldl_nil, List.foldl_cons, resultsOf, resultList, resultOf, zBV, splice, PV.remade, St.freezeAt, St.freezeBox, St.freezeCap, PV.single, plain, act, dstOf, if_true, if_false, reduceCtorEq, St.get, St.put, St.pvOf, St.putRow, St.consume, St.freeze, St.row, St.elems, St.grab, St.takeRow, St.setRow, St.place, St.optPv, St.setCell, St.setCellRow, binPV, intBin, unPV, BV.val, Nat.reduceEqDiff, bound, consumeAll, buildParts, capsOf, capOf, List.append_nil, Nat.reduceAdd, Nat.reduceLT, Nat.reduceLeDiff, beq_self_eq_true, List.length_map, Nat.beq, dcall, dcallP, List.mapM_cons, St.snapFn, St.snap, St.layAll, St.lay, St.freezeArg, St.freezeArg1] <;> rfl)]
  · intro rb

    simp only [fn95_b0, Int.lt_irrefl, List.length_map, List.take_length, slAll, Nat.reduceMul, Nat.reduceBEq, Nat.reduceLT, Nat.reduceLeDiff, Nat.zero_le, List.take_zero, List.take_nil, List.take_succ_cons, List.length_cons, List.length_nil, Nat.le_refl, List.isEmpty_nil, val_pvs, frozen_pvs, msnoc_len, msnoc_get, msnoc_set, msnoc_take, Int.le_refl, take_map_all, Nat.le_refl, St.freezeRows, BV.frozen, List.take_length, List.take_append_drop, z_repl_zero, Int.toNat_zero, true_and, and_true, and_self, eq_self, z_take_zero, List.drop_nil, List.take_nil, vAll, List.foldl_nil, List.foldl_cons, resultsOf, resultList, resultOf, zBV, splice, PV.remade, St.freezeAt, St.freezeBox, St.freezeCap, PV.single, plain, act, dstOf, if_true, if_false, reduceCtorEq, St.get, St.put, St.pvOf, St.putRow, St.consume, St.freeze, St.row, St.elems, St.grab, St.takeRow, St.setRow, St.place, St.optPv, St.setCell, St.setCellRow, binPV, intBin, unPV, BV.val, Nat.reduceEqDiff, bound, consumeAll, buildParts, capsOf, capOf, List.append_nil, Nat.reduceAdd, Nat.reduceLT, Nat.reduceLeDiff, beq_self_eq_true, List.length_map, Nat.beq, dcall, dcallP, List.mapM_cons, St.snapFn, St.snap, St.layAll, St.lay, St.freezeArg, St.freezeArg1]

set_option maxRecDepth 20000 in
theorem loop95l3 {ls : List (List Exn)} (ho : ∀ l ∈ ls, okEs l) (hr : ∀ l ∈ ls, l.length ≤ 100000) (hl : ls.length ≤ 10) {st : St} (h : st.head [0, 3, 11, 12, 13, 39] st.boxes.length = some ⟨sl 45 [(0, .pv (.list 1 (ls.map eExts))), (3, .row 3 ((rawFrom 0 (ls.take ((0 : Nat)))).map eEnd)), (11, .pv (.list 1 (ls.map eExts))), (12, .pv (.int .i64 ls.length)), (13, .pv (.int .i64 (0 : Nat))), (39, .any)], [], [], none⟩) :
   den env fn95_l3 st = some (.normal, ⟨sl 45 [(2, .any), (3, .row 3 ((rawFrom 0 ls).map eEnd))], [], [], none⟩) := by
  unfold fn95_l3
  refine clean_up (env := env) (ls.length) (fun i => ⟨sl 45 [(0, .pv (.list 1 (ls.map eExts))), (3, .row 3 ((rawFrom 0 (ls.take (i))).map eEnd)), (11, .pv (.list 1 (ls.map eExts))), (12, .pv (.int .i64 ls.length)), (13, .pv (.int .i64 i)), (39, .any)], [], [], none⟩) (fun i => some (.normal, ⟨sl 45 [(2, .any), (3, .row 3 ((rawFrom 0 ls).map eEnd))], [], [], none⟩)) h (fun _ => rfl) (fun _ => by simp only [slAll, Nat.reduceMul, Nat.reduceBEq, Nat.reduceLT, Nat.reduceLeDiff, Nat.zero_le, List.take_zero, List.take_nil, List.take_succ_cons, List.length_cons, List.length_nil, Nat.le_refl, Nat.reduceAdd, decide_true, Bool.and_self, Bool.true_and]) ?_ ?_
  · intro i rb hi ih

    have hlim : lim = 1073741824 := rfl
    have hi1 := i64_next hi (by omega)
    have F1 : ((i : Int) < (ls.length : Int)) = True := eq_true (by omega)
    have hx : ls[i]? = some ls[i] := List.getElem?_eq_getElem hi
    have ht := take_snoc1 hi
    have hox := ho _ (List.getElem_mem hi)
    have hrx := hr _ (List.getElem_mem hi)
    have hli : (ls.take i).length = i := by rw [List.length_take]; omega
    have hp := rawFrom_len (n := 100000) (ls.take i) 0 fun l hl => hr l (List.mem_of_mem_take hl)
    rw [hli] at hp
    generalize ls[i] = l at *
    have hs : rawFrom 0 (ls.take (i + 1)) = rawFrom 0 (ls.take i) ++ rawOf i l := by rw [ht, rawFrom_snoc, hli, Nat.zero_add]
    have hr0 : rawOf i ([] : List Exn) = [] := rfl
    simp only [fn95_b2, F1, hx, eExts, index_nat hi, List.getElem?_map, Option.map_some, List.length_map, slAll, Nat.reduceMul, Nat.reduceBEq, Nat.reduceLT, Nat.reduceLeDiff, Nat.zero_le, List.take_zero, List.take_nil, List.take_succ_cons, List.length_cons, List.length_nil, Nat.le_refl, List.isEmpty_nil, val_pvs, frozen_pvs, msnoc_len, msnoc_get, msnoc_set, msnoc_take, Int.le_refl, take_map_all, Nat.le_refl, St.freezeRows, BV.frozen, List.take_length, List.take_append_drop, z_repl_zero, Int.toNat_zero, true_and, and_true, and_self, eq_self, z_take_zero, List.drop_nil, List.take_nil, vAll, List.foldl_nil, List.foldl_cons, resultsOf, resultList, resultOf, zBV, splice, PV.remade, St.freezeAt, St.freezeBox, St.freezeCap, PV.single, plain, act, dstOf, if_true, if_false, reduceCtorEq, St.get, St.put, St.pvOf, St.putRow, St.consume, St.freeze, St.row, St.elems, St.grab, St.takeRow, St.setRow, St.place, St.optPv, St.setCell, St.setCellRow, binPV, intBin, unPV, BV.val, Nat.reduceEqDiff, bound, consumeAll, buildParts, capsOf, capOf, List.append_nil, Nat.reduceAdd, Nat.reduceLT, Nat.reduceLeDiff, beq_self_eq_true, List.length_map, Nat.beq, dcall, dcallP, List.mapM_cons, St.snapFn, St.snap, St.layAll, St.lay, St.freezeArg, St.freezeArg1]
    rw [loop95 (l := l) (pre := rawFrom 0 (ls.take i)) (v := i) (q17 := .pv (.list 2 (l.map eExt))) rfl hox hrx (by omega)]
    rotate_left
    · simp only [z_take_zero, hr0, List.append_nil, eExts, slAll, Nat.reduceMul, Nat.reduceBEq, Nat.reduceLT, Nat.reduceLeDiff, Nat.zero_le, List.take_zero, List.take_nil, List.take_succ_cons, List.length_cons, List.length_nil, Nat.le_refl, List.isEmpty_nil, val_pvs, frozen_pvs, msnoc_len, msnoc_get, msnoc_set, msnoc_take, Int.le_refl, take_map_all, Nat.le_refl, St.freezeRows, BV.frozen, List.take_length, List.take_append_drop, z_repl_zero, Int.toNat_zero, true_and, and_true, and_self, eq_self, z_take_zero, List.drop_nil, List.take_nil, vAll, List.foldl_nil, List.foldl_cons, resultsOf, resultList, resultOf, zBV, splice, PV.remade, St.freezeAt, St.freezeBox, St.freezeCap, PV.single, plain, act, dstOf, if_true, if_false, reduceCtorEq, St.get, St.put, St.pvOf, St.putRow, St.consume, St.freeze, St.row, St.elems, St.grab, St.takeRow, St.setRow, St.place, St.optPv, St.setCell, St.setCellRow, binPV, intBin, unPV, BV.val, Nat.reduceEqDiff, bound, consumeAll, buildParts, capsOf, capOf, List.append_nil, Nat.reduceAdd, Nat.reduceLT, Nat.reduceLeDiff, beq_self_eq_true, List.length_map, Nat.beq, dcall, dcallP, List.mapM_cons, St.snapFn, St.snap, St.layAll, St.lay, St.freezeArg, St.freezeArg1] <;> rfl
    simp only [slAll, Nat.reduceMul, Nat.reduceBEq, Nat.reduceLT, Nat.reduceLeDiff, Nat.zero_le, List.take_zero, List.take_nil, List.take_succ_cons, List.length_cons, List.length_nil, Nat.le_refl, List.isEmpty_nil, val_pvs, frozen_pvs, msnoc_len, msnoc_get, msnoc_set, msnoc_take, Int.le_refl, take_map_all, Nat.le_refl, St.freezeRows, BV.frozen, List.take_length, List.take_append_drop, z_repl_zero, Int.toNat_zero, true_and, and_true, and_self, eq_self, z_take_zero, List.drop_nil, List.take_nil, vAll, List.foldl_nil, List.foldl_cons, resultsOf, resultList, resultOf, zBV, splice, PV.remade, St.freezeAt, St.freezeBox, St.freezeCap, PV.single, plain, act, dstOf, if_true, if_false, reduceCtorEq, St.get, St.put, St.pvOf, St.putRow, St.consume, St.freeze, St.row, St.elems, St.grab, St.takeRow, St.setRow, St.place, St.optPv, St.setCell, St.setCellRow, binPV, intBin, unPV, BV.val, Nat.reduceEqDiff, bound, consumeAll, buildParts, capsOf, capOf, List.append_nil, Nat.reduceAdd, Nat.reduceLT, Nat.reduceLeDiff, beq_self_eq_true, List.length_map, Nat.beq, dcall, dcallP, List.mapM_cons, St.snapFn, St.snap, St.layAll, St.lay, St.freezeArg, St.freezeArg1]
    rw [ih _ (by simp only [hi1, hs, eExts, slAll, Nat.reduceMul, Nat.reduceBEq, Nat.reduceLT, Nat.reduceLeDiff, Nat.zero_le, List.take_zero, List.take_nil, List.take_succ_cons, List.length_cons, List.length_nil, Nat.le_refl, List.isEmpty_nil, val_pvs, frozen_pvs, msnoc_len, msnoc_get, msnoc_set, msnoc_take, Int.le_refl, take_map_all, Nat.le_refl, St.freezeRows, BV.frozen, List.take_length, List.take_append_drop, z_repl_zero, Int.toNat_zero, true_and, and_true, and_self, eq_self, z_take_zero, List.drop_nil, List.take_nil, vAll, List.foldl_nil, List.foldl_cons, resultsOf, resultList, resultOf, zBV, splice, PV.remade, St.freezeAt, St.freezeBox, St.freezeCap, PV.single, plain, act, dstOf, if_true, if_false, reduceCtorEq, St.get, St.put, St.pvOf, St.putRow, St.consume, St.freeze, St.row, St.elems, St.grab, St.takeRow, St.setRow, St.place, St.optPv, St.setCell, St.setCellRow, binPV, intBin, unPV, BV.val, Nat.reduceEqDiff, bound, consumeAll, buildParts, capsOf, capOf, List.append_nil, Nat.reduceAdd, Nat.reduceLT, Nat.reduceLeDiff, beq_self_eq_true, List.length_map, Nat.beq, dcall, dcallP, List.mapM_cons, St.snapFn, St.snap, St.layAll, St.lay, St.freezeArg, St.freezeArg1] <;> rfl)]
  · intro rb

    simp only [fn95_b2, Int.lt_irrefl, List.length_map, List.take_length, slAll, Nat.reduceMul, Nat.reduceBEq, Nat.reduceLT, Nat.reduceLeDiff, Nat.zero_le, List.take_zero, List.take_nil, List.take_succ_cons, List.length_cons, List.length_nil, Nat.le_refl, List.isEmpty_nil, val_pvs, frozen_pvs, msnoc_len, msnoc_get, msnoc_set, msnoc_take, Int.le_refl, take_map_all, Nat.le_refl, St.freezeRows, BV.frozen, List.take_length, List.take_append_drop, z_repl_zero, Int.toNat_zero, true_and, and_true, and_self, eq_self, z_take_zero, List.drop_nil, List.take_nil, vAll, List.foldl_nil, List.foldl_cons, resultsOf, resultList, resultOf, zBV, splice, PV.remade, St.freezeAt, St.freezeBox, St.freezeCap, PV.single, plain, act, dstOf, if_true, if_false, reduceCtorEq, St.get, St.put, St.pvOf, St.putRow, St.consume, St.freeze, St.row, St.elems, St.grab, St.takeRow, St.setRow, St.place, St.optPv, St.setCell, St.setCellRow, binPV, intBin, unPV, BV.val, Nat.reduceEqDiff, bound, consumeAll, buildParts, capsOf, capOf, List.append_nil, Nat.reduceAdd, Nat.reduceLT, Nat.reduceLeDiff, beq_self_eq_true, List.length_map, Nat.beq, dcall, dcallP, List.mapM_cons, St.snapFn, St.snap, St.layAll, St.lay, St.freezeArg, St.freezeArg1]

def endsOf (ls : List (List Exn)) : List End := sortE (rawFrom 0 ls)
theorem cal95 {ls : List (List Exn)} (ho : ∀ l ∈ ls, okEs l) (hr : ∀ l ∈ ls, l.length ≤ 10000) (hl : ls.length ≤ 2) (hsl : (endsOf ls).length = (rawFrom 0 ls).length) : cal env 95 [.list 1 (ls.map eExts)] = some [(.list 3 ((endsOf ls).map eEnd), true)] := by
  have hp := rawFrom_len (n := 10000) ls 0 hr
  have hp2 : (rawFrom 0 ls).length ≤ 1000000 := by
    have : 2 * 10000 * ls.length ≤ 2 * 10000 * 2 := Nat.mul_le_mul_left _ hl
    omega
  have h1 := sortEndsX_enc (g := 99) (l := rawFrom 0 ls) hp2
  have h2 : ((sortE (rawFrom 0 ls)).map eEnd).length = ((rawFrom 0 ls).map eEnd).length := by
    rw [List.length_map, List.length_map]; exact hsl
  unfold endsOf
  have hcond : (0 = 0 ∧ (rawFrom 0 ls).length = ((rawFrom 0 ls).map eEnd).length ∧ ((sortE (rawFrom 0 ls)).map eEnd).length = ((rawFrom 0 ls).map eEnd).length) = True := eq_true ⟨rfl, by simp, h2⟩
  rw [cal_code env95 rfl]; simp only [fn95, slAll, Nat.reduceBEq, Nat.reduceLeDiff, Nat.reduceAdd, List.length_cons, List.length_nil]
  simp only [List.length_map, env98, h1, hsl, slAll, Nat.reduceMul, Nat.reduceBEq, Nat.reduceLT, Nat.reduceLeDiff, Nat.zero_le, List.take_zero, List.take_nil, List.take_succ_cons, List.length_cons, List.length_nil, Nat.le_refl, List.isEmpty_nil, val_pvs, frozen_pvs, msnoc_len, msnoc_get, msnoc_set, msnoc_take, Int.le_refl, take_map_all, Nat.le_refl, St.freezeRows, BV.frozen, List.take_length, List.take_append_drop, z_repl_zero, Int.toNat_zero, true_and, and_true, and_self, eq_self, z_take_zero, List.drop_nil, List.take_nil, vAll, List.foldl_nil, List.foldl_cons, resultsOf, resultList, resultOf, zBV, splice, PV.remade, St.freezeAt, St.freezeBox, St.freezeCap, PV.single, plain, act, dstOf, if_true, if_false, reduceCtorEq, St.get, St.put, St.pvOf, St.putRow, St.consume, St.freeze, St.row, St.elems, St.grab, St.takeRow, St.setRow, St.place, St.optPv, St.setCell, St.setCellRow, binPV, intBin, unPV, BV.val, Nat.reduceEqDiff, bound, consumeAll, buildParts, capsOf, capOf, List.append_nil, Nat.reduceAdd, Nat.reduceLT, Nat.reduceLeDiff, beq_self_eq_true, List.length_map, Nat.beq, dcall, dcallP, List.mapM_cons, St.snapFn, St.snap, St.layAll, St.lay, St.freezeArg, St.freezeArg1]
  rw [loop95l3 ho (fun l h => by have := hr l h; omega) (by omega) (by simp only [z_take_zero, rawFrom, List.map_nil, slAll, Nat.reduceMul, Nat.reduceBEq, Nat.reduceLT, Nat.reduceLeDiff, Nat.zero_le, List.take_zero, List.take_nil, List.take_succ_cons, List.length_cons, List.length_nil, Nat.le_refl, List.isEmpty_nil, val_pvs, frozen_pvs, msnoc_len, msnoc_get, msnoc_set, msnoc_take, Int.le_refl, take_map_all, Nat.le_refl, St.freezeRows, BV.frozen, List.take_length, List.take_append_drop, z_repl_zero, Int.toNat_zero, true_and, and_true, and_self, eq_self, z_take_zero, List.drop_nil, List.take_nil, vAll, List.foldl_nil, List.foldl_cons, resultsOf, resultList, resultOf, zBV, splice, PV.remade, St.freezeAt, St.freezeBox, St.freezeCap, PV.single, plain, act, dstOf, if_true, if_false, reduceCtorEq, St.get, St.put, St.pvOf, St.putRow, St.consume, St.freeze, St.row, St.elems, St.grab, St.takeRow, St.setRow, St.place, St.optPv, St.setCell, St.setCellRow, binPV, intBin, unPV, BV.val, Nat.reduceEqDiff, bound, consumeAll, buildParts, capsOf, capOf, List.append_nil, Nat.reduceAdd, Nat.reduceLT, Nat.reduceLeDiff, beq_self_eq_true, List.length_map, Nat.beq, dcall, dcallP, List.mapM_cons, St.snapFn, St.snap, St.layAll, St.lay, St.freezeArg, St.freezeArg1] <;> rfl)]
  simp only [h2, List.length_map, env98, h1, hsl, slAll, Nat.reduceMul, Nat.reduceBEq, Nat.reduceLT, Nat.reduceLeDiff, Nat.zero_le, List.take_zero, List.take_nil, List.take_succ_cons, List.length_cons, List.length_nil, Nat.le_refl, List.isEmpty_nil, val_pvs, frozen_pvs, msnoc_len, msnoc_get, msnoc_set, msnoc_take, Int.le_refl, take_map_all, Nat.le_refl, St.freezeRows, BV.frozen, List.take_length, List.take_append_drop, z_repl_zero, Int.toNat_zero, true_and, and_true, and_self, eq_self, z_take_zero, List.drop_nil, List.take_nil, vAll, List.foldl_nil, List.foldl_cons, resultsOf, resultList, resultOf, zBV, splice, PV.remade, St.freezeAt, St.freezeBox, St.freezeCap, PV.single, plain, act, dstOf, if_true, if_false, reduceCtorEq, St.get, St.put, St.pvOf, St.putRow, St.consume, St.freeze, St.row, St.elems, St.grab, St.takeRow, St.setRow, St.place, St.optPv, St.setCell, St.setCellRow, binPV, intBin, unPV, BV.val, Nat.reduceEqDiff, bound, consumeAll, buildParts, capsOf, capOf, List.append_nil, Nat.reduceAdd, Nat.reduceLT, Nat.reduceLeDiff, beq_self_eq_true, List.length_map, Nat.beq, dcall, dcallP, List.mapM_cons, St.snapFn, St.snap, St.layAll, St.lay, St.freezeArg, St.freezeArg1]
  rw [← hsl]
  unfold endsOf
  rw [take_map_all]
end Go.Proofs.YtncobemfpammfaaGreat.V

namespace Go.Proofs
open Go.Shelf
def Tryz.sortEnd_ren : Go.Shelf.Ren := ⟨fun | 6 => 98 | 15 => 102 | 14 => 101 | 28 => 112 | 29 => 113 | 20 => 104 | 21 => 105 | 22 => 106 | 23 => 107 | 24 => 108 | 25 => 109 | 26 => 110 | 27 => 111 | 46 => 114 | 47 => 115 | 48 => 116 | 49 => 117 | 50 => 118 | 57 => 119 | n => n, fun | 22 => 138 | 24 => 142 | 25 => 146 | 3 => 3 | 39 => 149 | 0 => 0 | 53 => 159 | 55 => 161 | 4 => 4 | 46 => 152 | 45 => 151 | 50 => 156 | 5 => 5 | 9 => 9 | 66 => 162 | 70 => 166 | 76 => 168 | 77 => 51 | n => n, fun | n => n⟩
theorem Tryz.sortEnd : Go.Proofs.SlLaysF0.n6 Tryz.prog Tryz.sortEnd_ren := {
  mixed := by kernel_rfl
  f6 := ⟨Tryz.f98.name, by decide, Tryz.func98.trans (congrArg some (by kernel_rfl))⟩
  f14 := ⟨Tryz.f101.name, by decide, Tryz.func101.trans (congrArg some (by kernel_rfl))⟩
  f15 := Tryz.func102.trans (congrArg some (by kernel_rfl))
  f20 := ⟨Tryz.f104.name, by decide, Tryz.func104.trans (congrArg some (by kernel_rfl))⟩
  f21 := ⟨Tryz.f105.name, by decide, Tryz.func105.trans (congrArg some (by kernel_rfl))⟩
  f22 := ⟨Tryz.f106.name, by decide, Tryz.func106.trans (congrArg some (by kernel_rfl))⟩
  f23 := ⟨Tryz.f107.name, by decide, Tryz.func107.trans (congrArg some (by kernel_rfl))⟩
  f24 := ⟨Tryz.f108.name, by decide, Tryz.func108.trans (congrArg some (by kernel_rfl))⟩
  f25 := ⟨Tryz.f109.name, by decide, Tryz.func109.trans (congrArg some (by kernel_rfl))⟩
  f26 := ⟨Tryz.f110.name, by decide, Tryz.func110.trans (congrArg some (by kernel_rfl))⟩
  f27 := ⟨Tryz.f111.name, by decide, Tryz.func111.trans (congrArg some (by kernel_rfl))⟩
  f28 := Tryz.func112.trans (congrArg some (by kernel_rfl))
  f29 := Tryz.func113.trans (congrArg some (by kernel_rfl))
  f46 := ⟨Tryz.f114.name, by decide, Tryz.func114.trans (congrArg some (by kernel_rfl))⟩
  f47 := Tryz.func115.trans (congrArg some (by kernel_rfl))
  f48 := Tryz.func116.trans (congrArg some (by kernel_rfl))
  f49 := ⟨Tryz.f117.name, by decide, Tryz.func117.trans (congrArg some (by kernel_rfl))⟩
  f50 := ⟨Tryz.f118.name, by decide, Tryz.func118.trans (congrArg some (by kernel_rfl))⟩
  f57 := ⟨Tryz.f119.name, by decide, Tryz.func119.trans (congrArg some (by kernel_rfl))⟩
  t0 := Tryz.underlying0
  a0 := Tryz.isAgg0
  z0 := Tryz.sizeOf0
  v0 := Tryz.zeroValue0
  t3 := Tryz.underlying3
  a3 := Tryz.isAgg3
  z3 := Tryz.sizeOf3
  v3 := Tryz.zeroValue3
  t4 := Tryz.underlying4
  a4 := Tryz.isAgg4
  z4 := Tryz.sizeOf4
  v4 := Tryz.zeroValue4
  t5 := Tryz.underlying5
  a5 := Tryz.isAgg5
  z5 := Tryz.sizeOf5
  v5 := Tryz.zeroValue5
  t9 := Tryz.underlying9
  a9 := Tryz.isAgg9
  z9 := Tryz.sizeOf9
  v9 := Tryz.zeroValue9
  t22 := Tryz.underlying138
  a22 := Tryz.isAgg138
  z22 := Tryz.sizeOf138
  v22 := Tryz.zeroValue138
  t25 := Tryz.underlying146
  a25 := Tryz.isAgg146
  z25 := Tryz.sizeOf146
  v25 := Tryz.zeroValue146
  t39 := Tryz.underlying149
  a39 := Tryz.isAgg149
  z39 := Tryz.sizeOf149
  v39 := Tryz.zeroValue149
  t45 := Tryz.underlying151
  a45 := Tryz.isAgg151
  z45 := Tryz.sizeOf151
  v45 := Tryz.zeroValue151
  t46 := Tryz.underlying152
  a46 := Tryz.isAgg152
  z46 := Tryz.sizeOf152
  v46 := Tryz.zeroValue152
  t50 := Tryz.underlying156
  a50 := Tryz.isAgg156
  z50 := Tryz.sizeOf156
  v50 := Tryz.zeroValue156
  t53 := Tryz.underlying159
  a53 := Tryz.isAgg159
  z53 := Tryz.sizeOf159
  v53 := Tryz.zeroValue159
  t55 := Tryz.underlying161
  a55 := Tryz.isAgg161
  z55 := Tryz.sizeOf161
  v55 := Tryz.zeroValue161
  t66 := Tryz.underlying162
  a66 := Tryz.isAgg162
  z66 := Tryz.sizeOf162
  v66 := Tryz.zeroValue162
  t70 := Tryz.underlying166
  a70 := Tryz.isAgg166
  z70 := Tryz.sizeOf166
  v70 := Tryz.zeroValue166
  t76 := Tryz.underlying168
  a76 := Tryz.isAgg168
  z76 := Tryz.sizeOf168
  v76 := Tryz.zeroValue168
  t77 := Tryz.underlying51
  a77 := Tryz.isAgg51
  z77 := Tryz.sizeOf51
  v77 := Tryz.zeroValue51 }
def Tryz.cmpInt_ren : Go.Shelf.Ren := ⟨fun | 5 => 100 | 7 => 103 | n => n, fun | 22 => 3 | 3 => 3 | 4 => 4 | n => n, fun | n => n⟩
theorem Tryz.cmpInt : Go.Proofs.SlLaysC2.n5 Tryz.prog Tryz.cmpInt_ren := {
  mixed := by kernel_rfl
  f5 := ⟨Tryz.f100.name, by decide, Tryz.func100.trans (congrArg some (by kernel_rfl))⟩
  f7 := ⟨Tryz.f103.name, by decide, Tryz.func103.trans (congrArg some (by kernel_rfl))⟩
  t3 := Tryz.underlying3
  a3 := Tryz.isAgg3
  z3 := Tryz.sizeOf3
  v3 := Tryz.zeroValue3
  t4 := Tryz.underlying4
  a4 := Tryz.isAgg4
  z4 := Tryz.sizeOf4
  v4 := Tryz.zeroValue4
  t22 := Tryz.underlying3
  a22 := Tryz.isAgg3
  z22 := Tryz.sizeOf3
  v22 := Tryz.zeroValue3 }
end Go.Proofs
