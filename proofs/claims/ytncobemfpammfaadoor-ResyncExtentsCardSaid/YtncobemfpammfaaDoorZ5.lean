/-
  Part 5 of the texts that the statement stands on.
-/
import Derived.Test.YtncobemfpammfaaDoorZ4
import Derived.Test.YtncobemfpammfaaDoorProg
import Derived.Shelf.SlSortCmp.WholeK
import Derived.Shelf.SlSortCmp.NoneTotal
import Derived.Shelf.SlicesG.Cmp
import Derived.Shelf.Small.Bits
import Derived.Ground.SlsfProg
import Derived.Ground.SlgcProg
import Derived.Ground.NamesProg
set_option linter.all false
namespace Go.Proofs.YtncobemfpammfaaDoor.V
def fillR (l : List PV) (z : PV) (i : Nat) : List PV := l.take i ++ List.replicate (l.length - i) z
theorem fillR_len {l : List PV} {z : PV} {i : Nat} (h : i ≤ l.length) : (fillR l z i).length = l.length := by simp [fillR]; omega
theorem fillR_get {l : List PV} {z : PV} {i : Nat} (h : i < l.length) : (fillR l z i)[i]? = some z := by
  unfold fillR
  have e : (l.take i).length = i := by simp; omega
  rw [List.getElem?_append_right (by omega), e, Nat.sub_self, List.getElem?_replicate, if_pos (by omega)]
theorem fillR_set {l : List PV} {z x : PV} {i : Nat} (h : i < l.length) (hx : l[i]? = some x) : (fillR l z i).set i x = fillR l z (i + 1) := by
  unfold fillR
  have e : (l.take i).length = i := by simp; omega
  rw [List.set_append_right _ _ (by omega), e, Nat.sub_self, show l.length - i = (l.length - (i + 1)) + 1 by omega, List.replicate_succ, List.set_cons_zero, List.take_add_one, hx, Option.toList, List.append_assoc]
  rfl
theorem fillR_zero (l : List PV) (z : PV) : fillR l z 0 = List.replicate l.length z := by simp [fillR]
theorem fillR_all (l : List PV) (z : PV) : fillR l z l.length = l := by simp [fillR]
theorem eBm_part (b : Bm) : part (eBm b).cells 0 (some 2) = some (eBm b) := rfl
theorem eBm_zero : eBm ⟨0, []⟩ = .agg [.int .i64 0, .list 1 []] := rfl
def bothE (a b : Bm) : Int := if okB a = false then 3 else if okB b = false then 3 else if a.size ≠ b.size then 22 else 0
def bothO (f : Wd → Wd → Wd) (a b : Bm) : Bm := if bothE a b = 0 then ⟨a.size, zipB f a.ws b.ws⟩ else ⟨0, []⟩
theorem both_ok {a b : Bm} (h : bothE a b = 0) : okB a = true ∧ okB b = true ∧ a.size = b.size ∧ a.ws.length = b.ws.length := by
  unfold bothE at h
  split at h
  · omega
  · split at h
    · omega
    · split at h
      · omega
      · rename_i c1 c2 c3
        have c1 : okB a = true := by cases h : okB a <;> simp_all
        have c2 : okB b = true := by cases h : okB b <;> simp_all
        have e : a.size = b.size := Classical.not_not.1 c3
        have h1 := (okB_iff.1 c1).1.2.2
        have h2 := (okB_iff.1 c2).1.2.2
        exact ⟨c1, c2, e, by rw [e] at h1; omega⟩
theorem zipB_len {f : Wd → Wd → Wd} {a b : List Wd} (h : a.length = b.length) : (zipB f a b).length = a.length := by simp [zipB, h]
theorem zipB_get {f : Wd → Wd → Wd} {a b : List Wd} {i : Nat} (h1 : i < a.length) (h2 : i < b.length) : (zipB f a b)[i]? = some (f a[i] b[i]) := by
  have h : i < (zipB f a b).length := by simp [zipB]; omega
  rw [List.getElem?_eq_getElem h]
  simp [zipB]
set_option maxRecDepth 20000 in
theorem loop55 {a b : Bm} {f : Wd → Wd → Wd} {gf : Nat} (hf : ∀ x y, cal env gf [eW x, eW y] = some [(eW (f x y), false)]) (hl : a.ws.length = b.ws.length) (hm : a.ws.length ≤ 64) {st : St} (h : st.head [2, 3, 4, 6, 10, 33, 35, 36] st.boxes.length = some ⟨sl 59 [(2, .pv (.func gf [])), (3, .pbox 0 0), (4, .pbox 1 0), (6, .pbox 2 0), (10, .row 1 (fillR ((zipB f a.ws b.ws).map eW) (.int .u64 0) ((0 : Nat)))), (33, .any), (35, .pv (.int .i64 a.ws.length)), (36, .pv (.int .i64 (0 : Nat)))], [⟨false, [.pv (.int .i64 a.size), .pv (.list 1 (a.ws.map eW))]⟩, ⟨false, [.pv (.int .i64 b.size), .pv (.list 1 (b.ws.map eW))]⟩, ⟨false, [.pv (.int .i64 0), .row 1 []]⟩], [], none⟩) :
   den env fn55_l1 st = some (.normal, ⟨sl 59 [(3, .pbox 0 0), (6, .pbox 2 0), (7, .any), (10, .row 1 ((zipB f a.ws b.ws).map eW))], [⟨false, [.pv (.int .i64 a.size), .pv (.list 1 (a.ws.map eW))]⟩, ⟨false, [.pv (.int .i64 b.size), .pv (.list 1 (b.ws.map eW))]⟩, ⟨false, [.pv (.int .i64 0), .row 1 []]⟩], [], none⟩) := by
  unfold fn55_l1
  refine clean_up (env := env) (nb := 3) (a.ws.length) (fun i => ⟨sl 59 [(2, .pv (.func gf [])), (3, .pbox 0 0), (4, .pbox 1 0), (6, .pbox 2 0), (10, .row 1 (fillR ((zipB f a.ws b.ws).map eW) (.int .u64 0) (i))), (33, .any), (35, .pv (.int .i64 a.ws.length)), (36, .pv (.int .i64 i))], [⟨false, [.pv (.int .i64 a.size), .pv (.list 1 (a.ws.map eW))]⟩, ⟨false, [.pv (.int .i64 b.size), .pv (.list 1 (b.ws.map eW))]⟩, ⟨false, [.pv (.int .i64 0), .row 1 []]⟩], [], none⟩) (fun i => some (.normal, ⟨sl 59 [(3, .pbox 0 0), (6, .pbox 2 0), (7, .any), (10, .row 1 ((zipB f a.ws b.ws).map eW))], [⟨false, [.pv (.int .i64 a.size), .pv (.list 1 (a.ws.map eW))]⟩, ⟨false, [.pv (.int .i64 b.size), .pv (.list 1 (b.ws.map eW))]⟩, ⟨false, [.pv (.int .i64 0), .row 1 []]⟩], [], none⟩)) h (fun _ => rfl) (fun _ => by simp only [slAll, slsAll, Nat.reduceMul, Nat.reduceBEq, Nat.reduceLT, Nat.reduceLeDiff, Nat.reduceAdd, decide_true, Bool.and_self, Bool.true_and]) ?_ ?_
  · intro i rb hi ih

    have hi1 := i64_next hi (by unfold lim; omega)
    have hj : i < b.ws.length := by omega
    have F1 : ((i : Int) < (a.ws.length : Int)) = True := eq_true (by omega)
    have zl : ((zipB f a.ws b.ws).map eW).length = a.ws.length := by rw [List.length_map, zipB_len hl]
    have f1 := fillR_len (l := (zipB f a.ws b.ws).map eW) (z := .int .u64 0) (i := i) (by omega)
    have f2 := fillR_get (l := (zipB f a.ws b.ws).map eW) (z := .int .u64 0) (i := i) (by omega)
    have f3 := fillR_set (l := (zipB f a.ws b.ws).map eW) (z := .int .u64 0) (i := i) (x := eW (f a.ws[i] b.ws[i])) (by omega) (by rw [List.getElem?_map, zipB_get hi hj]; rfl)
    have e1 := hf a.ws[i] b.ws[i]
    rw [zl] at f1
    unfold eW at e1 f1 f2 f3 ih ⊢
    simp only [fn55_b0, F1, e1, f1, f2, f3, index_nat hi, index_nat hj, List.getElem?_map, List.getElem?_eq_getElem hi, List.getElem?_eq_getElem hj, Option.map_some, List.length_map, slAll, slsAll, Nat.reduceMul, Nat.reduceBEq, Nat.reduceLT, Nat.reduceLeDiff, memAll, vAll, reduceCtorEq, Nat.reduceEqDiff, Nat.reduceAdd, Nat.reduceLT, Nat.reduceLeDiff, Nat.beq]
    rw [ih _ (by simp only [hi1, slAll, slsAll, Nat.reduceMul, Nat.reduceBEq, Nat.reduceLT, Nat.reduceLeDiff, memAll, vAll, reduceCtorEq, Nat.reduceEqDiff, Nat.reduceAdd, Nat.reduceLT, Nat.reduceLeDiff, Nat.beq] <;> rfl)]
  · intro rb

    have zl : ((zipB f a.ws b.ws).map eW).length = a.ws.length := by rw [List.length_map, zipB_len hl]
    have f4 := fillR_all ((zipB f a.ws b.ws).map eW) (.int .u64 0)
    rw [zl] at f4
    rw [f4]
    simp only [fn55_b0, Int.lt_irrefl, slAll, slsAll, Nat.reduceMul, Nat.reduceBEq, Nat.reduceLT, Nat.reduceLeDiff, memAll, vAll, reduceCtorEq, Nat.reduceEqDiff, Nat.reduceAdd, Nat.reduceLT, Nat.reduceLeDiff, Nat.beq]

theorem cal55 {a b : Bm} {f : Wd → Wd → Wd} {gf : Nat} (hf : ∀ x y, cal env gf [eW x, eW y] = some [(eW (f x y), false)]) :
    cal env 55 [eBm a, eBm b, .func gf []] = some [(eBm (bothO f a b), false), (.int .i64 (bothE a b), false)] := by
  have P : ∀ b : Bm, part [PV.int .i64 b.size, .list 1 (b.ws.map eW)] 0 (some 2) = some (eBm b) := fun _ => rfl
  have e1 := cal58 (b := a)
  have e2 := cal58 (b := b)
  have Z0 : ((0 : Int) != 0) = false := rfl
  have Z3 : ((3 : Int) != 0) = true := rfl
  have hz := eBm_zero
  unfold bothO
  cases c1 : okB a with
  | false =>
    have hE : bothE a b = 3 := by unfold bothE; rw [if_pos c1]
    rw [hE, if_neg (by decide), hz]
    rw [bmE_no c1] at e1
    have eA : eBm a = .agg [.int .i64 a.size, .list 1 (a.ws.map eW)] := rfl
    have eB : eBm b = .agg [.int .i64 b.size, .list 1 (b.ws.map eW)] := rfl
    rw [eA] at e1 ⊢; rw [eB]
    rw [cal_code env55 rfl]; simp only [fn55, slAll, Nat.reduceBEq, Nat.reduceLeDiff, Nat.reduceAdd, List.length_cons, List.length_nil]
    simp only [e1, Z3, part_more, part_succ, part_one, slAll, slsAll, Nat.reduceMul, Nat.reduceBEq, Nat.reduceLT, Nat.reduceLeDiff, memAll, vAll, reduceCtorEq, Nat.reduceEqDiff, Nat.reduceAdd, Nat.reduceLT, Nat.reduceLeDiff, Nat.beq]
  | true =>
    rw [bmE_ok c1] at e1
    cases c2 : okB b with
    | false =>
      have hE : bothE a b = 3 := by unfold bothE; rw [if_neg (by rw [c1]; decide), if_pos c2]
      rw [hE, if_neg (by decide), hz]
      rw [bmE_no c2] at e2
      have eA : eBm a = .agg [.int .i64 a.size, .list 1 (a.ws.map eW)] := rfl
      have eB : eBm b = .agg [.int .i64 b.size, .list 1 (b.ws.map eW)] := rfl
      rw [eA] at e1 ⊢; rw [eB] at e2 ⊢
      rw [cal_code env55 rfl]; simp only [fn55, slAll, Nat.reduceBEq, Nat.reduceLeDiff, Nat.reduceAdd, List.length_cons, List.length_nil]
      simp only [e1, e2, Z3, Z0, slAll, slsAll, Nat.reduceMul, Nat.reduceBEq, Nat.reduceLT, Nat.reduceLeDiff, memAll, vAll, reduceCtorEq, Nat.reduceEqDiff, Nat.reduceAdd, Nat.reduceLT, Nat.reduceLeDiff, Nat.beq]
    | true =>
      rw [bmE_ok c2] at e2
      by_cases c3 : a.size = b.size
      · have hE : bothE a b = 0 := by unfold bothE; rw [if_neg (by rw [c1]; decide), if_neg (by rw [c2]; decide), if_neg (by simpa using c3)]
        obtain ⟨_, _, _, hl⟩ := both_ok hE
        have hm := (okB_size c1).2.2.1
        have G : (a.size != b.size) = false := by simp [c3]
        have F3 : ((0 : Int) ≤ (a.ws.length : Int)) = True := eq_true (by omega)
        have F4 : ((a.ws.length : Int) ≤ (lim : Int)) = True := eq_true (by unfold lim; omega)
        rw [hE, if_pos rfl]
        have eA : eBm a = .agg [.int .i64 a.size, .list 1 (a.ws.map eW)] := rfl
        have eB : eBm b = .agg [.int .i64 b.size, .list 1 (b.ws.map eW)] := rfl
        rw [eA] at e1 ⊢; rw [eB] at e2 ⊢
        rw [cal_code env55 rfl]; simp only [fn55, slAll, Nat.reduceBEq, Nat.reduceLeDiff, Nat.reduceAdd, List.length_cons, List.length_nil]
        simp only [e1, e2, Z0, G, F3, F4, Int.toNat_natCast, List.length_map, List.length_replicate, slAll, slsAll, Nat.reduceMul, Nat.reduceBEq, Nat.reduceLT, Nat.reduceLeDiff, memAll, vAll, reduceCtorEq, Nat.reduceEqDiff, Nat.reduceAdd, Nat.reduceLT, Nat.reduceLeDiff, Nat.beq]
        rw [loop55 hf hl hm]
        rotate_left
        · have zl : ((zipB f a.ws b.ws).map eW).length = a.ws.length := by rw [List.length_map, zipB_len hl]
          rw [fillR_zero, zl]
          simp only [slAll, slsAll, Nat.reduceMul, Nat.reduceBEq, Nat.reduceLT, Nat.reduceLeDiff, Nat.reduceAdd, decide_true, Bool.and_self, Bool.true_and] <;> rfl
        · simp only [e1, e2, Z0, G, F3, F4, Int.toNat_natCast, List.length_map, List.length_replicate, slAll, slsAll, Nat.reduceMul, Nat.reduceBEq, Nat.reduceLT, Nat.reduceLeDiff, memAll, vAll, reduceCtorEq, Nat.reduceEqDiff, Nat.reduceAdd, Nat.reduceLT, Nat.reduceLeDiff, Nat.beq]
          rfl
      · have hE : bothE a b = 22 := by unfold bothE; rw [if_neg (by rw [c1]; decide), if_neg (by rw [c2]; decide), if_pos (by simpa using c3)]
        have G : (a.size != b.size) = true := by simp [c3]
        rw [hE, if_neg (by decide), hz]
        have eA : eBm a = .agg [.int .i64 a.size, .list 1 (a.ws.map eW)] := rfl
        have eB : eBm b = .agg [.int .i64 b.size, .list 1 (b.ws.map eW)] := rfl
        rw [eA] at e1 ⊢; rw [eB] at e2 ⊢
        rw [cal_code env55 rfl]; simp only [fn55, slAll, Nat.reduceBEq, Nat.reduceLeDiff, Nat.reduceAdd, List.length_cons, List.length_nil]
        simp only [e1, e2, Z0, G, slAll, slsAll, Nat.reduceMul, Nat.reduceBEq, Nat.reduceLT, Nat.reduceLeDiff, memAll, vAll, reduceCtorEq, Nat.reduceEqDiff, Nat.reduceAdd, Nat.reduceLT, Nat.reduceLeDiff, Nat.beq]
theorem cal56 (x y : Wd) : cal env 56 [eW x, eW y] = some [(eW (x ||| y), false)] := by
  have W := w_or x y
  unfold eW
  rw [cal_code env56 rfl]; simp only [fn56]; simp only [start, z_map_cons, z_map_nil, z_len_cons, z_len_nil, z_repl_zero, z_repl_succ, z_cons_app, z_nil_app, Nat.reduceAdd, Nat.reduceSub]
  simp only [W, memAll, vAll, reduceCtorEq, Nat.reduceEqDiff, Nat.reduceAdd, Nat.reduceLT, Nat.reduceLeDiff, Nat.beq]
def orW (x y : Wd) : Wd := x ||| y
theorem cal36 {a b : Bm} : cal env 36 [eBm a, eBm b] = some [(eBm (bothO orW a b), false), (.int .i64 (bothE a b), false)] := by
  have e1 := cal55 (a := a) (b := b) (f := orW) (gf := 56) cal56
  have eA : ∀ a : Bm, eBm a = .agg [.int .i64 a.size, .list 1 (a.ws.map eW)] := fun _ => rfl
  rw [eA, eA, eA] at e1 ⊢
  rw [cal_code env36 rfl]; simp only [fn36]; simp only [start, z_map_cons, z_map_nil, z_len_cons, z_len_nil, z_repl_zero, z_repl_succ, z_cons_app, z_nil_app, Nat.reduceAdd, Nat.reduceSub]
  simp only [e1, memAll, vAll, reduceCtorEq, Nat.reduceEqDiff, Nat.reduceAdd, Nat.reduceLT, Nat.reduceLeDiff, Nat.beq]
end Go.Proofs.YtncobemfpammfaaDoor.V

namespace Go.Proofs.YtncobemfpammfaaDoor.V
theorem sorted_at {l : List Nat} (hs : l.Pairwise (· < ·)) {j i : Nat} (h : l[j]? = some i) : j ≤ i ∧ ∀ k ∈ l.take j, k < i := by
  obtain ⟨hj, rfl⟩ := List.getElem?_eq_some_iff.1 h
  have hp := List.pairwise_iff_getElem.1 hs
  refine ⟨?_, fun k hk => ?_⟩
  · clear h
    induction j with
    | zero => exact Nat.zero_le _
    | succ j ih =>
      have h1 := ih (by omega)
      have h2 := hp j (j + 1) (by omega) hj (by omega)
      omega
  · obtain ⟨m, hm, rfl⟩ := List.mem_iff_getElem.1 hk
    rw [List.getElem_take]
    simp only [List.length_take] at hm
    exact hp m j (by omega) hj (by omega)
def bmEl (b : Bm) : List Nat := if okB b then elemsW b.ws 0 b.size else []
theorem bmEl_at {b : Bm} {j i : Nat} (h : (bmEl b)[j]? = some i) : i < 4096 ∧ j ≤ i ∧ ∀ k ∈ (bmEl b).take j, k < i := by
  unfold bmEl at h ⊢
  split at h
  · rename_i c
    rw [if_pos c]
    have hs : (elemsW b.ws 0 b.size).Pairwise (· < ·) := List.pairwise_lt_range.filter _
    have hm := List.mem_of_getElem? h
    simp only [elemsW, List.mem_filter, List.mem_range, Bool.and_eq_true, decide_eq_true_eq] at hm
    have := okB_size c
    exact ⟨by omega, sorted_at hs h⟩
  · simp at h
def bmX (b : Bm) : List Exn := if okB b then bmExts b else []
theorem bmEl_x (b : Bm) : exts (bmEl b) = bmX b := by
  unfold bmEl bmX bmExts ext
  split
  · rename_i c; rw [elems_ok c 0 (by omega)]
  · rfl
theorem cal17 {b : Bm} : cal env 17 [eBm b] = some [(.list 2 ((bmX b).map eExt), true)] := by
  have e1 := cal37 (b := b) (a := 0)
  have eA : ∀ a : Bm, eBm a = .agg [.int .i64 a.size, .list 1 (a.ws.map eW)] := fun _ => rfl
  rw [eA] at e1 ⊢
  rw [cal_code env17 rfl]; simp only [fn17]; simp only [start, z_map_cons, z_map_nil, z_len_cons, z_len_nil, z_repl_zero, z_repl_succ, z_cons_app, z_nil_app, Nat.reduceAdd, Nat.reduceSub]
  simp only [e1, memAll, vAll, reduceCtorEq, Nat.reduceEqDiff, Nat.reduceAdd, Nat.reduceLT, Nat.reduceLeDiff, Nat.beq]
  rw [rng_idx (env := env) (fun j => [⟨false, [.pv (.int .i64 b.size), .pv (.list 1 (b.ws.map eW))]⟩, ⟨false, [.row 2 ((exts ((bmEl b).take j)).map eExt)]⟩]) (xs := yI (bmEl b)) rfl (by have := iter57 (b := b) (a := 0) (by omega); exact this) rfl ?_]
  · simp only [yI, List.length_map, List.take_length, vRng, memAll, vAll, reduceCtorEq, Nat.reduceEqDiff, Nat.reduceAdd, Nat.reduceLT, Nat.reduceLeDiff, Nat.beq]
    rw [bmEl_x]
  · intro j x hx sl0
    simp only [yI, List.getElem?_map, Option.map_eq_some_iff] at hx
    obtain ⟨i, hi, rfl⟩ := hx
    obtain ⟨k1, k2, k3⟩ := bmEl_at hi
    have hlim : lim = 1073741824 := rfl
    have hj := (List.getElem?_eq_some_iff.1 hi).1
    have ht : (bmEl b).take (j + 1) = (bmEl b).take j ++ [i] := by rw [List.take_add_one, hi]; rfl
    have hlen : ((bmEl b).take j).length = j := by simp; omega
    rw [ht]
    rcases snoc_cases ((bmEl b).take j) with h0 | ⟨p, q, h0⟩
    · have F2 : (((0 : Nat) : Int) > 0) = False := eq_false (by omega)
      have F3 : (0 + 1 ≤ lim) = True := eq_true (by omega)
      have e0 : exts ([] : List Nat) = [] := rfl
      have e2 : exts [i] = [⟨i, 1⟩] := rfl
      refine ⟨?_, ?_⟩
      rotate_left
      · simp only [h0, List.nil_append, fn17_b0, fn17_b1, F2, F3, e0, e2, eExt, List.map_nil, List.map_cons, vRng, memAll, vAll, reduceCtorEq, Nat.reduceEqDiff, Nat.reduceAdd, Nat.reduceLT, Nat.reduceLeDiff, Nat.beq]
        rfl
    · obtain ⟨pre, ⟨s, c⟩, e0, h1, h2, h3, h4⟩ := exts_last _ p rfl q
      have hqi : q < i := k3 q (by rw [h0]; simp)
      simp only at h1 h2 h3
      have hpl : p.length + 1 = j := by rw [h0] at hlen; simpa using hlen
      have F2 : (((pre.length + 1 : Nat) : Int) > 0) = True := eq_true (by omega)
      have F3 := wrap_pred (n := pre.length) (by omega)
      have F4 : IntKind.i64.wrap (s + c) = s + c := i64_fits (by omega)
      have F5 : IntKind.i64.wrap (c + 1) = c + 1 := i64_fits (by omega)
      have F6 : (pre.length + 1 + 1 ≤ lim) = True := eq_true (by omega)
      have F7 : index (.int .i64 (pre.length : Int)) (pre.length + 1) = some pre.length := index_nat (by omega)
      by_cases hc : s + c = (i : Int)
      · have F8 : (s + c == (i : Int)) = true := by simpa using hc
        have e2 : exts (p ++ [q] ++ [i]) = pre ++ [⟨s, c + 1⟩] := by rw [exts_snoc, e0, addAt_snoc, if_pos hc]
        refine ⟨?_, ?_⟩
        rotate_left
        · simp only [h0, fn17_b0, fn17_b1, e0, e2, F2, F3, F4, F5, F6, F7, F8, eExt, List.map_append, List.map_cons, List.map_nil, vRng, memAll, vAll, reduceCtorEq, Nat.reduceEqDiff, Nat.reduceAdd, Nat.reduceLT, Nat.reduceLeDiff, Nat.beq]
          rfl
      · have F8 : (s + c == (i : Int)) = false := by simpa using hc
        have e2 : exts (p ++ [q] ++ [i]) = pre ++ [⟨s, c⟩] ++ [⟨i, 1⟩] := by rw [exts_snoc, e0, addAt_snoc, if_neg hc]
        refine ⟨?_, ?_⟩
        rotate_left
        · simp only [h0, fn17_b0, fn17_b1, e0, e2, F2, F3, F4, F5, F6, F7, F8, eExt, List.map_append, List.map_cons, List.map_nil, vRng, memAll, vAll, reduceCtorEq, Nat.reduceEqDiff, Nat.reduceAdd, Nat.reduceLT, Nat.reduceLeDiff, Nat.beq]
          rfl
theorem w_bit (w : Wd) (s : Nat) : (w >>> s &&& 1 == (1 : Wd)) = w.getLsbD s := by
  have h : w >>> s &&& 1 = if w.getLsbD s then 1 else 0 := by
    apply BitVec.eq_of_getLsbD_eq
    intro j hj
    rw [BitVec.getLsbD_and, BitVec.getLsbD_ushiftRight]
    cases j with
    | zero => cases h : w.getLsbD s <;> simp [h]
    | succ j =>
      have : (1 : Wd).getLsbD (j + 1) = false := by
        rw [show (1 : Wd) = 1#64 from rfl, BitVec.getLsbD_one]; simp
      rw [this, Bool.and_false]
      cases w.getLsbD s <;> simp
  rw [h]
  cases w.getLsbD s <;> rfl
theorem cal40 {b : Bm} {i : Nat} (h : i / 64 < b.ws.length) (hi : i ≤ 1000000) : cal env 40 [eBm b, .int .i64 (i : Nat)] = some [(.bool (bit b.ws i), false)] := by
  unfold eBm
  have T1 : (i : Int).tdiv 64 = ((i / 64 : Nat) : Int) := by rw [Int.tdiv_eq_ediv_of_nonneg (by omega)]; omega
  have T2 : (i : Int).tmod 64 = ((i % 64 : Nat) : Int) := by rw [Int.tmod_eq_emod_of_nonneg (by omega)]; omega
  have W1 : IntKind.i64.wrap ((i / 64 : Nat) : Int) = ((i / 64 : Nat) : Int) := i64_fits (by omega)
  have W2 : IntKind.u64.wrap ((i % 64 : Nat) : Int) = ((i % 64 : Nat) : Int) := by rw [u64_wrap]; omega
  have S0 : (((i % 64 : Nat) : Int) < 0) = False := eq_false (by omega)
  have S1 := w_shr b.ws[i / 64] (s := ((i % 64 : Nat) : Int)) (n := i % 64) rfl
  have S2 := w_and (b.ws[i / 64] >>> (i % 64)) 1
  have B1 : ((1 : Wd).toNat : Int) = 1 := rfl
  have S3 := w_beq (b.ws[i / 64] >>> (i % 64) &&& 1) 1
  rw [B1] at S2 S3
  have S4 : decide (b.ws[i / 64] >>> (i % 64) &&& 1 = (1 : Wd)) = bit b.ws i := by rw [bit_of h, ← w_bit]; rfl
  rw [S4] at S3
  rw [cal_code env40 rfl]; simp only [fn40]; simp only [start, z_map_cons, z_map_nil, z_len_cons, z_len_nil, z_repl_zero, z_repl_succ, z_cons_app, z_nil_app, Nat.reduceAdd, Nat.reduceSub]
  simp only [z64, T1, T2, W1, W2, S0, S1, S2, S3, eW, index_nat h, List.getElem?_map, List.getElem?_eq_getElem h, memAll, vAll, reduceCtorEq, Nat.reduceEqDiff, Nat.reduceAdd, Nat.reduceLT, Nat.reduceLeDiff, Nat.beq]
def anyFrom (ws : List Wd) (k : Nat) : Bool := (List.range (64 * ws.length)).any fun i => decide (k ≤ i) && bit ws i
theorem anyFrom_iff {ws : List Wd} {k : Nat} : anyFrom ws k = true ↔ ∃ i, k ≤ i ∧ i < 64 * ws.length ∧ bit ws i = true := by
  simp only [anyFrom, List.any_eq_true, List.mem_range, Bool.and_eq_true, decide_eq_true_eq]
  exact ⟨fun ⟨i, h1, h2, h3⟩ => ⟨i, h2, h1, h3⟩, fun ⟨i, h1, h2, h3⟩ => ⟨i, h2, h1, h3⟩⟩
theorem anyFrom_succ {ws : List Wd} {k : Nat} (h : bit ws k = false) : anyFrom ws k = anyFrom ws (k + 1) := by
  rw [Bool.eq_iff_iff, anyFrom_iff, anyFrom_iff]
  constructor
  · rintro ⟨j, h1, h2, h3⟩
    have : j ≠ k := fun e => by rw [e, h] at h3; cases h3
    exact ⟨j, by omega, h2, h3⟩
  · rintro ⟨j, h1, h2, h3⟩
    exact ⟨j, by omega, h2, h3⟩
theorem loop39 {b : Bm} {s : Nat} (hs : b.size = (s : Int)) (hl : b.ws.length ≤ 64) (hsl : s ≤ 64 * b.ws.length) {st : St} (h : st.head [1, 3] st.boxes.length = some ⟨[.any, .pbox 0 0, .any, .pv (.int .i64 ((s + (0 : Nat) : Nat) : Int)), .any, .any, .any, .any, .any, .any, .any, .any, .any, .any, .any, .any, .any, .any, .any, .any, .any, .any, .any, .any, .any, .any, .any, .any, .any, .any, .any, .any, .any, .any, .any], [⟨false, [.pv (.int .i64 b.size), .pv (.list 1 (b.ws.map eW))]⟩], [], none⟩) :
   den env fn39_l1 st = if anyFrom b.ws (s + (0 : Nat)) then some (.ret, ⟨[.any, .any, .pv (.int .i64 3), .any, .any, .any, .any, .any, .any, .any, .any, .any, .any, .any, .any, .any, .any, .any, .any, .any, .any, .any, .any, .any, .any, .any, .any, .any, .any, .any, .any, .any, .any, .any, .any], [⟨false, [.pv (.int .i64 b.size), .pv (.list 1 (b.ws.map eW))]⟩], [], none⟩) else some (.normal, ⟨[.any, .any, .any, .any, .any, .any, .any, .any, .any, .any, .any, .any, .any, .any, .any, .any, .any, .any, .any, .any, .any, .any, .any, .any, .any, .any, .any, .any, .any, .any, .any, .any, .any, .any, .any], [⟨false, [.pv (.int .i64 b.size), .pv (.list 1 (b.ws.map eW))]⟩], [], none⟩) := by
  unfold fn39_l1
  refine clean_up (env := env) (64 * b.ws.length - s) (fun i => ⟨[.any, .pbox 0 0, .any, .pv (.int .i64 ((s + i : Nat) : Int)), .any, .any, .any, .any, .any, .any, .any, .any, .any, .any, .any, .any, .any, .any, .any, .any, .any, .any, .any, .any, .any, .any, .any, .any, .any, .any, .any, .any, .any, .any, .any], [⟨false, [.pv (.int .i64 b.size), .pv (.list 1 (b.ws.map eW))]⟩], [], none⟩) (fun i => if anyFrom b.ws (s + i) then some (.ret, ⟨[.any, .any, .pv (.int .i64 3), .any, .any, .any, .any, .any, .any, .any, .any, .any, .any, .any, .any, .any, .any, .any, .any, .any, .any, .any, .any, .any, .any, .any, .any, .any, .any, .any, .any, .any, .any, .any, .any], [⟨false, [.pv (.int .i64 b.size), .pv (.list 1 (b.ws.map eW))]⟩], [], none⟩) else some (.normal, ⟨[.any, .any, .any, .any, .any, .any, .any, .any, .any, .any, .any, .any, .any, .any, .any, .any, .any, .any, .any, .any, .any, .any, .any, .any, .any, .any, .any, .any, .any, .any, .any, .any, .any, .any, .any], [⟨false, [.pv (.int .i64 b.size), .pv (.list 1 (b.ws.map eW))]⟩], [], none⟩)) h (fun _ => rfl) (fun _ => rfl) ?_ ?_
  · intro i rb hi ih

    have hi1 : IntKind.i64.wrap (((s + i : Nat) : Int) + 1) = ((s + (i + 1) : Nat) : Int) := by rw [i64_fits (by omega)]; omega
    have W1 : IntKind.i64.wrap (64 * (b.ws.length : Int)) = 64 * (b.ws.length : Int) := i64_fits (by omega)
    have F1 : (((s + i : Nat) : Int) < 64 * (b.ws.length : Int)) = True := eq_true (by omega)
    have e1 := cal40 (b := b) (i := s + i) (by omega) (by omega)
    have P2 : part [PV.int .i64 b.size, .list 1 (b.ws.map fun w => PV.int .u64 (w.toNat : Int))] 0 (some 2) = some (.agg [PV.int .i64 b.size, .list 1 (b.ws.map fun w => PV.int .u64 (w.toNat : Int))]) := rfl
    unfold eBm at e1
    unfold eW at e1 ih ⊢
    cases c : bit b.ws (s + i) with
    | true =>
      rw [c] at e1
      have h : anyFrom b.ws (s + i) = true := anyFrom_iff.2 ⟨s + i, by omega, by omega, c⟩
      rw [if_pos h]
      simp only [fn39_b0, F1, W1, e1, P2, List.length_map, memAll, vAll, reduceCtorEq, Nat.reduceEqDiff, Nat.reduceAdd, Nat.reduceLT, Nat.reduceLeDiff, Nat.beq]
      rfl
    | false =>
      rw [c] at e1
      have h := anyFrom_succ c
      simp only [fn39_b0, F1, W1, e1, P2, List.length_map, memAll, vAll, reduceCtorEq, Nat.reduceEqDiff, Nat.reduceAdd, Nat.reduceLT, Nat.reduceLeDiff, Nat.beq]
      rw [ih _ (by simp only [hi1]; rfl), h]
      rfl
  · intro rb

    have W1 : IntKind.i64.wrap (64 * (b.ws.length : Int)) = 64 * (b.ws.length : Int) := i64_fits (by omega)
    have F1 : (((s + (64 * b.ws.length - s) : Nat) : Int) < 64 * (b.ws.length : Int)) = False := eq_false (by omega)
    rw [if_neg (by rw [anyFrom_iff]; rintro ⟨j, h1, h2, _⟩; omega)]
    simp only [fn39_b0, F1, W1, List.length_map, memAll, vAll, reduceCtorEq, Nat.reduceEqDiff, Nat.reduceAdd, Nat.reduceLT, Nat.reduceLeDiff, Nat.beq]
    rfl

end Go.Proofs.YtncobemfpammfaaDoor.V

namespace Go.Proofs.YtncobemfpammfaaDoor.V
theorem cal39 {b : Bm} : cal env 39 [eBm b] = some [(.int .i64 (bmE b), false)] := by
  unfold eBm
  have P : ∀ x y : PV, part [x, y] 0 (some 2) = some (.agg [x, y]) := fun _ _ => rfl
  by_cases c0 : b.size < 0
  · have hE : bmE b = 3 := bmE_no (by rw [Bool.eq_false_iff]; intro h; have := okB_size h; omega)
    rw [hE]
    rw [cal_code env39 rfl]; simp only [fn39]; simp only [start, z_map_cons, z_map_nil, z_len_cons, z_len_nil, z_repl_zero, z_repl_succ, z_cons_app, z_nil_app, Nat.reduceAdd, Nat.reduceSub]
    simp only [c0, P, memAll, vAll, reduceCtorEq, Nat.reduceEqDiff, Nat.reduceAdd, Nat.reduceLT, Nat.reduceLeDiff, Nat.beq]
  · by_cases c1 : b.size > 4096
    · have hE : bmE b = 3 := bmE_no (by rw [Bool.eq_false_iff]; intro h; have := okB_size h; omega)
      rw [hE]
      have F1 : (b.size > 4096) = True := eq_true c1
      rw [cal_code env39 rfl]; simp only [fn39]; simp only [start, z_map_cons, z_map_nil, z_len_cons, z_len_nil, z_repl_zero, z_repl_succ, z_cons_app, z_nil_app, Nat.reduceAdd, Nat.reduceSub]
      simp only [c0, F1, P, memAll, vAll, reduceCtorEq, Nat.reduceEqDiff, Nat.reduceAdd, Nat.reduceLT, Nat.reduceLeDiff, Nat.beq]
    · have F1 : (b.size > 4096) = False := eq_false c1
      have W0 : IntKind.i64.wrap (b.size + 63) = b.size + 63 := i64_fits (by omega)
      have W3 : IntKind.i64.wrap (wdsN b.size) = wdsN b.size := i64_fits (by unfold wdsN; omega)
      have T := q63 (n := b.size) (by omega)
      by_cases c2 : (b.ws.length : Int) = wdsN b.size
      · have F2 : ((b.ws.length : Int) != wdsN b.size) = false := by simp [c2]
        have hw := c2
        unfold wdsN at hw
        have hs : b.size = ((b.size.toNat : Nat) : Int) := by omega
        rw [cal_code env39 rfl]; simp only [fn39]; simp only [start, z_map_cons, z_map_nil, z_len_cons, z_len_nil, z_repl_zero, z_repl_succ, z_cons_app, z_nil_app, Nat.reduceAdd, Nat.reduceSub]
        simp only [c0, F1, F2, W0, W3, T, z64, P, List.length_map, memAll, vAll, reduceCtorEq, Nat.reduceEqDiff, Nat.reduceAdd, Nat.reduceLT, Nat.reduceLeDiff, Nat.beq]
        rw [loop39 (b := b) (s := b.size.toNat) hs (by omega) (by omega)]
        rotate_left
        · rw [Nat.add_zero, ← hs]; rfl
        · cases c : okB b with
          | true =>
            rw [bmE_ok c, if_neg]
            · simp only [c0, F1, F2, W0, W3, T, z64, P, List.length_map, memAll, vAll, reduceCtorEq, Nat.reduceEqDiff, Nat.reduceAdd, Nat.reduceLT, Nat.reduceLeDiff, Nat.beq]
            · rw [anyFrom_iff]
              rintro ⟨i, h1, h2, h3⟩
              rw [(okB_iff.1 c).2 i (by omega)] at h3
              cases h3
          | false =>
            rw [bmE_no c, if_pos]
            · simp only [c0, F1, F2, W0, W3, T, z64, P, List.length_map, memAll, vAll, reduceCtorEq, Nat.reduceEqDiff, Nat.reduceAdd, Nat.reduceLT, Nat.reduceLeDiff, Nat.beq]
            · rw [anyFrom_iff]
              apply Classical.byContradiction
              intro hn
              have : okB b = true := okB_iff.2 ⟨⟨by omega, by omega, c2⟩, fun i hi => by
                by_cases hl : i < 64 * b.ws.length
                · cases hb : bit b.ws i with
                  | false => rfl
                  | true => exact absurd ⟨i, by omega, hl, hb⟩ hn
                · exact bit_out (by omega)⟩
              rw [this] at c; cases c
      · have F2 : ((b.ws.length : Int) != wdsN b.size) = true := by simp [c2]
        have hE : bmE b = 3 := bmE_no (by rw [Bool.eq_false_iff]; intro h; exact c2 (okB_iff.1 h).1.2.2)
        rw [hE]
        rw [cal_code env39 rfl]; simp only [fn39]; simp only [start, z_map_cons, z_map_nil, z_len_cons, z_len_nil, z_repl_zero, z_repl_succ, z_cons_app, z_nil_app, Nat.reduceAdd, Nat.reduceSub]
        simp only [c0, F1, F2, W0, W3, T, z64, P, List.length_map, memAll, vAll, reduceCtorEq, Nat.reduceEqDiff, Nat.reduceAdd, Nat.reduceLT, Nat.reduceLeDiff, Nat.beq]
theorem cal61 {a b : Bm} : cal env 61 [eBm a, eBm b] = some [(.int .i64 (bothE a b), false)] := by
  have e1 := cal39 (b := a)
  have e2 := cal39 (b := b)
  have Z0 : ((0 : Int) != 0) = false := rfl
  have Z3 : ((3 : Int) != 0) = true := rfl
  have eA : ∀ a : Bm, eBm a = .agg [.int .i64 a.size, .list 1 (a.ws.map eW)] := fun _ => rfl
  rw [eA] at e1 e2 ⊢; rw [eA]
  cases c1 : okB a with
  | false =>
    have hE : bothE a b = 3 := by unfold bothE; rw [if_pos c1]
    rw [hE]
    rw [bmE_no c1] at e1
    rw [cal_code env61 rfl]; simp only [fn61]; simp only [start, z_map_cons, z_map_nil, z_len_cons, z_len_nil, z_repl_zero, z_repl_succ, z_cons_app, z_nil_app, Nat.reduceAdd, Nat.reduceSub]
    simp only [e1, Z3, memAll, vAll, reduceCtorEq, Nat.reduceEqDiff, Nat.reduceAdd, Nat.reduceLT, Nat.reduceLeDiff, Nat.beq]
  | true =>
    rw [bmE_ok c1] at e1
    cases c2 : okB b with
    | false =>
      have hE : bothE a b = 3 := by unfold bothE; rw [if_neg (by rw [c1]; decide), if_pos c2]
      rw [hE]
      rw [bmE_no c2] at e2
      rw [cal_code env61 rfl]; simp only [fn61]; simp only [start, z_map_cons, z_map_nil, z_len_cons, z_len_nil, z_repl_zero, z_repl_succ, z_cons_app, z_nil_app, Nat.reduceAdd, Nat.reduceSub]
      simp only [e1, e2, Z3, Z0, memAll, vAll, reduceCtorEq, Nat.reduceEqDiff, Nat.reduceAdd, Nat.reduceLT, Nat.reduceLeDiff, Nat.beq]
    | true =>
      rw [bmE_ok c2] at e2
      by_cases c3 : a.size = b.size
      · have hE : bothE a b = 0 := by unfold bothE; rw [if_neg (by rw [c1]; decide), if_neg (by rw [c2]; decide), if_neg (by simpa using c3)]
        have G : (a.size != b.size) = false := by simp [c3]
        rw [hE]
        rw [cal_code env61 rfl]; simp only [fn61]; simp only [start, z_map_cons, z_map_nil, z_len_cons, z_len_nil, z_repl_zero, z_repl_succ, z_cons_app, z_nil_app, Nat.reduceAdd, Nat.reduceSub]
        simp only [e1, e2, Z0, G, memAll, vAll, reduceCtorEq, Nat.reduceEqDiff, Nat.reduceAdd, Nat.reduceLT, Nat.reduceLeDiff, Nat.beq]
      · have hE : bothE a b = 22 := by unfold bothE; rw [if_neg (by rw [c1]; decide), if_neg (by rw [c2]; decide), if_pos (by simpa using c3)]
        have G : (a.size != b.size) = true := by simp [c3]
        rw [hE]
        rw [cal_code env61 rfl]; simp only [fn61]; simp only [start, z_map_cons, z_map_nil, z_len_cons, z_len_nil, z_repl_zero, z_repl_succ, z_cons_app, z_nil_app, Nat.reduceAdd, Nat.reduceSub]
        simp only [e1, e2, Z0, G, memAll, vAll, reduceCtorEq, Nat.reduceEqDiff, Nat.reduceAdd, Nat.reduceLT, Nat.reduceLeDiff, Nat.beq]
theorem cal62 {b : Bm} (hl : b.ws.length ≤ lim) : cal env 62 [eBm b] = some [(eBm b, true)] := by
  unfold eBm
  have F1 : (b.ws.length ≤ lim) = True := eq_true hl
  rw [cal_code env62 rfl]; simp only [fn62]; simp only [start, z_map_cons, z_map_nil, z_len_cons, z_len_nil, z_repl_zero, z_repl_succ, z_cons_app, z_nil_app, Nat.reduceAdd, Nat.reduceSub]
  simp only [F1, List.length_map, List.nil_append, memAll, vAll, reduceCtorEq, Nat.reduceEqDiff, Nat.reduceAdd, Nat.reduceLT, Nat.reduceLeDiff, Nat.beq]
def fillD (l m : List PV) (i : Nat) : List PV := l.take i ++ m.drop i
theorem fillD_len {l m : List PV} {i : Nat} (h : l.length = m.length) (hi : i ≤ m.length) : (fillD l m i).length = m.length := by simp [fillD]; omega
theorem fillD_get {l m : List PV} {i : Nat} (h : l.length = m.length) (hi : i < m.length) : (fillD l m i)[i]? = m[i]? := by
  unfold fillD
  have e : (l.take i).length = i := by simp; omega
  rw [List.getElem?_append_right (by omega), e, Nat.sub_self, List.getElem?_drop, Nat.add_zero]
theorem fillD_set {l m : List PV} {i : Nat} {x : PV} (h : l.length = m.length) (hi : i < m.length) (hx : l[i]? = some x) : (fillD l m i).set i x = fillD l m (i + 1) := by
  unfold fillD
  have e : (l.take i).length = i := by simp; omega
  rw [List.set_append_right _ _ (by omega), e, Nat.sub_self, List.drop_eq_getElem_cons hi, List.set_cons_zero, List.take_add_one, hx, Option.toList, List.append_assoc]
  rfl
theorem fillD_all {l m : List PV} (h : l.length = m.length) : fillD l m m.length = l := by
  unfold fillD; rw [List.drop_length, List.append_nil, ← h, List.take_length]
set_option maxRecDepth 20000 in
theorem loop38 {a b : Bm} (hl : a.ws.length = b.ws.length) (hm : a.ws.length ≤ 64) {st : St} (h : st.head [2, 3, 4, 7, 8] st.boxes.length = some ⟨sl 41 [(2, .pbox 0 0), (3, .pbox 1 0), (4, .pbox 2 0), (7, .pbox 3 0), (8, .pv (.int .i64 (0 : Nat)))], [⟨false, [.pv (.int .i64 a.size), .pv (.list 1 (a.ws.map eW))]⟩, ⟨false, [.pv (.int .i64 b.size), .pv (.list 1 (b.ws.map eW))]⟩, ⟨false, [.pv (.int .i64 0), .row 1 []]⟩, ⟨false, [.pv (.int .i64 a.size), .row 1 (fillD ((zipB orW a.ws b.ws).map eW) (a.ws.map eW) ((0 : Nat)))]⟩], [], none⟩) :
   den env fn38_l1 st = some (.normal, ⟨sl 41 [(4, .pbox 2 0), (5, .any), (7, .pbox 3 0)], [⟨false, [.pv (.int .i64 a.size), .pv (.list 1 (a.ws.map eW))]⟩, ⟨false, [.pv (.int .i64 b.size), .pv (.list 1 (b.ws.map eW))]⟩, ⟨false, [.pv (.int .i64 0), .row 1 []]⟩, ⟨false, [.pv (.int .i64 a.size), .row 1 ((zipB orW a.ws b.ws).map eW)]⟩], [], none⟩) := by
  unfold fn38_l1
  refine clean_up (env := env) (nb := 4) (a.ws.length) (fun i => ⟨sl 41 [(2, .pbox 0 0), (3, .pbox 1 0), (4, .pbox 2 0), (7, .pbox 3 0), (8, .pv (.int .i64 i))], [⟨false, [.pv (.int .i64 a.size), .pv (.list 1 (a.ws.map eW))]⟩, ⟨false, [.pv (.int .i64 b.size), .pv (.list 1 (b.ws.map eW))]⟩, ⟨false, [.pv (.int .i64 0), .row 1 []]⟩, ⟨false, [.pv (.int .i64 a.size), .row 1 (fillD ((zipB orW a.ws b.ws).map eW) (a.ws.map eW) (i))]⟩], [], none⟩) (fun i => some (.normal, ⟨sl 41 [(4, .pbox 2 0), (5, .any), (7, .pbox 3 0)], [⟨false, [.pv (.int .i64 a.size), .pv (.list 1 (a.ws.map eW))]⟩, ⟨false, [.pv (.int .i64 b.size), .pv (.list 1 (b.ws.map eW))]⟩, ⟨false, [.pv (.int .i64 0), .row 1 []]⟩, ⟨false, [.pv (.int .i64 a.size), .row 1 ((zipB orW a.ws b.ws).map eW)]⟩], [], none⟩)) h (fun _ => rfl) (fun _ => by simp only [slAll, slsAll, Nat.reduceMul, Nat.reduceBEq, Nat.reduceLT, Nat.reduceLeDiff, Nat.reduceAdd, decide_true, Bool.and_self, Bool.true_and]) ?_ ?_
  · intro i rb hi ih

    have hi1 := i64_next hi (by unfold lim; omega)
    have hj : i < b.ws.length := by omega
    have F1 : ((i : Int) < (a.ws.length : Int)) = True := eq_true (by omega)
    have zl : ((zipB orW a.ws b.ws).map eW).length = (a.ws.map eW).length := by rw [List.length_map, List.length_map, zipB_len hl]
    have f1 := fillD_len (i := i) zl (by rw [List.length_map]; omega)
    have f2 := fillD_get (i := i) zl (by rw [List.length_map]; omega)
    have f3 := fillD_set (i := i) (x := eW (a.ws[i] ||| b.ws[i])) zl (by rw [List.length_map]; omega) (by rw [List.getElem?_map, zipB_get hi hj]; rfl)
    have W := w_or a.ws[i] b.ws[i]
    rw [List.getElem?_map, List.getElem?_eq_getElem hi] at f2
    rw [List.length_map] at f1
    unfold eW at f1 f2 f3 ih ⊢
    simp only [fn38_b0, F1, W, f1, f2, f3, index_nat hi, index_nat hj, List.getElem?_map, List.getElem?_eq_getElem hi, List.getElem?_eq_getElem hj, Option.map_some, List.length_map, slAll, slsAll, Nat.reduceMul, Nat.reduceBEq, Nat.reduceLT, Nat.reduceLeDiff, memAll, vAll, reduceCtorEq, Nat.reduceEqDiff, Nat.reduceAdd, Nat.reduceLT, Nat.reduceLeDiff, Nat.beq]
    rw [ih _ (by simp only [hi1, slAll, slsAll, Nat.reduceMul, Nat.reduceBEq, Nat.reduceLT, Nat.reduceLeDiff, memAll, vAll, reduceCtorEq, Nat.reduceEqDiff, Nat.reduceAdd, Nat.reduceLT, Nat.reduceLeDiff, Nat.beq] <;> rfl)]
  · intro rb

    have zl : ((zipB orW a.ws b.ws).map eW).length = (a.ws.map eW).length := by rw [List.length_map, List.length_map, zipB_len hl]
    have f4 := fillD_all zl
    have f5 : ((zipB orW a.ws b.ws).map eW).length = a.ws.length := by rw [zl, List.length_map]
    rw [List.length_map] at f4
    rw [f4]
    simp only [fn38_b0, Int.lt_irrefl, f5, slAll, slsAll, Nat.reduceMul, Nat.reduceBEq, Nat.reduceLT, Nat.reduceLeDiff, memAll, vAll, reduceCtorEq, Nat.reduceEqDiff, Nat.reduceAdd, Nat.reduceLT, Nat.reduceLeDiff, Nat.beq]

theorem cal38 {a b : Bm} : cal env 38 [eBm a, eBm b] = some [(eBm (bothO orW a b), false), (.int .i64 (bothE a b), false)] := by
  have e1 := cal61 (a := a) (b := b)
  have eA : ∀ a : Bm, eBm a = .agg [.int .i64 a.size, .list 1 (a.ws.map eW)] := fun _ => rfl
  by_cases c : bothE a b = 0
  · obtain ⟨k1, k2, k3, k4⟩ := both_ok c
    have hm := (okB_size k1).2.2.1
    have e2 := cal62 (b := a) (by unfold lim; omega)
    have G : ((0 : Int) != 0) = false := rfl
    have ho : bothO orW a b = ⟨a.size, zipB orW a.ws b.ws⟩ := by unfold bothO; rw [if_pos c]
    rw [ho]
    simp only [eA] at e1 e2 ⊢
    rw [c] at e1 ⊢
    rw [cal_code env38 rfl]; simp only [fn38, slAll, Nat.reduceBEq, Nat.reduceLeDiff, Nat.reduceAdd, List.length_cons, List.length_nil]
    simp only [e1, e2, G, slAll, slsAll, Nat.reduceMul, Nat.reduceBEq, Nat.reduceLT, Nat.reduceLeDiff, memAll, vAll, reduceCtorEq, Nat.reduceEqDiff, Nat.reduceAdd, Nat.reduceLT, Nat.reduceLeDiff, Nat.beq]
    rw [loop38 (a := a) (b := b) k4 hm]
    rotate_left
    · have : fillD ((zipB orW a.ws b.ws).map eW) (a.ws.map eW) 0 = a.ws.map eW := rfl
      rw [this]
      simp only [slAll, slsAll, Nat.reduceMul, Nat.reduceBEq, Nat.reduceLT, Nat.reduceLeDiff, Nat.reduceAdd, decide_true, Bool.and_self, Bool.true_and] <;> rfl
    · simp only [e1, e2, G, slAll, slsAll, Nat.reduceMul, Nat.reduceBEq, Nat.reduceLT, Nat.reduceLeDiff, memAll, vAll, reduceCtorEq, Nat.reduceEqDiff, Nat.reduceAdd, Nat.reduceLT, Nat.reduceLeDiff, Nat.beq]
  · have G : (bothE a b != 0) = true := by simp [c]
    have ho : bothO orW a b = ⟨0, []⟩ := by unfold bothO; rw [if_neg c]
    rw [ho, eBm_zero]
    simp only [eA] at e1 ⊢
    rw [cal_code env38 rfl]; simp only [fn38, slAll, Nat.reduceBEq, Nat.reduceLeDiff, Nat.reduceAdd, List.length_cons, List.length_nil]
    simp only [e1, G, slAll, slsAll, Nat.reduceMul, Nat.reduceBEq, Nat.reduceLT, Nat.reduceLeDiff, memAll, vAll, reduceCtorEq, Nat.reduceEqDiff, Nat.reduceAdd, Nat.reduceLT, Nat.reduceLeDiff, Nat.beq]
end Go.Proofs.YtncobemfpammfaaDoor.V

namespace Go.Proofs.YtncobemfpammfaaDoor.V
def bmN (b : Bm) (n : Nat) : List Nat := (List.range n).filter (bit b.ws)
theorem bmN_succ (b : Bm) (n : Nat) : bmN b (n + 1) = if bit b.ws n then bmN b n ++ [n] else bmN b n := by
  unfold bmN
  rw [List.range_succ, List.filter_append]
  cases h : bit b.ws n <;> simp [h]
theorem bmN_lt {b : Bm} {n i : Nat} (h : i ∈ bmN b n) : i < n := by
  simp only [bmN, List.mem_filter, List.mem_range] at h; exact h.1
theorem bmN_len (b : Bm) (n : Nat) : (bmN b n).length ≤ n := by
  have := List.length_filter_le (bit b.ws) (List.range n); simpa [bmN] using this
theorem loop19 {b : Bm} {n : Nat} (hs : b.size = (n : Int)) (hn : n ≤ 4096) (hw : n ≤ 64 * b.ws.length) {st : St} (h : st.head [1, 3, 4, 53] st.boxes.length = some ⟨[.any, .pbox 0 0, .any, .row 2 ((exts (bmN b (0 : Nat))).map eExt), .pv (.int .i64 (0 : Nat)), .any, .any, .any, .any, .any, .any, .any, .any, .any, .any, .any, .any, .any, .any, .any, .any, .any, .any, .any, .any, .any, .any, .any, .any, .any, .any, .any, .any, .any, .any, .any, .any, .any, .any, .any, .any, .any, .any, .any, .any, .any, .any, .any, .any, .any, .any, .any, .any, .any, .any], [⟨false, [.pv (.int .i64 b.size), .pv (.list 1 (b.ws.map eW))]⟩], [], none⟩) :
   den env fn19_l1 st = some (.normal, ⟨[.any, .any, .any, .row 2 ((exts (bmN b n)).map eExt), .any, .any, .any, .any, .any, .any, .any, .any, .any, .any, .any, .any, .any, .any, .any, .any, .any, .any, .any, .any, .any, .any, .any, .any, .any, .any, .any, .any, .any, .any, .any, .any, .any, .any, .any, .any, .any, .any, .any, .any, .any, .any, .any, .any, .any, .any, .any, .any, .any, .any, .any], [⟨false, [.pv (.int .i64 b.size), .pv (.list 1 (b.ws.map eW))]⟩], [], none⟩) := by
  unfold fn19_l1
  refine clean_up (env := env) (n) (fun i => ⟨[.any, .pbox 0 0, .any, .row 2 ((exts (bmN b i)).map eExt), .pv (.int .i64 i), .any, .any, .any, .any, .any, .any, .any, .any, .any, .any, .any, .any, .any, .any, .any, .any, .any, .any, .any, .any, .any, .any, .any, .any, .any, .any, .any, .any, .any, .any, .any, .any, .any, .any, .any, .any, .any, .any, .any, .any, .any, .any, .any, .any, .any, .any, .any, .any, .any, .any], [⟨false, [.pv (.int .i64 b.size), .pv (.list 1 (b.ws.map eW))]⟩], [], none⟩) (fun i => some (.normal, ⟨[.any, .any, .any, .row 2 ((exts (bmN b n)).map eExt), .any, .any, .any, .any, .any, .any, .any, .any, .any, .any, .any, .any, .any, .any, .any, .any, .any, .any, .any, .any, .any, .any, .any, .any, .any, .any, .any, .any, .any, .any, .any, .any, .any, .any, .any, .any, .any, .any, .any, .any, .any, .any, .any, .any, .any, .any, .any, .any, .any, .any, .any], [⟨false, [.pv (.int .i64 b.size), .pv (.list 1 (b.ws.map eW))]⟩], [], none⟩)) h (fun _ => rfl) (fun _ => rfl) ?_ ?_
  · intro i rb hi ih

    have hi1 := i64_next hi (by unfold lim; omega)
    have hlim : lim = 1073741824 := rfl
    have F1 : ((i : Int) < b.size) = True := eq_true (by omega)
    have e1 := cal40 (b := b) (i := i) (by omega) (by omega)
    have P2 : part [PV.int .i64 b.size, .list 1 (b.ws.map eW)] 0 (some 2) = some (.agg [PV.int .i64 b.size, .list 1 (b.ws.map eW)]) := rfl
    unfold eBm at e1
    cases c : bit b.ws i with
    | false =>
      rw [c] at e1
      simp only [fn19_b0, F1, e1, P2, memAll, vAll, reduceCtorEq, Nat.reduceEqDiff, Nat.reduceAdd, Nat.reduceLT, Nat.reduceLeDiff, Nat.beq]
      rw [ih _ (by simp only [hi1]; rw [bmN_succ, if_neg (by rw [c]; decide)]; rfl)]
    | true =>
      rw [c] at e1
      rcases snoc_cases (bmN b i) with h0 | ⟨p, j, h0⟩
      · have e0 : exts (bmN b i) = [] := by rw [h0]; rfl
        have F2 : (((0 : Nat) : Int) > 0) = False := eq_false (by omega)
        have F3 : (0 + 1 ≤ lim) = True := eq_true (by unfold lim; omega)
        simp only [fn19_b0, F1, e1, P2, e0, eExt, List.map_nil, F2, F3, memAll, vAll, reduceCtorEq, Nat.reduceEqDiff, Nat.reduceAdd, Nat.reduceLT, Nat.reduceLeDiff, Nat.beq]
        rw [ih _ (by simp only [hi1]; rw [bmN_succ, if_pos c, exts_snoc, e0]; rfl)]
      · obtain ⟨pre, ⟨s, q⟩, e0, h1, h2, h3, h4⟩ := exts_last _ p rfl j
        rw [← h0] at e0
        have hji : j < i := bmN_lt (show j ∈ bmN b i by rw [h0]; simp)
        have hpl : p.length + 1 ≤ i := by have := bmN_len b i; rw [h0] at this; simpa using this
        simp only at h1 h2 h3
        have F2 : (((pre.length + 1 : Nat) : Int) > 0) = True := eq_true (by omega)
        have F3 := wrap_pred (n := pre.length) (by omega)
        have F4 : IntKind.i64.wrap (s + q) = s + q := i64_fits (by omega)
        have F5 : IntKind.i64.wrap (q + 1) = q + 1 := i64_fits (by omega)
        have F6 : (pre.length + 1 + 1 ≤ lim) = True := eq_true (by omega)
        have F7 : index (.int .i64 (pre.length : Int)) (pre.length + 1) = some pre.length := index_nat (by omega)
        simp only [fn19_b0, F1, e1, P2, e0, List.map_append, List.map_cons, List.map_nil, eExt, F2, F3, F4, F5, F6, F7, memAll, vAll, reduceCtorEq, Nat.reduceEqDiff, Nat.reduceAdd, Nat.reduceLT, Nat.reduceLeDiff, Nat.beq]
        (try simp only [bcase_bind, bcase_map, tail_bcase]); refine bcase_split (fun hb => ?_) (fun hb => ?_) <;> try simp only [hb, eExt, memAll, vAll, reduceCtorEq, Nat.reduceEqDiff, Nat.reduceAdd, Nat.reduceLT, Nat.reduceLeDiff, Nat.beq]
        · rw [ih _ (by simp only [hi1]; rw [bmN_succ, if_pos c, exts_snoc, e0, addAt_snoc, if_pos (by simpa using hb)]; simp only [List.map_append, List.map_cons, List.map_nil, eExt]; rfl)]
        · rw [ih _ (by simp only [hi1]; rw [bmN_succ, if_pos c, exts_snoc, e0, addAt_snoc, if_neg (by simpa using hb)]; simp only [List.map_append, List.map_cons, List.map_nil, eExt]; rfl)]
  · intro rb

    have F1 : ((n : Int) < b.size) = False := eq_false (by omega)
    simp only [fn19_b0, F1, memAll, vAll, reduceCtorEq, Nat.reduceEqDiff, Nat.reduceAdd, Nat.reduceLT, Nat.reduceLeDiff, Nat.beq]
    rfl

theorem cal19 {b : Bm} : cal env 19 [eBm b] = some [(.list 2 ((bmX b).map eExt), true)] := by
  have e1 := cal39 (b := b)
  have eA : ∀ a : Bm, eBm a = .agg [.int .i64 a.size, .list 1 (a.ws.map eW)] := fun _ => rfl
  unfold bmX
  cases c : okB b with
  | false =>
    rw [bmE_no c] at e1
    rw [if_neg Bool.false_ne_true]
    rw [eA] at e1 ⊢
    have Z3 : ((3 : Int) != 0) = true := rfl
    rw [cal_code env19 rfl]; simp only [fn19]; simp only [start, z_map_cons, z_map_nil, z_len_cons, z_len_nil, z_repl_zero, z_repl_succ, z_cons_app, z_nil_app, Nat.reduceAdd, Nat.reduceSub]
    simp only [e1, Z3, List.map_nil, memAll, vAll, reduceCtorEq, Nat.reduceEqDiff, Nat.reduceAdd, Nat.reduceLT, Nat.reduceLeDiff, Nat.beq]
  | true =>
    rw [bmE_ok c] at e1
    rw [if_pos rfl]
    rw [eA] at e1 ⊢
    have Z0 : ((0 : Int) != 0) = false := rfl
    obtain ⟨h1, h2, h3, h4, h5⟩ := okB_size c
    rw [cal_code env19 rfl]; simp only [fn19]; simp only [start, z_map_cons, z_map_nil, z_len_cons, z_len_nil, z_repl_zero, z_repl_succ, z_cons_app, z_nil_app, Nat.reduceAdd, Nat.reduceSub]
    simp only [e1, Z0, List.map_nil, memAll, vAll, reduceCtorEq, Nat.reduceEqDiff, Nat.reduceAdd, Nat.reduceLT, Nat.reduceLeDiff, Nat.beq]
    rw [loop19 (b := b) (n := b.size.toNat) (by omega) (by omega) (by omega)]
    rotate_left
    · rfl
    · simp only [e1, Z0, List.map_nil, memAll, vAll, reduceCtorEq, Nat.reduceEqDiff, Nat.reduceAdd, Nat.reduceLT, Nat.reduceLeDiff, Nat.beq]
      rfl
def each2E {α β : Type} (e : α → β → Int) : List α → List β → Int
  | x :: a, y :: b => if e x y = 0 then each2E e a b else e x y
  | _, _ => 0
def each2P {α β γ : Type} (g : α → β → γ) (e : α → β → Int) : List α → List β → List γ
  | x :: a, y :: b => if e x y = 0 then g x y :: each2P g e a b else []
  | _, _ => []
def each2I {α β γ : Type} (g : α → β → γ) (e : α → β → Int) (a : List α) (b : List β) (i : Nat) : Prop := each2E e a b = each2E e (a.drop i) (b.drop i) ∧ each2P g e a b = (List.zipWith g a b).take i ++ each2P g e (a.drop i) (b.drop i)
theorem each2_I0 {α β γ : Type} (g : α → β → γ) (e : α → β → Int) (a : List α) (b : List β) : each2I g e a b 0 := ⟨rfl, by simp⟩
theorem take_zip_snoc {α β γ : Type} (g : α → β → γ) {a : List α} {b : List β} {i : Nat} (h1 : i < a.length) (h2 : i < b.length) : (List.zipWith g a b).take (i + 1) = (List.zipWith g a b).take i ++ [g a[i] b[i]] := by
  have h : i < (List.zipWith g a b).length := by simp; omega
  rw [List.take_succ_eq_append_getElem h, List.getElem_zipWith]
theorem each2_good {α β γ : Type} {g : α → β → γ} {e : α → β → Int} {a : List α} {b : List β} {i : Nat} (h : each2I g e a b i) (h1 : i < a.length) (h2 : i < b.length) (hz : e a[i] b[i] = 0) : each2I g e a b (i + 1) := by
  obtain ⟨k1, k2⟩ := h
  rw [List.drop_eq_getElem_cons h1, List.drop_eq_getElem_cons h2] at k1 k2
  simp only [each2E, each2P, if_pos hz] at k1 k2
  exact ⟨k1, by rw [k2, take_zip_snoc g h1 h2, List.append_assoc]; rfl⟩
theorem each2_bad {α β γ : Type} {g : α → β → γ} {e : α → β → Int} {a : List α} {b : List β} {i : Nat} (h : each2I g e a b i) (h1 : i < a.length) (h2 : i < b.length) (hz : e a[i] b[i] ≠ 0) : each2E e a b = e a[i] b[i] ∧ each2P g e a b = (List.zipWith g a b).take i := by
  obtain ⟨k1, k2⟩ := h
  rw [List.drop_eq_getElem_cons h1, List.drop_eq_getElem_cons h2] at k1 k2
  simp only [each2E, each2P, if_neg hz, List.append_nil] at k1 k2
  exact ⟨k1, k2⟩
theorem each2_end {α β γ : Type} {g : α → β → γ} {e : α → β → Int} {a : List α} {b : List β} (h : each2I g e a b a.length) (hl : a.length = b.length) : each2E e a b = 0 ∧ each2P g e a b = List.zipWith g a b := by
  obtain ⟨k1, k2⟩ := h
  have z1 : b.drop a.length = [] := by rw [hl, List.drop_length]
  rw [List.drop_length, z1] at k1 k2
  exact ⟨k1, by rw [k2, List.take_of_length_le (by rw [List.length_zipWith]; exact Nat.min_le_left _ _)]; exact List.append_nil _⟩
theorem each2_ok {α β : Type} {e : α → β → Int} : ∀ {a : List α} {b : List β}, each2E e a b = 0 → ∀ i (h1 : i < a.length) (h2 : i < b.length), e a[i] b[i] = 0
  | [], _, _, i, h1, _ => by simp at h1
  | _ :: _, [], _, i, _, h2 => by simp at h2
  | x :: a, y :: b, h, i, h1, h2 => by
    simp only [each2E] at h
    split at h
    · rename_i h0
      cases i with
      | zero => exact h0
      | succ i => exact each2_ok h i (by simpa using h1) (by simpa using h2)
    · rename_i h0; exact absurd h h0
def mrgE (a b : List Bm) : Int := if a.length ≠ b.length then 6 else each2E bothE a b
def mrgO (a b : List Bm) : List Bm := if mrgE a b = 0 then List.zipWith (bothO orW) a b else []
set_option maxRecDepth 20000 in
theorem loop35 {a b : List Bm} {gf : Nat} (hf : ∀ x y : Bm, cal env gf [eBm x, eBm y] = some [(eBm (bothO orW x y), false), (.int .i64 (bothE x y), false)]) (hl : a.length = b.length) (hm : a.length ≤ lim) (hI0 : each2I (bothO orW) bothE a b 0) {st : St} (h : st.head [0, 1, 2, 8, 13, 14, 36] st.boxes.length = some ⟨sl 39 [(0, .pv (.list 2 (a.map eBm))), (1, .pv (.list 2 (b.map eBm))), (2, .pv (.func gf [])), (8, .row 2 (((List.zipWith (bothO orW) a b).take ((0 : Nat))).map eBm)), (13, .pv (.int .i64 a.length)), (14, .pv (.int .i64 (0 : Nat))), (36, .any)], [], [], none⟩) :
   den env fn35_l1 st = if each2E bothE a b = 0 then some (.normal, ⟨sl 39 [(6, .any), (7, .any), (8, .row 2 ((each2P (bothO orW) bothE a b).map eBm))], [], [], none⟩) else some (.ret, ⟨sl 39 [(6, .row 2 []), (7, .pv (.int .i64 (each2E bothE a b))), (8, .row 2 ((each2P (bothO orW) bothE a b).map eBm))], [], [], none⟩) := by
  unfold fn35_l1
  refine clean_upP (env := env) (a.length) (fun i => each2I (bothO orW) bothE a b (i)) (fun i => ⟨sl 39 [(0, .pv (.list 2 (a.map eBm))), (1, .pv (.list 2 (b.map eBm))), (2, .pv (.func gf [])), (8, .row 2 (((List.zipWith (bothO orW) a b).take (i)).map eBm)), (13, .pv (.int .i64 a.length)), (14, .pv (.int .i64 i)), (36, .any)], [], [], none⟩) (fun i => if each2E bothE a b = 0 then some (.normal, ⟨sl 39 [(6, .any), (7, .any), (8, .row 2 ((each2P (bothO orW) bothE a b).map eBm))], [], [], none⟩) else some (.ret, ⟨sl 39 [(6, .row 2 []), (7, .pv (.int .i64 (each2E bothE a b))), (8, .row 2 ((each2P (bothO orW) bothE a b).map eBm))], [], [], none⟩)) h hI0 (fun _ => rfl) (fun _ => by simp only [slAll, slsAll, Nat.reduceMul, Nat.reduceBEq, Nat.reduceLT, Nat.reduceLeDiff, Nat.reduceAdd, decide_true, Bool.and_self, Bool.true_and]) ?_ ?_
  · intro i rb hi hp ih

    have hi1 := i64_next hi hm
    have hj : i < b.length := by omega
    have F1 : ((i : Int) < (a.length : Int)) = True := eq_true (by omega)
    have e1 : cal env gf [eBm a[i], eBm b[i]] = some [(.agg [.int .i64 (bothO orW a[i] b[i]).size, .list 1 ((bothO orW a[i] b[i]).ws.map eW)], false), (.int .i64 (bothE a[i] b[i]), false)] := hf a[i] b[i]
    have eC : ∀ a : Bm, (eBm a).cells = [.int .i64 a.size, .list 1 (a.ws.map eW)] := fun _ => rfl
    have P : ∀ a : Bm, part [PV.int .i64 a.size, .list 1 (a.ws.map eW)] 0 (some 2) = some (eBm a) := fun _ => rfl
    have F3 : (((List.zipWith (bothO orW) a b).take i).length + 1 ≤ lim) = True := eq_true (by rw [List.length_take]; omega)
    by_cases c : bothE a[i] b[i] = 0
    · have hs := take_zip_snoc (bothO orW) hi hj
      have G : ((0 : Int) != 0) = false := rfl
      rw [c] at e1
      simp only [fn35_b0, F1, F3, e1, G, eC, P, index_nat hi, index_nat hj, List.getElem?_map, List.getElem?_eq_getElem hi, List.getElem?_eq_getElem hj, Option.map_some, List.length_map, slAll, slsAll, Nat.reduceMul, Nat.reduceBEq, Nat.reduceLT, Nat.reduceLeDiff, memAll, vAll, reduceCtorEq, Nat.reduceEqDiff, Nat.reduceAdd, Nat.reduceLT, Nat.reduceLeDiff, Nat.beq]
      rw [ih (each2_good hp hi hj c) _ (by rw [hs, List.map_append]; simp only [hi1, slAll, slsAll, Nat.reduceMul, Nat.reduceBEq, Nat.reduceLT, Nat.reduceLeDiff, memAll, vAll, reduceCtorEq, Nat.reduceEqDiff, Nat.reduceAdd, Nat.reduceLT, Nat.reduceLeDiff, Nat.beq] <;> rfl)]
    · obtain ⟨q1, q2⟩ := each2_bad hp hi hj c
      have G : (bothE a[i] b[i] != 0) = true := by simp [c]
      rw [q1, q2, if_neg c]
      simp only [fn35_b0, F1, F3, e1, G, eC, P, index_nat hi, index_nat hj, List.getElem?_map, List.getElem?_eq_getElem hi, List.getElem?_eq_getElem hj, Option.map_some, List.length_map, slAll, slsAll, Nat.reduceMul, Nat.reduceBEq, Nat.reduceLT, Nat.reduceLeDiff, memAll, vAll, reduceCtorEq, Nat.reduceEqDiff, Nat.reduceAdd, Nat.reduceLT, Nat.reduceLeDiff, Nat.beq]
  · intro rb hp

    obtain ⟨q1, q2⟩ := each2_end hp hl
    have q3 : (List.zipWith (bothO orW) a b).take a.length = List.zipWith (bothO orW) a b := List.take_of_length_le (by rw [List.length_zipWith]; exact Nat.min_le_left _ _)
    rw [q1, q2, q3, if_pos rfl]
    simp only [fn35_b0, Int.lt_irrefl, slAll, slsAll, Nat.reduceMul, Nat.reduceBEq, Nat.reduceLT, Nat.reduceLeDiff, memAll, vAll, reduceCtorEq, Nat.reduceEqDiff, Nat.reduceAdd, Nat.reduceLT, Nat.reduceLeDiff, Nat.beq]

theorem cal35 {a b : List Bm} {gf : Nat} (hf : ∀ x y : Bm, cal env gf [eBm x, eBm y] = some [(eBm (bothO orW x y), false), (.int .i64 (bothE x y), false)]) (hl : a.length = b.length) (hm : a.length ≤ lim) :
    cal env 35 [.list 2 (a.map eBm), .list 2 (b.map eBm), .func gf []] = some [(.list 2 ((if each2E bothE a b = 0 then List.zipWith (bothO orW) a b else []).map eBm), true), (.int .i64 (each2E bothE a b), false)] := by
  have hI := each2_I0 (bothO orW) bothE a b
  rw [cal_code env35 rfl]; simp only [fn35, slAll, Nat.reduceBEq, Nat.reduceLeDiff, Nat.reduceAdd, List.length_cons, List.length_nil]
  simp only [List.length_map, slAll, slsAll, Nat.reduceMul, Nat.reduceBEq, Nat.reduceLT, Nat.reduceLeDiff, memAll, vAll, reduceCtorEq, Nat.reduceEqDiff, Nat.reduceAdd, Nat.reduceLT, Nat.reduceLeDiff, Nat.beq]
  rw [loop35 hf hl hm hI]
  rotate_left
  · simp only [slAll, slsAll, Nat.reduceMul, Nat.reduceBEq, Nat.reduceLT, Nat.reduceLeDiff, Nat.reduceAdd, decide_true, Bool.and_self, Bool.true_and] <;> rfl
  · by_cases c : each2E bothE a b = 0
    · have h2 : each2P (bothO orW) bothE a b = List.zipWith (bothO orW) a b := by
        have key : ∀ i, i ≤ a.length → each2I (bothO orW) bothE a b i := by
          intro i
          induction i with
          | zero => intro _; exact hI
          | succ i ih => intro hi; exact each2_good (ih (by omega)) (by omega) (by omega) (each2_ok c i (by omega) (by omega))
        exact (each2_end (key _ (Nat.le_refl _)) hl).2
      rw [if_pos c, if_pos c, h2, c]
      simp only [slAll, slsAll, Nat.reduceMul, Nat.reduceBEq, Nat.reduceLT, Nat.reduceLeDiff, memAll, vAll, reduceCtorEq, Nat.reduceEqDiff, Nat.reduceAdd, Nat.reduceLT, Nat.reduceLeDiff, Nat.beq]
    · rw [if_neg c, if_neg c]
      simp only [List.map_nil, slAll, slsAll, Nat.reduceMul, Nat.reduceBEq, Nat.reduceLT, Nat.reduceLeDiff, memAll, vAll, reduceCtorEq, Nat.reduceEqDiff, Nat.reduceAdd, Nat.reduceLT, Nat.reduceLeDiff, Nat.beq]
end Go.Proofs.YtncobemfpammfaaDoor.V

namespace Go.Proofs.YtncobemfpammfaaDoor.V
theorem take_snoc1 {α : Type} {l : List α} {i : Nat} (h : i < l.length) : l.take (i + 1) = l.take i ++ [l[i]] := by rw [List.take_succ_eq_append_getElem h]
def okE (x : Exn) : Prop := (-9223372036854775808 ≤ x.start ∧ x.start ≤ 9223372036854775807) ∧ (-9223372036854775808 ≤ x.count ∧ x.count ≤ 9223372036854775807)
def okEs (l : List Exn) : Prop := ∀ x ∈ l, okE x
def wFrom (e : Exn) : Int := max e.start 0
def wTo (e : Exn) : Int := if e.start < 0 ∨ e.count < 4096 - e.start then min (e.start + e.count) 4096 else 4096
def wX (e : Exn) : Int × Int × Bool := if e.count ≤ 0 then (0, 0, false) else (wFrom e, wTo e, decide (wFrom e < wTo e))
def inE (e : Exn) (s : Nat) : Bool := decide (0 < e.count) && (decide (e.start ≤ (s : Int)) && decide ((s : Int) < e.start + e.count))
theorem wX_true {e : Exn} (h : (wX e).2.2 = true) : ∃ n m : Nat, wX e = ((n : Int), (m : Int), true) ∧ n < m ∧ m ≤ 4096 ∧ ∀ s : Nat, s < 4096 → (inE e s = true ↔ n ≤ s ∧ s < m) := by
  unfold wX at h ⊢
  by_cases c : e.count ≤ 0
  · rw [if_pos c] at h; cases h
  · rw [if_neg c] at h ⊢
    have h2 : wFrom e < wTo e := by simpa using h
    have h3 : 0 ≤ wFrom e := by unfold wFrom; omega
    have h4 : wTo e ≤ 4096 := by unfold wTo; split <;> omega
    refine ⟨(wFrom e).toNat, (wTo e).toNat, ?_, by omega, by omega, fun s hs => ?_⟩
    · rw [Int.toNat_of_nonneg h3, Int.toNat_of_nonneg (by omega), decide_eq_true h2]
    · unfold inE
      simp only [Bool.and_eq_true, decide_eq_true_eq]
      have e1 : (wFrom e).toNat ≤ s ↔ wFrom e ≤ (s : Int) := by omega
      have e2 : s < (wTo e).toNat ↔ (s : Int) < wTo e := by omega
      rw [e1, e2]
      unfold wFrom wTo
      split <;> omega
theorem wX_false {e : Exn} (h : (wX e).2.2 = false) {s : Nat} (hs : s < 4096) : inE e s = false := by
  unfold wX at h
  by_cases c : e.count ≤ 0
  · unfold inE
    rw [decide_eq_false (by omega), Bool.false_and]
  · rw [if_neg c] at h
    have h2 : ¬ wFrom e < wTo e := by simpa using h
    unfold inE
    cases hq : (decide (0 < e.count) && (decide (e.start ≤ (s : Int)) && decide ((s : Int) < e.start + e.count))) with
    | false => rfl
    | true =>
      exfalso
      simp only [Bool.and_eq_true, decide_eq_true_eq] at hq
      apply h2
      unfold wFrom wTo
      split <;> omega
theorem cal77 {e : Exn} (ho : okE e) : cal env 77 [eExt e] = some [(.int .i64 (wX e).1, false), (.int .i64 (wX e).2.1, false), (.bool (wX e).2.2, false)] := by
  obtain ⟨⟨o1, o2⟩, o3, o4⟩ := ho
  unfold wX
  simp only [eExt]
  by_cases c : e.count ≤ 0
  · rw [if_pos c]
    rw [cal_code env77 rfl]; simp only [fn77, slAll, Nat.reduceBEq, Nat.reduceLeDiff, Nat.reduceAdd, List.length_cons, List.length_nil]
    simp only [c, slAll, slsAll, Nat.reduceMul, Nat.reduceBEq, Nat.reduceLT, Nat.reduceLeDiff, memAll, vAll, reduceCtorEq, Nat.reduceEqDiff, Nat.reduceAdd, Nat.reduceLT, Nat.reduceLeDiff, Nat.beq]
  · rw [if_neg c]
    unfold wFrom wTo
    have hmin : min (e.start + e.count) 4096 = if 4096 < e.start + e.count then 4096 else e.start + e.count := by split <;> omega
    by_cases c1 : e.start < 0
    · have hmax : max e.start 0 = 0 := by omega
      rw [hmin, hmax]
      have W1 : IntKind.i64.wrap (e.start + e.count) = e.start + e.count := i64_fits (by omega)
      rw [if_pos (.inl c1)]
      rw [cal_code env77 rfl]; simp only [fn77, slAll, Nat.reduceBEq, Nat.reduceLeDiff, Nat.reduceAdd, List.length_cons, List.length_nil]
      simp only [c, c1, W1, slAll, slsAll, Nat.reduceMul, Nat.reduceBEq, Nat.reduceLT, Nat.reduceLeDiff, memAll, vAll, reduceCtorEq, Nat.reduceEqDiff, Nat.reduceAdd, Nat.reduceLT, Nat.reduceLeDiff, Nat.beq]
    · have hmax : max e.start 0 = e.start := by omega
      rw [hmin, hmax]
      have W2 : IntKind.i64.wrap (4096 - e.start) = 4096 - e.start := i64_fits (by omega)
      by_cases c2 : e.count < 4096 - e.start
      · have W1 : IntKind.i64.wrap (e.start + e.count) = e.start + e.count := i64_fits (by omega)
        rw [if_pos (.inr c2)]
        rw [cal_code env77 rfl]; simp only [fn77, slAll, Nat.reduceBEq, Nat.reduceLeDiff, Nat.reduceAdd, List.length_cons, List.length_nil]
        simp only [c, c1, c2, W1, W2, slAll, slsAll, Nat.reduceMul, Nat.reduceBEq, Nat.reduceLT, Nat.reduceLeDiff, memAll, vAll, reduceCtorEq, Nat.reduceEqDiff, Nat.reduceAdd, Nat.reduceLT, Nat.reduceLeDiff, Nat.beq]
      · rw [if_neg (by omega)]
        rw [cal_code env77 rfl]; simp only [fn77, slAll, Nat.reduceBEq, Nat.reduceLeDiff, Nat.reduceAdd, List.length_cons, List.length_nil]
        simp only [c, c1, c2, W2, slAll, slsAll, Nat.reduceMul, Nat.reduceBEq, Nat.reduceLT, Nat.reduceLeDiff, memAll, vAll, reduceCtorEq, Nat.reduceEqDiff, Nat.reduceAdd, Nat.reduceLT, Nat.reduceLeDiff, Nat.beq]

def rawOf (i : Nat) (l : List Exn) : List End := l.flatMap fun e => if (wX e).2.2 then [⟨(wX e).1.toNat, i, 1⟩, ⟨(wX e).2.1.toNat, i, -1⟩] else []
theorem rawOf_snoc (i : Nat) (l : List Exn) (e : Exn) : rawOf i (l ++ [e]) = rawOf i l ++ (if (wX e).2.2 then [⟨(wX e).1.toNat, i, 1⟩, ⟨(wX e).2.1.toNat, i, -1⟩] else []) := by simp [rawOf]
theorem rawOf_len (i : Nat) : ∀ l : List Exn, (rawOf i l).length ≤ 2 * l.length
  | [] => Nat.le_refl _
  | e :: l => by
    have := rawOf_len i l
    have h : rawOf i (e :: l) = (if (wX e).2.2 then [⟨(wX e).1.toNat, i, 1⟩, ⟨(wX e).2.1.toNat, i, -1⟩] else []) ++ rawOf i l := by simp [rawOf]
    rw [h, List.length_append, List.length_cons]
    split <;> simp <;> omega
def rawFrom : Nat → List (List Exn) → List End
  | _, [] => []
  | i, l :: ls => rawOf i l ++ rawFrom (i + 1) ls
theorem rawFrom_snoc : ∀ (ls : List (List Exn)) (i : Nat) (l : List Exn), rawFrom i (ls ++ [l]) = rawFrom i ls ++ rawOf (i + ls.length) l
  | [], i, l => by simp [rawFrom]
  | m :: ls, i, l => by
    simp only [List.cons_append, rawFrom, rawFrom_snoc ls (i + 1) l, List.length_cons, List.append_assoc]
    rw [show i + 1 + ls.length = i + (ls.length + 1) by omega]
theorem rawFrom_len {n : Nat} : ∀ (ls : List (List Exn)) (i : Nat), (∀ l ∈ ls, l.length ≤ n) → (rawFrom i ls).length ≤ 2 * n * ls.length
  | [], i, _ => Nat.zero_le _
  | l :: ls, i, h => by
    have h1 := rawFrom_len ls (i + 1) fun x hx => h x (by simp [hx])
    have h2 := rawOf_len i l
    have h3 := h l (by simp)
    simp only [rawFrom, List.length_append, List.length_cons]
    rw [Nat.mul_add]
    omega
set_option maxRecDepth 20000 in
theorem loop72 {D : PV} {l : List Exn} {pre : List End} {v n : Nat} {q17 : AV} (hq : q17 = .pv (.list 2 (l.map eExt))) (ho : okEs l) (hl : l.length ≤ 100000) (hpre : pre.length ≤ 10000000) {st : St} (h : st.head [0, 3, 4, 5, 11, 12, 13, 17, 18, 19, 20, 39] st.boxes.length = some ⟨sl 45 [(0, .pv D), (3, .row 3 ((pre ++ rawOf v (l.take ((0 : Nat)))).map eEnd)), (4, .pv (.int .i64 v)), (5, .pv (.list 2 (l.map eExt))), (11, .pv D), (12, .pv (.int .i64 n)), (13, .pv (.int .i64 v)), (17, .pv (.list 2 (l.map eExt))), (18, .pv (.list 2 (l.map eExt))), (19, .pv (.int .i64 l.length)), (20, .pv (.int .i64 (0 : Nat))), (39, .any)], [], [], none⟩) :
   den env fn72_l1 st = some (.normal, ⟨sl 45 [(0, .pv D), (2, .any), (3, .row 3 ((pre ++ rawOf v l).map eEnd)), (11, .pv D), (12, .pv (.int .i64 n)), (13, .pv (.int .i64 v)), (39, .any)], [], [], none⟩) := by
  unfold fn72_l1
  refine clean_up (env := env) (l.length) (fun i => ⟨sl 45 [(0, .pv D), (3, .row 3 ((pre ++ rawOf v (l.take (i))).map eEnd)), (4, .pv (.int .i64 v)), (5, .pv (.list 2 (l.map eExt))), (11, .pv D), (12, .pv (.int .i64 n)), (13, .pv (.int .i64 v)), (17, .pv (.list 2 (l.map eExt))), (18, .pv (.list 2 (l.map eExt))), (19, .pv (.int .i64 l.length)), (20, .pv (.int .i64 i)), (39, .any)], [], [], none⟩) (fun i => some (.normal, ⟨sl 45 [(0, .pv D), (2, .any), (3, .row 3 ((pre ++ rawOf v l).map eEnd)), (11, .pv D), (12, .pv (.int .i64 n)), (13, .pv (.int .i64 v)), (39, .any)], [], [], none⟩)) h (fun _ => rfl) (fun _ => by simp only [slAll, slsAll, Nat.reduceMul, Nat.reduceBEq, Nat.reduceLT, Nat.reduceLeDiff, Nat.reduceAdd, decide_true, Bool.and_self, Bool.true_and]) ?_ ?_
  · intro i rb hi ih

    have hlim : lim = 1073741824 := rfl
    have hi1 := i64_next hi (by omega)
    have F1 : ((i : Int) < (l.length : Int)) = True := eq_true (by omega)
    have hx : l[i]? = some l[i] := List.getElem?_eq_getElem hi
    have ht := take_snoc1 hi
    have hox := ho _ (List.getElem_mem hi)
    generalize l[i] = x at *
    have e1 := cal77 hox
    have hrl := rawOf_len v (l.take i)
    rw [List.length_take] at hrl
    have P2 : part [PV.int .i64 x.start, .int .i64 x.count] 0 (some 2) = some (.agg [.int .i64 x.start, .int .i64 x.count]) := rfl
    simp only [eExt] at e1
    cases hw : (wX x).2.2 with
    | false =>
      rw [hw] at e1
      have hs : rawOf v (l.take (i + 1)) = rawOf v (l.take i) := by rw [ht, rawOf_snoc, hw]; simp
      simp only [fn72_b0, F1, hx, e1, eExt, P2, index_nat hi, List.getElem?_map, Option.map_some, List.length_map, List.length_cons, List.length_nil, slAll, slsAll, Nat.reduceMul, Nat.reduceBEq, Nat.reduceLT, Nat.reduceLeDiff, memAll, vAll, reduceCtorEq, Nat.reduceEqDiff, Nat.reduceAdd, Nat.reduceLT, Nat.reduceLeDiff, Nat.beq]
      rw [ih _ (by simp only [hi1, hs, slAll, slsAll, Nat.reduceMul, Nat.reduceBEq, Nat.reduceLT, Nat.reduceLeDiff, memAll, vAll, reduceCtorEq, Nat.reduceEqDiff, Nat.reduceAdd, Nat.reduceLT, Nat.reduceLeDiff, Nat.beq] <;> rfl)]
    | true =>
      obtain ⟨a, b, hab, -, -, -⟩ := wX_true hw
      have hs : rawOf v (l.take (i + 1)) = rawOf v (l.take i) ++ [⟨a, v, 1⟩, ⟨b, v, -1⟩] := by rw [ht, rawOf_snoc, hab]; simp
      rw [hab] at e1
      have F2 : ((pre ++ rawOf v (l.take i)).length + 1 + 1 ≤ lim) = True := eq_true (by rw [List.length_append]; omega)
      have F3 : ((pre ++ rawOf v (l.take i)).length + 2 ≤ lim) = True := eq_true (by rw [List.length_append]; omega)
      simp only [fn72_b0, F1, F2, F3, hx, e1, eExt, P2, index_nat hi, List.getElem?_map, Option.map_some, List.length_map, List.length_cons, List.length_nil, slAll, slsAll, Nat.reduceMul, Nat.reduceBEq, Nat.reduceLT, Nat.reduceLeDiff, memAll, vAll, reduceCtorEq, Nat.reduceEqDiff, Nat.reduceAdd, Nat.reduceLT, Nat.reduceLeDiff, Nat.beq]
      rw [ih _ (by simp only [hi1, hs, ← List.append_assoc, List.map_append, List.map_cons, List.map_nil, eEnd, slAll, slsAll, Nat.reduceMul, Nat.reduceBEq, Nat.reduceLT, Nat.reduceLeDiff, memAll, vAll, reduceCtorEq, Nat.reduceEqDiff, Nat.reduceAdd, Nat.reduceLT, Nat.reduceLeDiff, Nat.beq] <;> rfl)]
  · intro rb

    simp only [fn72_b0, Int.lt_irrefl, List.length_map, List.take_length, slAll, slsAll, Nat.reduceMul, Nat.reduceBEq, Nat.reduceLT, Nat.reduceLeDiff, memAll, vAll, reduceCtorEq, Nat.reduceEqDiff, Nat.reduceAdd, Nat.reduceLT, Nat.reduceLeDiff, Nat.beq]

set_option maxRecDepth 20000 in
theorem loop72l3 {ls : List (List Exn)} (ho : ∀ l ∈ ls, okEs l) (hr : ∀ l ∈ ls, l.length ≤ 100000) (hl : ls.length ≤ 10) {st : St} (h : st.head [0, 3, 11, 12, 13, 39] st.boxes.length = some ⟨sl 45 [(0, .pv (.list 1 (ls.map eExts))), (3, .row 3 ((rawFrom 0 (ls.take ((0 : Nat)))).map eEnd)), (11, .pv (.list 1 (ls.map eExts))), (12, .pv (.int .i64 ls.length)), (13, .pv (.int .i64 (0 : Nat))), (39, .any)], [], [], none⟩) :
   den env fn72_l3 st = some (.normal, ⟨sl 45 [(2, .any), (3, .row 3 ((rawFrom 0 ls).map eEnd))], [], [], none⟩) := by
  unfold fn72_l3
  refine clean_up (env := env) (ls.length) (fun i => ⟨sl 45 [(0, .pv (.list 1 (ls.map eExts))), (3, .row 3 ((rawFrom 0 (ls.take (i))).map eEnd)), (11, .pv (.list 1 (ls.map eExts))), (12, .pv (.int .i64 ls.length)), (13, .pv (.int .i64 i)), (39, .any)], [], [], none⟩) (fun i => some (.normal, ⟨sl 45 [(2, .any), (3, .row 3 ((rawFrom 0 ls).map eEnd))], [], [], none⟩)) h (fun _ => rfl) (fun _ => by simp only [slAll, slsAll, Nat.reduceMul, Nat.reduceBEq, Nat.reduceLT, Nat.reduceLeDiff, Nat.reduceAdd, decide_true, Bool.and_self, Bool.true_and]) ?_ ?_
  · intro i rb hi ih

    have hlim : lim = 1073741824 := rfl
    have hi1 := i64_next hi (by omega)
    have F1 : ((i : Int) < (ls.length : Int)) = True := eq_true (by omega)
    have hx : ls[i]? = some ls[i] := List.getElem?_eq_getElem hi
    have ht := take_snoc1 hi
    have hox := ho _ (List.getElem_mem hi)
    have hrx := hr _ (List.getElem_mem hi)
    have hli : (ls.take i).length = i := by rw [List.length_take]; omega
    have hp := rawFrom_len (n := 100000) (ls.take i) 0 fun l hl => hr l (List.mem_of_mem_take hl)
    rw [hli] at hp
    generalize ls[i] = l at *
    have hs : rawFrom 0 (ls.take (i + 1)) = rawFrom 0 (ls.take i) ++ rawOf i l := by rw [ht, rawFrom_snoc, hli, Nat.zero_add]
    have hr0 : rawOf i ([] : List Exn) = [] := rfl
    simp only [fn72_b2, F1, hx, eExts, index_nat hi, List.getElem?_map, Option.map_some, List.length_map, slAll, slsAll, Nat.reduceMul, Nat.reduceBEq, Nat.reduceLT, Nat.reduceLeDiff, memAll, vAll, reduceCtorEq, Nat.reduceEqDiff, Nat.reduceAdd, Nat.reduceLT, Nat.reduceLeDiff, Nat.beq]
    rw [loop72 (l := l) (pre := rawFrom 0 (ls.take i)) (v := i) (q17 := .pv (.list 2 (l.map eExt))) rfl hox hrx (by omega)]
    rotate_left
    · simp only [z_take_zero, hr0, List.append_nil, eExts, slAll, slsAll, Nat.reduceMul, Nat.reduceBEq, Nat.reduceLT, Nat.reduceLeDiff, memAll, vAll, reduceCtorEq, Nat.reduceEqDiff, Nat.reduceAdd, Nat.reduceLT, Nat.reduceLeDiff, Nat.beq] <;> rfl
    simp only [slAll, slsAll, Nat.reduceMul, Nat.reduceBEq, Nat.reduceLT, Nat.reduceLeDiff, memAll, vAll, reduceCtorEq, Nat.reduceEqDiff, Nat.reduceAdd, Nat.reduceLT, Nat.reduceLeDiff, Nat.beq]
    rw [ih _ (by simp only [hi1, hs, eExts, slAll, slsAll, Nat.reduceMul, Nat.reduceBEq, Nat.reduceLT, Nat.reduceLeDiff, memAll, vAll, reduceCtorEq, Nat.reduceEqDiff, Nat.reduceAdd, Nat.reduceLT, Nat.reduceLeDiff, Nat.beq] <;> rfl)]
  · intro rb

    simp only [fn72_b2, Int.lt_irrefl, List.length_map, List.take_length, slAll, slsAll, Nat.reduceMul, Nat.reduceBEq, Nat.reduceLT, Nat.reduceLeDiff, memAll, vAll, reduceCtorEq, Nat.reduceEqDiff, Nat.reduceAdd, Nat.reduceLT, Nat.reduceLeDiff, Nat.beq]

def endsOf (ls : List (List Exn)) : List End := sortE (rawFrom 0 ls)
theorem cal72 {ls : List (List Exn)} (ho : ∀ l ∈ ls, okEs l) (hr : ∀ l ∈ ls, l.length ≤ 10000) (hl : ls.length ≤ 2) (hsl : (endsOf ls).length = (rawFrom 0 ls).length) : cal env 72 [.list 1 (ls.map eExts)] = some [(.list 3 ((endsOf ls).map eEnd), true)] := by
  have hp := rawFrom_len (n := 10000) ls 0 hr
  have hp2 : (rawFrom 0 ls).length ≤ 1000000 := by
    have : 2 * 10000 * ls.length ≤ 2 * 10000 * 2 := Nat.mul_le_mul_left _ hl
    omega
  have h1 := sortEndsX_enc (g := 79) (l := rawFrom 0 ls) hp2
  have h2 : ((sortE (rawFrom 0 ls)).map eEnd).length = ((rawFrom 0 ls).map eEnd).length := by
    rw [List.length_map, List.length_map]; exact hsl
  unfold endsOf
  have hcond : (0 = 0 ∧ (rawFrom 0 ls).length = ((rawFrom 0 ls).map eEnd).length ∧ ((sortE (rawFrom 0 ls)).map eEnd).length = ((rawFrom 0 ls).map eEnd).length) = True := eq_true ⟨rfl, by simp, h2⟩
  rw [cal_code env72 rfl]; simp only [fn72, slAll, Nat.reduceBEq, Nat.reduceLeDiff, Nat.reduceAdd, List.length_cons, List.length_nil]
  simp only [List.length_map, env78, h1, hsl, slAll, slsAll, Nat.reduceMul, Nat.reduceBEq, Nat.reduceLT, Nat.reduceLeDiff, memAll, vAll, reduceCtorEq, Nat.reduceEqDiff, Nat.reduceAdd, Nat.reduceLT, Nat.reduceLeDiff, Nat.beq]
  rw [loop72l3 ho (fun l h => by have := hr l h; omega) (by omega) (by simp only [z_take_zero, rawFrom, List.map_nil, slAll, slsAll, Nat.reduceMul, Nat.reduceBEq, Nat.reduceLT, Nat.reduceLeDiff, memAll, vAll, reduceCtorEq, Nat.reduceEqDiff, Nat.reduceAdd, Nat.reduceLT, Nat.reduceLeDiff, Nat.beq] <;> rfl)]
  simp only [h2, List.length_map, env78, h1, hsl, slAll, slsAll, Nat.reduceMul, Nat.reduceBEq, Nat.reduceLT, Nat.reduceLeDiff, memAll, vAll, reduceCtorEq, Nat.reduceEqDiff, Nat.reduceAdd, Nat.reduceLT, Nat.reduceLeDiff, Nat.beq]
  rw [← hsl]
  unfold endsOf
  rw [take_map_all]
end Go.Proofs.YtncobemfpammfaaDoor.V

namespace Go.Proofs
open Go.Shelf
def Tryd.sortEnd_ren : Go.Shelf.Ren := ⟨fun | 6 => 78 | 15 => 82 | 14 => 81 | 28 => 92 | 29 => 93 | 20 => 84 | 21 => 85 | 22 => 86 | 23 => 87 | 24 => 88 | 25 => 89 | 26 => 90 | 27 => 91 | 46 => 94 | 47 => 95 | 48 => 96 | 49 => 97 | 50 => 98 | 57 => 99 | n => n, fun | 22 => 121 | 24 => 125 | 25 => 133 | 3 => 3 | 39 => 110 | 0 => 0 | 53 => 145 | 55 => 102 | 4 => 4 | 46 => 138 | 45 => 137 | 50 => 142 | 5 => 5 | 9 => 9 | 66 => 146 | 70 => 150 | 76 => 152 | 77 => 153 | n => n, fun | n => n⟩
theorem Tryd.sortEnd : Go.Proofs.SlLaysF0.n6 Tryd.prog Tryd.sortEnd_ren := {
  mixed := by kernel_rfl
  f6 := ⟨Tryd.f78.name, by decide, Tryd.func78.trans (congrArg some (by kernel_rfl))⟩
  f14 := ⟨Tryd.f81.name, by decide, Tryd.func81.trans (congrArg some (by kernel_rfl))⟩
  f15 := Tryd.func82.trans (congrArg some (by kernel_rfl))
  f20 := ⟨Tryd.f84.name, by decide, Tryd.func84.trans (congrArg some (by kernel_rfl))⟩
  f21 := ⟨Tryd.f85.name, by decide, Tryd.func85.trans (congrArg some (by kernel_rfl))⟩
  f22 := ⟨Tryd.f86.name, by decide, Tryd.func86.trans (congrArg some (by kernel_rfl))⟩
  f23 := ⟨Tryd.f87.name, by decide, Tryd.func87.trans (congrArg some (by kernel_rfl))⟩
  f24 := ⟨Tryd.f88.name, by decide, Tryd.func88.trans (congrArg some (by kernel_rfl))⟩
  f25 := ⟨Tryd.f89.name, by decide, Tryd.func89.trans (congrArg some (by kernel_rfl))⟩
  f26 := ⟨Tryd.f90.name, by decide, Tryd.func90.trans (congrArg some (by kernel_rfl))⟩
  f27 := ⟨Tryd.f91.name, by decide, Tryd.func91.trans (congrArg some (by kernel_rfl))⟩
  f28 := Tryd.func92.trans (congrArg some (by kernel_rfl))
  f29 := Tryd.func93.trans (congrArg some (by kernel_rfl))
  f46 := ⟨Tryd.f94.name, by decide, Tryd.func94.trans (congrArg some (by kernel_rfl))⟩
  f47 := Tryd.func95.trans (congrArg some (by kernel_rfl))
  f48 := Tryd.func96.trans (congrArg some (by kernel_rfl))
  f49 := ⟨Tryd.f97.name, by decide, Tryd.func97.trans (congrArg some (by kernel_rfl))⟩
  f50 := ⟨Tryd.f98.name, by decide, Tryd.func98.trans (congrArg some (by kernel_rfl))⟩
  f57 := ⟨Tryd.f99.name, by decide, Tryd.func99.trans (congrArg some (by kernel_rfl))⟩
  t0 := Tryd.underlying0
  a0 := Tryd.isAgg0
  z0 := Tryd.sizeOf0
  v0 := Tryd.zeroValue0
  t3 := Tryd.underlying3
  a3 := Tryd.isAgg3
  z3 := Tryd.sizeOf3
  v3 := Tryd.zeroValue3
  t4 := Tryd.underlying4
  a4 := Tryd.isAgg4
  z4 := Tryd.sizeOf4
  v4 := Tryd.zeroValue4
  t5 := Tryd.underlying5
  a5 := Tryd.isAgg5
  z5 := Tryd.sizeOf5
  v5 := Tryd.zeroValue5
  t9 := Tryd.underlying9
  a9 := Tryd.isAgg9
  z9 := Tryd.sizeOf9
  v9 := Tryd.zeroValue9
  t22 := Tryd.underlying121
  a22 := Tryd.isAgg121
  z22 := Tryd.sizeOf121
  v22 := Tryd.zeroValue121
  t25 := Tryd.underlying133
  a25 := Tryd.isAgg133
  z25 := Tryd.sizeOf133
  v25 := Tryd.zeroValue133
  t39 := Tryd.underlying110
  a39 := Tryd.isAgg110
  z39 := Tryd.sizeOf110
  v39 := Tryd.zeroValue110
  t45 := Tryd.underlying137
  a45 := Tryd.isAgg137
  z45 := Tryd.sizeOf137
  v45 := Tryd.zeroValue137
  t46 := Tryd.underlying138
  a46 := Tryd.isAgg138
  z46 := Tryd.sizeOf138
  v46 := Tryd.zeroValue138
  t50 := Tryd.underlying142
  a50 := Tryd.isAgg142
  z50 := Tryd.sizeOf142
  v50 := Tryd.zeroValue142
  t53 := Tryd.underlying145
  a53 := Tryd.isAgg145
  z53 := Tryd.sizeOf145
  v53 := Tryd.zeroValue145
  t55 := Tryd.underlying102
  a55 := Tryd.isAgg102
  z55 := Tryd.sizeOf102
  v55 := Tryd.zeroValue102
  t66 := Tryd.underlying146
  a66 := Tryd.isAgg146
  z66 := Tryd.sizeOf146
  v66 := Tryd.zeroValue146
  t70 := Tryd.underlying150
  a70 := Tryd.isAgg150
  z70 := Tryd.sizeOf150
  v70 := Tryd.zeroValue150
  t76 := Tryd.underlying152
  a76 := Tryd.isAgg152
  z76 := Tryd.sizeOf152
  v76 := Tryd.zeroValue152
  t77 := Tryd.underlying153
  a77 := Tryd.isAgg153
  z77 := Tryd.sizeOf153
  v77 := Tryd.zeroValue153 }
def Tryd.cmpInt_ren : Go.Shelf.Ren := ⟨fun | 5 => 80 | 7 => 83 | n => n, fun | 22 => 3 | 3 => 3 | 4 => 4 | n => n, fun | n => n⟩
theorem Tryd.cmpInt : Go.Proofs.SlLaysC2.n5 Tryd.prog Tryd.cmpInt_ren := {
  mixed := by kernel_rfl
  f5 := ⟨Tryd.f80.name, by decide, Tryd.func80.trans (congrArg some (by kernel_rfl))⟩
  f7 := ⟨Tryd.f83.name, by decide, Tryd.func83.trans (congrArg some (by kernel_rfl))⟩
  t3 := Tryd.underlying3
  a3 := Tryd.isAgg3
  z3 := Tryd.sizeOf3
  v3 := Tryd.zeroValue3
  t4 := Tryd.underlying4
  a4 := Tryd.isAgg4
  z4 := Tryd.sizeOf4
  v4 := Tryd.zeroValue4
  t22 := Tryd.underlying3
  a22 := Tryd.isAgg3
  z22 := Tryd.sizeOf3
  v22 := Tryd.zeroValue3 }
end Go.Proofs
