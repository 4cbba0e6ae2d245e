/-
  Part 11 of the texts that the statement stands on.
-/
import Derived.Test.YtldnpgbacakfeaaZ10
import Derived.Test.YtldnpgbacakfeaaRows
set_option linter.all false
namespace Go.Proofs.Ytldnpgbacakfeaa.V
set_option linter.all false

theorem few7_mil {im : Img} (h : few7 im = true) : im.length ≤ 1000000 ∧ ∀ v ∈ im, v.length ≤ 1000000 := by
  obtain ⟨h1, h2⟩ := few7_len h
  exact ⟨by omega, fun v hv => by have := h2 v hv; omega⟩
theorem take_map' {α β : Type} (f : α → β) (l : List α) (n : Nat) : (l.map f).take n = (l.take n).map f := by rw [List.map_take]
theorem drop_map' {α β : Type} (f : α → β) (l : List α) (n : Nat) : (l.map f).drop n = (l.drop n).map f := by rw [List.map_drop]
theorem cal6 {im : Img} {l : List Wrt} {c : Nat} (hw : okW l) (hc : c < 256) : cal env 6 [.list 1 (im.map eSecs), .list 3 (l.map eWr), .int .u8 (c : Int)] = some [(.bool true, false)] := by
  have e0 := cal11 (im := im)
  have e00 := cal20 (l := l)
  have e3 := calAwake
  by_cases hf : few7 im = true
  rotate_left
  · have hf : few7 im = false := by simpa using hf
    rw [hf] at e0
    rw [cal_code env6 rfl]; simp only [fn6]; simp only [start, z_map_cons, z_map_nil, z_len_cons, z_len_nil, z_repl_zero, z_repl_succ, z_cons_app, z_nil_app, Nat.reduceAdd, Nat.reduceSub]
    simp only [e0, e3, val_pvs, frozen_pvs, msnoc_len, msnoc_get, msnoc_set, msnoc_take, Int.le_refl, take_map_all, Nat.le_refl, St.freezeRows, BV.frozen, List.take_length, List.take_append_drop, z_repl_zero, Int.toNat_zero, true_and, and_true, and_self, eq_self, z_take_zero, List.drop_nil, List.take_nil, vAll, List.foldl_nil, List.foldl_cons, resultsOf, resultList, resultOf, zBV, splice, PV.remade, St.freezeAt, St.freezeBox, PV.single, plain, act, dstOf, if_true, if_false, reduceCtorEq, St.get, St.put, St.pvOf, St.putRow, St.consume, St.freeze, St.row, St.elems, St.grab, St.takeRow, St.setRow, St.place, St.optPv, St.setCell, St.setCellRow, binPV, intBin, unPV, BV.val, Nat.reduceEqDiff, bound, consumeAll, buildParts, capsOf, capOf, List.append_nil, Nat.reduceAdd, Nat.reduceLT, Nat.reduceLeDiff, beq_self_eq_true, List.length_map, Nat.beq, dcall, dcallP, List.mapM_cons, St.snapFn, St.snap, St.layAll, St.lay, St.freezeArg, St.freezeArg1]
  rw [hf] at e0
  by_cases hg : fewW l = true
  rotate_left
  · have hg : fewW l = false := by simpa using hg
    rw [hg] at e00
    rw [cal_code env6 rfl]; simp only [fn6]; simp only [start, z_map_cons, z_map_nil, z_len_cons, z_len_nil, z_repl_zero, z_repl_succ, z_cons_app, z_nil_app, Nat.reduceAdd, Nat.reduceSub]
    simp only [e0, e00, e3, val_pvs, frozen_pvs, msnoc_len, msnoc_get, msnoc_set, msnoc_take, Int.le_refl, take_map_all, Nat.le_refl, St.freezeRows, BV.frozen, List.take_length, List.take_append_drop, z_repl_zero, Int.toNat_zero, true_and, and_true, and_self, eq_self, z_take_zero, List.drop_nil, List.take_nil, vAll, List.foldl_nil, List.foldl_cons, resultsOf, resultList, resultOf, zBV, splice, PV.remade, St.freezeAt, St.freezeBox, PV.single, plain, act, dstOf, if_true, if_false, reduceCtorEq, St.get, St.put, St.pvOf, St.putRow, St.consume, St.freeze, St.row, St.elems, St.grab, St.takeRow, St.setRow, St.place, St.optPv, St.setCell, St.setCellRow, binPV, intBin, unPV, BV.val, Nat.reduceEqDiff, bound, consumeAll, buildParts, capsOf, capOf, List.append_nil, Nat.reduceAdd, Nat.reduceLT, Nat.reduceLeDiff, beq_self_eq_true, List.length_map, Nat.beq, dcall, dcallP, List.mapM_cons, St.snapFn, St.snap, St.layAll, St.lay, St.freezeArg, St.freezeArg1]
  rw [hg] at e00
  obtain ⟨hl, hr⟩ := few7_mil hf
  obtain ⟨hl9, hr24⟩ := few7_len hf
  obtain ⟨hl40, _⟩ := fewW_len hg
  have hlim : lim = 1073741824 := rfl
  let N : Nat := c % (l.length + 1)
  have hN : N ≤ l.length := Nat.le_of_lt_succ (Nat.mod_lt _ (by omega))
  have g1 : IntKind.i64.wrap (c : Int) = (c : Int) := i64_fits (by omega)
  have g2 : IntKind.i64.wrap ((l.length : Int) + 1) = ((l.length + 1 : Nat) : Int) := by rw [i64_fits (by omega)]; omega
  have g3 : (((l.length + 1 : Nat) : Int) = 0) = False := eq_false (by omega)
  have g4 : (c : Int).tmod ((l.length + 1 : Nat) : Int) = (N : Int) := (Int.ofNat_tmod c (l.length + 1)).symm
  have g5 : (0 ≤ (N : Int) ∧ (N : Int) ≤ (l.length : Int)) = True := eq_true (by omega)
  have g6 : ((N : Int)).toNat = N := by simp
  have okt : okW (l.take N) := fun w h => hw w (List.mem_of_mem_take h)
  have okd : okW (l.drop N) := fun w h => hw w (List.mem_of_mem_drop h)
  have htd : l.take N ++ l.drop N = l := List.take_append_drop N l
  have htl : (l.take N).length = N := by rw [List.length_take]; omega
  have hdl : (l.drop N).length = l.length - N := by rw [List.length_drop]
  have a1 := cal23 hw hl hr
  have a2 := cal23 okt hl hr
  have g7 := take_map' eWr l N
  have g8 : (((l.map eWr).drop N).take (l.length - N)) = (l.drop N).map eWr := by
    rw [drop_map', List.take_of_length_le (by simp)]
  have g9 : (0 ≤ (N : Int) ∧ (N : Int) ≤ ((l.length : Nat) : Int)) = True := eq_true (by omega)
  by_cases hfz : apE im (l.take N) = 0
  rotate_left
  · have h1 := ap_first (m := l.drop N) hfz
    rw [htd] at h1
    have h2 := apI_lt hfz
    rw [htl] at h2
    have k1 : (apE im (l.take N) != 0) = true := by simpa using hfz
    have k2 : (apE im (l.take N) == apE im (l.take N)) = true := by simp
    have k3 : decide (apI im (l.take N) < (if (N : Int) < 1 then 1 else (N : Int))) = true := by
      apply decide_eq_true
      split <;> omega
    rw [cal_code env6 rfl]; simp only [fn6]; simp only [start, z_map_cons, z_map_nil, z_len_cons, z_len_nil, z_repl_zero, z_repl_succ, z_cons_app, z_nil_app, Nat.reduceAdd, Nat.reduceSub]
    simp only [e0, e00, e3, g1, g2, g3, g4, g5, g6, g7, a1, a2, h1, k1, k2, k3, Nat.sub_zero, Nat.zero_le, val_pvs, frozen_pvs, msnoc_len, msnoc_get, msnoc_set, msnoc_take, Int.le_refl, take_map_all, Nat.le_refl, St.freezeRows, BV.frozen, List.take_length, List.take_append_drop, z_repl_zero, Int.toNat_zero, true_and, and_true, and_self, eq_self, z_take_zero, List.drop_nil, List.take_nil, vAll, List.foldl_nil, List.foldl_cons, resultsOf, resultList, resultOf, zBV, splice, PV.remade, St.freezeAt, St.freezeBox, PV.single, plain, act, dstOf, if_true, if_false, reduceCtorEq, St.get, St.put, St.pvOf, St.putRow, St.consume, St.freeze, St.row, St.elems, St.grab, St.takeRow, St.setRow, St.place, St.optPv, St.setCell, St.setCellRow, binPV, intBin, unPV, BV.val, Nat.reduceEqDiff, bound, consumeAll, buildParts, capsOf, capOf, List.append_nil, Nat.reduceAdd, Nat.reduceLT, Nat.reduceLeDiff, beq_self_eq_true, List.length_map, Nat.beq, dcall, dcallP, List.mapM_cons, St.snapFn, St.snap, St.layAll, St.lay, St.freezeArg, St.freezeArg1]
  obtain ⟨s1, s2⟩ := ap_steps (m := l.drop N) hfz
  rw [htd] at s1 s2
  have h0 := apE_szs hfz
  have hos := apO_sizes hfz
  obtain ⟨q1, q2⟩ := apO_small (l := l.take N) hl9 hr24
  obtain ⟨q3, q4⟩ := apO_small (l := l) hl9 hr24
  have a3 := cal23 (im := apO im (l.take N)) okd (by omega) (fun v hv => by have := q2 v hv; omega)
  rw [← s1, ← s2] at a3
  have b1 := cal17 (a := apO im l) (b := apO im l) (by omega) (fun v hv => by have := q4 v hv; omega)
  rw [decide_eq_true rfl] at b1
  have k1 : (apE im (l.take N) != 0) = false := by simpa using hfz
  have k2 : (apE im l != apE im l) = false := by simp
  have g10 : IntKind.i64.wrap ((l.length : Int) - (N : Int)) = ((l.length - N : Nat) : Int) := by rw [i64_fits (by omega)]; omega
  by_cases he : apE im l = 0
  rotate_left
  · have k3 : (apE im l != 0) = true := by simpa using he
    have k4 : decide (apI (apO im (l.take N)) (l.drop N) ≥ ((l.length - N : Nat) : Int)) = false := by
      apply decide_eq_false
      have := apI_lt2 (im := apO im (l.take N)) (l := l.drop N) (by rw [← s1]; exact he) (by rw [hos]; exact h0)
      rw [hdl] at this
      omega
    rw [cal_code env6 rfl]; simp only [fn6]; simp only [start, z_map_cons, z_map_nil, z_len_cons, z_len_nil, z_repl_zero, z_repl_succ, z_cons_app, z_nil_app, Nat.reduceAdd, Nat.reduceSub]
    simp only [e0, e00, e3, g1, g2, g3, g4, g5, g6, g7, g8, g10, a1, a2, a3, b1, k1, k2, k3, k4, Nat.sub_zero, Nat.zero_le, val_pvs, frozen_pvs, msnoc_len, msnoc_get, msnoc_set, msnoc_take, Int.le_refl, take_map_all, Nat.le_refl, St.freezeRows, BV.frozen, List.take_length, List.take_append_drop, z_repl_zero, Int.toNat_zero, true_and, and_true, and_self, eq_self, z_take_zero, List.drop_nil, List.take_nil, vAll, List.foldl_nil, List.foldl_cons, resultsOf, resultList, resultOf, zBV, splice, PV.remade, St.freezeAt, St.freezeBox, PV.single, plain, act, dstOf, if_true, if_false, reduceCtorEq, St.get, St.put, St.pvOf, St.putRow, St.consume, St.freeze, St.row, St.elems, St.grab, St.takeRow, St.setRow, St.place, St.optPv, St.setCell, St.setCellRow, binPV, intBin, unPV, BV.val, Nat.reduceEqDiff, bound, consumeAll, buildParts, capsOf, capOf, List.append_nil, Nat.reduceAdd, Nat.reduceLT, Nat.reduceLeDiff, beq_self_eq_true, List.length_map, Nat.beq, dcall, dcallP, List.mapM_cons, St.snapFn, St.snap, St.layAll, St.lay, St.freezeArg, St.freezeArg1]
  have k3 : (apE im l != 0) = false := by simpa using he
  have hos2 := apO_sizes he
  have hi0 : imSizes (apO im l) = imSizes im := hos2
  have c1 : imCheck im = 0 := h0
  have c2 : imCheck (apO im l) = 0 := by show szErr (szsOf (apO im l)) = 0; rw [hos2]; exact h0
  have p1 : pairErr im (apO im l) = 0 := by unfold pairErr; rw [if_neg (by omega), if_neg (by omega), if_pos hi0.symm]
  have p2 : pairErr (apO im l) im = 0 := by unfold pairErr; rw [if_neg (by omega), if_neg (by omega), if_pos hi0]
  have d1 := cal26 (a := im) (b := apO im l) (by omega) (by omega) (fun v hv => by have := hr24 v hv; omega)
  have d2 := cal26 (a := apO im l) (b := im) (by omega) (by omega) (fun v hv => by have := q4 v hv; omega)
  unfold differOut at d1 d2
  rw [p1, if_pos rfl] at d1
  rw [p2, if_pos rfl, differ_comm hi0] at d2
  have hdr : ∀ x ∈ differ im (apO im l), x.length ≤ lim := fun x hx => by
    simp only [differ, List.mem_map] at hx
    obtain ⟨q, hq, rfl⟩ := hx
    exact Nat.le_trans (volDiff_len _ _) (by have := hr24 _ (List.of_mem_zip hq).1; omega)
  have b2 := cal27 (l := differ im (apO im l)) (m := differ im (apO im l)) (by simp [differ]; omega) hdr
  rw [decide_eq_true rfl] at b2
  have k5 : ((0 : Int) == 0) = true := rfl
  rw [cal_code env6 rfl]; simp only [fn6]; simp only [start, z_map_cons, z_map_nil, z_len_cons, z_len_nil, z_repl_zero, z_repl_succ, z_cons_app, z_nil_app, Nat.reduceAdd, Nat.reduceSub]
  simp only [e0, e00, e3, g1, g2, g3, g4, g5, g6, g7, g8, g10, a1, a2, a3, b1, b2, d1, d2, k1, k2, k3, k5, Nat.sub_zero, Nat.zero_le, val_pvs, frozen_pvs, msnoc_len, msnoc_get, msnoc_set, msnoc_take, Int.le_refl, take_map_all, Nat.le_refl, St.freezeRows, BV.frozen, List.take_length, List.take_append_drop, z_repl_zero, Int.toNat_zero, true_and, and_true, and_self, eq_self, z_take_zero, List.drop_nil, List.take_nil, vAll, List.foldl_nil, List.foldl_cons, resultsOf, resultList, resultOf, zBV, splice, PV.remade, St.freezeAt, St.freezeBox, PV.single, plain, act, dstOf, if_true, if_false, reduceCtorEq, St.get, St.put, St.pvOf, St.putRow, St.consume, St.freeze, St.row, St.elems, St.grab, St.takeRow, St.setRow, St.place, St.optPv, St.setCell, St.setCellRow, binPV, intBin, unPV, BV.val, Nat.reduceEqDiff, bound, consumeAll, buildParts, capsOf, capOf, List.append_nil, Nat.reduceAdd, Nat.reduceLT, Nat.reduceLeDiff, beq_self_eq_true, List.length_map, Nat.beq, dcall, dcallP, List.mapM_cons, St.snapFn, St.snap, St.layAll, St.lay, St.freezeArg, St.freezeArg1]
end Go.Proofs.Ytldnpgbacakfeaa.V

namespace Go.Proofs.Ytldnpgbacakfeaa.V
open Go.RowKit Go.ChangeShapes Go.WideShapes Go.ChangeAt
set_option linter.all false

theorem Try.ownKnobV : ownKnob Try.prog.godebug = none := by kernel_rfl
theorem Try.laidOutV : laidOutB Try.prog = true := by kernel_rfl
def okI (n : Int) : Prop := -9223372036854775808 ≤ n ∧ n ≤ 9223372036854775807
theorem sint_i64 {q : PV} (h : SInt .i64 [q]) : ∃ n, okI n ∧ q = eI n := by
  obtain ⟨n, h1, h2⟩ := h
  have h3 : IntKind.i64.min = -9223372036854775808 := rfl
  have h4 : IntKind.i64.max = 9223372036854775807 := rfl
  simp only [Lit.wf, Bool.and_eq_true, decide_eq_true_eq] at h1
  cases h2
  exact ⟨n, ⟨by omega, by omega⟩, rfl⟩
theorem sint_u8 {q : PV} (h : SInt .u8 [q]) : ∃ b : UInt8, q = .int .u8 (b.toNat : Int) := by
  obtain ⟨n, h1, h2⟩ := h
  have h3 : IntKind.u8.min = 0 := rfl
  have h4 : IntKind.u8.max = 255 := rfl
  simp only [Lit.wf, Bool.and_eq_true, decide_eq_true_eq] at h1
  cases h2
  refine ⟨UInt8.ofNat n.toNat, ?_⟩
  rw [UInt8.toNat_ofNat_of_lt' (show n.toNat < 2 ^ 8 by omega)]
  congr 1; omega
theorem sbool {q : PV} (h : SBool [q]) : ∃ b, q = eB b := by
  obtain ⟨b, h2⟩ := h
  cases h2
  exact ⟨b, rfl⟩
def SSec : List PV → Prop := SArr 8 (SInt .u8)
theorem ssec {ps : List PV} (h : SSec ps) : ∃ s : Sec, ps = secPV s := by
  obtain ⟨h1, h2⟩ := h
  have : ∀ l : List PV, (∀ p ∈ l, SInt .u8 [p]) → ∃ m : List UInt8, m.length = l.length ∧ l = m.map fun b => .int .u8 (b.toNat : Int) := by
    intro l
    induction l with
    | nil => exact fun _ => ⟨[], rfl, rfl⟩
    | cons p l ih =>
      intro h
      obtain ⟨b, hb⟩ := sint_u8 (h p (by simp))
      obtain ⟨m, e1, e2⟩ := ih fun q hq => h q (by simp [hq])
      exact ⟨b :: m, by simp [e1], by rw [hb, e2]; rfl⟩
  obtain ⟨m, e1, e2⟩ := this ps h2
  refine ⟨⟨m.toArray, by simp [e1, h1]⟩, ?_⟩
  subst e2
  simp [secPV, Vector.toList]
theorem slist {α : Type} {n : Nat} {S : List PV → Prop} {wr : List PV → PV} {enc : α → PV} {ok : α → Prop} (hS : ∀ ps, S ps → ∃ a, ok a ∧ wr ps = enc a) {q : PV} (h : SList n S wr [q]) : ∃ l : List α, (∀ a ∈ l, ok a) ∧ q = .list n (l.map enc) := by
  obtain ⟨es, h1, h2⟩ := h
  cases h1
  have : ∀ es : List PV, (∀ x ∈ es, ∃ q, S q ∧ x = wr q) → ∃ l : List α, (∀ a ∈ l, ok a) ∧ es = l.map enc := by
    intro es
    induction es with
    | nil => exact fun _ => ⟨[], by simp, rfl⟩
    | cons e es ih =>
      intro h
      obtain ⟨q, h3, h4⟩ := h e (by simp)
      obtain ⟨a, h5, h6⟩ := hS q h3
      obtain ⟨l, h7, h8⟩ := ih fun x hx => h x (by simp [hx])
      exact ⟨a :: l, by simp; exact ⟨h5, h7⟩, by rw [h4, h6, h8]; rfl⟩
  obtain ⟨l, h3, h4⟩ := this es h2
  exact ⟨l, h3, by rw [h4]⟩
theorem wr_int {k : IntKind} {ps : List PV} (h : SInt k ps) : (wrS ps).cells = ps := by
  obtain ⟨n, _, rfl⟩ := h; rfl
theorem wr_list {n : Nat} {S : List PV → Prop} {wr : List PV → PV} {ps : List PV} (h : SList n S wr ps) : (wrS ps).cells = ps := by
  obtain ⟨es, rfl, _⟩ := h; rfl
theorem wr_bool {ps : List PV} (h : SBool ps) : (wrS ps).cells = ps := by
  obtain ⟨b, rfl⟩ := h; rfl
theorem one_of {S : List PV → Prop} {ps : List PV} (h1 : S ps) (h : ∀ ps, S ps → ∃ q, ps = [q]) : ∃ q, ps = [q] ∧ S [q] := by
  obtain ⟨q, rfl⟩ := h ps h1
  exact ⟨q, rfl, h1⟩

def okExt (x : Exn) : Prop := okI x.start ∧ okI x.count
def SExt : List PV → Prop := SCat [SInt .i64, SInt .i64]
theorem sext {ps : List PV} (h : SExt ps) : ∃ x : Exn, okExt x ∧ PV.agg ps = eExt x := by
  obtain ⟨p, q, rfl, ⟨n, h1, rfl⟩, p2, q2, rfl, ⟨m, h2, rfl⟩, rfl⟩ := h
  obtain ⟨a, o1, e1⟩ := sint_i64 ⟨n, h1, rfl⟩
  obtain ⟨b, o2, e2⟩ := sint_i64 ⟨m, h2, rfl⟩
  refine ⟨⟨a, b⟩, ⟨o1, o2⟩, ?_⟩
  rw [e1, e2]; rfl
def SSecs : List PV → Prop := SList 8 SSec .agg
theorem ssecs {q : PV} (h : SSecs [q]) : ∃ l : List Sec, q = eSecs l := by
  obtain ⟨l, _, e⟩ := slist (enc := eSec) (ok := fun _ => True) (fun ps h => by obtain ⟨s, rfl⟩ := ssec h; exact ⟨s, trivial, rfl⟩) h
  exact ⟨l, e⟩
def SImg : List PV → Prop := SList 1 SSecs wrS
theorem simg {q : PV} (h : SImg [q]) : ∃ l : Img, q = .list 1 (l.map eSecs) := by
  obtain ⟨l, _, e⟩ := slist (enc := eSecs) (ok := fun _ => True) (fun ps h => by
    obtain ⟨es, rfl, h2⟩ := h
    obtain ⟨l, e⟩ := ssecs (q := .list 8 es) ⟨es, rfl, h2⟩
    exact ⟨l, trivial, e⟩) h
  exact ⟨l, e⟩
theorem Try.rdInt : RdsC Try.prog 3 1 (SInt .i64) := RdsC.int Try.underlying3 (by kernel_rfl)
theorem Try.rdU8 : RdsC Try.prog 5 1 (SInt .u8) := RdsC.int Try.underlying5 (by kernel_rfl)
theorem Try.rdSec : RdsC Try.prog 52 8 SSec := RdsC.arr Try.underlying52 Try.rdU8 (by kernel_rfl)
theorem Try.rdSecs : RdsC Try.prog 40 1 SSecs := RdsC.list Try.underlying40 (by kernel_rfl) Try.rdSec (by decide) (fun _ _ _ => rfl)
theorem Try.rdImg : RdsC Try.prog 24 1 SImg := RdsC.list Try.underlying24 (by kernel_rfl) Try.rdSecs (by decide) (fun _ h _ => wr_list h)
theorem Try.rdExt : RdsC Try.prog 59 2 SExt := RdsC.struct2 Try.underlying59 Try.rdInt Try.rdInt rfl rfl (by kernel_rfl)
end Go.Proofs.Ytldnpgbacakfeaa.V

namespace Go.Proofs.Ytldnpgbacakfeaa.V
open Go.RowKit Go.ChangeShapes Go.WideShapes Go.ChangeAt
set_option linter.all false
theorem su8 {q : PV} (h : SInt .u8 [q]) : ∃ c : Nat, c < 256 ∧ q = .int .u8 (c : Int) := by
  obtain ⟨b, e⟩ := sint_u8 h
  exact ⟨b.toNat, b.toNat_lt, e⟩
theorem i64b_ok {n : Int} (h : okI n) : i64b n = true := by
  unfold okI at h
  simp only [i64b, Bool.and_eq_true, decide_eq_true_eq]; exact h
def SWr : List PV → Prop := SCat [SInt .i64, SInt .i64, SSecs]
theorem swr {ps : List PV} (h : SWr ps) : ∃ x : Wrt, (i64b x.volume = true ∧ i64b x.start = true) ∧ PV.agg ps = eWr x := by
  obtain ⟨p, q, rfl, ⟨n, h1, rfl⟩, p2, q2, rfl, ⟨m, h2, rfl⟩, p3, q3, rfl, h3, rfl⟩ := h
  obtain ⟨a, o1, e1⟩ := sint_i64 ⟨n, h1, rfl⟩
  obtain ⟨b, o2, e2⟩ := sint_i64 ⟨m, h2, rfl⟩
  obtain ⟨es, rfl, h4⟩ := h3
  obtain ⟨l, e3⟩ := ssecs (q := .list 8 es) ⟨es, rfl, h4⟩
  refine ⟨⟨a, b, l⟩, ⟨i64b_ok o1, i64b_ok o2⟩, ?_⟩
  rw [e1, e2, e3]; rfl
def SWrs : List PV → Prop := SList 3 SWr .agg
theorem swrs {q : PV} (h : SWrs [q]) : ∃ l : List Wrt, okW l ∧ q = .list 3 (l.map eWr) :=
  slist (enc := eWr) (ok := fun x => i64b x.volume = true ∧ i64b x.start = true) (fun ps h => swr h) h
theorem Try.rdWr : RdsC Try.prog 42 3 SWr := RdsC.struct3 Try.underlying42 Try.rdInt Try.rdInt Try.rdSecs rfl rfl rfl (by kernel_rfl)
theorem Try.rdWrs : RdsC Try.prog 38 1 SWrs := RdsC.list Try.underlying38 (by kernel_rfl) Try.rdWr (by decide) (fun _ _ _ => rfl)
end Go.Proofs.Ytldnpgbacakfeaa.V
