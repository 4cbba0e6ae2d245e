/-
  Part 8 of the texts that the statement stands on.
-/
import Derived.Test.YtncobemfpammfaaGreatDoorZ7
import Derived.Test.YtncobemfpammfaaGreatDoorRows
set_option linter.all false
namespace Go.Proofs.YtncobemfpammfaaGreatDoor.V
theorem bmNew_take {im : Img} {i : Nat} (hi : i < im.length) : ((bmNew im).take (i + 1)).map eBm = ((bmNew im).take i).map eBm ++ [eBm (newO (im[i].length : Int))] := by
  have h : i < (bmNew im).length := by simp [bmNew]; exact hi
  rw [List.take_succ_eq_append_getElem h, List.map_append]
  simp [bmNew]
def mkN (p : List Bm) (l : List Wrt) (i : Nat) : List Bm := (l.take i).foldl mkW p
theorem mkN_succ {p : List Bm} {l : List Wrt} {i : Nat} (h : i < l.length) : mkN p l (i + 1) = mkW (mkN p l i) l[i] := by
  unfold mkN
  rw [List.take_succ_eq_append_getElem h, List.foldl_append]
  rfl
theorem mkN_all (p : List Bm) (l : List Wrt) : mkN p l l.length = l.foldl mkW p := by unfold mkN; rw [List.take_length]
theorem mkN_inv {im : Img} {p : List Bm} {M : Nat → Nat → Bool} {l : List Wrt} (h : BmInv im p M) (hw : ∀ w ∈ l, wrErr (szsOf im) w = 0) (i : Nat) : BmInv im (mkN p l i) fun v s => M v s || (l.take i).any fun w => hit w v s :=
  mks_inv _ h fun w hm => hw w (List.mem_of_mem_take hm)
theorem rem_bm (a : Bm) (cs : List PV) : PV.remade (eBm a) cs = some (.agg cs) := rfl
theorem cells_bm (a : Bm) : (eBm a).cells = [.int .i64 a.size, .list 1 (a.ws.map eW)] := rfl
theorem set_bm (l : List Bm) (k : Nat) (b : Bm) : (l.map eBm).set k (.agg [.int .i64 b.size, .list 1 (b.ws.map eW)]) = (l.set k b).map eBm := by
  rw [List.map_set]; rfl
set_option maxRecDepth 20000 in
theorem loop3 {im x y : Img} {a b : List Wrt} (hm : im.length ≤ lim) (hr : ∀ v ∈ im, v.length ≤ 4096) {st : St} (h : st.head [0, 1, 2, 7, 10, 13, 14, 15, 49, 56, 99, 103] st.boxes.length = some ⟨sl 235 [(0, .pv (.list 1 (im.map eSecs))), (1, .pv (.list 3 (a.map eWr))), (2, .pv (.list 3 (b.map eWr))), (7, .pv (.list 1 (x.map eSecs))), (10, .pv (.list 1 (y.map eSecs))), (13, .row 2 (((bmNew im).take ((0 : Nat))).map eBm)), (14, .row 2 (((bmNew im).take ((0 : Nat))).map eBm)), (15, .pv (.int .i64 (0 : Nat))), (49, .pv (.list 1 (x.map eSecs))), (56, .pv (.list 1 (y.map eSecs))), (99, .any), (103, .any)], [], [], none⟩) :
   den env fn3_l1 st = some (.normal, ⟨sl 235 [(0, .pv (.list 1 (im.map eSecs))), (1, .pv (.list 3 (a.map eWr))), (2, .pv (.list 3 (b.map eWr))), (6, .any), (7, .pv (.list 1 (x.map eSecs))), (10, .pv (.list 1 (y.map eSecs))), (13, .row 2 ((bmNew im).map eBm)), (14, .row 2 ((bmNew im).map eBm)), (49, .pv (.list 1 (x.map eSecs))), (56, .pv (.list 1 (y.map eSecs))), (99, .any), (103, .any)], [], [], none⟩) := by
  unfold fn3_l1
  refine clean_up (env := env) (im.length) (fun i => ⟨sl 235 [(0, .pv (.list 1 (im.map eSecs))), (1, .pv (.list 3 (a.map eWr))), (2, .pv (.list 3 (b.map eWr))), (7, .pv (.list 1 (x.map eSecs))), (10, .pv (.list 1 (y.map eSecs))), (13, .row 2 (((bmNew im).take (i)).map eBm)), (14, .row 2 (((bmNew im).take (i)).map eBm)), (15, .pv (.int .i64 i)), (49, .pv (.list 1 (x.map eSecs))), (56, .pv (.list 1 (y.map eSecs))), (99, .any), (103, .any)], [], [], none⟩) (fun i => some (.normal, ⟨sl 235 [(0, .pv (.list 1 (im.map eSecs))), (1, .pv (.list 3 (a.map eWr))), (2, .pv (.list 3 (b.map eWr))), (6, .any), (7, .pv (.list 1 (x.map eSecs))), (10, .pv (.list 1 (y.map eSecs))), (13, .row 2 ((bmNew im).map eBm)), (14, .row 2 ((bmNew im).map eBm)), (49, .pv (.list 1 (x.map eSecs))), (56, .pv (.list 1 (y.map eSecs))), (99, .any), (103, .any)], [], [], none⟩)) h (fun _ => rfl) (fun _ => by simp only [slAll, slsAll, Nat.reduceMul, Nat.reduceBEq, Nat.reduceLT, Nat.reduceLeDiff, Nat.reduceAdd, decide_true, Bool.and_self, Bool.true_and]) ?_ ?_
  · intro i rb hi ih

    have hi1 := i64_next hi hm
    have F1 : ((i : Int) < (im.length : Int)) = True := eq_true (by omega)
    have h4 := hr _ (List.getElem_mem hi)
    have e1 := cal8 (n := (im[i].length : Int))
    rw [(new_ok h4).1] at e1
    have hz : (newO (im[i].length : Int)) = newO (im[i].length : Int) := rfl
    have eA : eBm (newO (im[i].length : Int)) = .agg [.int .i64 (newO (im[i].length : Int)).size, .list 1 ((newO (im[i].length : Int)).ws.map eW)] := rfl
    have hs := bmNew_take hi
    rw [eA] at e1 hs
    have Z : ((0 : Int) != 0) = false := rfl
    have hl : (((bmNew im).take i).map eBm).length + 1 ≤ lim := by rw [List.length_map, List.length_take, show (bmNew im).length = im.length by simp [bmNew]]; omega
    have F3 : (((bmNew im).take i).length + 1 ≤ lim) = True := eq_true (by rw [List.length_map] at hl; exact hl)
    simp only [fn3_b0, F1, F3, e1, Z, eSecs, index_nat hi, List.getElem?_map, List.getElem?_eq_getElem hi, Option.map_some, List.length_map, part_more, slAll, slsAll, Nat.reduceMul, Nat.reduceBEq, Nat.reduceLT, Nat.reduceLeDiff, memAll, vAll, reduceCtorEq, Nat.reduceEqDiff, Nat.reduceAdd, Nat.reduceLT, Nat.reduceLeDiff, Nat.beq]
    rw [ih _ (by rw [hs]; simp only [hi1, slAll, slsAll, Nat.reduceMul, Nat.reduceBEq, Nat.reduceLT, Nat.reduceLeDiff, memAll, vAll, reduceCtorEq, Nat.reduceEqDiff, Nat.reduceAdd, Nat.reduceLT, Nat.reduceLeDiff, Nat.beq] <;> rfl)]
  · intro rb

    have hz : (bmNew im).take im.length = bmNew im := List.take_of_length_le (by simp [bmNew])
    rw [hz]
    simp only [fn3_b0, Int.lt_irrefl, List.length_map, slAll, slsAll, Nat.reduceMul, Nat.reduceBEq, Nat.reduceLT, Nat.reduceLeDiff, memAll, vAll, reduceCtorEq, Nat.reduceEqDiff, Nat.reduceAdd, Nat.reduceLT, Nat.reduceLeDiff, Nat.beq]

set_option maxRecDepth 20000 in
theorem loop3l3 {im x y : Img} {l b : List Wrt} {p q : List Bm} {M : Nat → Nat → Bool} (hl : l.length ≤ lim) (hp0 : BmInv im p M) (hw : ∀ w ∈ l, wrErr (szsOf im) w = 0) {st : St} (h : st.head [0, 1, 2, 7, 10, 13, 14, 20, 49, 56, 99, 103] st.boxes.length = some ⟨sl 235 [(0, .pv (.list 1 (im.map eSecs))), (1, .pv (.list 3 (l.map eWr))), (2, .pv (.list 3 (b.map eWr))), (7, .pv (.list 1 (x.map eSecs))), (10, .pv (.list 1 (y.map eSecs))), (13, .row 2 ((mkN p l ((0 : Nat))).map eBm)), (14, .row 2 (q.map eBm)), (20, .pv (.int .i64 (0 : Nat))), (49, .pv (.list 1 (x.map eSecs))), (56, .pv (.list 1 (y.map eSecs))), (99, .any), (103, .any)], [], [], none⟩) :
   den env fn3_l3 st = some (.normal, ⟨sl 235 [(0, .pv (.list 1 (im.map eSecs))), (2, .pv (.list 3 (b.map eWr))), (6, .any), (7, .pv (.list 1 (x.map eSecs))), (10, .pv (.list 1 (y.map eSecs))), (13, .row 2 ((l.foldl mkW p).map eBm)), (14, .row 2 (q.map eBm)), (49, .pv (.list 1 (x.map eSecs))), (56, .pv (.list 1 (y.map eSecs))), (99, .any), (103, .any)], [], [], none⟩) := by
  unfold fn3_l3
  refine clean_up (env := env) (l.length) (fun i => ⟨sl 235 [(0, .pv (.list 1 (im.map eSecs))), (1, .pv (.list 3 (l.map eWr))), (2, .pv (.list 3 (b.map eWr))), (7, .pv (.list 1 (x.map eSecs))), (10, .pv (.list 1 (y.map eSecs))), (13, .row 2 ((mkN p l (i)).map eBm)), (14, .row 2 (q.map eBm)), (20, .pv (.int .i64 i)), (49, .pv (.list 1 (x.map eSecs))), (56, .pv (.list 1 (y.map eSecs))), (99, .any), (103, .any)], [], [], none⟩) (fun i => some (.normal, ⟨sl 235 [(0, .pv (.list 1 (im.map eSecs))), (2, .pv (.list 3 (b.map eWr))), (6, .any), (7, .pv (.list 1 (x.map eSecs))), (10, .pv (.list 1 (y.map eSecs))), (13, .row 2 ((l.foldl mkW p).map eBm)), (14, .row 2 (q.map eBm)), (49, .pv (.list 1 (x.map eSecs))), (56, .pv (.list 1 (y.map eSecs))), (99, .any), (103, .any)], [], [], none⟩)) h (fun _ => rfl) (fun _ => by simp only [slAll, slsAll, Nat.reduceMul, Nat.reduceBEq, Nat.reduceLT, Nat.reduceLeDiff, Nat.reduceAdd, decide_true, Bool.and_self, Bool.true_and]) ?_ ?_
  · intro i rb hi ih

    have hi1 := i64_next hi hl
    have F1 : ((i : Int) < (l.length : Int)) = True := eq_true (by omega)
    have hI := mkN_inv (l := l) hp0 hw i
    have hwi := hw _ (List.getElem_mem hi)
    obtain ⟨g1, g2, _⟩ := mk_fit hI hwi
    obtain ⟨g4, _⟩ := mk_inv hI hwi
    have hN := mkN_succ (p := p) hi
    have hk : l[i].volume.toNat < (mkN p l i).length := by rw [hI.1]; exact g1
    have gd : (mkN p l i).getD l[i].volume.toNat zBm = (mkN p l i)[l[i].volume.toNat] := getD_lt hk
    unfold mkW at hN
    rw [gd] at g4 hN
    have e1 := cal9 (b := (mkN p l i)[l[i].volume.toNat]) (e := wX1 l[i])
    rw [g4] at e1
    have hsb := set_bm (mkN p l i) l[i].volume.toNat (chO orW (mkN p l i)[l[i].volume.toNat] (wX1 l[i]))
    rw [← hN] at hsb
    have e1 : cal env 9 [.agg [.int .i64 (mkN p l i)[l[i].volume.toNat].size, .list 1 ((mkN p l i)[l[i].volume.toNat].ws.map eW)], .agg [.int .i64 l[i].start, .int .i64 (l[i].data.length : Int)]] = some [(.agg [.int .i64 (chO orW (mkN p l i)[l[i].volume.toNat] (wX1 l[i])).size, .list 1 ((chO orW (mkN p l i)[l[i].volume.toNat] (wX1 l[i])).ws.map eW)], false), (.int .i64 0, false)] := e1
    have Z : ((0 : Int) != 0) = false := rfl
    have eV : PV.int .i64 l[i].volume = .int .i64 ((l[i].volume.toNat : Nat) : Int) := by rw [g2]
    have eWi : (eWr l[i]).cells = [.int .i64 ((l[i].volume.toNat : Nat) : Int), .int .i64 l[i].start, .list 8 (l[i].data.map eSec)] := by rw [← eV]; rfl
    generalize chO orW (mkN p l i)[l[i].volume.toNat] (wX1 l[i]) = nb at *
    simp only [fn3_b2, F1, e1, Z, hsb, eWi, rem_bm, cells_bm, index_nat hi, index_nat hk, List.getElem?_map, List.getElem?_eq_getElem hi, List.getElem?_eq_getElem hk, Option.map_some, List.length_map, part_more, slAll, slsAll, Nat.reduceMul, Nat.reduceBEq, Nat.reduceLT, Nat.reduceLeDiff, memAll, vAll, reduceCtorEq, Nat.reduceEqDiff, Nat.reduceAdd, Nat.reduceLT, Nat.reduceLeDiff, Nat.beq]
    rw [ih _ (by simp only [hi1, slAll, slsAll, Nat.reduceMul, Nat.reduceBEq, Nat.reduceLT, Nat.reduceLeDiff, memAll, vAll, reduceCtorEq, Nat.reduceEqDiff, Nat.reduceAdd, Nat.reduceLT, Nat.reduceLeDiff, Nat.beq] <;> rfl)]
  · intro rb

    rw [mkN_all]
    simp only [fn3_b2, Int.lt_irrefl, List.length_map, slAll, slsAll, Nat.reduceMul, Nat.reduceBEq, Nat.reduceLT, Nat.reduceLeDiff, memAll, vAll, reduceCtorEq, Nat.reduceEqDiff, Nat.reduceAdd, Nat.reduceLT, Nat.reduceLeDiff, Nat.beq]

set_option maxRecDepth 20000 in
theorem loop3l5 {im x y : Img} {l : List Wrt} {p q : List Bm} {M : Nat → Nat → Bool} (hl : l.length ≤ lim) (hp0 : BmInv im p M) (hw : ∀ w ∈ l, wrErr (szsOf im) w = 0) {st : St} (h : st.head [0, 2, 7, 10, 13, 14, 21, 49, 56, 99, 103] st.boxes.length = some ⟨sl 235 [(0, .pv (.list 1 (im.map eSecs))), (2, .pv (.list 3 (l.map eWr))), (7, .pv (.list 1 (x.map eSecs))), (10, .pv (.list 1 (y.map eSecs))), (13, .row 2 (q.map eBm)), (14, .row 2 ((mkN p l ((0 : Nat))).map eBm)), (21, .pv (.int .i64 (0 : Nat))), (49, .pv (.list 1 (x.map eSecs))), (56, .pv (.list 1 (y.map eSecs))), (99, .any), (103, .any)], [], [], none⟩) :
   den env fn3_l5 st = some (.normal, ⟨sl 235 [(0, .pv (.list 1 (im.map eSecs))), (6, .any), (7, .pv (.list 1 (x.map eSecs))), (10, .pv (.list 1 (y.map eSecs))), (13, .row 2 (q.map eBm)), (14, .row 2 ((l.foldl mkW p).map eBm))], [], [], none⟩) := by
  unfold fn3_l5
  refine clean_up (env := env) (l.length) (fun i => ⟨sl 235 [(0, .pv (.list 1 (im.map eSecs))), (2, .pv (.list 3 (l.map eWr))), (7, .pv (.list 1 (x.map eSecs))), (10, .pv (.list 1 (y.map eSecs))), (13, .row 2 (q.map eBm)), (14, .row 2 ((mkN p l (i)).map eBm)), (21, .pv (.int .i64 i)), (49, .pv (.list 1 (x.map eSecs))), (56, .pv (.list 1 (y.map eSecs))), (99, .any), (103, .any)], [], [], none⟩) (fun i => some (.normal, ⟨sl 235 [(0, .pv (.list 1 (im.map eSecs))), (6, .any), (7, .pv (.list 1 (x.map eSecs))), (10, .pv (.list 1 (y.map eSecs))), (13, .row 2 (q.map eBm)), (14, .row 2 ((l.foldl mkW p).map eBm))], [], [], none⟩)) h (fun _ => rfl) (fun _ => by simp only [slAll, slsAll, Nat.reduceMul, Nat.reduceBEq, Nat.reduceLT, Nat.reduceLeDiff, Nat.reduceAdd, decide_true, Bool.and_self, Bool.true_and]) ?_ ?_
  · intro i rb hi ih

    have hi1 := i64_next hi hl
    have F1 : ((i : Int) < (l.length : Int)) = True := eq_true (by omega)
    have hI := mkN_inv (l := l) hp0 hw i
    have hwi := hw _ (List.getElem_mem hi)
    obtain ⟨g1, g2, _⟩ := mk_fit hI hwi
    obtain ⟨g4, _⟩ := mk_inv hI hwi
    have hN := mkN_succ (p := p) hi
    have hk : l[i].volume.toNat < (mkN p l i).length := by rw [hI.1]; exact g1
    have gd : (mkN p l i).getD l[i].volume.toNat zBm = (mkN p l i)[l[i].volume.toNat] := getD_lt hk
    unfold mkW at hN
    rw [gd] at g4 hN
    have e1 := cal9 (b := (mkN p l i)[l[i].volume.toNat]) (e := wX1 l[i])
    rw [g4] at e1
    have hsb := set_bm (mkN p l i) l[i].volume.toNat (chO orW (mkN p l i)[l[i].volume.toNat] (wX1 l[i]))
    rw [← hN] at hsb
    have e1 : cal env 9 [.agg [.int .i64 (mkN p l i)[l[i].volume.toNat].size, .list 1 ((mkN p l i)[l[i].volume.toNat].ws.map eW)], .agg [.int .i64 l[i].start, .int .i64 (l[i].data.length : Int)]] = some [(.agg [.int .i64 (chO orW (mkN p l i)[l[i].volume.toNat] (wX1 l[i])).size, .list 1 ((chO orW (mkN p l i)[l[i].volume.toNat] (wX1 l[i])).ws.map eW)], false), (.int .i64 0, false)] := e1
    have Z : ((0 : Int) != 0) = false := rfl
    have eV : PV.int .i64 l[i].volume = .int .i64 ((l[i].volume.toNat : Nat) : Int) := by rw [g2]
    have eWi : (eWr l[i]).cells = [.int .i64 ((l[i].volume.toNat : Nat) : Int), .int .i64 l[i].start, .list 8 (l[i].data.map eSec)] := by rw [← eV]; rfl
    generalize chO orW (mkN p l i)[l[i].volume.toNat] (wX1 l[i]) = nb at *
    simp only [fn3_b4, F1, e1, Z, hsb, eWi, rem_bm, cells_bm, index_nat hi, index_nat hk, List.getElem?_map, List.getElem?_eq_getElem hi, List.getElem?_eq_getElem hk, Option.map_some, List.length_map, part_more, slAll, slsAll, Nat.reduceMul, Nat.reduceBEq, Nat.reduceLT, Nat.reduceLeDiff, memAll, vAll, reduceCtorEq, Nat.reduceEqDiff, Nat.reduceAdd, Nat.reduceLT, Nat.reduceLeDiff, Nat.beq]
    rw [ih _ (by simp only [hi1, slAll, slsAll, Nat.reduceMul, Nat.reduceBEq, Nat.reduceLT, Nat.reduceLeDiff, memAll, vAll, reduceCtorEq, Nat.reduceEqDiff, Nat.reduceAdd, Nat.reduceLT, Nat.reduceLeDiff, Nat.beq] <;> rfl)]
  · intro rb

    rw [mkN_all]
    simp only [fn3_b4, Int.lt_irrefl, List.length_map, slAll, slsAll, Nat.reduceMul, Nat.reduceBEq, Nat.reduceLT, Nat.reduceLeDiff, memAll, vAll, reduceCtorEq, Nat.reduceEqDiff, Nat.reduceAdd, Nat.reduceLT, Nat.reduceLeDiff, Nat.beq]

set_option maxRecDepth 20000 in
theorem cal3 {im : Img} {a b : List Wrt} (ha : okW a) (hb : okW b) : cal env 3 [.list 1 (im.map eSecs), .list 3 (a.map eWr), .list 3 (b.map eWr)] = some [(.bool true, false)] := by
  have e3 := calAwake
  have e0 := cal4 (im := im)
  have e1 := cal5 (l := a)
  have e2 := cal5 (l := b)
  cases hfa : few7 im with
  | false =>
    rw [hfa] at e0
    rw [cal_code env3 rfl]; simp only [fn3, slAll, Nat.reduceBEq, Nat.reduceLeDiff, Nat.reduceAdd, List.length_cons, List.length_nil]
    simp only [e0, e3, slAll, slsAll, Nat.reduceMul, Nat.reduceBEq, Nat.reduceLT, Nat.reduceLeDiff, memAll, vAll, reduceCtorEq, Nat.reduceEqDiff, Nat.reduceAdd, Nat.reduceLT, Nat.reduceLeDiff, Nat.beq]
  | true =>
    rw [hfa] at e0
    cases hf1 : few22 a with
    | false =>
      rw [hf1] at e1
      rw [cal_code env3 rfl]; simp only [fn3, slAll, Nat.reduceBEq, Nat.reduceLeDiff, Nat.reduceAdd, List.length_cons, List.length_nil]
      simp only [e0, e1, e3, slAll, slsAll, Nat.reduceMul, Nat.reduceBEq, Nat.reduceLT, Nat.reduceLeDiff, memAll, vAll, reduceCtorEq, Nat.reduceEqDiff, Nat.reduceAdd, Nat.reduceLT, Nat.reduceLeDiff, Nat.beq]
    | true =>
      rw [hf1] at e1
      cases hf2 : few22 b with
      | false =>
        rw [hf2] at e2
        rw [cal_code env3 rfl]; simp only [fn3, slAll, Nat.reduceBEq, Nat.reduceLeDiff, Nat.reduceAdd, List.length_cons, List.length_nil]
        simp only [e0, e1, e2, e3, slAll, slsAll, Nat.reduceMul, Nat.reduceBEq, Nat.reduceLT, Nat.reduceLeDiff, memAll, vAll, reduceCtorEq, Nat.reduceEqDiff, Nat.reduceAdd, Nat.reduceLT, Nat.reduceLeDiff, Nat.beq]
      | true =>
        rw [hf2] at e2
        obtain ⟨a1, a2⟩ := few7_b' hfa
        have hlim : lim = 1073741824 := rfl
        have hri : ∀ v ∈ im, v.length ≤ 1000000 := fun v hv => by have := a2 v hv; omega
        have hr4 : ∀ v ∈ im, v.length ≤ 4096 := fun v hv => by have := a2 v hv; omega
        have la := (few22_len hf1).1
        have lb := (few22_len hf2).1
        have k1 := cal7 (im := im) (l := a) ha (by omega) hri
        have k2 := cal7 (im := im) (l := b) hb (by omega) hri
        have Z : ((0 : Int) != 0) = false := rfl
        by_cases c1 : apE im a = 0
        · by_cases c2 : apE im b = 0
          · rw [c1] at k1
            rw [c2] at k2
            have h0 := apE_szs c1
            have hA : (wrErrs (szsOf im) a 0).2 = 0 := by unfold apE at c1; rwa [if_neg (by rw [h0]; simp)] at c1
            have hB : (wrErrs (szsOf im) b 0).2 = 0 := by unfold apE at c2; rwa [if_neg (by rw [h0]; simp)] at c2
            have fa := all_fit a im 0 hA
            have fb := all_fit b im 0 hB
            have i0 := new_inv hr4
            have ia := mks_inv a i0 fa
            have ib := mks_inv b i0 fb
            obtain ⟨u1, u2⟩ := union_inv ia ib
            have u2 : BmInv im (mrgO (a.foldl mkW (bmNew im)) (b.foldl mkW (bmNew im))) fun v s => (a.any fun w => hit w v s) || (b.any fun w => hit w v s) := by simpa using u2
            have hh := cov_hits c1 c2 u2
            have sx := apO_sizes c1
            have sy := apO_sizes c2
            obtain ⟨x1, x2⟩ := sz_small (k := 4096) sx (by omega) hr4
            obtain ⟨y1, y2⟩ := sz_small (k := 4096) sy (by omega) hr4
            obtain ⟨x3, x4⟩ := sz_small (k := 1000) sx (by omega) (fun v hv => by have := a2 v hv; omega)
            have hxl := (sizes_inj (a := apO im a) (b := im) sx).1
            have ux := inv_sizes u2 sx
            have hfit := inv_fit ux x2
            have hok := inv_ok ux x2
            have hss : imSizes (apO im a) = imSizes (apO im b) := sx.trans sy.symm
            obtain ⟨z1, z2⟩ := sizes_inj hss
            have hlr : (mrgX (a.foldl mkW (bmNew im)) (b.foldl mkW (bmNew im))).length = im.length := by unfold mrgX; rw [List.length_map]; exact u2.1
            have k3 := cal10 (a := a.foldl mkW (bmNew im)) (b := b.foldl mkW (bmNew im)) (by rw [ia.1]; omega)
            rw [u1] at k3
            have hR : mrgX (a.foldl mkW (bmNew im)) (b.foldl mkW (bmNew im)) = (mrgO (a.foldl mkW (bmNew im)) (b.foldl mkW (bmNew im))).map bmX := rfl
            rw [← hR] at hh hfit hok
            generalize mrgX (a.foldl mkW (bmNew im)) (b.foldl mkW (bmNew im)) = r at k3 hh hfit hok hlr
            have k4 := cal11 (a := apO im a) (b := apO im b) (l := r) z1 z2 (by omega) (by omega) x4 (fun x hx => (hok x hx).1) (fun x hx => by have := (hok x hx).2; omega)
            rw [(num_zero hss x2).2 hh] at k4
            have hc0 : imCheck (apO im a) = 0 := by
              have : szErr (szsOf (apO im a)) = 0 := by rw [sx]; exact h0
              exact this
            have hc1 : imCheck (apO im b) = 0 := by
              have : szErr (szsOf (apO im b)) = 0 := by rw [sy]; exact h0
              exact this
            have hw0 : wrE (apO im a) r = 0 := by
              unfold wrE
              rw [if_neg (by rw [hc0]; simp)]
              exact hfit
            have hxi : ∀ v ∈ apO im a, v.length ≤ 1000000 := fun v hv => by have := x2 v hv; omega
            have hyi : ∀ v ∈ apO im b, v.length ≤ 1000000 := fun v hv => by have := y2 v hv; omega
            have hW : (wrL (apO im a) r).length ≤ 1000000 := by
              have := wrN_len (im := apO im a) (fun x hx => (hok x hx).2) r.length (Nat.le_refl _)
              have h9 : 4096 * r.length ≤ 4096 * 9 := Nat.mul_le_mul_left _ (by omega)
              unfold wrL; omega
            have k5 := cal12 (im := apO im a) (l := r) (by omega) hxi (fun x hx => (hok x hx).1) (fun x hx => by have := (hok x hx).2; omega) (by omega) (fun _ => hW)
            unfold wrO at k5
            rw [if_pos hw0, hw0] at k5
            have k6 := cal7 (im := apO im b) (l := wrL (apO im a) r) (seq_ok (wrL_seq hfit) (by omega) hxi) (by omega) hyi
            obtain ⟨m1, _, _⟩ := ap_wr (x := r) hss hfit hc1
            rw [m1, (ap_all hss hfit hc1).2 hh] at k6
            have k7 := cal13 (a := apO im a) (b := apO im a) (by omega) (fun v hv => by have := x2 v hv; omega)
            rw [decide_eq_true rfl] at k7
            have Q : (((r.length : Nat) : Int) != (im.length : Int)) = false := by rw [hlr]; simp
            rw [cal_code env3 rfl]; simp only [fn3, slAll, Nat.reduceBEq, Nat.reduceLeDiff, Nat.reduceAdd, List.length_cons, List.length_nil]
            simp only [e0, e1, e2, e3, k1, k2, Z, List.length_map, slAll, slsAll, Nat.reduceMul, Nat.reduceBEq, Nat.reduceLT, Nat.reduceLeDiff, memAll, vAll, reduceCtorEq, Nat.reduceEqDiff, Nat.reduceAdd, Nat.reduceLT, Nat.reduceLeDiff, Nat.beq]
            rw [loop3 (by omega) hr4]
            rotate_left
            · rw [List.take_zero]
              simp only [slAll, slsAll, Nat.reduceMul, Nat.reduceBEq, Nat.reduceLT, Nat.reduceLeDiff, Nat.reduceAdd, decide_true, Bool.and_self, Bool.true_and] <;> rfl
            simp only [e0, e1, e2, e3, k1, k2, Z, List.length_map, slAll, slsAll, Nat.reduceMul, Nat.reduceBEq, Nat.reduceLT, Nat.reduceLeDiff, memAll, vAll, reduceCtorEq, Nat.reduceEqDiff, Nat.reduceAdd, Nat.reduceLT, Nat.reduceLeDiff, Nat.beq]
            rw [loop3l3 (p := bmNew im) (q := bmNew im) (by omega) i0 fa]
            rotate_left
            · simp only [slAll, slsAll, Nat.reduceMul, Nat.reduceBEq, Nat.reduceLT, Nat.reduceLeDiff, Nat.reduceAdd, decide_true, Bool.and_self, Bool.true_and] <;> rfl
            simp only [e0, e1, e2, e3, k1, k2, Z, List.length_map, slAll, slsAll, Nat.reduceMul, Nat.reduceBEq, Nat.reduceLT, Nat.reduceLeDiff, memAll, vAll, reduceCtorEq, Nat.reduceEqDiff, Nat.reduceAdd, Nat.reduceLT, Nat.reduceLeDiff, Nat.beq]
            rw [loop3l5 (p := bmNew im) (q := a.foldl mkW (bmNew im)) (by omega) i0 fb]
            rotate_left
            · simp only [slAll, slsAll, Nat.reduceMul, Nat.reduceBEq, Nat.reduceLT, Nat.reduceLeDiff, Nat.reduceAdd, decide_true, Bool.and_self, Bool.true_and] <;> rfl
            have Z2 : (((0 : Nat) : Int) == 0) = true := rfl
            simp only [k3, k4, k5, k6, k7, e3, Z, Z2, Q, List.length_map, slAll, slsAll, Nat.reduceMul, Nat.reduceBEq, Nat.reduceLT, Nat.reduceLeDiff, memAll, vAll, reduceCtorEq, Nat.reduceEqDiff, Nat.reduceAdd, Nat.reduceLT, Nat.reduceLeDiff, Nat.beq]
          · have G : (apE im b != 0) = true := by simp [c2]
            rw [c1] at k1
            rw [cal_code env3 rfl]; simp only [fn3, slAll, Nat.reduceBEq, Nat.reduceLeDiff, Nat.reduceAdd, List.length_cons, List.length_nil]
            simp only [e0, e1, e2, e3, k1, k2, G, Z, slAll, slsAll, Nat.reduceMul, Nat.reduceBEq, Nat.reduceLT, Nat.reduceLeDiff, memAll, vAll, reduceCtorEq, Nat.reduceEqDiff, Nat.reduceAdd, Nat.reduceLT, Nat.reduceLeDiff, Nat.beq]
        · have G : (apE im a != 0) = true := by simp [c1]
          rw [cal_code env3 rfl]; simp only [fn3, slAll, Nat.reduceBEq, Nat.reduceLeDiff, Nat.reduceAdd, List.length_cons, List.length_nil]
          simp only [e0, e1, e2, e3, k1, k2, G, Z, slAll, slsAll, Nat.reduceMul, Nat.reduceBEq, Nat.reduceLT, Nat.reduceLeDiff, memAll, vAll, reduceCtorEq, Nat.reduceEqDiff, Nat.reduceAdd, Nat.reduceLT, Nat.reduceLeDiff, Nat.beq]
end Go.Proofs.YtncobemfpammfaaGreatDoor.V

namespace Go.Proofs.YtncobemfpammfaaGreatDoor.V
open Go.RowKit Go.ChangeShapes Go.WideShapes Go.ChangeAt

theorem Tryz.ownKnobV : ownKnob Tryz.prog.godebug = none := by kernel_rfl
theorem Tryz.laidOutV : laidOutB Tryz.prog = true := by kernel_rfl
def okI (n : Int) : Prop := -9223372036854775808 ≤ n ∧ n ≤ 9223372036854775807
theorem sint_i64 {q : PV} (h : SInt .i64 [q]) : ∃ n, okI n ∧ q = eI n := by
  obtain ⟨n, h1, h2⟩ := h
  have h3 : IntKind.i64.min = -9223372036854775808 := rfl
  have h4 : IntKind.i64.max = 9223372036854775807 := rfl
  simp only [Lit.wf, Bool.and_eq_true, decide_eq_true_eq] at h1
  cases h2
  exact ⟨n, ⟨by omega, by omega⟩, rfl⟩
theorem sint_u8 {q : PV} (h : SInt .u8 [q]) : ∃ b : UInt8, q = .int .u8 (b.toNat : Int) := by
  obtain ⟨n, h1, h2⟩ := h
  have h3 : IntKind.u8.min = 0 := rfl
  have h4 : IntKind.u8.max = 255 := rfl
  simp only [Lit.wf, Bool.and_eq_true, decide_eq_true_eq] at h1
  cases h2
  refine ⟨UInt8.ofNat n.toNat, ?_⟩
  rw [UInt8.toNat_ofNat_of_lt' (show n.toNat < 2 ^ 8 by omega)]
  congr 1; omega
def SSec : List PV → Prop := SArr 8 (SInt .u8)
theorem ssec {ps : List PV} (h : SSec ps) : ∃ s : Sec, ps = secPV s := by
  obtain ⟨h1, h2⟩ := h
  have : ∀ l : List PV, (∀ p ∈ l, SInt .u8 [p]) → ∃ m : List UInt8, m.length = l.length ∧ l = m.map fun b => .int .u8 (b.toNat : Int) := by
    intro l
    induction l with
    | nil => exact fun _ => ⟨[], rfl, rfl⟩
    | cons p l ih =>
      intro h
      obtain ⟨b, hb⟩ := sint_u8 (h p (by simp))
      obtain ⟨m, e1, e2⟩ := ih fun q hq => h q (by simp [hq])
      exact ⟨b :: m, by simp [e1], by rw [hb, e2]; rfl⟩
  obtain ⟨m, e1, e2⟩ := this ps h2
  refine ⟨⟨m.toArray, by simp [e1, h1]⟩, ?_⟩
  subst e2
  simp [secPV, Vector.toList]
theorem slist {α : Type} {n : Nat} {S : List PV → Prop} {wr : List PV → PV} {enc : α → PV} {ok : α → Prop} (hS : ∀ ps, S ps → ∃ a, ok a ∧ wr ps = enc a) {q : PV} (h : SList n S wr [q]) : ∃ l : List α, (∀ a ∈ l, ok a) ∧ q = .list n (l.map enc) := by
  obtain ⟨es, h1, h2⟩ := h
  cases h1
  have : ∀ es : List PV, (∀ x ∈ es, ∃ q, S q ∧ x = wr q) → ∃ l : List α, (∀ a ∈ l, ok a) ∧ es = l.map enc := by
    intro es
    induction es with
    | nil => exact fun _ => ⟨[], by simp, rfl⟩
    | cons e es ih =>
      intro h
      obtain ⟨q, h3, h4⟩ := h e (by simp)
      obtain ⟨a, h5, h6⟩ := hS q h3
      obtain ⟨l, h7, h8⟩ := ih fun x hx => h x (by simp [hx])
      exact ⟨a :: l, by simp; exact ⟨h5, h7⟩, by rw [h4, h6, h8]; rfl⟩
  obtain ⟨l, h3, h4⟩ := this es h2
  exact ⟨l, h3, by rw [h4]⟩
theorem wr_list {n : Nat} {S : List PV → Prop} {wr : List PV → PV} {ps : List PV} (h : SList n S wr ps) : (wrS ps).cells = ps := by
  obtain ⟨es, rfl, _⟩ := h; rfl
def SSecs : List PV → Prop := SList 8 SSec .agg
theorem ssecs {q : PV} (h : SSecs [q]) : ∃ l : List Sec, q = eSecs l := by
  obtain ⟨l, _, e⟩ := slist (enc := eSec) (ok := fun _ => True) (fun ps h => by obtain ⟨s, rfl⟩ := ssec h; exact ⟨s, trivial, rfl⟩) h
  exact ⟨l, e⟩
def SImg : List PV → Prop := SList 1 SSecs wrS
theorem simg {q : PV} (h : SImg [q]) : ∃ l : Img, q = .list 1 (l.map eSecs) := by
  obtain ⟨l, _, e⟩ := slist (enc := eSecs) (ok := fun _ => True) (fun ps h => by
    obtain ⟨es, rfl, h2⟩ := h
    obtain ⟨l, e⟩ := ssecs (q := .list 8 es) ⟨es, rfl, h2⟩
    exact ⟨l, trivial, e⟩) h
  exact ⟨l, e⟩
theorem Tryz.rdInt : RdsC Tryz.prog 3 1 (SInt .i64) := RdsC.int Tryz.underlying3 (by kernel_rfl)
theorem Tryz.rdU8 : RdsC Tryz.prog 5 1 (SInt .u8) := RdsC.int Tryz.underlying5 (by kernel_rfl)
theorem Tryz.rdSec : RdsC Tryz.prog 53 8 SSec := RdsC.arr Tryz.underlying53 Tryz.rdU8 (by kernel_rfl)
theorem Tryz.rdSecs : RdsC Tryz.prog 37 1 SSecs := RdsC.list Tryz.underlying37 (by kernel_rfl) Tryz.rdSec (by decide) (fun _ _ _ => rfl)
theorem Tryz.rdImg : RdsC Tryz.prog 23 1 SImg := RdsC.list Tryz.underlying23 (by kernel_rfl) Tryz.rdSecs (by decide) (fun _ h _ => wr_list h)
end Go.Proofs.YtncobemfpammfaaGreatDoor.V
