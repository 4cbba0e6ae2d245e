/-
  Part 5 of the texts that the statement stands on.
-/
import Derived.Test.YtaaokejjmdbfaaaDoorZ4
import Derived.Sort.Defs
import Derived.Lib.BitFns
import Derived.Lib.TrailingZeros
set_option linter.all false
namespace Go.Proofs.YtaaokejjmdbfaaaDoor.V
theorem calAwake : cal env 12 [] = some [(.bool true, false)] := cal_of_vmCall (n := 200) (by kernel_rfl)
end Go.Proofs.YtaaokejjmdbfaaaDoor.V

namespace Go.Proofs.YtaaokejjmdbfaaaDoor.V

def idxI {α : Type} (p : α → Bool) (l : List α) : Int := if l.any p then (l.findIdx p : Int) else -1
theorem idxI_nonneg {α : Type} (p : α → Bool) (l : List α) : decide (idxI p l ≥ 0) = l.any p := by
  unfold idxI
  cases l.any p
  · rfl
  · simp only [if_true]; exact decide_eq_true (by omega)
def eqF {α β : Type} (eq : α → β → Bool) (l : List α) (m : List β) : Bool := decide (l.length = m.length) && (l.zip m).all fun q => eq q.1 q.2
--+
theorem loop112 {α : Type} {enc : α → PV} {l : List α} {p : α → Bool} {gf : Nat} {caps : List PV} (hp : ∀ x ∈ l, cal env gf (enc x :: caps) = some [(.bool (p x), false)]) (hs : ∀ x, part (enc x).cells 0 none = some (enc x)) (hl : l.length ≤ lim)
   {st : St} (h : st.head [0, 1, 7, 8] st.boxes.length = some ⟨[.pv (.list 1 (l.map enc)), .pv (.func gf caps), .any, .any, .any, .any, .any, .pv (.int .i64 l.length), .pv (.int .i64 (0 : Nat)), .any, .any, .any, .any, .any, .any, .any, .any, .any, .any], [], [], none⟩) :
   den env fn112_l1 st = if l.any p then some (.ret, ⟨[.any, .any, .any, .any, .pv (.int .i64 (l.findIdx p)), .any, .any, .any, .any, .any, .any, .any, .any, .any, .any, .any, .any, .any, .any], [], [], none⟩) else some (.normal, ⟨[.any, .any, .any, .any, .any, .any, .any, .any, .any, .any, .any, .any, .any, .any, .any, .any, .any, .any, .any], [], [], none⟩) := by
  unfold fn112_l1
  rw [clean_up l.length (fun i => ⟨[.pv (.list 1 (l.map enc)), .pv (.func gf caps), .any, .any, .any, .any, .any, .pv (.int .i64 l.length), .pv (.int .i64 i), .any, .any, .any, .any, .any, .any, .any, .any, .any, .any], [], [], none⟩)
    (fun i => if (l.drop i).any p then some (.ret, ⟨[.any, .any, .any, .any, .pv (.int .i64 ((i + (l.drop i).findIdx p : Nat) : Int)), .any, .any, .any, .any, .any, .any, .any, .any, .any, .any, .any, .any, .any, .any], [], [], none⟩) else some (.normal, ⟨[.any, .any, .any, .any, .any, .any, .any, .any, .any, .any, .any, .any, .any, .any, .any, .any, .any, .any, .any], [], [], none⟩)) h (fun _ => rfl) (fun _ => rfl) ?_ ?_]
  · simp only [List.drop_zero, Nat.zero_add]
  · intro i rb hi ih
    have hi1 := i64_next hi hl
    have F1 : ((i : Int) < (l.length : Int)) = True := eq_true (by omega)
    simp only [fn112_b0, F1, List.length_map, index_nat hi, List.getElem?_map, List.getElem?_eq_getElem hi, hp _ (List.getElem_mem hi), hs, vAll, reduceCtorEq, Nat.reduceEqDiff, Nat.reduceAdd, Nat.reduceLT, Nat.reduceLeDiff, Nat.beq]
    (try simp only [bcase_bind, bcase_map, tail_bcase]); refine bcase_split (fun hb => ?_) (fun hb => ?_) <;> try simp only [hb,  memAll, vAll, reduceCtorEq, Nat.reduceEqDiff, Nat.reduceAdd, Nat.reduceLT, Nat.reduceLeDiff, Nat.beq]
    · rw [List.drop_eq_getElem_cons hi]
      simp only [List.any_cons, hb, Bool.true_or, if_true, List.findIdx_cons, cond_true, Nat.add_zero]
      rfl
    · rw [ih _ (by simp only [hi1]; rfl), List.drop_eq_getElem_cons hi]
      simp only [List.any_cons, hb, Bool.false_or, List.findIdx_cons, cond_false, Nat.add_assoc, Nat.add_comm 1]
  · intro rb
    simp only [fn112_b0, Int.lt_irrefl, vAll, reduceCtorEq, Nat.reduceEqDiff, Nat.reduceAdd, Nat.reduceLT, Nat.reduceLeDiff, Nat.beq]
    simp only [List.drop_length, List.any_nil, Bool.false_eq_true, if_false]
    rfl
theorem cal112 {α : Type} {enc : α → PV} {l : List α} {p : α → Bool} {gf : Nat} {caps : List PV} (hp : ∀ x ∈ l, cal env gf (enc x :: caps) = some [(.bool (p x), false)]) (hs : ∀ x, part (enc x).cells 0 none = some (enc x)) (hl : l.length ≤ lim) :
    cal env 112 [.list 1 (l.map enc), .func gf caps] = some [(.int .i64 (idxI p l), false)] := by
  rw [cal_code env112 rfl]; simp only [fn112]; simp only [start, z_map_cons, z_map_nil, z_len_cons, z_len_nil, z_repl_zero, z_repl_succ, z_cons_app, z_nil_app, Nat.reduceAdd, Nat.reduceSub]
  simp only [List.length_map, vAll, reduceCtorEq, Nat.reduceEqDiff, Nat.reduceAdd, Nat.reduceLT, Nat.reduceLeDiff, Nat.beq]
  rw [loop112 hp hs hl]
  rotate_left
  · rfl
  · simp only [idxI]
    split <;> simp only [vAll, reduceCtorEq, Nat.reduceEqDiff, Nat.reduceAdd, Nat.reduceLT, Nat.reduceLeDiff, Nat.beq]
--+
theorem cal102 {α : Type} {enc : α → PV} {l : List α} {p : α → Bool} {gf : Nat} {caps : List PV} (hp : ∀ x ∈ l, cal env gf (enc x :: caps) = some [(.bool (p x), false)]) (hs : ∀ x, part (enc x).cells 0 none = some (enc x)) (hl : l.length ≤ lim) :
    cal env 102 [.list 1 (l.map enc), .func gf caps] = some [(.bool (l.any p), false)] := by
  rw [cal_code env102 rfl]; simp only [fn102]; simp only [start, z_map_cons, z_map_nil, z_len_cons, z_len_nil, z_repl_zero, z_repl_succ, z_cons_app, z_nil_app, Nat.reduceAdd, Nat.reduceSub]
  simp only [cal112 hp hs hl, idxI_nonneg, vAll, reduceCtorEq, Nat.reduceEqDiff, Nat.reduceAdd, Nat.reduceLT, Nat.reduceLeDiff, Nat.beq]
--+
theorem loop77 {α β : Type} {enc : α → PV} {enc2 : β → PV} {eq : α → β → Bool} {l : List α} {m : List β} {gf : Nat} {caps : List PV} (hp : ∀ x ∈ l, ∀ y ∈ m, cal env gf (enc x :: enc2 y :: caps) = some [(.bool (eq x y), false)]) (hs : ∀ x, part (enc x).cells 0 none = some (enc x)) (hs2 : ∀ x, part (enc2 x).cells 0 none = some (enc2 x)) (hlm : l.length = m.length) (hl : l.length ≤ lim)
   {st : St} (h : st.head [0, 1, 2, 15, 16, 17] st.boxes.length = some ⟨[.pv (.list 1 (l.map enc)), .pv (.list 1 (m.map enc2)), .pv (.func gf caps), .any, .any, .any, .any, .any, .any, .any, .any, .any, .any, .any, .any, .pv (.list 1 (l.map enc)), .pv (.int .i64 l.length), .pv (.int .i64 (0 : Nat)), .any, .any, .any, .any, .any, .any, .any, .any, .any, .any, .any, .any, .any, .any], [], [], none⟩) :
   den env fn77_l1 st = if (l.zip m).all (fun q => eq q.1 q.2) then some (.normal, ⟨[.any, .any, .any, .any, .any, .any, .any, .any, .any, .any, .any, .any, .any, .any, .any, .any, .any, .any, .any, .any, .any, .any, .any, .any, .any, .any, .any, .any, .any, .any, .any, .any], [], [], none⟩) else some (.ret, ⟨[.any, .any, .any, .any, .any, .any, .pv (.bool false), .any, .any, .any, .any, .any, .any, .any, .any, .any, .any, .any, .any, .any, .any, .any, .any, .any, .any, .any, .any, .any, .any, .any, .any, .any], [], [], none⟩) := by
  unfold fn77_l1
  rw [clean_up l.length (fun i => ⟨[.pv (.list 1 (l.map enc)), .pv (.list 1 (m.map enc2)), .pv (.func gf caps), .any, .any, .any, .any, .any, .any, .any, .any, .any, .any, .any, .any, .pv (.list 1 (l.map enc)), .pv (.int .i64 l.length), .pv (.int .i64 i), .any, .any, .any, .any, .any, .any, .any, .any, .any, .any, .any, .any, .any, .any], [], [], none⟩)
    (fun i => if ((l.drop i).zip (m.drop i)).all (fun q => eq q.1 q.2) then some (.normal, ⟨[.any, .any, .any, .any, .any, .any, .any, .any, .any, .any, .any, .any, .any, .any, .any, .any, .any, .any, .any, .any, .any, .any, .any, .any, .any, .any, .any, .any, .any, .any, .any, .any], [], [], none⟩) else some (.ret, ⟨[.any, .any, .any, .any, .any, .any, .pv (.bool false), .any, .any, .any, .any, .any, .any, .any, .any, .any, .any, .any, .any, .any, .any, .any, .any, .any, .any, .any, .any, .any, .any, .any, .any, .any], [], [], none⟩)) h (fun _ => rfl) (fun _ => rfl) ?_ ?_]
  · simp only [List.drop_zero]
  · intro i rb hi ih
    have hi1 := i64_next hi hl
    have hj : i < m.length := by omega
    have F1 : ((i : Int) < (l.length : Int)) = True := eq_true (by omega)
    simp only [fn77_b0, F1, List.length_map, index_nat hi, index_nat hj, List.getElem?_map, List.getElem?_eq_getElem hi, List.getElem?_eq_getElem hj, hs, hs2, hp _ (List.getElem_mem hi) _ (List.getElem_mem hj), vAll, reduceCtorEq, Nat.reduceEqDiff, Nat.reduceAdd, Nat.reduceLT, Nat.reduceLeDiff, Nat.beq]
    (try simp only [bcase_bind, bcase_map, tail_bcase]); refine bcase_split (fun hb => ?_) (fun hb => ?_) <;> try simp only [hb,  memAll, vAll, reduceCtorEq, Nat.reduceEqDiff, Nat.reduceAdd, Nat.reduceLT, Nat.reduceLeDiff, Nat.beq]
    · rw [ih _ (by simp only [hi1]; rfl), List.drop_eq_getElem_cons hi, List.drop_eq_getElem_cons hj]
      simp only [List.zip_cons_cons, List.all_cons, hb, Bool.true_and]
    · rw [List.drop_eq_getElem_cons hi, List.drop_eq_getElem_cons hj]
      simp only [List.zip_cons_cons, List.all_cons, hb, Bool.false_and, Bool.false_eq_true, if_false]
      rfl
  · intro rb
    simp only [fn77_b0, Int.lt_irrefl, vAll, reduceCtorEq, Nat.reduceEqDiff, Nat.reduceAdd, Nat.reduceLT, Nat.reduceLeDiff, Nat.beq]
    rw [List.drop_length]
    rfl
theorem cal77 {α β : Type} {enc : α → PV} {enc2 : β → PV} {eq : α → β → Bool} {l : List α} {m : List β} {gf : Nat} {caps : List PV} (hp : ∀ x ∈ l, ∀ y ∈ m, cal env gf (enc x :: enc2 y :: caps) = some [(.bool (eq x y), false)]) (hs : ∀ x, part (enc x).cells 0 none = some (enc x)) (hs2 : ∀ x, part (enc2 x).cells 0 none = some (enc2 x)) (hl : l.length ≤ lim) :
    cal env 77 [.list 1 (l.map enc), .list 1 (m.map enc2), .func gf caps] = some [(.bool (eqF eq l m), false)] := by
  rw [cal_code env77 rfl]; simp only [fn77]; simp only [start, z_map_cons, z_map_nil, z_len_cons, z_len_nil, z_repl_zero, z_repl_succ, z_cons_app, z_nil_app, Nat.reduceAdd, Nat.reduceSub]
  simp only [List.length_map, vAll, reduceCtorEq, Nat.reduceEqDiff, Nat.reduceAdd, Nat.reduceLT, Nat.reduceLeDiff, Nat.beq]
  (try simp only [bcase_bind, bcase_map, tail_bcase]); refine bcase_split (fun hb => ?_) (fun hb => ?_) <;> try simp only [hb,  memAll, vAll, reduceCtorEq, Nat.reduceEqDiff, Nat.reduceAdd, Nat.reduceLT, Nat.reduceLeDiff, Nat.beq]
  · have hlm : l.length = m.length := by simp at hb; omega
    rw [loop77 hp hs hs2 hlm hl]
    rotate_left
    · rfl
    · simp only [eqF, decide_eq_true hlm, Bool.true_and]
      cases (l.zip m).all (fun q => eq q.1 q.2) <;> simp only [vAll, reduceCtorEq, Nat.reduceEqDiff, Nat.reduceAdd, Nat.reduceLT, Nat.reduceLeDiff, Nat.beq]
  · have : ¬ l.length = m.length := fun e => by rw [e] at hb; simp at hb
    simp only [eqF, decide_eq_false this, vAll, reduceCtorEq, Nat.reduceEqDiff, Nat.reduceAdd, Nat.reduceLT, Nat.reduceLeDiff, Nat.beq]
end Go.Proofs.YtaaokejjmdbfaaaDoor.V

namespace Go.Proofs.YtaaokejjmdbfaaaDoor.V

def sizesErr (l : List Int) : Int := if l.length < 1 ∨ 8 < l.length then 6 else if l.any (fun n => decide (n < 1) || decide (n > 4096)) then 2 else 0
def imSizes (im : Img) : List Int := im.map fun v => (v.length : Int)
def imCheck (im : Img) : Int := sizesErr (imSizes im)
theorem take_map_succ {α β : Type} (f : α → β) {l : List α} {i : Nat} (h : i < l.length) : (l.take i).map f ++ [f l[i]] = (l.take (i + 1)).map f := by
  rw [List.take_succ, List.getElem?_eq_getElem h, List.map_append]; rfl
theorem loop104 {α : Type} {enc : α → PV} {l : List α} {g : α → Int} {gf : Nat} {caps : List PV} (hp : ∀ x ∈ l, cal env gf (enc x :: caps) = some [(eI (g x), false)]) (hs : ∀ x, part (enc x).cells 0 none = some (enc x)) (hs3 : ∀ x, (enc x).cells.length = 1) (hl : l.length ≤ lim)
   {st : St} (h : st.head [0, 1, 5, 10, 11, 12, 13, 22] st.boxes.length = some ⟨[.pv (.list 1 (l.map enc)), .pv (.func gf caps), .any, .any, .any, .row 1 [], .any, .any, .any, .any, .any, .pv (.list 1 (l.map enc)), .pv (.int .i64 l.length), .pv (.int .i64 (0 : Nat)), .any, .any, .any, .any, .any, .any, .any, .any, .any, .any, .any], [], [], none⟩) :
   den env fn104_l1 st = some (.normal, ⟨[.any, .any, .any, .any, .any, .row 1 (l.map fun x => eI (g x)), .any, .any, .any, .any, .any, .any, .any, .any, .any, .any, .any, .any, .any, .any, .any, .any, .any, .any, .any], [], [], none⟩) := by
  unfold fn104_l1
  rw [clean_up l.length (fun i => ⟨[.pv (.list 1 (l.map enc)), .pv (.func gf caps), .any, .any, .any, .row 1 ((l.take i).map fun x => eI (g x)), .any, .any, .any, .any, .any, .pv (.list 1 (l.map enc)), .pv (.int .i64 l.length), .pv (.int .i64 i), .any, .any, .any, .any, .any, .any, .any, .any, .any, .any, .any], [], [], none⟩)
    (fun i => some (.normal, ⟨[.any, .any, .any, .any, .any, .row 1 (l.map fun x => eI (g x)), .any, .any, .any, .any, .any, .any, .any, .any, .any, .any, .any, .any, .any, .any, .any, .any, .any, .any, .any], [], [], none⟩)) h (fun _ => rfl) (fun _ => rfl) ?_ ?_]
  · intro i rb hi ih
    have hi1 := i64_next hi hl
    have F1 : ((i : Int) < (l.length : Int)) = True := eq_true (by omega)
    have F2 : ((l.take i).length + 1 ≤ lim) = True := eq_true (by rw [List.length_take]; omega)
    have hpi : cal env gf (enc l[i] :: caps) = some [((PV.int .i64 (g l[i])), false)] := hp _ (List.getElem_mem hi)
    try simp only [eExt] at hpi
    simp only [fn104_b0, F1, F2, index_nat hi, List.getElem?_map, List.getElem?_eq_getElem hi,  hpi, hs, hs3, memAll, vAll, reduceCtorEq, Nat.reduceEqDiff, Nat.reduceAdd, Nat.reduceLT, Nat.reduceLeDiff, Nat.beq]
    rw [ih _ (by simp only [hi1]; rw [← take_map_succ _ hi]; rfl)]
  · intro rb
    simp only [fn104_b0, Int.lt_irrefl, vAll, reduceCtorEq, Nat.reduceEqDiff, Nat.reduceAdd, Nat.reduceLT, Nat.reduceLeDiff, Nat.beq]
    rw [List.take_length]
    rfl
theorem cal104 {α : Type} {enc : α → PV} {l : List α} {g : α → Int} {gf : Nat} {caps : List PV} (hp : ∀ x ∈ l, cal env gf (enc x :: caps) = some [(eI (g x), false)]) (hs : ∀ x, part (enc x).cells 0 none = some (enc x)) (hs3 : ∀ x, (enc x).cells.length = 1) (hl : l.length ≤ lim) :
    cal env 104 [.list 1 (l.map enc), .func gf caps] = some [(.list 1 (l.map fun x => eI (g x)), true)] := by
  rw [cal_code env104 rfl]; simp only [fn104]; simp only [start, z_map_cons, z_map_nil, z_len_cons, z_len_nil, z_repl_zero, z_repl_succ, z_cons_app, z_nil_app, Nat.reduceAdd, Nat.reduceSub]
  have F1 : ((l.length : Int) ≤ (lim : Int)) = True := eq_true (by omega)
  have F2 : ((0 : Int) ≤ (l.length : Int)) = True := eq_true (by omega)
  simp only [F1, F2, Int.le_refl, memAll, vAll, reduceCtorEq, Nat.reduceEqDiff, Nat.reduceAdd, Nat.reduceLT, Nat.reduceLeDiff, Nat.beq]
  rw [loop104 hp hs hs3 hl]
  rotate_left
  · rfl
  · simp only [memAll, vAll, reduceCtorEq, Nat.reduceEqDiff, Nat.reduceAdd, Nat.reduceLT, Nat.reduceLeDiff, Nat.beq]
theorem cal103 {x : Int} : cal env 103 [eI x] = some [(.bool (decide (x < 1) || decide (x > 4096)), false)] := by
  unfold eI
  rw [cal_code env103 rfl]; simp only [fn103]; simp only [start, z_map_cons, z_map_nil, z_len_cons, z_len_nil, z_repl_zero, z_repl_succ, z_cons_app, z_nil_app, Nat.reduceAdd, Nat.reduceSub]
  simp only [ memAll, vAll, reduceCtorEq, Nat.reduceEqDiff, Nat.reduceAdd, Nat.reduceLT, Nat.reduceLeDiff, Nat.beq]
  (try simp only [bcase_bind, bcase_map, tail_bcase]); refine bcase_split (fun hb => ?_) (fun hb => ?_) <;> try simp only [hb,  memAll, vAll, reduceCtorEq, Nat.reduceEqDiff, Nat.reduceAdd, Nat.reduceLT, Nat.reduceLeDiff, Nat.beq]
theorem cal82 {l : List Int} (hl : l.length ≤ lim) : cal env 82 [.list 1 (l.map eI)] = some [(.int .i64 (sizesErr l), false)] := by
  have e1 := cal102 (l := l) (enc := eI) (fun x _ => cal103 (x := x)) (fun x => rfl) hl
  rw [cal_code env82 rfl]; simp only [fn82]; simp only [start, z_map_cons, z_map_nil, z_len_cons, z_len_nil, z_repl_zero, z_repl_succ, z_cons_app, z_nil_app, Nat.reduceAdd, Nat.reduceSub]
  simp only [e1, memAll, vAll, reduceCtorEq, Nat.reduceEqDiff, Nat.reduceAdd, Nat.reduceLT, Nat.reduceLeDiff, Nat.beq]
  repeat' ((try simp only [bcase_bind, bcase_map, tail_bcase]); refine bcase_split (fun hb => ?_) (fun hb => ?_) <;> try simp only [hb, e1, memAll, vAll, reduceCtorEq, Nat.reduceEqDiff, Nat.reduceAdd, Nat.reduceLT, Nat.reduceLeDiff, Nat.beq])
  all_goals grind [sizesErr]
theorem cal105 {v : List Sec} : cal env 105 [eSecs v] = some [(eI v.length, false)] := by
  unfold eSecs eI
  rw [cal_code env105 rfl]; simp only [fn105]; simp only [start, z_map_cons, z_map_nil, z_len_cons, z_len_nil, z_repl_zero, z_repl_succ, z_cons_app, z_nil_app, Nat.reduceAdd, Nat.reduceSub]
  simp only [ memAll, vAll, reduceCtorEq, Nat.reduceEqDiff, Nat.reduceAdd, Nat.reduceLT, Nat.reduceLeDiff, Nat.beq]
theorem cal83 {im : Img} (hl : im.length ≤ lim) : cal env 83 [.list 1 (im.map eSecs)] = some [(.list 1 ((imSizes im).map eI), true)] := by
  have e1 := cal104 (enc := eSecs) (l := im) (fun x _ => cal105 (v := x)) (fun x => rfl) (fun x => rfl) hl
  rw [cal_code env83 rfl]; simp only [fn83]; simp only [start, z_map_cons, z_map_nil, z_len_cons, z_len_nil, z_repl_zero, z_repl_succ, z_cons_app, z_nil_app, Nat.reduceAdd, Nat.reduceSub]
  simp only [e1, memAll, vAll, reduceCtorEq, Nat.reduceEqDiff, Nat.reduceAdd, Nat.reduceLT, Nat.reduceLeDiff, Nat.beq]
  simp [imSizes]
theorem cal50 {im : Img} (hl : im.length ≤ lim) : cal env 50 [.list 1 (im.map eSecs)] = some [(.int .i64 (imCheck im), false)] := by
  have h2 : (imSizes im).length ≤ lim := by simpa [imSizes] using hl
  have e1 := cal83 hl
  have e2 := cal82 h2
  rw [cal_code env50 rfl]; simp only [fn50]; simp only [start, z_map_cons, z_map_nil, z_len_cons, z_len_nil, z_repl_zero, z_repl_succ, z_cons_app, z_nil_app, Nat.reduceAdd, Nat.reduceSub]
  simp only [e1, e2, memAll, vAll, reduceCtorEq, Nat.reduceEqDiff, Nat.reduceAdd, Nat.reduceLT, Nat.reduceLeDiff, Nat.beq]
  rfl
end Go.Proofs.YtaaokejjmdbfaaaDoor.V

namespace Go.Proofs.YtaaokejjmdbfaaaDoor.V

def few7 (im : Img) : Bool := decide (im.length ≤ 9) && im.all fun v => decide (v.length ≤ 24)
theorem loop41 {im : Img} (hl : im.length ≤ lim) {st : St} (h : st.head [0, 3] st.boxes.length = some ⟨[.pv (.list 1 (im.map eSecs)), .any, .any, .pv (.int .i64 (0 : Nat)), .any, .any, .any, .any, .any, .any, .any, .any, .any, .any, .any, .any, .any, .any, .any], [], [], none⟩) :
   den env fn41_l1 st = if im.all (fun v => decide (v.length ≤ 24)) then some (.normal, ⟨[.any, .any, .any, .any, .any, .any, .any, .any, .any, .any, .any, .any, .any, .any, .any, .any, .any, .any, .any], [], [], none⟩) else some (.ret, ⟨[.any, .any, .pv (.bool false), .any, .any, .any, .any, .any, .any, .any, .any, .any, .any, .any, .any, .any, .any, .any, .any], [], [], none⟩) := by
  unfold fn41_l1
  rw [ clean_up (env := env) (im.length) (fun i => ⟨[.pv (.list 1 (im.map eSecs)), .any, .any, .pv (.int .i64 i), .any, .any, .any, .any, .any, .any, .any, .any, .any, .any, .any, .any, .any, .any, .any], [], [], none⟩) (fun i => if (im.drop i).all (fun v => decide (v.length ≤ 24)) then some (.normal, ⟨[.any, .any, .any, .any, .any, .any, .any, .any, .any, .any, .any, .any, .any, .any, .any, .any, .any, .any, .any], [], [], none⟩) else some (.ret, ⟨[.any, .any, .pv (.bool false), .any, .any, .any, .any, .any, .any, .any, .any, .any, .any, .any, .any, .any, .any, .any, .any], [], [], none⟩)) h (fun _ => rfl) (fun _ => rfl) ?_ ?_]
  · first | rfl | simp only [List.drop_zero, List.take_zero, List.map_nil, Nat.zero_add, List.nil_append, List.foldl_nil]
  · intro i rb hi ih

    have hi1 := i64_next hi hl
    have F1 : ((i : Int) < (im.length : Int)) = True := eq_true (by omega)
    simp only [fn41_b0, F1, eSecs, index_nat hi, List.getElem?_map, List.getElem?_eq_getElem hi, memAll, vAll, reduceCtorEq, Nat.reduceEqDiff, Nat.reduceAdd, Nat.reduceLT, Nat.reduceLeDiff, Nat.beq]
    rw [List.drop_eq_getElem_cons hi, List.all_cons]
    (try simp only [bcase_bind, bcase_map, tail_bcase]); refine bcase_split (fun hb => ?_) (fun hb => ?_) <;> try simp only [hb,  memAll, vAll, reduceCtorEq, Nat.reduceEqDiff, Nat.reduceAdd, Nat.reduceLT, Nat.reduceLeDiff, Nat.beq]
    · rw [decide_eq_false (by simp at hb; omega)]; rfl
    · rw [ih _ (by simp only [hi1]; rfl), decide_eq_true (show im[i].length ≤ 24 by simp at hb; omega), Bool.true_and]
  · intro rb

    simp only [fn41_b0, Int.lt_irrefl,  memAll, vAll, reduceCtorEq, Nat.reduceEqDiff, Nat.reduceAdd, Nat.reduceLT, Nat.reduceLeDiff, Nat.beq]
    rw [List.drop_length]
    rfl

theorem cal41 {im : Img} : cal env 41 [.list 1 (im.map eSecs)] = some [(.bool (few7 im), false)] := by
  rw [cal_code env41 rfl]; simp only [fn41]; simp only [start, z_map_cons, z_map_nil, z_len_cons, z_len_nil, z_repl_zero, z_repl_succ, z_cons_app, z_nil_app, Nat.reduceAdd, Nat.reduceSub]
  simp only [ memAll, vAll, reduceCtorEq, Nat.reduceEqDiff, Nat.reduceAdd, Nat.reduceLT, Nat.reduceLeDiff, Nat.beq]
  (try simp only [bcase_bind, bcase_map, tail_bcase]); refine bcase_split (fun hb => ?_) (fun hb => ?_) <;> try simp only [hb,  memAll, vAll, reduceCtorEq, Nat.reduceEqDiff, Nat.reduceAdd, Nat.reduceLT, Nat.reduceLeDiff, Nat.beq]
  · simp at hb
    rw [few7, decide_eq_false (by omega)]; rfl
  · have hl : im.length ≤ 9 := by simp at hb; omega
    rw [loop41 (im := im) (by unfold lim; omega)]
    rotate_left
    · rfl
    · rw [few7, decide_eq_true hl, Bool.true_and]
      cases im.all (fun v => decide (v.length ≤ 24)) <;> simp only [vAll, reduceCtorEq, Nat.reduceEqDiff, Nat.reduceAdd, Nat.reduceLT, Nat.reduceLeDiff, Nat.beq]
end Go.Proofs.YtaaokejjmdbfaaaDoor.V

namespace Go.Proofs.YtaaokejjmdbfaaaDoor.V

def addAt (out : List Exn) (i : Nat) : List Exn := match out.getLast? with
  | some x => if x.start + x.count = (i : Int) then out.dropLast ++ [⟨x.start, x.count + 1⟩] else out ++ [⟨i, 1⟩]
  | none => [⟨i, 1⟩]
def exts (l : List Nat) : List Exn := l.foldl addAt []
end Go.Proofs.YtaaokejjmdbfaaaDoor.V

namespace Go.Proofs.YtaaokejjmdbfaaaDoor

structure End where
  pos : Nat
  list : Nat
  step : Int
  deriving DecidableEq, Inhabited
end Go.Proofs.YtaaokejjmdbfaaaDoor

namespace Go.Proofs.YtaaokejjmdbfaaaDoor.V
def ext (p : Nat → Bool) (n : Nat) : List Exn := exts ((List.range n).filter p)
def dep (i : Nat) (s : Nat) : List End → Int
  | [] => 0
  | x :: l => (if x.list = i ∧ x.pos ≤ s then x.step else 0) + dep i s l
def Asc : List End → Prop
  | [] => True
  | [_] => True
  | x :: y :: l => x.pos ≤ y.pos ∧ Asc (y :: l)
theorem Asc.tail {x : End} {l : List End} (h : Asc (x :: l)) : Asc l := by
  cases l with
  | nil => trivial
  | cons y l => exact h.2
def atStart (N : Nat) : List End → Nat → Prop
  | [], a => a = N
  | x :: _, a => a = x.pos
end Go.Proofs.YtaaokejjmdbfaaaDoor.V

namespace Go.Proofs.YtaaokejjmdbfaaaDoor.V
abbrev Wd := BitVec 64
structure Bm where
  size : Int
  ws : List Wd
  deriving DecidableEq
def eW (w : Wd) : PV := .int .u64 (w.toNat : Int)
def eBm (b : Bm) : PV := .agg [.int .i64 b.size, .list 1 (b.ws.map eW)]
def bit (ws : List Wd) (i : Nat) : Bool := (ws.getD (i / 64) 0).getLsbD (i % 64)
theorem bit_at {ws : List Wd} {k : Nat} (h : k < ws.length) {j : Nat} (hj : j < 64) : bit ws (64 * k + j) = ws[k].getLsbD j := by
  unfold bit
  have e1 : (64 * k + j) / 64 = k := by omega
  have e2 : (64 * k + j) % 64 = j := by omega
  rw [e1, e2]; simp [h]
theorem bit_out {ws : List Wd} {i : Nat} (h : 64 * ws.length ≤ i) : bit ws i = false := by
  unfold bit
  have : ws.length ≤ i / 64 := by omega
  rw [List.getD_eq_getElem?_getD, List.getElem?_eq_none this]; simp
theorem w_shr (w : Wd) {s : Int} {n : Nat} (hs : s = (n : Int)) : (w.toNat : Int).fdiv (2 ^ (min s.toNat IntKind.u64.bits)) = ((w >>> n).toNat : Int) := by
  subst hs
  rw [BitVec.toNat_ushiftRight, Nat.shiftRight_eq_div_pow, Int.toNat_natCast]
  have hw := w.isLt
  show (w.toNat : Int).fdiv (2 ^ (min n 64)) = _
  by_cases h : n ≤ 64
  · have h2 : (0 : Int) ≤ 2 ^ n := by have := Int.natCast_nonneg (2 ^ n); push_cast at this; exact this
    rw [Nat.min_eq_left h, Int.fdiv_eq_ediv_of_nonneg _ h2]
    push_cast
    rfl
  · rw [Nat.min_eq_right (by omega), Int.fdiv_eq_ediv_of_nonneg _ (by decide)]
    have h1 : w.toNat / 2 ^ n = 0 := Nat.div_eq_of_lt (Nat.lt_of_lt_of_le hw (Nat.pow_le_pow_right (by decide) (by omega)))
    rw [h1]
    omega
theorem w_beq (a b : Wd) : ((a.toNat : Int) == (b.toNat : Int)) = decide (a = b) := by
  by_cases h : a = b
  · subst h; simp
  · have : a.toNat ≠ b.toNat := fun e => h (BitVec.eq_of_toNat_eq e)
    simp [h]; omega

/-! Masks. -/
def wdsN (n : Int) : Int := (n + 63) / 64
def okB (b : Bm) : Bool := decide (0 ≤ b.size ∧ b.size ≤ 4096 ∧ (b.ws.length : Int) = wdsN b.size) && (List.range (64 * b.ws.length)).all fun (i : Nat) => decide ((i : Int) < b.size) || !bit b.ws i
theorem okB_iff {b : Bm} : okB b = true ↔ (0 ≤ b.size ∧ b.size ≤ 4096 ∧ (b.ws.length : Int) = wdsN b.size) ∧ ∀ i : Nat, b.size ≤ (i : Int) → bit b.ws i = false := by
  unfold okB
  simp only [Bool.and_eq_true, decide_eq_true_eq, List.all_eq_true, List.mem_range, Bool.or_eq_true, Bool.not_eq_true']
  refine and_congr Iff.rfl ⟨fun h i hi => ?_, fun h i hi => ?_⟩
  · by_cases c : i < 64 * b.ws.length
    · exact (h i c).resolve_left (by omega)
    · exact bit_out (by omega)
  · by_cases c : (i : Int) < b.size
    · exact .inl c
    · exact .inr (h i (by omega))
theorem okB_size {b : Bm} (h : okB b = true) : 0 ≤ b.size ∧ b.size ≤ 4096 ∧ b.ws.length ≤ 64 ∧ b.size ≤ 64 * (b.ws.length : Int) ∧ 64 * (b.ws.length : Int) < b.size + 64 := by
  have := (okB_iff.1 h).1
  unfold wdsN at this
  omega
theorem rest_iff {b : Bm} (h : 0 ≤ b.size ∧ b.size ≤ 4096 ∧ (b.ws.length : Int) = wdsN b.size) : okB b = true ↔ (b.size % 64 = 0 ∨ ∀ (hw : b.ws.length - 1 < b.ws.length), b.ws[b.ws.length - 1] >>> (b.size % 64).toNat = 0) := by
  rw [okB_iff]
  unfold wdsN at h ⊢
  constructor
  · rintro ⟨_, h2⟩
    by_cases c : b.size % 64 = 0
    · exact .inl c
    · refine .inr fun hw => ?_
      apply BitVec.eq_of_getLsbD_eq
      intro j hj
      rw [BitVec.getLsbD_ushiftRight]
      by_cases cj : (b.size % 64).toNat + j < 64
      · rw [← bit_at hw cj, h2 _ (by omega)]; simp
      · rw [BitVec.getLsbD_of_ge _ _ (by omega)]; simp
  · intro hr
    refine ⟨by omega, fun i hi => ?_⟩
    by_cases c : i < 64 * b.ws.length
    · have hw : b.ws.length - 1 < b.ws.length := by omega
      have hk : i / 64 = b.ws.length - 1 := by omega
      rcases hr with hr | hr
      · omega
      · have := congrArg (fun w : Wd => w.getLsbD (i % 64 - (b.size % 64).toNat)) (hr hw)
        simp only [BitVec.getLsbD_ushiftRight, BitVec.getLsbD_zero] at this
        rw [show (b.size % 64).toNat + (i % 64 - (b.size % 64).toNat) = i % 64 by omega] at this
        rw [show i = 64 * (b.ws.length - 1) + i % 64 by omega, bit_at hw (Nat.mod_lt _ (by decide))]
        simpa using this
    · exact bit_out (by omega)
def bmE (b : Bm) : Int := if okB b then 0 else 3
end Go.Proofs.YtaaokejjmdbfaaaDoor.V

namespace Go.Proofs.YtaaokejjmdbfaaaDoor.V
theorem bmE_ok {b : Bm} (h : okB b = true) : bmE b = 0 := by unfold bmE; rw [if_pos h]
theorem bmE_no {b : Bm} (h : okB b = false) : bmE b = 3 := by unfold bmE; rw [if_neg (by rw [h]; exact Bool.false_ne_true)]
theorem q64 {n : Int} (h : 0 ≤ n) : (n + 64 - 1).tdiv 64 = wdsN n := by
  unfold wdsN; rw [Int.tdiv_eq_ediv_of_nonneg (by omega)]; congr 1; omega
theorem z64 : ((64 : Int) = 0) = False := eq_false (by decide)
theorem cal84 {n : Int} (h : 0 ≤ n ∧ n ≤ 4096) : cal env 84 [.int .i64 n] = some [(.int .i64 (wdsN n), false)] := by
  have W1 : IntKind.i64.wrap (n + 64) = n + 64 := i64_fits (by omega)
  have W2 : IntKind.i64.wrap (n + 64 - 1) = n + 64 - 1 := i64_fits (by omega)
  have W3 : IntKind.i64.wrap (wdsN n) = wdsN n := i64_fits (by unfold wdsN; omega)
  rw [cal_code env84 rfl]; simp only [fn84]; simp only [start, z_map_cons, z_map_nil, z_len_cons, z_len_nil, z_repl_zero, z_repl_succ, z_cons_app, z_nil_app, Nat.reduceAdd, Nat.reduceSub]
  simp only [W1, W2, q64 h.1, W3, z64, memAll, vAll, reduceCtorEq, Nat.reduceEqDiff, Nat.reduceAdd, Nat.reduceLT, Nat.reduceLeDiff, Nat.beq]
theorem cal51 {b : Bm} : cal env 51 [eBm b] = some [(.int .i64 (bmE b), false)] := by
  unfold eBm
  have P : ∀ x y : PV, part [x, y] 0 (some 2) = some (.agg [x, y]) := fun _ _ => rfl
  by_cases c0 : b.size < 0
  · have hE : bmE b = 3 := bmE_no (by rw [Bool.eq_false_iff]; intro h; have := okB_size h; omega)
    rw [hE]
    rw [cal_code env51 rfl]; simp only [fn51]; simp only [start, z_map_cons, z_map_nil, z_len_cons, z_len_nil, z_repl_zero, z_repl_succ, z_cons_app, z_nil_app, Nat.reduceAdd, Nat.reduceSub]
    simp only [c0, P, memAll, vAll, reduceCtorEq, Nat.reduceEqDiff, Nat.reduceAdd, Nat.reduceLT, Nat.reduceLeDiff, Nat.beq]
  · by_cases c1 : b.size > 4096
    · have hE : bmE b = 3 := bmE_no (by rw [Bool.eq_false_iff]; intro h; have := okB_size h; omega)
      rw [hE]
      have F1 : (b.size > 4096) = True := eq_true c1
      rw [cal_code env51 rfl]; simp only [fn51]; simp only [start, z_map_cons, z_map_nil, z_len_cons, z_len_nil, z_repl_zero, z_repl_succ, z_cons_app, z_nil_app, Nat.reduceAdd, Nat.reduceSub]
      simp only [c0, F1, P, memAll, vAll, reduceCtorEq, Nat.reduceEqDiff, Nat.reduceAdd, Nat.reduceLT, Nat.reduceLeDiff, Nat.beq]
    · have F1 : (b.size > 4096) = False := eq_false c1
      have e1 := cal84 (n := b.size) (by omega)
      by_cases c2 : (b.ws.length : Int) = wdsN b.size
      · have F2 : ((b.ws.length : Int) != wdsN b.size) = false := by simp [c2]
        have hr := rest_iff (b := b) ⟨by omega, by omega, c2⟩
        have hw := c2
        unfold wdsN at hw
        have M : b.size.tmod 64 = b.size % 64 := Int.tmod_eq_emod_of_nonneg (by omega)
        by_cases c3 : b.size % 64 = 0
        · have hE : bmE b = 0 := bmE_ok (hr.2 (.inl c3))
          rw [hE]
          have F3 : (b.size % 64 > 0) = False := eq_false (by omega)
          rw [cal_code env51 rfl]; simp only [fn51]; simp only [start, z_map_cons, z_map_nil, z_len_cons, z_len_nil, z_repl_zero, z_repl_succ, z_cons_app, z_nil_app, Nat.reduceAdd, Nat.reduceSub]
          simp only [c0, F1, F2, F3, M, e1, z64, P, memAll, vAll, reduceCtorEq, Nat.reduceEqDiff, Nat.reduceAdd, Nat.reduceLT, Nat.reduceLeDiff, Nat.beq]
        · have F3 : (b.size % 64 > 0) = True := eq_true (by omega)
          have hi : b.ws.length - 1 < b.ws.length := by omega
          have W : IntKind.i64.wrap ((b.ws.length : Int) - 1) = ((b.ws.length - 1 : Nat) : Int) := by rw [i64_fits (by omega)]; omega
          have S0 : (b.size % 64 < 0) = False := eq_false (by omega)
          have S := w_shr b.ws[b.ws.length - 1] (s := b.size % 64) (n := (b.size % 64).toNat) (by omega)
          have B := w_beq (b.ws[b.ws.length - 1] >>> (b.size % 64).toNat) 0
          have B0 : ((0 : Wd).toNat : Int) = 0 := rfl
          rw [B0] at B
          have B' : (((b.ws[b.ws.length - 1] >>> (b.size % 64).toNat).toNat : Int) != 0) = !decide (b.ws[b.ws.length - 1] >>> (b.size % 64).toNat = 0) := by unfold bne; rw [B]
          by_cases c4 : b.ws[b.ws.length - 1] >>> (b.size % 64).toNat = 0
          · have hE : bmE b = 0 := bmE_ok (hr.2 (.inr fun _ => c4))
            rw [hE]
            rw [decide_eq_true c4] at B'
            rw [cal_code env51 rfl]; simp only [fn51]; simp only [start, z_map_cons, z_map_nil, z_len_cons, z_len_nil, z_repl_zero, z_repl_succ, z_cons_app, z_nil_app, Nat.reduceAdd, Nat.reduceSub]
            simp only [c0, F1, F2, F3, M, e1, z64, P, W, S0, S, B', index_nat hi, eW, List.getElem?_map, List.getElem?_eq_getElem hi, memAll, vAll, reduceCtorEq, Nat.reduceEqDiff, Nat.reduceAdd, Nat.reduceLT, Nat.reduceLeDiff, Nat.beq]
          · have hE : bmE b = 3 := bmE_no (by
              rw [Bool.eq_false_iff]; intro h
              rcases hr.1 h with h | h
              · exact c3 h
              · exact c4 (h hi))
            rw [hE]
            rw [decide_eq_false c4] at B'
            rw [cal_code env51 rfl]; simp only [fn51]; simp only [start, z_map_cons, z_map_nil, z_len_cons, z_len_nil, z_repl_zero, z_repl_succ, z_cons_app, z_nil_app, Nat.reduceAdd, Nat.reduceSub]
            simp only [c0, F1, F2, F3, M, e1, z64, P, W, S0, S, B', index_nat hi, eW, List.getElem?_map, List.getElem?_eq_getElem hi, memAll, vAll, reduceCtorEq, Nat.reduceEqDiff, Nat.reduceAdd, Nat.reduceLT, Nat.reduceLeDiff, Nat.beq]
      · have F2 : ((b.ws.length : Int) != wdsN b.size) = true := by simp [c2]
        have hE : bmE b = 3 := bmE_no (by rw [Bool.eq_false_iff]; intro h; exact c2 (okB_iff.1 h).1.2.2)
        rw [hE]
        rw [cal_code env51 rfl]; simp only [fn51]; simp only [start, z_map_cons, z_map_nil, z_len_cons, z_len_nil, z_repl_zero, z_repl_succ, z_cons_app, z_nil_app, Nat.reduceAdd, Nat.reduceSub]
        simp only [c0, F1, F2, e1, P, memAll, vAll, reduceCtorEq, Nat.reduceEqDiff, Nat.reduceAdd, Nat.reduceLT, Nat.reduceLeDiff, Nat.beq]
end Go.Proofs.YtaaokejjmdbfaaaDoor.V

namespace Go.Proofs.YtaaokejjmdbfaaaDoor.V
def tz (w : Wd) : Nat := Lib.ctz 64 w.toNat
end Go.Proofs.YtaaokejjmdbfaaaDoor.V

namespace Go.Proofs.YtaaokejjmdbfaaaDoor.V
end Go.Proofs.YtaaokejjmdbfaaaDoor.V

namespace Go.Proofs.YtaaokejjmdbfaaaDoor.V
end Go.Proofs.YtaaokejjmdbfaaaDoor.V

namespace Go.Proofs.YtaaokejjmdbfaaaDoor.V
end Go.Proofs.YtaaokejjmdbfaaaDoor.V

namespace Go.Proofs.YtaaokejjmdbfaaaDoor.V

structure Spn where
  epoch : Int
  fr : Int
  to : Int
  deriving DecidableEq
def eSpn (x : Spn) : PV := .agg [.int .i64 x.epoch, .int .i64 x.fr, .int .i64 x.to]
def bSpn (x : Spn) : List BV := [.pv (.int .i64 x.epoch), .pv (.int .i64 x.fr), .pv (.int .i64 x.to)]
def okNext (p x : Spn) : Bool := decide (x.fr = p.to + 1) && (decide (x.fr ≤ x.to) && (decide (x.to ≤ 1073741824) && (decide (x.epoch ≤ 1073741824) && decide (p.epoch < x.epoch))))
def z0 : Spn := ⟨0, 0, 0⟩
def linGo : Spn → List Spn → Bool
  | _, [] => true
  | p, x :: l => okNext p x && linGo x l
def linOk (l : List Spn) : Bool := linGo z0 l
def lastOf (l : List Spn) (j : Nat) : Spn := if j = 0 then z0 else l.getD (j - 1) z0
def fineS (p : Spn) : Prop := 0 ≤ p.epoch ∧ p.epoch ≤ 1073741824 ∧ 0 ≤ p.to ∧ p.to ≤ 1073741824
theorem lastOf_succ {l : List Spn} {i : Nat} (h : i < l.length) : lastOf l (i + 1) = l[i] := by
  simp [lastOf, List.getD_eq_getElem?_getD, List.getElem?_eq_getElem h]
theorem okNext_fine {p x : Spn} (h : okNext p x = true) (hp : fineS p) : fineS x ∧ x.fr = p.to + 1 ∧ x.fr ≤ x.to ∧ p.epoch < x.epoch := by
  simp only [okNext, Bool.and_eq_true, decide_eq_true_eq] at h
  unfold fineS at *
  omega
def linRes (p : Spn) : List Spn → Bool × Spn
  | [] => (true, p)
  | x :: r => if okNext p x = true then linRes x r else (false, p)
theorem linRes_go : ∀ (l : List Spn) (p : Spn), (linRes p l).1 = linGo p l
  | [], _ => rfl
  | x :: l, p => by
    unfold linRes linGo
    by_cases h : okNext p x = true
    · simp only [h, if_true, Bool.true_and]; exact linRes_go l x
    · simp only [h, if_false, Bool.not_eq_true] at *; simp [h]
theorem cal48 {n low : Int} : cal env 48 [.int .i64 n, .int .i64 low] = some [(.bool (decide (n ≥ low) && decide (n ≤ 1073741824)), false)] := by
  rw [cal_code env48 rfl]; simp only [fn48]; simp only [start, z_map_cons, z_map_nil, z_len_cons, z_len_nil, z_repl_zero, z_repl_succ, z_cons_app, z_nil_app, Nat.reduceAdd, Nat.reduceSub]
  by_cases h : n ≥ low
  · have G : (n ≥ low) = True := eq_true h
    simp only [G, memAll, vAll, reduceCtorEq, Nat.reduceEqDiff, Nat.reduceAdd, Nat.reduceLT, Nat.reduceLeDiff, Nat.beq]
  · have G : (n ≥ low) = False := eq_false h
    simp only [G, memAll, vAll, reduceCtorEq, Nat.reduceEqDiff, Nat.reduceAdd, Nat.reduceLT, Nat.reduceLeDiff, Nat.beq]
theorem loop49 {l : List Spn} (hl : l.length ≤ lim)
   {st : St} (h : st.head [0, 3, 7, 8, 9] st.boxes.length = some ⟨[.pv (.list 3 (l.map eSpn)), .any, .any, .pbox 0 0, .any, .any, .any, .pv (.list 3 (l.map eSpn)), .pv (.int .i64 l.length), .pv (.int .i64 (0 : Nat)), .any, .any, .any, .any, .any, .any, .any, .any, .any, .any, .any, .any, .any, .any, .any, .any, .any, .any, .any, .any, .any, .any, .any, .any, .any, .any, .any, .any, .any, .any, .any, .any, .any, .any, .any, .any], [⟨false, bSpn z0⟩], [], none⟩) :
   den env fn49_l1 st = match linRes z0 l with
     | (true, p) => some (.normal, ⟨[.any, .any, .any, .any, .any, .any, .any, .any, .any, .any, .any, .any, .any, .any, .any, .any, .any, .any, .any, .any, .any, .any, .any, .any, .any, .any, .any, .any, .any, .any, .any, .any, .any, .any, .any, .any, .any, .any, .any, .any, .any, .any, .any, .any, .any, .any], [⟨false, bSpn p⟩], [], none⟩)
     | (false, p) => some (.ret, ⟨[.any, .any, .pv (.bool false), .any, .any, .any, .any, .any, .any, .any, .any, .any, .any, .any, .any, .any, .any, .any, .any, .any, .any, .any, .any, .any, .any, .any, .any, .any, .any, .any, .any, .any, .any, .any, .any, .any, .any, .any, .any, .any, .any, .any, .any, .any, .any, .any], [⟨false, bSpn p⟩], [], none⟩) := by
  unfold fn49_l1
  refine clean_upP (env := env) l.length (fun i => fineS (lastOf l i)) (fun i => ⟨[.pv (.list 3 (l.map eSpn)), .any, .any, .pbox 0 0, .any, .any, .any, .pv (.list 3 (l.map eSpn)), .pv (.int .i64 l.length), .pv (.int .i64 i), .any, .any, .any, .any, .any, .any, .any, .any, .any, .any, .any, .any, .any, .any, .any, .any, .any, .any, .any, .any, .any, .any, .any, .any, .any, .any, .any, .any, .any, .any, .any, .any, .any, .any, .any, .any], [⟨false, bSpn (lastOf l i)⟩], [], none⟩)
    (fun i => match linRes (lastOf l i) (l.drop i) with
     | (true, p) => some (.normal, ⟨[.any, .any, .any, .any, .any, .any, .any, .any, .any, .any, .any, .any, .any, .any, .any, .any, .any, .any, .any, .any, .any, .any, .any, .any, .any, .any, .any, .any, .any, .any, .any, .any, .any, .any, .any, .any, .any, .any, .any, .any, .any, .any, .any, .any, .any, .any], [⟨false, bSpn p⟩], [], none⟩)
     | (false, p) => some (.ret, ⟨[.any, .any, .pv (.bool false), .any, .any, .any, .any, .any, .any, .any, .any, .any, .any, .any, .any, .any, .any, .any, .any, .any, .any, .any, .any, .any, .any, .any, .any, .any, .any, .any, .any, .any, .any, .any, .any, .any, .any, .any, .any, .any, .any, .any, .any, .any, .any, .any], [⟨false, bSpn p⟩], [], none⟩)) h (by simp [lastOf, fineS, z0]) (fun _ => rfl) (fun _ => rfl) ?_ ?_
  · intro i rb hi hf ih
    have hi1 := i64_next hi hl
    have F1 : ((i : Int) < (l.length : Int)) = True := eq_true (by omega)
    have hk : l[i]? = some l[i] := List.getElem?_eq_getElem hi
    rw [lastOf_succ hi] at ih
    rw [List.drop_eq_getElem_cons hi]
    unfold linRes
    generalize lastOf l i = p at *
    generalize l[i] = x at *
    obtain ⟨pe, pf, pt⟩ := p
    obtain ⟨xe, xf, xt⟩ := x
    have hf' := hf
    simp only [fineS] at hf
    have F2 : IntKind.i64.wrap (pt + 1) = pt + 1 := i64_fits (by omega)
    by_cases c1 : xf = pt + 1
    rotate_left
    · have G1 : (xf != pt + 1) = true := by simpa using c1
      have hn : okNext ⟨pe, pf, pt⟩ ⟨xe, xf, xt⟩ = false := by simp [okNext, c1]
      simp only [G1, fn49_b0, F1, F2, hk, bSpn, eSpn, index_nat hi, List.getElem?_map, Option.map_some, memAll, vAll, reduceCtorEq, Nat.reduceEqDiff, Nat.reduceAdd, Nat.reduceLT, Nat.reduceLeDiff, Nat.beq]
      simp only [hn]
      rfl
    have G1 : (xf != pt + 1) = false := by simpa using c1
    by_cases c2 : xt < xf
    · have G2 : (xt < xf) = True := eq_true c2
      have hn : okNext ⟨pe, pf, pt⟩ ⟨xe, xf, xt⟩ = false := by simp [okNext]; omega
      simp only [G1, G2, fn49_b0, F1, F2, hk, bSpn, eSpn, index_nat hi, List.getElem?_map, Option.map_some, memAll, vAll, reduceCtorEq, Nat.reduceEqDiff, Nat.reduceAdd, Nat.reduceLT, Nat.reduceLeDiff, Nat.beq]
      simp only [hn]
      rfl
    have G2 : (xt < xf) = False := eq_false c2
    by_cases c3 : xt > 1073741824
    · have G3 : (xt > 1073741824) = True := eq_true c3
      have hn : okNext ⟨pe, pf, pt⟩ ⟨xe, xf, xt⟩ = false := by simp [okNext]; omega
      simp only [G1, G2, G3, fn49_b0, F1, F2, hk, bSpn, eSpn, index_nat hi, List.getElem?_map, Option.map_some, memAll, vAll, reduceCtorEq, Nat.reduceEqDiff, Nat.reduceAdd, Nat.reduceLT, Nat.reduceLeDiff, Nat.beq]
      simp only [hn]
      rfl
    have G3 : (xt > 1073741824) = False := eq_false c3
    have e1 := cal48 (n := xe) (low := 1)
    by_cases c4 : 1 ≤ xe ∧ xe ≤ 1073741824
    rotate_left
    · have G4 : (decide (xe ≥ 1) && decide (xe ≤ 1073741824)) = false := by
        rw [← Bool.not_eq_true]; simp; omega
      rw [G4] at e1
      have hn : okNext ⟨pe, pf, pt⟩ ⟨xe, xf, xt⟩ = false := by simp [okNext]; omega
      simp only [G1, G2, G3, e1, fn49_b0, F1, F2, hk, bSpn, eSpn, index_nat hi, List.getElem?_map, Option.map_some, memAll, vAll, reduceCtorEq, Nat.reduceEqDiff, Nat.reduceAdd, Nat.reduceLT, Nat.reduceLeDiff, Nat.beq]
      simp only [hn]
      rfl
    have G4 : (decide (xe ≥ 1) && decide (xe ≤ 1073741824)) = true := by simp; omega
    rw [G4] at e1
    by_cases c5 : xe ≤ pe
    · have G5 : (xe ≤ pe) = True := eq_true c5
      have hn : okNext ⟨pe, pf, pt⟩ ⟨xe, xf, xt⟩ = false := by simp [okNext]; omega
      simp only [G1, G2, G3, e1, G5, fn49_b0, F1, F2, hk, bSpn, eSpn, index_nat hi, List.getElem?_map, Option.map_some, memAll, vAll, reduceCtorEq, Nat.reduceEqDiff, Nat.reduceAdd, Nat.reduceLT, Nat.reduceLeDiff, Nat.beq]
      simp only [hn]
      rfl
    have G5 : (xe ≤ pe) = False := eq_false c5
    have hn : okNext ⟨pe, pf, pt⟩ ⟨xe, xf, xt⟩ = true := by simp [okNext]; omega
    have hfx := (okNext_fine hn hf').1
    simp only [G1, G2, G3, e1, G5, fn49_b0, F1, F2, hk, bSpn, eSpn, index_nat hi, List.getElem?_map, Option.map_some, memAll, vAll, reduceCtorEq, Nat.reduceEqDiff, Nat.reduceAdd, Nat.reduceLT, Nat.reduceLeDiff, Nat.beq]
    rw [ih hfx _ (by simp only [hi1]; rfl)]
    simp only [hn, if_true]
    rfl
  · intro rb hf
    simp only [fn49_b0, Int.lt_irrefl, memAll, vAll, reduceCtorEq, Nat.reduceEqDiff, Nat.reduceAdd, Nat.reduceLT, Nat.reduceLeDiff, Nat.beq]
    rw [List.drop_length]
    rfl
theorem cal49 {l : List Spn} (hl : l.length ≤ lim) : cal env 49 [.list 3 (l.map eSpn)] = some [(.bool (linOk l), false)] := by
  rw [cal_code env49 rfl]; simp only [fn49]; simp only [start, z_map_cons, z_map_nil, z_len_cons, z_len_nil, z_repl_zero, z_repl_succ, z_cons_app, z_nil_app, Nat.reduceAdd, Nat.reduceSub]
  simp only [ memAll, vAll, reduceCtorEq, Nat.reduceEqDiff, Nat.reduceAdd, Nat.reduceLT, Nat.reduceLeDiff, Nat.beq]
  rw [loop49 hl]
  rotate_left
  · rfl
  · have := linRes_go l z0
    cases h : linRes z0 l with
    | mk t p =>
      rw [h] at this
      cases t with
      | true => simp only [linOk, ← this, memAll, vAll, reduceCtorEq, Nat.reduceEqDiff, Nat.reduceAdd, Nat.reduceLT, Nat.reduceLeDiff, Nat.beq]
      | false => simp only [linOk, ← this, memAll, vAll, reduceCtorEq, Nat.reduceEqDiff, Nat.reduceAdd, Nat.reduceLT, Nat.reduceLeDiff, Nat.beq]
end Go.Proofs.YtaaokejjmdbfaaaDoor.V

namespace Go.Proofs.YtaaokejjmdbfaaaDoor.V

end Go.Proofs.YtaaokejjmdbfaaaDoor.V

namespace Go.Proofs.YtaaokejjmdbfaaaDoor.V

end Go.Proofs.YtaaokejjmdbfaaaDoor.V

namespace Go.Proofs.YtaaokejjmdbfaaaDoor.V
structure Pt where
  site : Int
  lin : List Spn
  dirty : List Bm
  img : Img
def ePt (p : Pt) : PV := .agg [.int .i64 p.site, .list 3 (p.lin.map eSpn), .list 2 (p.dirty.map eBm), .list 1 (p.img.map eSecs)]
def bPt (p : Pt) : List BV := [.pv (.int .i64 p.site), .pv (.list 3 (p.lin.map eSpn)), .pv (.list 2 (p.dirty.map eBm)), .pv (.list 1 (p.img.map eSecs))]
theorem bPt_eq (p : Pt) : bPt p = [.pv (.int .i64 p.site), .pv (.list 3 (p.lin.map eSpn)), .pv (.list 2 (p.dirty.map eBm)), .pv (.list 1 (p.img.map eSecs))] := rfl
theorem ePt_eq (p : Pt) : ePt p = .agg [.int .i64 p.site, .list 3 (p.lin.map eSpn), .list 2 (p.dirty.map eBm), .list 1 (p.img.map eSecs)] := rfl
def fitP (p : Pt) : Prop := p.lin.length ≤ lim ∧ p.dirty.length ≤ lim ∧ p.img.length ≤ lim
def dirE : List Bm → Img → Int
  | b :: bs, v :: vs => if bmE b ≠ 0 then bmE b else if b.size ≠ (v.length : Int) then 22 else dirE bs vs
  | _, _ => 0
def chkP (p : Pt) : Int :=
  if p.site < 0 ∨ 1073741824 < p.site then 2
  else if linOk p.lin = false then 3
  else if imCheck p.img ≠ 0 then imCheck p.img
  else if p.dirty.length ≠ p.img.length then 6
  else dirE p.dirty p.img
def resD (n : Nat) (e : Int) (bx : List Box) : Option (Ex × St) := if e = 0 then some (.normal, ⟨sl n [(2, .any)], bx, [], none⟩) else some (.ret, ⟨sl n [(2, .pv (.int .i64 e))], bx, [], none⟩)
theorem dirE_step {bs : List Bm} {vs : Img} {i : Nat} (h1 : i < bs.length) (h2 : i < vs.length) : dirE (bs.drop i) (vs.drop i) = if bmE bs[i] ≠ 0 then bmE bs[i] else if bs[i].size ≠ (vs[i].length : Int) then 22 else dirE (bs.drop (i + 1)) (vs.drop (i + 1)) := by
  rw [List.drop_eq_getElem_cons h1, List.drop_eq_getElem_cons h2, dirE]
theorem loop15 {p : Pt} (hl : p.dirty.length ≤ lim) (hq : p.dirty.length = p.img.length) {st : St} (h : st.head [1, 31, 32, 33] st.boxes.length = some ⟨sl 53 [(1, .pbox 0 0), (31, .pv (.list 2 (p.dirty.map eBm))), (32, .pv (.int .i64 p.dirty.length)), (33, .pv (.int .i64 (0 : Nat)))], [⟨false, bPt p⟩], [], none⟩) :
   den env fn15_l1 st = resD 53 (dirE (p.dirty.drop ((0 : Nat))) (p.img.drop ((0 : Nat)))) [⟨false, bPt p⟩] := by
  unfold fn15_l1
  refine clean_up (env := env) (nb := 1) (p.dirty.length) (fun i => ⟨sl 53 [(1, .pbox 0 0), (31, .pv (.list 2 (p.dirty.map eBm))), (32, .pv (.int .i64 p.dirty.length)), (33, .pv (.int .i64 i))], [⟨false, bPt p⟩], [], none⟩) (fun i => resD 53 (dirE (p.dirty.drop (i)) (p.img.drop (i))) [⟨false, bPt p⟩]) h (fun _ => rfl) (fun _ => by simp only [slAll, slsAll, Nat.reduceMul, Nat.reduceBEq, Nat.reduceLT, Nat.reduceLeDiff, Nat.reduceAdd, decide_true, Bool.and_self, Bool.true_and]) ?_ ?_
  · intro i rb hi ih

    have hi1 := i64_next hi hl
    have hj : i < p.img.length := by omega
    have F1 : ((i : Int) < (p.dirty.length : Int)) = True := eq_true (by omega)
    have P2 : ∀ a b : PV, part [a, b] 0 (some 2) = some (.agg [a, b]) := fun _ _ => rfl
    have eA : ∀ b : Bm, eBm b = .agg [.int .i64 b.size, .list 1 (b.ws.map eW)] := fun _ => rfl
    have eV : ∀ v : List Sec, eSecs v = .list 8 (v.map eSec) := fun _ => rfl
    have hx : (p.dirty.map eBm)[i]? = some (eBm p.dirty[i]) := by rw [List.getElem?_map, List.getElem?_eq_getElem hi]; rfl
    have hy : (p.img.map eSecs)[i]? = some (eSecs p.img[i]) := by rw [List.getElem?_map, List.getElem?_eq_getElem hj]; rfl
    have e1 := cal51 (b := p.dirty[i])
    have hD := dirE_step hi hj
    rw [eA] at hx e1
    rw [eV] at hy
    by_cases c1 : bmE p.dirty[i] = 0
    · have G1 : ((0 : Int) != 0) = false := rfl
      rw [c1] at e1
      rw [if_neg (show ¬ bmE p.dirty[i] ≠ 0 from fun h => h c1)] at hD
      by_cases c2 : p.dirty[i].size = (p.img[i].length : Int)
      · have G2 : (p.dirty[i].size != (p.img[i].length : Int)) = false := by simpa using c2
        rw [if_neg (show ¬ p.dirty[i].size ≠ (p.img[i].length : Int) from fun h => h c2)] at hD
        rw [hD]
        simp only [fn15_b0, F1, hx, hy, e1, P2, G1, G2, bPt_eq, index_nat hi, index_nat hj, List.length_map, slAll, slsAll, Nat.reduceMul, Nat.reduceBEq, Nat.reduceLT, Nat.reduceLeDiff, memAll, vAll, reduceCtorEq, Nat.reduceEqDiff, Nat.reduceAdd, Nat.reduceLT, Nat.reduceLeDiff, Nat.beq]
        rw [ih _ (by simp only [hi1, bPt_eq, slAll, slsAll, Nat.reduceMul, Nat.reduceBEq, Nat.reduceLT, Nat.reduceLeDiff, memAll, vAll, reduceCtorEq, Nat.reduceEqDiff, Nat.reduceAdd, Nat.reduceLT, Nat.reduceLeDiff, Nat.beq] <;> rfl)]
        all_goals rfl
      · have G2 : (p.dirty[i].size != (p.img[i].length : Int)) = true := by simpa using c2
        rw [if_pos c2] at hD
        rw [hD]
        unfold resD
        rw [if_neg (by decide)]
        simp only [fn15_b0, F1, hx, hy, e1, P2, G1, G2, bPt_eq, index_nat hi, index_nat hj, List.length_map, slAll, slsAll, Nat.reduceMul, Nat.reduceBEq, Nat.reduceLT, Nat.reduceLeDiff, memAll, vAll, reduceCtorEq, Nat.reduceEqDiff, Nat.reduceAdd, Nat.reduceLT, Nat.reduceLeDiff, Nat.beq]
    · have G1 : (bmE p.dirty[i] != 0) = true := by simpa using c1
      rw [if_pos c1] at hD
      rw [hD]
      unfold resD
      rw [if_neg c1]
      simp only [fn15_b0, F1, hx, hy, e1, P2, G1, bPt_eq, index_nat hi, index_nat hj, List.length_map, slAll, slsAll, Nat.reduceMul, Nat.reduceBEq, Nat.reduceLT, Nat.reduceLeDiff, memAll, vAll, reduceCtorEq, Nat.reduceEqDiff, Nat.reduceAdd, Nat.reduceLT, Nat.reduceLeDiff, Nat.beq]
  · intro rb

    rw [List.drop_length, hq, List.drop_length]
    unfold dirE resD
    rw [if_pos rfl]
    simp only [fn15_b0, Int.lt_irrefl, bPt_eq, hq, List.length_map, slAll, slsAll, Nat.reduceMul, Nat.reduceBEq, Nat.reduceLT, Nat.reduceLeDiff, memAll, vAll, reduceCtorEq, Nat.reduceEqDiff, Nat.reduceAdd, Nat.reduceLT, Nat.reduceLeDiff, Nat.beq]

theorem cal15 {p : Pt} (h : fitP p) : cal env 15 [ePt p] = some [(.int .i64 (chkP p), false)] := by
  obtain ⟨h1, h2, h3⟩ := h
  have e0 := cal48 (n := p.site) (low := 0)
  have e1 := cal49 (l := p.lin) h1
  have e2 := cal50 (im := p.img) h3
  have Z : ((0 : Int) != 0) = false := rfl
  unfold chkP
  rw [ePt_eq]
  by_cases c1 : p.site < 0 ∨ 1073741824 < p.site
  · have G1 : (decide (p.site ≥ 0) && decide (p.site ≤ 1073741824)) = false := by simp; omega
    rw [G1] at e0
    rw [if_pos c1]
    rw [cal_code env15 rfl]; simp only [fn15, slAll, Nat.reduceBEq, Nat.reduceLeDiff, Nat.reduceAdd, List.length_cons, List.length_nil]
    simp only [e0, slAll, slsAll, Nat.reduceMul, Nat.reduceBEq, Nat.reduceLT, Nat.reduceLeDiff, memAll, vAll, reduceCtorEq, Nat.reduceEqDiff, Nat.reduceAdd, Nat.reduceLT, Nat.reduceLeDiff, Nat.beq]
  · have G1 : (decide (p.site ≥ 0) && decide (p.site ≤ 1073741824)) = true := by simp; omega
    rw [G1] at e0
    rw [if_neg c1]
    cases c3 : linOk p.lin with
    | false =>
      rw [c3] at e1
      rw [if_pos rfl]
      rw [cal_code env15 rfl]; simp only [fn15, slAll, Nat.reduceBEq, Nat.reduceLeDiff, Nat.reduceAdd, List.length_cons, List.length_nil]
      simp only [e0, e1, slAll, slsAll, Nat.reduceMul, Nat.reduceBEq, Nat.reduceLT, Nat.reduceLeDiff, memAll, vAll, reduceCtorEq, Nat.reduceEqDiff, Nat.reduceAdd, Nat.reduceLT, Nat.reduceLeDiff, Nat.beq]
    | true =>
      rw [c3] at e1
      rw [if_neg (by decide)]
      by_cases c4 : imCheck p.img = 0
      · rw [c4] at e2
        rw [if_neg (by rw [c4]; decide)]
        by_cases c5 : p.dirty.length = p.img.length
        · have G5 : ((p.dirty.length : Int) != (p.img.length : Int)) = false := by simp [c5]
          rw [if_neg (by simpa using c5)]
          rw [cal_code env15 rfl]; simp only [fn15, slAll, Nat.reduceBEq, Nat.reduceLeDiff, Nat.reduceAdd, List.length_cons, List.length_nil]
          simp only [e0, e1, e2, Z, G5, List.length_map, slAll, slsAll, Nat.reduceMul, Nat.reduceBEq, Nat.reduceLT, Nat.reduceLeDiff, memAll, vAll, reduceCtorEq, Nat.reduceEqDiff, Nat.reduceAdd, Nat.reduceLT, Nat.reduceLeDiff, Nat.beq]
          rw [loop15 (p := p) h2 c5]
          rotate_left
          · rw [bPt_eq]
            simp only [slAll, slsAll, Nat.reduceMul, Nat.reduceBEq, Nat.reduceLT, Nat.reduceLeDiff, Nat.reduceAdd, decide_true, Bool.and_self, Bool.true_and] <;> rfl
          · rw [List.drop_zero, List.drop_zero]
            unfold resD
            split
            · rename_i c6
              rw [c6]
              simp only [e0, e1, e2, Z, G5, List.length_map, slAll, slsAll, Nat.reduceMul, Nat.reduceBEq, Nat.reduceLT, Nat.reduceLeDiff, memAll, vAll, reduceCtorEq, Nat.reduceEqDiff, Nat.reduceAdd, Nat.reduceLT, Nat.reduceLeDiff, Nat.beq]
            · simp only [e0, e1, e2, Z, G5, List.length_map, slAll, slsAll, Nat.reduceMul, Nat.reduceBEq, Nat.reduceLT, Nat.reduceLeDiff, memAll, vAll, reduceCtorEq, Nat.reduceEqDiff, Nat.reduceAdd, Nat.reduceLT, Nat.reduceLeDiff, Nat.beq]
        · have G5 : ((p.dirty.length : Int) != (p.img.length : Int)) = true := by simp; omega
          rw [if_pos c5]
          rw [cal_code env15 rfl]; simp only [fn15, slAll, Nat.reduceBEq, Nat.reduceLeDiff, Nat.reduceAdd, List.length_cons, List.length_nil]
          simp only [e0, e1, e2, Z, G5, List.length_map, slAll, slsAll, Nat.reduceMul, Nat.reduceBEq, Nat.reduceLT, Nat.reduceLeDiff, memAll, vAll, reduceCtorEq, Nat.reduceEqDiff, Nat.reduceAdd, Nat.reduceLT, Nat.reduceLeDiff, Nat.beq]
      · have G4 : (imCheck p.img != 0) = true := by simpa using c4
        rw [if_pos c4]
        rw [cal_code env15 rfl]; simp only [fn15, slAll, Nat.reduceBEq, Nat.reduceLeDiff, Nat.reduceAdd, List.length_cons, List.length_nil]
        simp only [e0, e1, e2, G4, List.length_map, slAll, slsAll, Nat.reduceMul, Nat.reduceBEq, Nat.reduceLT, Nat.reduceLeDiff, memAll, vAll, reduceCtorEq, Nat.reduceEqDiff, Nat.reduceAdd, Nat.reduceLT, Nat.reduceLeDiff, Nat.beq]
end Go.Proofs.YtaaokejjmdbfaaaDoor.V

namespace Go.Proofs.YtaaokejjmdbfaaaDoor.V
theorem eqF_sz : ∀ a b : Img, eqF (fun x y : List Sec => decide (x.length = y.length)) a b = decide (imSizes a = imSizes b)
  | [], [] => rfl
  | [], y :: b => by simp [eqF, imSizes]
  | x :: a, [] => by simp [eqF, imSizes]
  | x :: a, y :: b => by
    have ih := eqF_sz a b
    unfold eqF at ih ⊢
    have e0 : decide (imSizes (x :: a) = imSizes (y :: b)) = (decide (x.length = y.length) && decide (imSizes a = imSizes b)) := by
      rw [← Bool.decide_and]
      exact decide_eq_decide.2 (by simp only [imSizes, List.map_cons, List.cons.injEq]; exact and_congr Int.ofNat_inj Iff.rfl)
    rw [e0, ← ih]
    simp only [List.length_cons, List.zip_cons_cons, List.all_cons]
    have e2 : decide (a.length + 1 = b.length + 1) = decide (a.length = b.length) := decide_eq_decide.2 (by omega)
    rw [e2]
    cases decide (x.length = y.length) <;> cases decide (a.length = b.length) <;> simp
theorem cal79 {x y : List Sec} : cal env 79 [eSecs x, eSecs y] = some [(.bool (decide (x.length = y.length)), false)] := by
  have eV : ∀ v : List Sec, eSecs v = .list 8 (v.map eSec) := fun _ => rfl
  rw [eV, eV]
  by_cases c : x.length = y.length
  · have G : ((x.length : Int) == (y.length : Int)) = true := by simp [c]
    rw [decide_eq_true c]
    rw [cal_code env79 rfl]; simp only [fn79, slAll, Nat.reduceBEq, Nat.reduceLeDiff, Nat.reduceAdd, List.length_cons, List.length_nil]
    simp only [G, List.length_map, slAll, slsAll, Nat.reduceMul, Nat.reduceBEq, Nat.reduceLT, Nat.reduceLeDiff, memAll, vAll, reduceCtorEq, Nat.reduceEqDiff, Nat.reduceAdd, Nat.reduceLT, Nat.reduceLeDiff, Nat.beq]
  · have G : ((x.length : Int) == (y.length : Int)) = false := by simp; omega
    rw [decide_eq_false c]
    rw [cal_code env79 rfl]; simp only [fn79, slAll, Nat.reduceBEq, Nat.reduceLeDiff, Nat.reduceAdd, List.length_cons, List.length_nil]
    simp only [G, List.length_map, slAll, slsAll, Nat.reduceMul, Nat.reduceBEq, Nat.reduceLT, Nat.reduceLeDiff, memAll, vAll, reduceCtorEq, Nat.reduceEqDiff, Nat.reduceAdd, Nat.reduceLT, Nat.reduceLeDiff, Nat.beq]
theorem cal44 {a b : Img} (hl : a.length ≤ lim) : cal env 44 [.list 1 (a.map eSecs), .list 1 (b.map eSecs)] = some [(.bool (decide (imSizes a = imSizes b)), false)] := by
  have e1 := cal77 (enc := eSecs) (enc2 := eSecs) (eq := fun x y : List Sec => decide (x.length = y.length)) (l := a) (m := b) (gf := 79) (caps := []) (fun x _ y _ => cal79) (fun _ => rfl) (fun _ => rfl) hl
  rw [eqF_sz] at e1
  rw [cal_code env44 rfl]; simp only [fn44, slAll, Nat.reduceBEq, Nat.reduceLeDiff, Nat.reduceAdd, List.length_cons, List.length_nil]
  simp only [e1, slAll, slsAll, Nat.reduceMul, Nat.reduceBEq, Nat.reduceLT, Nat.reduceLeDiff, memAll, vAll, reduceCtorEq, Nat.reduceEqDiff, Nat.reduceAdd, Nat.reduceLT, Nat.reduceLeDiff, Nat.beq]
def frsE : List Pt → Int
  | [] => 0
  | p :: l => if chkP p = 0 then frsE l else chkP p
def sameAll (u : List Int) (l : List Pt) : Bool := l.all fun p => decide (imSizes p.img = u)
def fitE (l : List Pt) : Int :=
  if frsE l = 0 then
    if l.length < 1 ∨ 4 < l.length then 6
    else if sameAll (imSizes (l.getD 0 ⟨0, [], [], []⟩).img) l then 0 else 22
  else frsE l
theorem frsE_step {l : List Pt} {i : Nat} (h : i < l.length) : frsE (l.drop i) = if chkP l[i] = 0 then frsE (l.drop (i + 1)) else chkP l[i] := by
  rw [List.drop_eq_getElem_cons h, frsE]
theorem sameAll_step {u : List Int} {l : List Pt} {i : Nat} (h : i < l.length) : sameAll u (l.drop i) = (decide (imSizes l[i].img = u) && sameAll u (l.drop (i + 1))) := by
  rw [List.drop_eq_getElem_cons h]; rfl
def resE (n : Nat) (e : Int) (a : AV) : Option (Ex × St) := if e = 0 then some (.normal, ⟨sl n [(0, a), (2, .any)], [], [], none⟩) else some (.ret, ⟨sl n [(0, a), (2, .pv (.int .i64 e))], [], [], none⟩)
def resS2 (n : Nat) (t : Bool) : Option (Ex × St) := if t then some (.normal, ⟨sl n [(2, .any)], [], [], none⟩) else some (.ret, ⟨sl n [(2, .pv (.int .i64 22))], [], [], none⟩)
theorem resS2_t (n : Nat) : resS2 n true = some (.normal, ⟨sl n [(2, .any)], [], [], none⟩) := rfl
theorem resS2_f (n : Nat) : resS2 n false = some (.ret, ⟨sl n [(2, .pv (.int .i64 22))], [], [], none⟩) := rfl
theorem loop56 {l : List Pt} (hl : l.length ≤ lim) (hf : ∀ p ∈ l, fitP p) {st : St} (h : st.head [0, 8, 9, 10] st.boxes.length = some ⟨sl 43 [(0, .pv (.list 4 (l.map ePt))), (8, .pv (.list 4 (l.map ePt))), (9, .pv (.int .i64 l.length)), (10, .pv (.int .i64 (0 : Nat)))], [], [], none⟩) :
   den env fn56_l1 st = resE 43 (frsE (l.drop ((0 : Nat)))) (.pv (.list 4 (l.map ePt))) := by
  unfold fn56_l1
  refine clean_up (env := env) (nb := 0) (l.length) (fun i => ⟨sl 43 [(0, .pv (.list 4 (l.map ePt))), (8, .pv (.list 4 (l.map ePt))), (9, .pv (.int .i64 l.length)), (10, .pv (.int .i64 i))], [], [], none⟩) (fun i => resE 43 (frsE (l.drop (i))) (.pv (.list 4 (l.map ePt)))) h (fun _ => rfl) (fun _ => by simp only [slAll, slsAll, Nat.reduceMul, Nat.reduceBEq, Nat.reduceLT, Nat.reduceLeDiff, Nat.reduceAdd, decide_true, Bool.and_self, Bool.true_and]) ?_ ?_
  · intro i rb hi ih

    have hi1 := i64_next hi hl
    have F1 : ((i : Int) < (l.length : Int)) = True := eq_true (by omega)
    have e1 := cal15 (p := l[i]) (hf _ (List.getElem_mem hi))
    have hx : (l.map ePt)[i]? = some (ePt l[i]) := by rw [List.getElem?_map, List.getElem?_eq_getElem hi]; rfl
    have P4 : ∀ a b c d : PV, part [a, b, c, d] 0 (some 4) = some (.agg [a, b, c, d]) := fun _ _ _ _ => rfl
    rw [frsE_step hi]
    rw [ePt_eq] at e1 hx
    by_cases c : chkP l[i] = 0
    · have G : ((0 : Int) != 0) = false := rfl
      rw [if_pos c]
      rw [c] at e1
      simp only [fn56_b0, F1, hx, e1, G, P4, index_nat hi, List.length_map, slAll, slsAll, Nat.reduceMul, Nat.reduceBEq, Nat.reduceLT, Nat.reduceLeDiff, memAll, vAll, reduceCtorEq, Nat.reduceEqDiff, Nat.reduceAdd, Nat.reduceLT, Nat.reduceLeDiff, Nat.beq]
      rw [ih _ (by simp only [hi1, slAll, slsAll, Nat.reduceMul, Nat.reduceBEq, Nat.reduceLT, Nat.reduceLeDiff, memAll, vAll, reduceCtorEq, Nat.reduceEqDiff, Nat.reduceAdd, Nat.reduceLT, Nat.reduceLeDiff, Nat.beq] <;> rfl)]
    · have G : (chkP l[i] != 0) = true := by simpa using c
      rw [if_neg c]
      unfold resE
      rw [if_neg c]
      simp only [fn56_b0, F1, hx, e1, G, P4, index_nat hi, List.length_map, slAll, slsAll, Nat.reduceMul, Nat.reduceBEq, Nat.reduceLT, Nat.reduceLeDiff, memAll, vAll, reduceCtorEq, Nat.reduceEqDiff, Nat.reduceAdd, Nat.reduceLT, Nat.reduceLeDiff, Nat.beq]
  · intro rb

    rw [List.drop_length]
    unfold frsE resE
    rw [if_pos rfl]
    simp only [fn56_b0, Int.lt_irrefl, List.length_map, slAll, slsAll, Nat.reduceMul, Nat.reduceBEq, Nat.reduceLT, Nat.reduceLeDiff, memAll, vAll, reduceCtorEq, Nat.reduceEqDiff, Nat.reduceAdd, Nat.reduceLT, Nat.reduceLeDiff, Nat.beq]

theorem loop56l3 {l : List Pt} {p0 : Pt} (h0 : l[0]? = some p0) (hl : l.length ≤ lim) (hf : ∀ p ∈ l, fitP p) {st : St} (h : st.head [0, 28, 29, 30] st.boxes.length = some ⟨sl 43 [(0, .pv (.list 4 (l.map ePt))), (28, .pv (.list 4 (l.map ePt))), (29, .pv (.int .i64 l.length)), (30, .pv (.int .i64 (0 : Nat)))], [], [], none⟩) :
   den env fn56_l3 st = resS2 43 (sameAll (imSizes p0.img) (l.drop ((0 : Nat)))) := by
  unfold fn56_l3
  refine clean_up (env := env) (nb := 0) (l.length) (fun i => ⟨sl 43 [(0, .pv (.list 4 (l.map ePt))), (28, .pv (.list 4 (l.map ePt))), (29, .pv (.int .i64 l.length)), (30, .pv (.int .i64 i))], [], [], none⟩) (fun i => resS2 43 (sameAll (imSizes p0.img) (l.drop (i)))) h (fun _ => rfl) (fun _ => by simp only [slAll, slsAll, Nat.reduceMul, Nat.reduceBEq, Nat.reduceLT, Nat.reduceLeDiff, Nat.reduceAdd, decide_true, Bool.and_self, Bool.true_and]) ?_ ?_
  · intro i rb hi ih

    have hi1 := i64_next hi hl
    have F1 : ((i : Int) < (l.length : Int)) = True := eq_true (by omega)
    have hn : 0 < l.length := by omega
    have e1 := cal44 (a := l[i].img) (b := p0.img) (hf _ (List.getElem_mem hi)).2.2
    have hx : (l.map ePt)[i]? = some (ePt l[i]) := by rw [List.getElem?_map, List.getElem?_eq_getElem hi]; rfl
    have hy : (l.map ePt)[0]? = some (ePt p0) := by rw [List.getElem?_map, h0]; rfl
    have P4 : ∀ a b c d : PV, part [a, b, c, d] 0 (some 4) = some (.agg [a, b, c, d]) := fun _ _ _ _ => rfl
    have I0 : index (.int .i64 0) l.length = some 0 := index_nat (i := 0) hn
    rw [sameAll_step hi]
    rw [ePt_eq] at hx hy
    cases c : decide (imSizes l[i].img = imSizes p0.img) with
    | true =>
      rw [Bool.true_and]
      rw [c] at e1
      simp only [fn56_b2, F1, hx, hy, e1, P4, I0, index_nat hi, List.length_map, slAll, slsAll, Nat.reduceMul, Nat.reduceBEq, Nat.reduceLT, Nat.reduceLeDiff, memAll, vAll, reduceCtorEq, Nat.reduceEqDiff, Nat.reduceAdd, Nat.reduceLT, Nat.reduceLeDiff, Nat.beq]
      rw [ih _ (by simp only [hi1, slAll, slsAll, Nat.reduceMul, Nat.reduceBEq, Nat.reduceLT, Nat.reduceLeDiff, memAll, vAll, reduceCtorEq, Nat.reduceEqDiff, Nat.reduceAdd, Nat.reduceLT, Nat.reduceLeDiff, Nat.beq] <;> rfl)]
    | false =>
      rw [Bool.false_and, resS2_f]
      rw [c] at e1
      simp only [fn56_b2, F1, hx, hy, e1, P4, I0, index_nat hi, List.length_map, slAll, slsAll, Nat.reduceMul, Nat.reduceBEq, Nat.reduceLT, Nat.reduceLeDiff, memAll, vAll, reduceCtorEq, Nat.reduceEqDiff, Nat.reduceAdd, Nat.reduceLT, Nat.reduceLeDiff, Nat.beq]
  · intro rb

    rw [List.drop_length]
    unfold sameAll
    rw [List.all_nil, resS2_t]
    simp only [fn56_b2, Int.lt_irrefl, List.length_map, slAll, slsAll, Nat.reduceMul, Nat.reduceBEq, Nat.reduceLT, Nat.reduceLeDiff, memAll, vAll, reduceCtorEq, Nat.reduceEqDiff, Nat.reduceAdd, Nat.reduceLT, Nat.reduceLeDiff, Nat.beq]

theorem cal56 {l : List Pt} (hl : l.length ≤ lim) (hf : ∀ p ∈ l, fitP p) : cal env 56 [.list 4 (l.map ePt)] = some [(.int .i64 (fitE l), false)] := by
  unfold fitE
  rw [cal_code env56 rfl]; simp only [fn56, slAll, Nat.reduceBEq, Nat.reduceLeDiff, Nat.reduceAdd, List.length_cons, List.length_nil]
  simp only [List.length_map, slAll, slsAll, Nat.reduceMul, Nat.reduceBEq, Nat.reduceLT, Nat.reduceLeDiff, memAll, vAll, reduceCtorEq, Nat.reduceEqDiff, Nat.reduceAdd, Nat.reduceLT, Nat.reduceLeDiff, Nat.beq]
  rw [loop56 (l := l) hl hf]
  rotate_left
  · simp only [slAll, slsAll, Nat.reduceMul, Nat.reduceBEq, Nat.reduceLT, Nat.reduceLeDiff, Nat.reduceAdd, decide_true, Bool.and_self, Bool.true_and] <;> rfl
  · rw [List.drop_zero]
    unfold resE
    by_cases c : frsE l = 0
    · rw [if_pos c, if_pos c]
      by_cases c1 : l.length < 1
      · have G : ((l.length : Int) < 1) = True := eq_true (by omega)
        rw [if_pos (.inl c1)]
        simp only [G, List.length_map, slAll, slsAll, Nat.reduceMul, Nat.reduceBEq, Nat.reduceLT, Nat.reduceLeDiff, memAll, vAll, reduceCtorEq, Nat.reduceEqDiff, Nat.reduceAdd, Nat.reduceLT, Nat.reduceLeDiff, Nat.beq]
      · have G : ((l.length : Int) < 1) = False := eq_false (by omega)
        by_cases c2 : l.length > 4
        · have G2 : ((l.length : Int) > 4) = True := eq_true (by omega)
          rw [if_pos (.inr c2)]
          simp only [G, G2, List.length_map, slAll, slsAll, Nat.reduceMul, Nat.reduceBEq, Nat.reduceLT, Nat.reduceLeDiff, memAll, vAll, reduceCtorEq, Nat.reduceEqDiff, Nat.reduceAdd, Nat.reduceLT, Nat.reduceLeDiff, Nat.beq]
        · have G2 : ((l.length : Int) > 4) = False := eq_false (by omega)
          rw [if_neg (by omega)]
          simp only [G, G2, List.length_map, slAll, slsAll, Nat.reduceMul, Nat.reduceBEq, Nat.reduceLT, Nat.reduceLeDiff, memAll, vAll, reduceCtorEq, Nat.reduceEqDiff, Nat.reduceAdd, Nat.reduceLT, Nat.reduceLeDiff, Nat.beq]
          have h0 : l[0]? = some l[0] := List.getElem?_eq_getElem (by omega)
          have hD : l.getD 0 ⟨0, [], [], []⟩ = l[0] := by rw [List.getD_eq_getElem?_getD, h0]; rfl
          rw [loop56l3 h0 hl hf]
          rotate_left
          · simp only [slAll, slsAll, Nat.reduceMul, Nat.reduceBEq, Nat.reduceLT, Nat.reduceLeDiff, Nat.reduceAdd, decide_true, Bool.and_self, Bool.true_and] <;> rfl
          · rw [List.drop_zero, hD]
            cases sameAll (imSizes l[0].img) l with
            | true =>
              rw [resS2_t]
              simp only [List.length_map, slAll, slsAll, Nat.reduceMul, Nat.reduceBEq, Nat.reduceLT, Nat.reduceLeDiff, memAll, vAll, reduceCtorEq, Nat.reduceEqDiff, Nat.reduceAdd, Nat.reduceLT, Nat.reduceLeDiff, Nat.beq]
            | false =>
              rw [resS2_f]
              simp only [List.length_map, slAll, slsAll, Nat.reduceMul, Nat.reduceBEq, Nat.reduceLT, Nat.reduceLeDiff, memAll, vAll, reduceCtorEq, Nat.reduceEqDiff, Nat.reduceAdd, Nat.reduceLT, Nat.reduceLeDiff, Nat.beq]
    · rw [if_neg c, if_neg c]
      simp only [List.length_map, slAll, slsAll, Nat.reduceMul, Nat.reduceBEq, Nat.reduceLT, Nat.reduceLeDiff, memAll, vAll, reduceCtorEq, Nat.reduceEqDiff, Nat.reduceAdd, Nat.reduceLT, Nat.reduceLeDiff, Nat.beq]
end Go.Proofs.YtaaokejjmdbfaaaDoor.V

namespace Go.Proofs.YtaaokejjmdbfaaaDoor.V
def fewPt (p : Pt) : Bool := decide (p.lin.length ≤ 20) && (few7 p.img && decide (p.dirty.length ≤ 9))
def fewPts (l : List Pt) : Bool := (l.take 8).all fewPt && decide (l.length ≤ 6)
theorem fewPts_ok {l : List Pt} (h : fewPts l = true) : l.length ≤ 6 ∧ ∀ p ∈ l, p.lin.length ≤ 20 ∧ p.dirty.length ≤ 9 ∧ p.img.length ≤ 9 ∧ ∀ v ∈ p.img, v.length ≤ 24 := by
  unfold fewPts at h
  rw [Bool.and_eq_true, decide_eq_true_eq] at h
  refine ⟨h.2, fun p hp => ?_⟩
  rw [List.take_of_length_le (by omega), List.all_eq_true] at h
  have := h.1 p hp
  unfold fewPt few7 at this
  simp only [Bool.and_eq_true, decide_eq_true_eq, List.all_eq_true] at this
  exact ⟨this.1, this.2.2, this.2.1.1, this.2.1.2⟩
theorem fewPts_fit {l : List Pt} (h : fewPts l = true) : l.length ≤ lim ∧ ∀ p ∈ l, fitP p := by
  obtain ⟨h1, h2⟩ := fewPts_ok h
  have hlim : lim = 1073741824 := rfl
  refine ⟨by omega, fun p hp => ?_⟩
  have := h2 p hp
  exact ⟨by omega, by omega, by omega⟩
theorem fewD_step {l : List Pt} {i : Nat} (h : i < l.length) : (l.drop i).all fewPt = (fewPt l[i] && (l.drop (i + 1)).all fewPt) := by
  rw [List.drop_eq_getElem_cons h]; rfl
def resQ (n : Nat) (l : List Pt) (t : Bool) : Option (Ex × St) := if t then some (.normal, ⟨sl n [(0, .pv (.list 4 (l.map ePt))), (2, .any)], [], [], none⟩) else some (.ret, ⟨sl n [(0, .pv (.list 4 (l.map ePt))), (2, .pv (.bool false))], [], [], none⟩)
theorem loop11 {l : List Pt} {st : St} (h : st.head [0, 3] st.boxes.length = some ⟨sl 38 [(0, .pv (.list 4 (l.map ePt))), (3, .pv (.int .i64 (0 : Nat)))], [], [], none⟩) :
   den env fn11_l1 st = resQ 38 l (((l.take 8).drop ((0 : Nat))).all fewPt) := by
  unfold fn11_l1
  refine clean_up (env := env) (nb := 0) ((l.take 8).length) (fun i => ⟨sl 38 [(0, .pv (.list 4 (l.map ePt))), (3, .pv (.int .i64 i))], [], [], none⟩) (fun i => resQ 38 l (((l.take 8).drop (i)).all fewPt)) h (fun _ => rfl) (fun _ => by simp only [slAll, slsAll, Nat.reduceMul, Nat.reduceBEq, Nat.reduceLT, Nat.reduceLeDiff, Nat.reduceAdd, decide_true, Bool.and_self, Bool.true_and]) ?_ ?_
  · intro i rb hi ih

    have hm : (l.take 8).length = min 8 l.length := List.length_take
    have hi1 := i64_next hi (by unfold lim; omega)
    have hil : i < l.length := by omega
    have F1 : ((i : Int) < (l.length : Int)) = True := eq_true (by omega)
    have F2 : ((i : Int) < 8) = True := eq_true (by omega)
    have hx : (l.map ePt)[i]? = some (ePt l[i]) := by rw [List.getElem?_map, List.getElem?_eq_getElem hil]; rfl
    have P4 : ∀ a b c d : PV, part [a, b, c, d] 0 (some 4) = some (.agg [a, b, c, d]) := fun _ _ _ _ => rfl
    have e1 := cal41 (im := l[i].img)
    have hs : ((l.take 8).drop i).all fewPt = (fewPt l[i] && ((l.take 8).drop (i + 1)).all fewPt) := by
      rw [fewD_step hi]
      congr 2
      rw [List.getElem_take]
    rw [hs]
    rw [ePt_eq] at hx
    have hD : fewPt l[i] = (decide (l[i].lin.length ≤ 20) && (few7 l[i].img && decide (l[i].dirty.length ≤ 9))) := rfl
    unfold resQ
    by_cases c1 : l[i].lin.length ≤ 20
    · have G1 : ((l[i].lin.length : Int) > 20) = False := eq_false (by omega)
      rw [decide_eq_true c1, Bool.true_and] at hD
      cases c2 : few7 l[i].img with
      | true =>
        rw [c2] at e1 hD
        rw [Bool.true_and] at hD
        by_cases c3 : l[i].dirty.length ≤ 9
        · have G3 : ((l[i].dirty.length : Int) > 9) = False := eq_false (by omega)
          rw [decide_eq_true c3] at hD
          rw [hD, Bool.true_and]
          simp only [fn11_b0, F1, F2, hx, P4, e1, G1, G3, index_nat hil, List.length_map, slAll, slsAll, Nat.reduceMul, Nat.reduceBEq, Nat.reduceLT, Nat.reduceLeDiff, memAll, vAll, reduceCtorEq, Nat.reduceEqDiff, Nat.reduceAdd, Nat.reduceLT, Nat.reduceLeDiff, Nat.beq]
          rw [ih _ (by simp only [hi1, slAll, slsAll, Nat.reduceMul, Nat.reduceBEq, Nat.reduceLT, Nat.reduceLeDiff, memAll, vAll, reduceCtorEq, Nat.reduceEqDiff, Nat.reduceAdd, Nat.reduceLT, Nat.reduceLeDiff, Nat.beq] <;> rfl)]
          rfl
        · have G3 : ((l[i].dirty.length : Int) > 9) = True := eq_true (by omega)
          rw [decide_eq_false c3] at hD
          rw [hD, Bool.false_and, if_neg (by decide)]
          simp only [fn11_b0, F1, F2, hx, P4, e1, G1, G3, index_nat hil, List.length_map, slAll, slsAll, Nat.reduceMul, Nat.reduceBEq, Nat.reduceLT, Nat.reduceLeDiff, memAll, vAll, reduceCtorEq, Nat.reduceEqDiff, Nat.reduceAdd, Nat.reduceLT, Nat.reduceLeDiff, Nat.beq]
      | false =>
        rw [c2] at e1 hD
        rw [Bool.false_and] at hD
        rw [hD, Bool.false_and, if_neg (by decide)]
        simp only [fn11_b0, F1, F2, hx, P4, e1, G1, index_nat hil, List.length_map, slAll, slsAll, Nat.reduceMul, Nat.reduceBEq, Nat.reduceLT, Nat.reduceLeDiff, memAll, vAll, reduceCtorEq, Nat.reduceEqDiff, Nat.reduceAdd, Nat.reduceLT, Nat.reduceLeDiff, Nat.beq]
    · have G1 : ((l[i].lin.length : Int) > 20) = True := eq_true (by omega)
      rw [decide_eq_false c1, Bool.false_and] at hD
      rw [hD, Bool.false_and, if_neg (by decide)]
      simp only [fn11_b0, F1, F2, hx, P4, G1, index_nat hil, List.length_map, slAll, slsAll, Nat.reduceMul, Nat.reduceBEq, Nat.reduceLT, Nat.reduceLeDiff, memAll, vAll, reduceCtorEq, Nat.reduceEqDiff, Nat.reduceAdd, Nat.reduceLT, Nat.reduceLeDiff, Nat.beq]
  · intro rb

    have hm : (l.take 8).length = min 8 l.length := List.length_take
    rw [List.drop_length]
    unfold resQ
    rw [List.all_nil, if_pos rfl]
    by_cases c : l.length ≤ 8
    · have F1 : (((l.take 8).length : Int) < (l.length : Int)) = False := eq_false (by omega)
      simp only [fn11_b0, F1, List.length_map, slAll, slsAll, Nat.reduceMul, Nat.reduceBEq, Nat.reduceLT, Nat.reduceLeDiff, memAll, vAll, reduceCtorEq, Nat.reduceEqDiff, Nat.reduceAdd, Nat.reduceLT, Nat.reduceLeDiff, Nat.beq]
    · have F1 : (((l.take 8).length : Int) < (l.length : Int)) = True := eq_true (by omega)
      have F2 : (((l.take 8).length : Int) < 8) = False := eq_false (by omega)
      simp only [fn11_b0, F1, F2, List.length_map, slAll, slsAll, Nat.reduceMul, Nat.reduceBEq, Nat.reduceLT, Nat.reduceLeDiff, memAll, vAll, reduceCtorEq, Nat.reduceEqDiff, Nat.reduceAdd, Nat.reduceLT, Nat.reduceLeDiff, Nat.beq]

theorem cal11 {l : List Pt} : cal env 11 [.list 4 (l.map ePt)] = some [(.bool (fewPts l), false)] := by
  unfold fewPts
  rw [cal_code env11 rfl]; simp only [fn11, slAll, Nat.reduceBEq, Nat.reduceLeDiff, Nat.reduceAdd, List.length_cons, List.length_nil]
  simp only [List.length_map, slAll, slsAll, Nat.reduceMul, Nat.reduceBEq, Nat.reduceLT, Nat.reduceLeDiff, memAll, vAll, reduceCtorEq, Nat.reduceEqDiff, Nat.reduceAdd, Nat.reduceLT, Nat.reduceLeDiff, Nat.beq]
  rw [loop11 (l := l)]
  rotate_left
  · simp only [slAll, slsAll, Nat.reduceMul, Nat.reduceBEq, Nat.reduceLT, Nat.reduceLeDiff, Nat.reduceAdd, decide_true, Bool.and_self, Bool.true_and] <;> rfl
  · rw [List.drop_zero]
    unfold resQ
    cases (l.take 8).all fewPt with
    | true =>
      rw [if_pos rfl, Bool.true_and]
      by_cases c : l.length ≤ 6
      · have G : ((l.length : Int) ≤ 6) = True := eq_true (by omega)
        rw [decide_eq_true c]
        simp only [G, List.length_map, slAll, slsAll, Nat.reduceMul, Nat.reduceBEq, Nat.reduceLT, Nat.reduceLeDiff, memAll, vAll, reduceCtorEq, Nat.reduceEqDiff, Nat.reduceAdd, Nat.reduceLT, Nat.reduceLeDiff, Nat.beq]
      · have G : ((l.length : Int) ≤ 6) = False := eq_false (by omega)
        rw [decide_eq_false c]
        simp only [G, List.length_map, slAll, slsAll, Nat.reduceMul, Nat.reduceBEq, Nat.reduceLT, Nat.reduceLeDiff, memAll, vAll, reduceCtorEq, Nat.reduceEqDiff, Nat.reduceAdd, Nat.reduceLT, Nat.reduceLeDiff, Nat.beq]
    | false =>
      rw [if_neg (by decide), Bool.false_and]
      simp only [List.length_map, slAll, slsAll, Nat.reduceMul, Nat.reduceBEq, Nat.reduceLT, Nat.reduceLeDiff, memAll, vAll, reduceCtorEq, Nat.reduceEqDiff, Nat.reduceAdd, Nat.reduceLT, Nat.reduceLeDiff, Nat.beq]
end Go.Proofs.YtaaokejjmdbfaaaDoor.V

namespace Go.Proofs.YtaaokejjmdbfaaaDoor.V
def headOf (l : List Spn) : Spn := lastOf l l.length
theorem cal28 {l : List Spn} (hl : l.length ≤ lim) : cal env 28 [.list 3 (l.map eSpn)] = some [(.int .i64 (headOf l).epoch, false), (.int .i64 (headOf l).to, false)] := by
  by_cases h0 : l.length = 0
  · obtain rfl := List.eq_nil_of_length_eq_zero h0
    have F1 : (((0 : Nat) : Int) == 0) = true := rfl
    rw [cal_code env28 rfl]; simp only [fn28]; simp only [start, z_map_cons, z_map_nil, z_len_cons, z_len_nil, z_repl_zero, z_repl_succ, z_cons_app, z_nil_app, Nat.reduceAdd, Nat.reduceSub]
    simp only [F1, List.length_nil, List.map_nil, memAll, vAll, reduceCtorEq, Nat.reduceEqDiff, Nat.reduceAdd, Nat.reduceLT, Nat.reduceLeDiff, Nat.beq]
    rfl
  · obtain ⟨k, hk⟩ : ∃ k, l.length = k + 1 := ⟨l.length - 1, by omega⟩
    have hkl : k < l.length := by omega
    have hx : l[k]? = some l[k] := List.getElem?_eq_getElem hkl
    have he : headOf l = l[k] := by rw [headOf, hk, lastOf_succ hkl]
    have hl' := hl
    unfold lim at hl'
    have F1 : ((l.length : Int) == 0) = false := by simpa using h0
    have F2 : IntKind.i64.wrap ((l.length : Int) - 1) = (k : Int) := by rw [i64_fits (by omega)]; omega
    rw [he]
    generalize l[k] = x at *
    obtain ⟨xe, xf, xt⟩ := x
    rw [cal_code env28 rfl]; simp only [fn28]; simp only [start, z_map_cons, z_map_nil, z_len_cons, z_len_nil, z_repl_zero, z_repl_succ, z_cons_app, z_nil_app, Nat.reduceAdd, Nat.reduceSub]
    simp only [F1, F2, hx, eSpn, index_nat hkl, List.getElem?_map, Option.map_some, memAll, vAll, reduceCtorEq, Nat.reduceEqDiff, Nat.reduceAdd, Nat.reduceLT, Nat.reduceLeDiff, Nat.beq]
end Go.Proofs.YtaaokejjmdbfaaaDoor.V

namespace Go.Proofs.YtaaokejjmdbfaaaDoor.V
def nwr (a b : List Spn) : Bool := decide ((headOf a).epoch > (headOf b).epoch) || (decide ((headOf a).epoch = (headOf b).epoch) && decide ((headOf a).to > (headOf b).to))
def linAt (l : List Pt) (k : Nat) : List Spn := (l.getD k ⟨0, [], [], []⟩).lin
def bst (l : List Pt) (lost : List Bool) : Nat → Int
  | 0 => -1
  | i + 1 => if lost.getD i true = false ∧ (bst l lost i < 0 ∨ nwr (linAt l i) (linAt l (bst l lost i).toNat) = true) then i else bst l lost i
theorem bst_lt (l : List Pt) (lost : List Bool) : ∀ i, -1 ≤ bst l lost i ∧ bst l lost i < i
  | 0 => by unfold bst; omega
  | i + 1 => by
    have := bst_lt l lost i
    unfold bst
    split <;> omega
def choE (l : List Pt) (lost : List Bool) : Int :=
  if fitE l = 0 then if lost.length ≠ l.length then 6 else if bst l lost l.length < 0 then 17 else 0 else fitE l
def choI (l : List Pt) (lost : List Bool) : Int := if choE l lost = 0 then bst l lost l.length else 0
theorem eB_at {l : List Bool} {i : Nat} (h : i < l.length) : (l.map eB)[i]? = some (.bool l[i]) := by
  rw [List.getElem?_map, List.getElem?_eq_getElem h]; rfl
theorem ePt_at {l : List Pt} {i : Nat} (h : i < l.length) : (l.map ePt)[i]? = some (ePt l[i]) := by
  rw [List.getElem?_map, List.getElem?_eq_getElem h]; rfl
theorem linAt_eq {l : List Pt} {i : Nat} (h : i < l.length) : linAt l i = l[i].lin := by
  unfold linAt
  rw [List.getD_eq_getElem?_getD, List.getElem?_eq_getElem h]; rfl
end Go.Proofs.YtaaokejjmdbfaaaDoor.V

namespace Go.Proofs.YtaaokejjmdbfaaaDoor.V
def cmpI (x y : Int) : Int := if x < y then -1 else if y < x then 1 else 0
def cmpL : List Int → List Int → Int
  | x :: a, y :: b => if cmpI x y = 0 then cmpL a b else cmpI x y
  | _, _ => 0
theorem cal106 {x : Int} : cal env 106 [.int .i64 x] = some [(.bool false, false)] := by
  have N : (x != x) = false := by simp
  rw [cal_code env106 rfl]; simp only [fn106, slAll, Nat.reduceBEq, Nat.reduceLeDiff, Nat.reduceAdd, List.length_cons, List.length_nil]
  simp only [N, slAll, slsAll, Nat.reduceMul, Nat.reduceBEq, Nat.reduceLT, Nat.reduceLeDiff, memAll, vAll, reduceCtorEq, Nat.reduceEqDiff, Nat.reduceAdd, Nat.reduceLT, Nat.reduceLeDiff, Nat.beq]
theorem cal88 {x y : Int} : cal env 88 [.int .i64 x, .int .i64 y] = some [(.int .i64 (cmpI x y), false)] := by
  have e1 := cal106 (x := x)
  have e2 := cal106 (x := y)
  unfold cmpI
  by_cases c1 : x < y
  · have G1 : (x < y) = True := eq_true c1
    rw [if_pos c1]
    rw [cal_code env88 rfl]; simp only [fn88, slAll, Nat.reduceBEq, Nat.reduceLeDiff, Nat.reduceAdd, List.length_cons, List.length_nil]
    simp only [e1, e2, G1, slAll, slsAll, Nat.reduceMul, Nat.reduceBEq, Nat.reduceLT, Nat.reduceLeDiff, memAll, vAll, reduceCtorEq, Nat.reduceEqDiff, Nat.reduceAdd, Nat.reduceLT, Nat.reduceLeDiff, Nat.beq]
  · have G1 : (x < y) = False := eq_false c1
    rw [if_neg c1]
    by_cases c2 : y < x
    · have G2 : (x > y) = True := eq_true c2
      rw [if_pos c2]
      rw [cal_code env88 rfl]; simp only [fn88, slAll, Nat.reduceBEq, Nat.reduceLeDiff, Nat.reduceAdd, List.length_cons, List.length_nil]
      simp only [e1, e2, G1, G2, slAll, slsAll, Nat.reduceMul, Nat.reduceBEq, Nat.reduceLT, Nat.reduceLeDiff, memAll, vAll, reduceCtorEq, Nat.reduceEqDiff, Nat.reduceAdd, Nat.reduceLT, Nat.reduceLeDiff, Nat.beq]
    · have G2 : (x > y) = False := eq_false c2
      rw [if_neg c2]
      rw [cal_code env88 rfl]; simp only [fn88, slAll, Nat.reduceBEq, Nat.reduceLeDiff, Nat.reduceAdd, List.length_cons, List.length_nil]
      simp only [e1, e2, G1, G2, slAll, slsAll, Nat.reduceMul, Nat.reduceBEq, Nat.reduceLT, Nat.reduceLeDiff, memAll, vAll, reduceCtorEq, Nat.reduceEqDiff, Nat.reduceAdd, Nat.reduceLT, Nat.reduceLeDiff, Nat.beq]
theorem cmpL_step {a b : List Int} {i : Nat} (h1 : i < a.length) (h2 : i < b.length) : cmpL (a.drop i) (b.drop i) = if cmpI a[i] b[i] = 0 then cmpL (a.drop (i + 1)) (b.drop (i + 1)) else cmpI a[i] b[i] := by
  rw [List.drop_eq_getElem_cons h1, List.drop_eq_getElem_cons h2, cmpL]
def resK (n : Nat) (a b : List Int) (e : Int) : Option (Ex × St) := if e = 0 then some (.normal, ⟨sl n [(0, .pv (.list 1 (a.map eI))), (1, .pv (.list 1 (b.map eI))), (4, .any)], [], [], none⟩) else some (.ret, ⟨sl n [(0, .pv (.list 1 (a.map eI))), (1, .pv (.list 1 (b.map eI))), (4, .pv (.int .i64 e))], [], [], none⟩)
theorem loop61 {a b : List Int} (hl : a.length ≤ lim) (hq : a.length = b.length) {st : St} (h : st.head [0, 1, 9, 10, 11] st.boxes.length = some ⟨sl 36 [(0, .pv (.list 1 (a.map eI))), (1, .pv (.list 1 (b.map eI))), (9, .pv (.list 1 (a.map eI))), (10, .pv (.int .i64 a.length)), (11, .pv (.int .i64 (0 : Nat)))], [], [], none⟩) :
   den env fn61_l1 st = resK 36 a b (cmpL (a.drop ((0 : Nat))) (b.drop ((0 : Nat)))) := by
  unfold fn61_l1
  refine clean_up (env := env) (nb := 0) (a.length) (fun i => ⟨sl 36 [(0, .pv (.list 1 (a.map eI))), (1, .pv (.list 1 (b.map eI))), (9, .pv (.list 1 (a.map eI))), (10, .pv (.int .i64 a.length)), (11, .pv (.int .i64 i))], [], [], none⟩) (fun i => resK 36 a b (cmpL (a.drop (i)) (b.drop (i)))) h (fun _ => rfl) (fun _ => by simp only [slAll, slsAll, Nat.reduceMul, Nat.reduceBEq, Nat.reduceLT, Nat.reduceLeDiff, Nat.reduceAdd, decide_true, Bool.and_self, Bool.true_and]) ?_ ?_
  · intro i rb hi ih

    have hi1 := i64_next hi hl
    have hj : i < b.length := by omega
    have F1 : ((i : Int) < (a.length : Int)) = True := eq_true (by omega)
    have F2 : ((i : Int) ≥ (b.length : Int)) = False := eq_false (by omega)
    have hx : (a.map eI)[i]? = some (.int .i64 a[i]) := by rw [List.getElem?_map, List.getElem?_eq_getElem hi]; rfl
    have hy : (b.map eI)[i]? = some (.int .i64 b[i]) := by rw [List.getElem?_map, List.getElem?_eq_getElem hj]; rfl
    have e1 := cal88 (x := a[i]) (y := b[i])
    rw [cmpL_step hi hj]
    by_cases c : cmpI a[i] b[i] = 0
    · have G : ((0 : Int) != 0) = false := rfl
      rw [if_pos c]
      rw [c] at e1
      simp only [fn61_b0, F1, F2, hx, hy, e1, G, index_nat hi, index_nat hj, List.length_map, slAll, slsAll, Nat.reduceMul, Nat.reduceBEq, Nat.reduceLT, Nat.reduceLeDiff, memAll, vAll, reduceCtorEq, Nat.reduceEqDiff, Nat.reduceAdd, Nat.reduceLT, Nat.reduceLeDiff, Nat.beq]
      rw [ih _ (by simp only [hi1, slAll, slsAll, Nat.reduceMul, Nat.reduceBEq, Nat.reduceLT, Nat.reduceLeDiff, memAll, vAll, reduceCtorEq, Nat.reduceEqDiff, Nat.reduceAdd, Nat.reduceLT, Nat.reduceLeDiff, Nat.beq] <;> rfl)]
    · have G : (cmpI a[i] b[i] != 0) = true := by simpa using c
      rw [if_neg c]
      unfold resK
      rw [if_neg c]
      simp only [fn61_b0, F1, F2, hx, hy, e1, G, index_nat hi, index_nat hj, List.length_map, slAll, slsAll, Nat.reduceMul, Nat.reduceBEq, Nat.reduceLT, Nat.reduceLeDiff, memAll, vAll, reduceCtorEq, Nat.reduceEqDiff, Nat.reduceAdd, Nat.reduceLT, Nat.reduceLeDiff, Nat.beq]
  · intro rb

    rw [List.drop_length, hq, List.drop_length]
    unfold cmpL resK
    rw [if_pos rfl]
    simp only [fn61_b0, Int.lt_irrefl, hq, List.length_map, slAll, slsAll, Nat.reduceMul, Nat.reduceBEq, Nat.reduceLT, Nat.reduceLeDiff, memAll, vAll, reduceCtorEq, Nat.reduceEqDiff, Nat.reduceAdd, Nat.reduceLT, Nat.reduceLeDiff, Nat.beq]

theorem cal61 {a b : List Int} (hl : a.length ≤ lim) (hq : a.length = b.length) : cal env 61 [.list 1 (a.map eI), .list 1 (b.map eI)] = some [(.int .i64 (cmpL a b), false)] := by
  have G : ((a.length : Int) < (b.length : Int)) = False := eq_false (by omega)
  rw [cal_code env61 rfl]; simp only [fn61, slAll, Nat.reduceBEq, Nat.reduceLeDiff, Nat.reduceAdd, List.length_cons, List.length_nil]
  simp only [List.length_map, slAll, slsAll, Nat.reduceMul, Nat.reduceBEq, Nat.reduceLT, Nat.reduceLeDiff, memAll, vAll, reduceCtorEq, Nat.reduceEqDiff, Nat.reduceAdd, Nat.reduceLT, Nat.reduceLeDiff, Nat.beq]
  rw [loop61 hl hq]
  rotate_left
  · simp only [slAll, slsAll, Nat.reduceMul, Nat.reduceBEq, Nat.reduceLT, Nat.reduceLeDiff, Nat.reduceAdd, decide_true, Bool.and_self, Bool.true_and] <;> rfl
  · rw [List.drop_zero, List.drop_zero]
    unfold resK
    by_cases c : cmpL a b = 0
    · rw [if_pos c, c]
      simp only [G, List.length_map, slAll, slsAll, Nat.reduceMul, Nat.reduceBEq, Nat.reduceLT, Nat.reduceLeDiff, memAll, vAll, reduceCtorEq, Nat.reduceEqDiff, Nat.reduceAdd, Nat.reduceLT, Nat.reduceLeDiff, Nat.beq]
    · rw [if_neg c]
      simp only [slAll, slsAll, Nat.reduceMul, Nat.reduceBEq, Nat.reduceLT, Nat.reduceLeDiff, memAll, vAll, reduceCtorEq, Nat.reduceEqDiff, Nat.reduceAdd, Nat.reduceLT, Nat.reduceLeDiff, Nat.beq]
theorem cal60 {l : List Spn} (hl : l.length ≤ lim) : cal env 60 [.list 3 (l.map eSpn)] = some [(.agg [.int .i64 (headOf l).epoch, .int .i64 (headOf l).to], false)] := by
  have P2 : ∀ a b : PV, part [a, b] 0 (some 2) = some (.agg [a, b]) := fun _ _ => rfl
  have P3 : ∀ a b c : PV, part [a, b, c] 0 (some 3) = some (.agg [a, b, c]) := fun _ _ _ => rfl
  by_cases h0 : l.length = 0
  · obtain rfl := List.eq_nil_of_length_eq_zero h0
    have F1 : (((0 : Nat) : Int) == 0) = true := rfl
    rw [cal_code env60 rfl]; simp only [fn60, slAll, Nat.reduceBEq, Nat.reduceLeDiff, Nat.reduceAdd, List.length_cons, List.length_nil]
    simp only [F1, P2, List.length_nil, List.map_nil, slAll, slsAll, Nat.reduceMul, Nat.reduceBEq, Nat.reduceLT, Nat.reduceLeDiff, memAll, vAll, reduceCtorEq, Nat.reduceEqDiff, Nat.reduceAdd, Nat.reduceLT, Nat.reduceLeDiff, Nat.beq]
    rfl
  · obtain ⟨k, hk⟩ : ∃ k, l.length = k + 1 := ⟨l.length - 1, by omega⟩
    have hkl : k < l.length := by omega
    have hx : (l.map eSpn)[k]? = some (.agg [.int .i64 l[k].epoch, .int .i64 l[k].fr, .int .i64 l[k].to]) := by rw [List.getElem?_map, List.getElem?_eq_getElem hkl]; rfl
    have he : headOf l = l[k] := by rw [headOf, hk, lastOf_succ hkl]
    have hl' := hl
    unfold lim at hl'
    have F1 : ((l.length : Int) == 0) = false := by simpa using h0
    have F2 : IntKind.i64.wrap ((l.length : Int) - 1) = (k : Int) := by rw [i64_fits (by omega)]; omega
    rw [he]
    rw [cal_code env60 rfl]; simp only [fn60, slAll, Nat.reduceBEq, Nat.reduceLeDiff, Nat.reduceAdd, List.length_cons, List.length_nil]
    simp only [F1, F2, P2, P3, hx, index_nat hkl, List.length_map, slAll, slsAll, Nat.reduceMul, Nat.reduceBEq, Nat.reduceLT, Nat.reduceLeDiff, memAll, vAll, reduceCtorEq, Nat.reduceEqDiff, Nat.reduceAdd, Nat.reduceLT, Nat.reduceLeDiff, Nat.beq]
def cmpP (a b : Pt) : Int := cmpL [(headOf a.lin).epoch, (headOf a.lin).to] [(headOf b.lin).epoch, (headOf b.lin).to]
theorem cmpP_nwr (a b : Pt) : 0 < cmpP a b ↔ nwr a.lin b.lin = true := by
  unfold cmpP nwr cmpL cmpL cmpL cmpI
  generalize headOf a.lin = x
  generalize headOf b.lin = y
  simp only [Bool.or_eq_true, Bool.and_eq_true, decide_eq_true_eq]
  repeat' split
  all_goals omega
set_option maxRecDepth 20000 in
theorem cal59 {a b : Pt} (ha : fitP a) (hb : fitP b) : cal env 59 [ePt a, ePt b] = some [(.int .i64 (cmpP a b), false)] := by
  have e1 := cal60 (l := a.lin) ha.1
  have e2 := cal60 (l := b.lin) hb.1
  have e3 := cal61 (a := [(headOf a.lin).epoch, (headOf a.lin).to]) (b := [(headOf b.lin).epoch, (headOf b.lin).to]) (show 2 ≤ lim by unfold lim; decide) rfl
  have hE : ∀ n : Int, eI n = .int .i64 n := fun _ => rfl
  unfold cmpP
  rw [ePt_eq, ePt_eq]
  simp only [List.map_cons, List.map_nil, hE] at e3
  generalize headOf a.lin = x at *
  generalize headOf b.lin = y at *
  generalize cmpL [x.epoch, x.to] [y.epoch, y.to] = r at *
  generalize a.lin.map eSpn = l1 at *
  generalize b.lin.map eSpn = l2 at *
  generalize a.dirty.map eBm = d1 at *
  generalize b.dirty.map eBm = d2 at *
  generalize a.img.map eSecs = m1 at *
  generalize b.img.map eSecs = m2 at *
  have hsw : ∀ (A B X Y : List BV), St.swap2 ⟨sl 16 [(5, .pbox 3 0), (6, .pbox 2 0)], [⟨false, A⟩, ⟨false, B⟩, ⟨false, Y⟩, ⟨false, X⟩], [], none⟩ 2 = some ⟨sl 16 [(5, .pbox 2 0), (6, .pbox 3 0)], [⟨false, A⟩, ⟨false, B⟩, ⟨false, X⟩, ⟨false, Y⟩], [], none⟩ := fun _ _ _ _ => rfl
  have L2 : (2 ≤ lim) = True := eq_true (by unfold lim; decide)
  rw [cal_code env59 rfl]; simp only [fn59, slAll, Nat.reduceBEq, Nat.reduceLeDiff, Nat.reduceAdd, List.length_cons, List.length_nil]
  simp only [e1, e2, e3, hsw, L2, slAll, slsAll, Nat.reduceMul, Nat.reduceBEq, Nat.reduceLT, Nat.reduceLeDiff, memAll, vAll, reduceCtorEq, Nat.reduceEqDiff, Nat.reduceAdd, Nat.reduceLT, Nat.reduceLeDiff, Nat.beq]
end Go.Proofs.YtaaokejjmdbfaaaDoor.V

namespace Go.Proofs.YtaaokejjmdbfaaaDoor.V
set_option maxRecDepth 20000 in
theorem loop57 {l : List Pt} {lost : List Bool} {fa fc : Nat} {ca : List PV} (hl : l.length ≤ lim) (hA : ∀ i, i < l.length → cal env fa (.int .i64 (i : Nat) :: ca) = some [(.bool (!lost.getD i true), false)]) (hC : ∀ a ∈ l, ∀ b ∈ l, cal env fc [ePt a, ePt b] = some [(.int .i64 (cmpP a b), false)]) {st : St} (h : st.head [0, 1, 2, 7, 10, 11, 12] st.boxes.length = some ⟨sl 37 [(0, .pv (.list 4 (l.map ePt))), (1, .pv (.func fa ca)), (2, .pv (.func fc [])), (7, .pv (.int .i64 (bst l lost ((0 : Nat))))), (10, .pv (.list 4 (l.map ePt))), (11, .pv (.int .i64 l.length)), (12, .pv (.int .i64 (0 : Nat)))], [], [], none⟩) :
   den env fn57_l1 st = some (.normal, ⟨sl 37 [(6, .any), (7, .pv (.int .i64 (bst l lost l.length)))], [], [], none⟩) := by
  unfold fn57_l1
  refine clean_up (env := env) (nb := 0) (l.length) (fun i => ⟨sl 37 [(0, .pv (.list 4 (l.map ePt))), (1, .pv (.func fa ca)), (2, .pv (.func fc [])), (7, .pv (.int .i64 (bst l lost (i)))), (10, .pv (.list 4 (l.map ePt))), (11, .pv (.int .i64 l.length)), (12, .pv (.int .i64 i))], [], [], none⟩) (fun i => some (.normal, ⟨sl 37 [(6, .any), (7, .pv (.int .i64 (bst l lost l.length)))], [], [], none⟩)) h (fun _ => rfl) (fun _ => by simp only [slAll, slsAll, Nat.reduceMul, Nat.reduceBEq, Nat.reduceLT, Nat.reduceLeDiff, Nat.reduceAdd, decide_true, Bool.and_self, Bool.true_and]) ?_ ?_
  · intro i rb hi ih

    have hi1 := i64_next hi hl
    have F1 : ((i : Int) < (l.length : Int)) = True := eq_true (by omega)
    have hy := ePt_at hi
    rw [ePt_eq] at hy
    have P4 : ∀ a b c d : PV, part [a, b, c, d] 0 (some 4) = some (.agg [a, b, c, d]) := fun _ _ _ _ => rfl
    have hb := bst_lt l lost i
    have e0 := hA i hi
    cases c0 : lost.getD i true with
    | true =>
      rw [c0, Bool.not_true] at e0
      have hs : bst l lost (i + 1) = bst l lost i := by rw [bst, if_neg (by rw [c0]; simp)]
      rw [hs] at ih
      simp only [fn57_b0, F1, hy, e0, P4, index_nat hi, List.length_map, slAll, slsAll, Nat.reduceMul, Nat.reduceBEq, Nat.reduceLT, Nat.reduceLeDiff, memAll, vAll, reduceCtorEq, Nat.reduceEqDiff, Nat.reduceAdd, Nat.reduceLT, Nat.reduceLeDiff, Nat.beq]
      rw [ih _ (by simp only [hi1, slAll, slsAll, Nat.reduceMul, Nat.reduceBEq, Nat.reduceLT, Nat.reduceLeDiff, memAll, vAll, reduceCtorEq, Nat.reduceEqDiff, Nat.reduceAdd, Nat.reduceLT, Nat.reduceLeDiff, Nat.beq] <;> rfl)]
    | false =>
      rw [c0, Bool.not_false] at e0
      by_cases c1 : bst l lost i < 0
      · have hs : bst l lost (i + 1) = i := by rw [bst, if_pos ⟨c0, .inl c1⟩]
        rw [hs] at ih
        have G1 : (bst l lost i < 0) = True := eq_true c1
        simp only [fn57_b0, F1, G1, hy, e0, P4, index_nat hi, List.length_map, slAll, slsAll, Nat.reduceMul, Nat.reduceBEq, Nat.reduceLT, Nat.reduceLeDiff, memAll, vAll, reduceCtorEq, Nat.reduceEqDiff, Nat.reduceAdd, Nat.reduceLT, Nat.reduceLeDiff, Nat.beq]
        rw [ih _ (by simp only [hi1, slAll, slsAll, Nat.reduceMul, Nat.reduceBEq, Nat.reduceLT, Nat.reduceLeDiff, memAll, vAll, reduceCtorEq, Nat.reduceEqDiff, Nat.reduceAdd, Nat.reduceLT, Nat.reduceLeDiff, Nat.beq] <;> rfl)]
      · have G1 : (bst l lost i < 0) = False := eq_false c1
        obtain ⟨k, hk⟩ : ∃ k : Nat, bst l lost i = (k : Int) := ⟨(bst l lost i).toNat, by omega⟩
        have hkl : k < l.length := by omega
        have hz := ePt_at hkl
        rw [ePt_eq] at hz
        have e1 := hC _ (List.getElem_mem hi) _ (List.getElem_mem hkl)
        rw [ePt_eq, ePt_eq] at e1
        have hb2 : nwr (linAt l i) (linAt l (bst l lost i).toNat) = nwr l[i].lin l[k].lin := by rw [hk, Int.toNat_natCast, linAt_eq hi, linAt_eq hkl]
        have hcm := cmpP_nwr l[i] l[k]
        rw [hk] at G1
        cases c2 : nwr l[i].lin l[k].lin with
        | true =>
          have hs : bst l lost (i + 1) = i := by rw [bst, if_pos ⟨c0, .inr (by rw [hb2]; exact c2)⟩]
          have G2 : (cmpP l[i] l[k] > 0) = True := eq_true (hcm.2 c2)
          rw [hs] at ih
          rw [hk]
          simp only [fn57_b0, F1, G1, G2, hy, hz, e0, e1, P4, index_nat hi, index_nat hkl, List.length_map, slAll, slsAll, Nat.reduceMul, Nat.reduceBEq, Nat.reduceLT, Nat.reduceLeDiff, memAll, vAll, reduceCtorEq, Nat.reduceEqDiff, Nat.reduceAdd, Nat.reduceLT, Nat.reduceLeDiff, Nat.beq]
          rw [ih _ (by simp only [hi1, slAll, slsAll, Nat.reduceMul, Nat.reduceBEq, Nat.reduceLT, Nat.reduceLeDiff, memAll, vAll, reduceCtorEq, Nat.reduceEqDiff, Nat.reduceAdd, Nat.reduceLT, Nat.reduceLeDiff, Nat.beq] <;> rfl)]
        | false =>
          have hs : bst l lost (i + 1) = bst l lost i := by rw [bst, if_neg (by rw [hb2, c2]; simp; omega)]
          have G2 : (cmpP l[i] l[k] > 0) = False := eq_false (fun h => by rw [hcm.1 h] at c2; cases c2)
          rw [hs, hk] at ih
          rw [hk]
          simp only [fn57_b0, F1, G1, G2, hy, hz, e0, e1, P4, index_nat hi, index_nat hkl, List.length_map, slAll, slsAll, Nat.reduceMul, Nat.reduceBEq, Nat.reduceLT, Nat.reduceLeDiff, memAll, vAll, reduceCtorEq, Nat.reduceEqDiff, Nat.reduceAdd, Nat.reduceLT, Nat.reduceLeDiff, Nat.beq]
          rw [ih _ (by simp only [hi1, slAll, slsAll, Nat.reduceMul, Nat.reduceBEq, Nat.reduceLT, Nat.reduceLeDiff, memAll, vAll, reduceCtorEq, Nat.reduceEqDiff, Nat.reduceAdd, Nat.reduceLT, Nat.reduceLeDiff, Nat.beq] <;> rfl)]
  · intro rb

    simp only [fn57_b0, Int.lt_irrefl, List.length_map, slAll, slsAll, Nat.reduceMul, Nat.reduceBEq, Nat.reduceLT, Nat.reduceLeDiff, memAll, vAll, reduceCtorEq, Nat.reduceEqDiff, Nat.reduceAdd, Nat.reduceLT, Nat.reduceLeDiff, Nat.beq]

theorem cal57 {l : List Pt} {lost : List Bool} {fa fc : Nat} {ca : List PV} (hl : l.length ≤ lim) (hA : ∀ i, i < l.length → cal env fa (.int .i64 (i : Nat) :: ca) = some [(.bool (!lost.getD i true), false)]) (hC : ∀ a ∈ l, ∀ b ∈ l, cal env fc [ePt a, ePt b] = some [(.int .i64 (cmpP a b), false)]) :
    cal env 57 [.list 4 (l.map ePt), .func fa ca, .func fc []] = some [(.int .i64 (bst l lost l.length), false)] := by
  rw [cal_code env57 rfl]; simp only [fn57, slAll, Nat.reduceBEq, Nat.reduceLeDiff, Nat.reduceAdd, List.length_cons, List.length_nil]
  simp only [List.length_map, slAll, slsAll, Nat.reduceMul, Nat.reduceBEq, Nat.reduceLT, Nat.reduceLeDiff, memAll, vAll, reduceCtorEq, Nat.reduceEqDiff, Nat.reduceAdd, Nat.reduceLT, Nat.reduceLeDiff, Nat.beq]
  rw [loop57 (l := l) (lost := lost) hl hA hC]
  rotate_left
  · simp only [slAll, slsAll, Nat.reduceMul, Nat.reduceBEq, Nat.reduceLT, Nat.reduceLeDiff, Nat.reduceAdd, decide_true, Bool.and_self, Bool.true_and] <;> rfl
  · simp only [slAll, slsAll, Nat.reduceMul, Nat.reduceBEq, Nat.reduceLT, Nat.reduceLeDiff, memAll, vAll, reduceCtorEq, Nat.reduceEqDiff, Nat.reduceAdd, Nat.reduceLT, Nat.reduceLeDiff, Nat.beq]
theorem cal58 {lost : List Bool} {i : Nat} (h : i < lost.length) : cal env 58 [.int .i64 (i : Nat), .iptr [.list 1 (lost.map eB)] 0] = some [(.bool (!lost.getD i true), false)] := by
  have hx := eB_at h
  have hlost : lost.getD i true = lost[i] := by rw [List.getD_eq_getElem?_getD, List.getElem?_eq_getElem h]; rfl
  rw [hlost]
  rw [cal_code env58 rfl]; simp only [fn58, slAll, Nat.reduceBEq, Nat.reduceLeDiff, Nat.reduceAdd, List.length_cons, List.length_nil]
  simp only [hx, index_nat h, List.length_map, slAll, slsAll, Nat.reduceMul, Nat.reduceBEq, Nat.reduceLT, Nat.reduceLeDiff, memAll, vAll, reduceCtorEq, Nat.reduceEqDiff, Nat.reduceAdd, Nat.reduceLT, Nat.reduceLeDiff, Nat.beq]
theorem cal20 {l : List Pt} {lost : List Bool} (hl : l.length ≤ lim) (hf : ∀ p ∈ l, fitP p) : cal env 20 [.list 4 (l.map ePt), .list 1 (lost.map eB)] = some [(.int .i64 (choI l lost), false), (.int .i64 (choE l lost), false)] := by
  have e1 := cal56 hl hf
  have Z : ((0 : Int) != 0) = false := rfl
  by_cases c1 : fitE l = 0
  · rw [c1] at e1
    by_cases c2 : lost.length = l.length
    · have G : ((lost.length : Int) != (l.length : Int)) = false := by simp [c2]
      have e2 := cal57 (l := l) (lost := lost) (fa := 58) (fc := 59) (ca := [.iptr [.list 1 (lost.map eB)] 0]) hl (fun i hi => cal58 (by omega)) (fun a ha b hb => cal59 (hf _ ha) (hf _ hb))
      have c2' : ¬ lost.length ≠ l.length := fun h => h c2
      by_cases c3 : bst l lost l.length < 0
      · have G3 : (bst l lost l.length < 0) = True := eq_true c3
        have hE : choE l lost = 17 := by unfold choE; rw [if_pos c1, if_neg c2', if_pos c3]
        have hI : choI l lost = 0 := by unfold choI; rw [hE]; rfl
        rw [hE, hI]
        rw [cal_code env20 rfl]; simp only [fn20, slAll, Nat.reduceBEq, Nat.reduceLeDiff, Nat.reduceAdd, List.length_cons, List.length_nil]
        simp only [e1, e2, Z, G, G3, List.length_map, slAll, slsAll, Nat.reduceMul, Nat.reduceBEq, Nat.reduceLT, Nat.reduceLeDiff, memAll, vAll, reduceCtorEq, Nat.reduceEqDiff, Nat.reduceAdd, Nat.reduceLT, Nat.reduceLeDiff, Nat.beq]
      · have G3 : (bst l lost l.length < 0) = False := eq_false c3
        have hE : choE l lost = 0 := by unfold choE; rw [if_pos c1, if_neg c2', if_neg c3]
        have hI : choI l lost = bst l lost l.length := by unfold choI; rw [hE]; rfl
        rw [hE, hI]
        rw [cal_code env20 rfl]; simp only [fn20, slAll, Nat.reduceBEq, Nat.reduceLeDiff, Nat.reduceAdd, List.length_cons, List.length_nil]
        simp only [e1, e2, Z, G, G3, List.length_map, slAll, slsAll, Nat.reduceMul, Nat.reduceBEq, Nat.reduceLT, Nat.reduceLeDiff, memAll, vAll, reduceCtorEq, Nat.reduceEqDiff, Nat.reduceAdd, Nat.reduceLT, Nat.reduceLeDiff, Nat.beq]
    · have G : ((lost.length : Int) != (l.length : Int)) = true := by simp; omega
      have hE : choE l lost = 6 := by unfold choE; rw [if_pos c1, if_pos c2]
      have hI : choI l lost = 0 := by unfold choI; rw [hE]; rfl
      rw [hE, hI]
      rw [cal_code env20 rfl]; simp only [fn20, slAll, Nat.reduceBEq, Nat.reduceLeDiff, Nat.reduceAdd, List.length_cons, List.length_nil]
      simp only [e1, Z, G, List.length_map, slAll, slsAll, Nat.reduceMul, Nat.reduceBEq, Nat.reduceLT, Nat.reduceLeDiff, memAll, vAll, reduceCtorEq, Nat.reduceEqDiff, Nat.reduceAdd, Nat.reduceLT, Nat.reduceLeDiff, Nat.beq]
  · have G : (fitE l != 0) = true := by simpa using c1
    have hE : choE l lost = fitE l := by unfold choE; rw [if_neg c1]
    have hI : choI l lost = 0 := by unfold choI; rw [hE, if_neg c1]
    rw [hE, hI]
    rw [cal_code env20 rfl]; simp only [fn20, slAll, Nat.reduceBEq, Nat.reduceLeDiff, Nat.reduceAdd, List.length_cons, List.length_nil]
    simp only [e1, G, slAll, slsAll, Nat.reduceMul, Nat.reduceBEq, Nat.reduceLT, Nat.reduceLeDiff, memAll, vAll, reduceCtorEq, Nat.reduceEqDiff, Nat.reduceAdd, Nat.reduceLT, Nat.reduceLeDiff, Nat.beq]
end Go.Proofs.YtaaokejjmdbfaaaDoor.V

namespace Go.Proofs.YtaaokejjmdbfaaaDoor.V
def zPt : Pt := ⟨0, [], [], []⟩
def rstL (l : List Pt) (lost : List Bool) : Nat → List Pt
  | 0 => []
  | k + 1 => if lost.getD k true = true then rstL l lost k else rstL l lost k ++ [l.getD k zPt]
theorem rstL_pre (l : List Pt) (lost : List Bool) (j : Nat) : ∀ k, ∃ t, rstL l lost (j + k) = rstL l lost j ++ t
  | 0 => ⟨[], by simp⟩
  | k + 1 => by
    obtain ⟨t, ht⟩ := rstL_pre l lost j k
    rw [← Nat.add_assoc, rstL]
    split
    · exact ⟨t, ht⟩
    · exact ⟨t ++ [l.getD (j + k) zPt], by rw [ht, List.append_assoc]⟩
theorem rstL_at {l : List Pt} {lost : List Bool} {j n : Nat} (hj : j < n) (h0 : lost.getD j true = false) : (rstL l lost n).getD (rstL l lost j).length zPt = l.getD j zPt := by
  obtain ⟨t, ht⟩ := rstL_pre l lost (j + 1) (n - (j + 1))
  rw [show j + 1 + (n - (j + 1)) = n by omega] at ht
  rw [ht, rstL, if_neg (by rw [h0]; decide), List.getD_eq_getElem?_getD, List.append_assoc, List.getElem?_append_right (Nat.le_refl _), Nat.sub_self]
  rfl
theorem rstL_mem {l : List Pt} {lost : List Bool} : ∀ {n : Nat}, n ≤ l.length → ∀ p ∈ rstL l lost n, p ∈ l
  | 0, _, p, hp => by cases hp
  | n + 1, h, p, hp => by
    rw [rstL] at hp
    split at hp
    · exact rstL_mem (by omega) p hp
    · rcases List.mem_append.1 hp with hp | hp
      · exact rstL_mem (by omega) p hp
      · rw [List.mem_singleton.1 hp, List.getD_eq_getElem?_getD, List.getElem?_eq_getElem (by omega)]
        exact List.getElem_mem _
theorem rstL_len (l : List Pt) (lost : List Bool) : ∀ n, (rstL l lost n).length ≤ n
  | 0 => Nat.le_refl _
  | n + 1 => by
    have := rstL_len l lost n
    rw [rstL]
    split
    · omega
    · rw [List.length_append]
      simp only [List.length_singleton]
      omega
theorem bst_live (l : List Pt) (lost : List Bool) : ∀ k, 0 ≤ bst l lost k → lost.getD (bst l lost k).toNat true = false
  | 0, h => by unfold bst at h; omega
  | k + 1, h => by
    unfold bst at h ⊢
    split
    · rename_i c; rw [Int.toNat_natCast]; exact c.1
    · rename_i c
      rw [if_neg c] at h
      exact bst_live l lost k h
theorem linAt_get (l : List Pt) (k : Nat) : linAt l k = (l.getD k zPt).lin := rfl
theorem bst_rest {l : List Pt} {lost : List Bool} {n : Nat} : ∀ k, k ≤ n → bst (rstL l lost n) (List.replicate (rstL l lost n).length false) (rstL l lost k).length = if bst l lost k < 0 then -1 else ((rstL l lost (bst l lost k).toNat).length : Int)
  | 0, _ => by
    have : bst l lost 0 = -1 := rfl
    rw [this, if_pos (by decide)]; rfl
  | k + 1, hk => by
    have ih := bst_rest (l := l) (lost := lost) (n := n) k (by omega)
    by_cases c : lost.getD k true = true
    · have e1 : rstL l lost (k + 1) = rstL l lost k := by rw [rstL, if_pos c]
      have e2 : bst l lost (k + 1) = bst l lost k := by rw [bst, if_neg (fun h => by rw [c] at h; cases h.1)]
      rw [e1, e2, ih]
    · have c' : lost.getD k true = false := by simpa using c
      have e1 : (rstL l lost (k + 1)).length = (rstL l lost k).length + 1 := by rw [rstL, if_neg c, List.length_append]; rfl
      have hlt : (rstL l lost k).length < (rstL l lost n).length := by
        obtain ⟨t, ht⟩ := rstL_pre l lost (k + 1) (n - (k + 1))
        rw [show k + 1 + (n - (k + 1)) = n by omega] at ht
        rw [ht, List.length_append, e1]
        omega
      have hF : (List.replicate (rstL l lost n).length false).getD (rstL l lost k).length true = false := by
        rw [List.getD_eq_getElem?_getD, List.getElem?_replicate, if_pos hlt]; rfl
      have h1 : linAt (rstL l lost n) (rstL l lost k).length = linAt l k := by
        rw [linAt_get, linAt_get, rstL_at (by omega) c']
      rw [e1]
      have hb := bst_lt l lost k
      rw [bst, ih, h1]
      by_cases c2 : bst l lost k < 0
      · rw [if_pos c2, if_pos ⟨hF, .inl (by decide)⟩]
        have e2 : bst l lost (k + 1) = k := by rw [bst, if_pos ⟨c', .inl c2⟩]
        rw [e2, if_neg (by omega), Int.toNat_natCast]
      · rw [if_neg c2]
        have h2 : linAt (rstL l lost n) (rstL l lost (bst l lost k).toNat).length = linAt l (bst l lost k).toNat := by
          rw [linAt_get, linAt_get, rstL_at (by omega) (bst_live l lost k (by omega))]
        rw [Int.toNat_natCast, h2]
        by_cases c3 : nwr (linAt l k) (linAt l (bst l lost k).toNat) = true
        · rw [if_pos ⟨hF, .inr c3⟩]
          have e2 : bst l lost (k + 1) = k := by rw [bst, if_pos ⟨c', .inr c3⟩]
          rw [e2, if_neg (by omega), Int.toNat_natCast]
        · rw [if_neg (fun h => h.2.elim (fun h => by omega) (fun h => c3 h))]
          have e2 : bst l lost (k + 1) = bst l lost k := by rw [bst, if_neg (fun h => h.2.elim (fun h => c2 h) (fun h => c3 h))]
          rw [e2, if_neg c2]
theorem nwr_iff {a b : List Spn} : nwr a b = true ↔ (headOf b).epoch < (headOf a).epoch ∨ (headOf a).epoch = (headOf b).epoch ∧ (headOf b).to < (headOf a).to := by
  unfold nwr
  simp only [Bool.or_eq_true, Bool.and_eq_true, decide_eq_true_eq]
theorem bst_max (l : List Pt) (lost : List Bool) : ∀ k j, j < k → lost.getD j true = false → 0 ≤ bst l lost k ∧ ¬ nwr (linAt l j) (linAt l (bst l lost k).toNat) = true
  | 0, j, h, _ => by omega
  | k + 1, j, h, h0 => by
    by_cases hj : j < k
    · obtain ⟨i1, i2⟩ := bst_max l lost k j hj h0
      unfold bst
      split
      · rename_i c
        refine ⟨by omega, fun hn => i2 ?_⟩
        rw [Int.toNat_natCast] at hn
        rcases c.2 with c2 | c2
        · omega
        · rw [nwr_iff] at hn c2 ⊢
          omega
      · exact ⟨i1, i2⟩
    · obtain rfl : j = k := by omega
      unfold bst
      split
      · refine ⟨by omega, fun hn => ?_⟩
        rw [Int.toNat_natCast, nwr_iff] at hn
        omega
      · rename_i c
        have c' : ¬ (bst l lost j < 0 ∨ nwr (linAt l j) (linAt l (bst l lost j).toNat) = true) := fun q => c ⟨h0, q⟩
        exact ⟨by omega, fun hn => c' (.inr hn)⟩
theorem frsE_iff : ∀ {l : List Pt}, frsE l = 0 ↔ ∀ p ∈ l, chkP p = 0
  | [] => by simp [frsE]
  | p :: l => by
    unfold frsE
    by_cases c : chkP p = 0
    · rw [if_pos c, frsE_iff]
      simp [c]
    · rw [if_neg c]
      constructor
      · intro h; exact absurd h c
      · intro h; exact h p (by simp)
theorem fit_rest {l : List Pt} {lost : List Bool} (h : fitE l = 0) (hn : 0 < (rstL l lost l.length).length) : fitE (rstL l lost l.length) = 0 := by
  unfold fitE at h
  split at h
  · rename_i h1
    split at h
    · cases h
    · rename_i h2
      split at h
      · rename_i h3
        have hs : ∀ p ∈ l, imSizes p.img = imSizes (l.getD 0 ⟨0, [], [], []⟩).img := by
          unfold sameAll at h3
          rw [List.all_eq_true] at h3
          exact fun p hp => of_decide_eq_true (h3 p hp)
        have hm := rstL_mem (l := l) (lost := lost) (Nat.le_refl _)
        have hl := rstL_len l lost l.length
        generalize rstL l lost l.length = r at *
        unfold fitE
        rw [if_pos (frsE_iff.2 fun p hp => frsE_iff.1 h1 p (hm p hp)), if_neg (by omega), if_pos]
        unfold sameAll
        rw [List.all_eq_true]
        intro p hp
        rw [decide_eq_true_eq, hs p (hm p hp), ← hs (r.getD 0 ⟨0, [], [], []⟩)]
        rw [List.getD_eq_getElem?_getD, List.getElem?_eq_getElem hn]
        exact hm _ (List.getElem_mem _)
      · cases h
  · rename_i c; exact absurd h c
end Go.Proofs.YtaaokejjmdbfaaaDoor.V
