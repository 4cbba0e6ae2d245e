/-
  Arguments that read as data read as lists of sectors, extents, writes.
-/
import Derived.Test.YtldnpgbacakfeaaOwn2
import Derived.ProofKit
import Derived.SizedLaws
import Derived.OpenShut
import Derived.Deep.Strs
namespace Go.Proofs.Ytldnpgbacakfeaa
open Go.RowKit Go.ChangeShapes Go.WideShapes Go.ChangeAt

/-- What reads as data of type t reads as an α. -/
def Reads {α : Type} (P : Program) (t : TypeId) (r : Rep α) : Prop :=
  P.cellsOf t = r.sz ∧ ∀ {H : Type} {enc : TypeId × Value → H} {w : World} {fuel : Nat} {cs : List Value} {x : DataW H × List MemPlace}, DataW.trod enc P w 0 (fun _ => true) true fuel t cs = some x → ∃ y, r.rd (fun _ => True) w cs y

section
variable {α β γ : Type} {P : Program} {t e : TypeId} {r : Rep α} {s : Rep β} {q : Rep γ}
theorem wf_i64 {n : Int} (h : (Lit.int .i64 n).wf = true) : i64ok n := by
  have h1 : IntKind.i64.min = -9223372036854775808 := rfl
  have h2 : IntKind.i64.max = 9223372036854775807 := rfl
  simp only [Lit.wf, Bool.and_eq_true, decide_eq_true_eq] at h
  unfold i64ok
  omega
theorem wf_u8 {n : Int} (h : (Lit.int .u8 n).wf = true) : ∃ b : UInt8, (b.toNat : Int) = n := by
  have h1 : IntKind.u8.min = 0 := rfl
  have h2 : IntKind.u8.max = 255 := rfl
  simp only [Lit.wf, Bool.and_eq_true, decide_eq_true_eq] at h
  refine ⟨UInt8.ofNat n.toNat, ?_⟩
  rw [UInt8.toNat_ofNat_of_lt' (show n.toNat < 2 ^ 8 by omega)]
  omega
theorem Reads.int (ht : P.underlying t = some (.int .i64)) (hc : P.cellsOf t = 1) : Reads P t intR := ⟨hc, fun h => by
  obtain ⟨n, rfl, _, hw⟩ := DataW.trod_int ht h
  exact ⟨n, rfl, wf_i64 hw⟩⟩
theorem Reads.u8 (ht : P.underlying t = some (.int .u8)) (hc : P.cellsOf t = 1) : Reads P t u8R := ⟨hc, fun h => by
  obtain ⟨n, rfl, _, hw⟩ := DataW.trod_int ht h
  obtain ⟨b, rfl⟩ := wf_u8 hw
  exact ⟨b, rfl⟩⟩
/-- As many as are there. -/
theorem each_list {p : Nat → α → Prop} : ∀ n : Nat, (∀ i, i < n → ∃ y, p i y) → ∃ l : List α, l.length = n ∧ ∀ i x, l[i]? = some x → p i x
  | 0, _ => ⟨[], rfl, fun i x h => by simp at h⟩
  | n + 1, h => by
    obtain ⟨l, h1, h2⟩ := each_list n fun i hi => h i (by omega)
    obtain ⟨y, hy⟩ := h n (by omega)
    refine ⟨l ++ [y], by simp [h1], fun i x hx => ?_⟩
    by_cases hi : i < n
    · rw [List.getElem?_append_left (by omega)] at hx; exact h2 i x hx
    · have := (List.getElem?_eq_some_iff.1 hx).1
      obtain rfl : i = n := by simp at this; omega
      rw [List.getElem?_append_right (by omega), h1, Nat.sub_self] at hx
      cases hx
      exact hy
theorem Reads.sec (ht : P.underlying t = some (.array 8 e)) (he : P.underlying e = some (.int .u8)) (hc : P.cellsOf t = 8) (hce : P.cellsOf e = 1) : Reads P t secR := ⟨hc, fun {H enc w fuel cs x} h => by
  obtain ⟨xs, m, _, _, hl, hx, hE⟩ := DataW.trod_array ht h
  rw [hc] at hl
  obtain ⟨l, h1, h2⟩ := each_list (p := fun i (b : UInt8) => cs[i]? = some (.int .u8 (b.toNat : Int))) 8 fun i hi => by
    have := hE i hi
    rw [List.getElem?_eq_getElem (by omega), hce] at this
    obtain ⟨b, hb⟩ := (Reads.u8 he hce).2 this
    refine ⟨b, ?_⟩
    have h3 : ((cs.drop (i * 1)).take 1)[0]? = some (.int .u8 (b.toNat : Int)) := by rw [show (cs.drop (i * 1)).take 1 = _ from hb]; rfl
    rw [List.getElem?_take, if_pos (by decide), List.getElem?_drop] at h3
    simpa using h3
  refine ⟨⟨l.toArray, by simp [h1]⟩, ?_⟩
  show cs = secCells _
  apply List.ext_getElem?
  intro i
  by_cases hi : i < 8
  · have h3 : l[i]? = some l[i] := List.getElem?_eq_getElem (by omega)
    rw [h2 i _ h3]
    simp [secCells, Vector.toList, h3]
  · rw [List.getElem?_eq_none (by omega), List.getElem?_eq_none (by rw [secCells_length]; omega)]⟩
theorem Reads.list (ht : P.underlying t = some (.slice e)) (hc : P.cellsOf t = 1) (hr : Reads P e r) (hpos : 0 < r.sz) : Reads P t (listR r) := ⟨hc, fun {H enc w fuel cs x} h => by
  rcases DataW.trod_slice ht h with ⟨rfl, _⟩ | ⟨a, len, cap, elems, rest, n, _, rfl, _, _, hl, hm, hel, hE, _⟩
  · exact ⟨[], none, 0, 0, rfl, rfl, Nat.le_refl _, Nat.zero_le _, fun _ => rfl, .inl rfl⟩
  · obtain ⟨l, h1, h2⟩ := each_list (p := fun i y => ∃ c, w.cells? 0 (a.add (i * r.sz)) r.sz = some c ∧ r.rd (fun _ => True) w c y) len fun i hi => by
      have := hE i hi
      rw [List.getElem?_eq_getElem (by omega), hr.1, Option.bind_eq_some_iff] at this
      obtain ⟨c, h3, h4⟩ := this
      obtain ⟨y, hy⟩ := hr.2 h4
      exact ⟨y, c, h3, hy⟩
    refine ⟨l, some a, len, cap, rfl, h1, hl, hm, (fun e => by cases e), ?_⟩
    by_cases h0 : len = 0
    · exact .inl h0
    · obtain ⟨c, h3, _⟩ := h2 0 _ (List.getElem?_eq_getElem (by omega))
      obtain ⟨_, hc0, h4⟩ := World.cells?_some h3
      obtain ⟨b, off, spot⟩ := a
      have hb := World.cells?_block h3 hpos
      have hspot : spot = none := by
        have := h4 0 hpos
        rw [List.getElem?_eq_getElem (by omega)] at this
        simpa [Addr.add] using World.cell?_spot this
      subst hspot
      refine .inr ⟨b, off, rfl, trivial, by simpa [Addr.add] using hb, fun i x hx => ?_⟩
      obtain ⟨c, h5, h6⟩ := h2 i x hx
      obtain ⟨_, hc5, h7⟩ := World.cells?_some h5
      refine ⟨c, fun j hj => ?_, h6⟩
      rw [← h7 j hj, Addr.add_lit, Addr.add_lit]⟩
/-- A struct of two fields. -/
theorem Reads.two {f0 f1 : Field} (ht : P.underlying t = some (.struct #[f0, f1])) (h0 : Reads P f0.type r) (h1 : Reads P f1.type s) (o0 : f0.offset = 0) (o1 : f1.offset = r.sz) (hc : P.cellsOf t = r.sz + s.sz) : Reads P t (pairR r s) := ⟨hc, fun {H enc w fuel cs x} h => by
  obtain ⟨xs, n, _, _, hl, hx, hE⟩ := DataW.trod_struct ht h
  have hx2 : xs.length = 2 := hx
  have e0 := hE 0 f0 rfl
  have e1 := hE 1 f1 rfl
  rw [List.getElem?_eq_getElem (by omega), h0.1, o0] at e0
  rw [List.getElem?_eq_getElem (by omega), h1.1, o1] at e1
  obtain ⟨y0, g0⟩ := h0.2 e0
  obtain ⟨y1, g1⟩ := h1.2 e1
  refine ⟨(y0, y1), _, _, ?_, g0, g1⟩
  rw [List.drop_zero, List.take_of_length_le (l := cs.drop r.sz) (by rw [List.length_drop]; omega), List.take_append_drop]⟩
/-- A struct of three fields. -/
theorem Reads.three {f0 f1 f2 : Field} (ht : P.underlying t = some (.struct #[f0, f1, f2])) (h0 : Reads P f0.type r) (h1 : Reads P f1.type s) (h2 : Reads P f2.type q) (o0 : f0.offset = 0) (o1 : f1.offset = r.sz) (o2 : f2.offset = r.sz + s.sz)
    (hc : P.cellsOf t = r.sz + (s.sz + q.sz)) : Reads P t (pairR r (pairR s q)) := ⟨hc, fun {H enc w fuel cs x} h => by
  obtain ⟨xs, n, _, _, hl, hx, hE⟩ := DataW.trod_struct ht h
  have hx2 : xs.length = 3 := hx
  have e0 := hE 0 f0 rfl
  have e1 := hE 1 f1 rfl
  have e2 := hE 2 f2 rfl
  rw [List.getElem?_eq_getElem (by omega), h0.1, o0] at e0
  rw [List.getElem?_eq_getElem (by omega), h1.1, o1] at e1
  rw [List.getElem?_eq_getElem (by omega), h2.1, o2] at e2
  obtain ⟨y0, g0⟩ := h0.2 e0
  obtain ⟨y1, g1⟩ := h1.2 e1
  obtain ⟨y2, g2⟩ := h2.2 e2
  refine ⟨(y0, y1, y2), _, _, ?_, g0, _, _, rfl, g1, g2⟩
  rw [List.drop_zero, List.take_of_length_le (l := cs.drop (r.sz + s.sz)) (by rw [List.length_drop]; omega), ← List.drop_drop, List.take_append_drop, List.take_append_drop]⟩
end
end Go.Proofs.Ytldnpgbacakfeaa
