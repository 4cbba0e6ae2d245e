/-
  An owned slice: one cell of one element written; append inside a fence.
-/
import Derived.Test.YtldnpgbacakfeaaRngBase
namespace Go.Proofs.Ytldnpgbacakfeaa
open Go.RowKit

section
variable {α : Type} {r : Rep α} {B : Nat} {E : TypeId} {w : World} {v : Value} {l : List α}
/-- Whoever owns a slice that is not empty has a row. -/
theorem Own.row {ok : Nat → Prop} (h : Own r B E ok w v l) (hl : l ≠ []) : ∃ g cap, v = .slice (some ⟨g, 0, none⟩) l.length cap ∧ B ≤ g ∧ g < w.heap.size := by
  obtain ⟨xs, h1, _⟩ := h
  rcases h1.2 with ⟨_, h0⟩ | ⟨g, cap, cur, hv, hb, hg, _⟩
  · exact absurd (List.eq_nil_of_length_eq_zero h0) hl
  · exact ⟨g, cap, hv, hb, (Array.getElem?_eq_some_iff.1 hg).1⟩
theorem Own.base {ok : Nat → Prop} {B' : Nat} (h : Own r B E ok w v l) (hB : B' ≤ B) : Own r B' E ok w v l := by
  obtain ⟨xs, h1, h2⟩ := h
  exact ⟨xs, ⟨h1.1, h1.2.imp id fun ⟨g, cap, cur, a1, a2, a3⟩ => ⟨g, cap, cur, a1, Nat.le_trans hB a2, a3⟩⟩, h2⟩
theorem Own.elem {ok : Nat → Prop} {g cap n : Nat} (h : Own r B E ok w (.slice (some ⟨g, 0, none⟩) n cap) l) {k : Nat} {x : α} (hx : l[k]? = some x) :
    n = l.length ∧ ∃ c, (∀ j, j < r.sz → w.cell? ⟨g, k * r.sz + j, none⟩ = c[j]?) ∧ r.rd (fun b => ok b ∧ b ≠ g) w c x := by
  obtain ⟨xs, h1, h2⟩ := h
  have hn : n = l.length := by
    rcases h1.2 with ⟨h0, _⟩ | ⟨g', cap', cur, hv, _⟩
    · cases h0
    · cases hv; rfl
  subst hn
  obtain ⟨c, h3, h4⟩ := h2.at hx
  have hk := (List.getElem?_eq_some_iff.1 hx).1
  refine ⟨rfl, c, fun j hj => ?_, r.mono (fun b hb => ⟨hb.1, fun e => hb.2 (by rw [e]; rfl)⟩) h4⟩
  rw [← h3 j hj, h1.cellAt]
  calc k * r.sz + j < k * r.sz + r.sz := by omega
    _ = (k + 1) * r.sz := by rw [Nat.add_mul]; omega
    _ ≤ l.length * r.sz := Nat.mul_le_mul_right _ (by omega)
theorem Own.frozen {ok : Nat → Prop} {g cap n : Nat} (h : Own r B E ok w (.slice (some ⟨g, 0, none⟩) n cap) l) (j : Nat) : w.frozen? ⟨g, j, none⟩ = false := by
  obtain ⟨xs, h1, _⟩ := h
  rcases h1.2 with ⟨h0, _⟩ | ⟨g', cap', cur, hv, _⟩
  · cases h0
  · cases hv; exact h1.frozenAt j

theorem Chunks.stored {ok : Nat → Prop} {w w' : World} (hf : Flat r) {j : Nat} {u : Value} (hj : j < r.sz) {x x' : α} (hr : ∀ c, r.rd ok w c x → r.rd ok w' (c.set j u) x') :
    ∀ {l : List α} {xs : List Value} {k : Nat}, Chunks r ok w xs l → l[k]? = some x → Chunks r ok w' (xs.set (k * r.sz + j) u) (l.set k x')
  | [], _, k, _, hx => by simp at hx
  | y :: l, xs, 0, ⟨c, rest, e, h1, h2⟩, hx => by
    simp only [List.getElem?_cons_zero, Option.some.injEq] at hx
    subst hx
    refine ⟨c.set j u, rest, ?_, hr c h1, h2.flat hf⟩
    rw [e, Nat.zero_mul, Nat.zero_add, List.set_append_left]
    rw [r.len h1]; exact hj
  | y :: l, xs, k + 1, ⟨c, rest, e, h1, h2⟩, hx => by
    refine ⟨c, rest.set (k * r.sz + j) u, ?_, hf h1, h2.stored hf hj hr (by simpa using hx)⟩
    rw [e, List.set_append_right, r.len h1]
    · congr 2; rw [Nat.add_mul]; omega
    · rw [r.len h1, Nat.add_mul]; omega

/-- One cell of one element of an owned row is written. -/
theorem Own.stored (hf : Flat r) {g cap n : Nat} (h : Own r B E (fun _ => False) w (.slice (some ⟨g, 0, none⟩) n cap) l) {k j : Nat} {u : Value} {x x' : α} (hx : l[k]? = some x) (hj : j < r.sz)
    (hr : ∀ c, r.rd (fun _ => False) w c x → r.rd (fun _ => False) w (c.set j u) x') : Own r B E (fun _ => False) (w.setCell ⟨g, k * r.sz + j, none⟩ u) (.slice (some ⟨g, 0, none⟩) n cap) (l.set k x') := by
  obtain ⟨rfl, _⟩ := h.elem hx
  obtain ⟨xs, h1, h2⟩ := h
  refine ⟨_, by rw [List.length_set]; exact (h1.stored (k * r.sz + j) u).1, ?_⟩
  refine Chunks.stored (r := r) hf hj (w := w) (fun c hc => hf (hr c (hf hc))) h2 hx

theorem wpListIn_app {F : Fence} {nF : Nat} {P : Program} {ops : Array Oper} {rest : List Oper} {o : Oper} {a : Act} {Q : Exit → Act → World → Prop} {ok : Nat → Prop} {T bytes : Nat} {z : Value} (ht : SliceT P T E r.sz bytes z) (hgd : o.guard = none) (s x : Operand)
    (ho : o.op = .call { callee := .builtin .append, args := #[s, x], argTypes := #[T, T] }) (hs : a.eval s = v) (h : Own r B E ok w v l) {ao : Option Addr} {m c : Nat} {ys : List α} (hx : a.eval x = .slice ao m c)
    (hsrc : Src r (fun b => ok b ∧ Option.some b ≠ v.ownBlock) w ao m c ys) (h63 : l.length + m ≤ maxLen) (hby : (l.length + m) * bytes ≤ 140737488355328) (hB : B ≤ w.heap.size)
    (hk : ∀ v' w', Own r B E ok w' v' (l ++ ys) → w.grownBy w' v.ownBlock → (v'.ownBlock = v.ownBlock ∨ v'.ownBlock = some w.heap.size) → wpListIn F nF P ops Q rest (a.put o.dst v') w') : wpListIn F nF P ops Q (o :: rest) a w := by
  refine wpListIn_plain hgd fun K hK => ?_
  obtain ⟨v', w', hr, h2, h3, h4⟩ := run_app (P := P) (ty := o.type) ht h hsrc h63 hby hB
  unfold Oper.wpIn
  refine ⟨by simp [Oper.about, ho, resolve, Target.leads, Sem.run_pure], ?_⟩
  rw [Oper.semAt_plain F _ _ (by rw [ho]; intro c hc'; cases hc')]
  simp only [execOp, ho, resolve, invoke, builtin, Sem.run_bind, Sem.run_pure, Result.andThen_ok, List.map_toArray, List.map_cons, List.map_nil, hs, hx, hr]
  exact hK _ _ (hk v' w' h2 h3 h4)
/-- Behind an append into an owned row what is no cells is as it was. -/
theorem Own.others {ok : Nat → Prop} {w' : World} (h : Own r B E ok w v l) (hg : w.grownBy w' v.ownBlock) : KeepsOthers w w' := KeepsOthers.of_grownBy hg fun j o ej hj => by
  obtain ⟨xs, h1, _⟩ := h
  rcases h1.2 with ⟨rfl, _⟩ | ⟨g, cap, cur, rfl, _, hgb, _⟩
  · cases ej
  · cases ej; rw [hgb] at hj; cases hj; rfl
theorem Own.fresh {ok : Nat → Prop} (h : Own r B E ok w v l) {b : Nat} (hb : b < B) : some b ≠ v.ownBlock := fun e => by have := (h.lt b e.symm).1; omega
end

theorem Keep.set {X : Nat → Prop} (W : World) (a : Addr) (v : Value) (h : ¬ X a.block) : Keep X W (W.setCell a v) := fun b hb => Below.heap_setCell _ _ _ b (fun e => h (by rw [← e]; exact hb))
theorem below_set {n : Nat} (W : World) (a : Addr) (v : Value) (h : n ≤ a.block) (hn : n ≤ W.heap.size) : Below n W (W.setCell a v) :=
  (Below.refl n W).grown (row := some a.block) ⟨rfl, rfl, rfl, (KeepsWalks.setCell W a v).size, fun k _ hk => Below.heap_setCell _ _ _ k (fun e => hk (by rw [e]))⟩ hn (fun k e => by cases e; exact h)
theorem boxed_afar {W : World} {B : Nat} {t : TypeId} {v : Value} (h : Boxed W B t v) {a : Addr} (hne : B ≠ a.block) (u : Value) : Boxed (W.setCell a u) B t v := (Below.heap_setCell _ _ _ B hne).trans h
theorem Keep.below' {X : Nat → Prop} {n : Nat} {A B : World} (h : Keep X A B) (hX : ∀ b, b < n → X b) (hs : A.heap.size ≤ B.heap.size) (ho : B.os = A.os) (ht : B.tape = A.tape) (hout : B.output = A.output) : ∀ k, k < n → B.heap[k]? = A.heap[k]? := fun k hk => h k (hX k hk)

end Go.Proofs.Ytldnpgbacakfeaa
