/-
  Ranges over functions: what is common.
-/
import Derived.Test.YtldnpgbacakfeaaActIn
import Derived.Test.YtldnpgbacakfeaaFinIn
import Derived.Test.YtldnpgbacakfeaaOwn2
import Derived.RangeFuncNested
import Derived.RangeFuncBound
import Derived.RangeFuncCalls
import Derived.RangeFuncLeaves
import Derived.RangeFuncBox
import Derived.Shelf.Abstract
import Derived.Shelf.RegionOpen
import Derived.OwnWalkIn
import Derived.TacticsInMore
import Derived.LoopNIn
import Derived.LoopIn
namespace Go.Proofs.Ytldnpgbacakfeaa
open Go.RowKit Go.Shelf

/-- What lies in the blocks of X is as it was. -/
def Keep (X : Nat → Prop) (W W' : World) : Prop := ∀ b, X b → W'.heap[b]? = W.heap[b]?
theorem Keep.refl (X : Nat → Prop) (W : World) : Keep X W W := fun _ _ => rfl
theorem Keep.trans {X : Nat → Prop} {A B C : World} (h : Keep X A B) (k : Keep X B C) : Keep X A C := fun b hb => (k b hb).trans (h b hb)
theorem Keep.drew {X : Nat → Prop} {A B : World} (h : Keep X A B) : Keep X A B.drew := h
theorem Keep.cell {X : Nat → Prop} {A B : World} (h : Keep X A B) {a : Addr} (hX : X a.block) {v : Value} (hv : A.cell? a = some v) : B.cell? a = some v := (World.cell?_of_block (h a.block hX)).trans hv
theorem Keep.below {X : Nat → Prop} {n : Nat} {A B : World} (h : Below n A B) (hX : ∀ b, X b → b < n) : Keep X A B := fun b hb => h.block b (hX b hb)
theorem Keep.grown {X : Nat → Prop} {A B : World} {row : Option Nat} (h : A.grownBy B row) (hX : ∀ b, X b → b < A.heap.size ∧ Option.some b ≠ row) : Keep X A B := fun b hb => h.block b (hX b hb).1 (hX b hb).2
theorem Sl.keep {α : Type} {r : Rep α} {ok X : Nat → Prop} {W W' : World} {a : Option Addr} {n c : Nat} {l : List α} (h : Sl r ok W a n c l) (hk : Keep X W W') (hX : ∀ b, ok b → X b) : Sl r ok W' a n c l := h.frame fun b hb => hk b (hX b hb)
theorem keep_b {X : Nat → Prop} {w : World} (hX : ∀ b, X b → b < w.heap.size) (W : World) (l : Nat) (o o' : Obj) (hl : w.heap.size ≤ l) (_ : W.heap[l]? = some o) (_ : o.isCells = false) (_ : o.isWalk = false) : Keep X W (W.putObj l o') :=
  fun b hb => World.putObj_heap_other (fun e => by have := hX b hb; omega)

/-- The worlds in which what lies in the blocks of X is as in W. -/
structure LaterX (W : World) (X : Nat → Prop) where
  w : World
  keep : Keep X W w
instance (W : World) (X : Nat → Prop) : Nonempty (LaterX W X) := ⟨⟨W, Keep.refl _ _⟩⟩
theorem LaterX.of {W w : World} {X : Nat → Prop} (h : Keep X W w) : ∃ x : LaterX W X, w = x.w := ⟨⟨w, h⟩, rfl⟩
theorem LaterX.drew (W : World) (X : Nat → Prop) : ∃ x : LaterX W X, W.drew = x.w := LaterX.of (Keep.refl _ _)
theorem cellLaterX {w : World} {X : Nat → Prop} {a : Addr} {v : Value} (h : w.cell? a = some v) (hX : X a.block) : ∀ x : LaterX w X, x.w.cell? a = some v := fun x => x.keep.cell hX h

/-- What an invariant of cells owes the law: blocks that are no cells may turn. -/
def CellsOnly (R : World → Prop) : Prop := ∀ W W' row, R W → W.grownBy W' row → (∀ r, row = some r → ∃ o : Obj, W.heap[r]? = some o ∧ o.isCells = false) → R W'
theorem CellsOnly.and {R S : World → Prop} (h : CellsOnly R) (k : CellsOnly S) : CellsOnly (fun W => R W ∧ S W) := fun W W' row hs hg hr => ⟨h W W' row hs.1 hg hr, k W W' row hs.2 hg hr⟩
theorem CellsOnly.box (B : Nat) (t : TypeId) (v : Value) : CellsOnly (fun W => Boxed W B t v) := fun X Y row hs hg hrow =>
  hs.kept hg (fun e' => by obtain ⟨o, ho, hc⟩ := hrow B e'.symm; rw [show X.heap[B]? = _ from hs] at ho; cases ho; cases hc)
theorem Own.not_cells {α : Type} {r : Rep α} {B : Nat} {E : TypeId} {ok : Nat → Prop} {w : World} {v : Value} {l : List α} (h : Own r B E ok w v l) {row : Option Nat} (hr : ∀ r, row = some r → ∃ o : Obj, w.heap[r]? = some o ∧ o.isCells = false) : v.ownBlock = none ∨ v.ownBlock ≠ row := by
  obtain ⟨xs, h1, _⟩ := h
  rcases h1.2 with ⟨rfl, _⟩ | ⟨g, cap, cur, rfl, _, hg, _⟩
  · exact .inl rfl
  · right
    intro e
    obtain ⟨o, ho, hc⟩ := hr g e.symm
    rw [hg] at ho; cases ho; cases hc
theorem CellsOnly.own {α : Type} (r : Rep α) (B : Nat) (E : TypeId) (v : Value) (l : List α) : CellsOnly (fun W => Own r B E (fun _ => False) W v l) := fun X Y row hs hg hrow =>
  hs.kept hg (hs.not_cells hrow) (fun b _ hb => hb)
theorem CellsOnly.ex {β : Type} {R : β → World → Prop} (h : ∀ x, CellsOnly (R x)) : CellsOnly (fun W => ∃ x, R x W) := fun W W' row ⟨x, hs⟩ hg hr => ⟨x, h x W W' row hs hg hr⟩
theorem CellsOnly.pure (p : Prop) : CellsOnly (fun _ => p) := fun _ _ _ h _ _ => h

/-- An act whose guard is false. -/
theorem wpListIn_skip1 {F : Fence} {n : Nat} {P : Program} {ops : Array Oper} {Q : Exit → Act → World → Prop} {o : Oper} {a : Act} {w : World} (hw : Region.wanted o (yielded ops a.tmps) = false) (hF : ∀ f, F.fn f)
    (h : Q .normal (a.put o.dst undef) w) : wpListIn F n P ops Q [o] a w := by
  unfold wpListIn
  rw [if_neg (by rw [hw]; decide)]
  exact ⟨fun f _ => hF f, h⟩
theorem wpList_skip1 {P : Program} {ops : Array Oper} {Q : Exit → Act → World → Prop} {o : Oper} {a : Act} {w : World} (hw : Region.wanted o (yielded ops a.tmps) = false)
    (h : Q .normal (a.put o.dst undef) w) : wpList P ops Q [o] a w := by
  unfold wpList
  rw [if_neg (by rw [hw]; decide)]
  exact h

end Go.Proofs.Ytldnpgbacakfeaa
