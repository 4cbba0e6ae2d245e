/-
  Part 1 of the texts that the statement stands on.
-/
import Derived.WalkKit
import Derived.Lib.Hide
import Derived.BigQuiet
import Derived.Deep.QuietTactic
import Derived.Deep.LoopGhost
import Derived.Deep.Draws
import Derived.ChangeKeysEq
import Derived.Laws.StructEq
import Derived.OrdersHeld
import Derived.Deep.Quiet
import Derived.Tactics
import Derived.Tactics2
import Derived.Maps.AppendAt
import Derived.OrdersIn
import Derived.TacticsIn
import Derived.OwnWalkIn
import Derived.Test.YtncobemfpammfaaGreatRows
import Derived.WalkSmall
set_option linter.all false
namespace Go.Proofs.YtncobemfpammfaaGreat
open Go.RowKit

structure Rep (α : Type) where
  sz : Nat
  rd : (Nat → Prop) → World → List Value → α → Prop
  len : ∀ {ok w cs x}, rd ok w cs x → cs.length = sz
  mono : ∀ {ok ok' : Nat → Prop} {w cs x}, (∀ b, ok b → ok' b) → rd ok w cs x → rd ok' w cs x
  live : ∀ {ok w cs x}, rd ok w cs x → rd (fun b => ok b ∧ b < w.heap.size) w cs x
  frame : ∀ {ok} {w w' : World} {cs x}, (∀ b, ok b → w'.heap[b]? = w.heap[b]?) → rd ok w cs x → rd ok w' cs x
  one : ∀ {ok w cs x}, rd ok w cs x → ∀ u ∈ cs, u.oneCell' = true

def i64ok (n : Int) : Prop := -9223372036854775808 ≤ n ∧ n ≤ 9223372036854775807

def intR : Rep Int where
  sz := 1
  rd _ _ cs n := cs = [.int .i64 n] ∧ i64ok n
  len h := by rw [h.1]; rfl
  mono _ h := h
  live h := h
  frame _ h := h
  one h := by rw [h.1]; intro u hu; cases List.mem_singleton.1 hu; rfl

def boolR : Rep Bool where
  sz := 1
  rd _ _ cs b := cs = [.bool b]
  len h := by rw [h]; rfl
  mono _ h := h
  live h := h
  frame _ h := h
  one h := by rw [h]; intro u hu; cases List.mem_singleton.1 hu; rfl

def u8R : Rep UInt8 where
  sz := 1
  rd _ _ cs b := cs = [.int .u8 (b.toNat : Int)]
  len h := by rw [h]; rfl
  mono _ h := h
  live h := h
  frame _ h := h
  one h := by rw [h]; intro u hu; cases List.mem_singleton.1 hu; rfl

abbrev Sec := Vector UInt8 8
def secCells (x : Sec) : List Value := x.toList.map fun b => .int .u8 (b.toNat : Int)
theorem secCells_length (x : Sec) : (secCells x).length = 8 := by simp [secCells]
theorem secCells_one (x : Sec) : ∀ u ∈ secCells x, u.oneCell' = true := by
  intro u hu; obtain ⟨_, _, rfl⟩ := List.mem_map.1 hu; rfl

def secR : Rep Sec where
  sz := 8
  rd _ _ cs x := cs = secCells x
  len h := by rw [h]; exact secCells_length _
  mono _ h := h
  live h := h
  frame _ h := h
  one h := by rw [h]; exact secCells_one _

def pairR {α β : Type} (r : Rep α) (s : Rep β) : Rep (α × β) where
  sz := r.sz + s.sz
  rd ok w cs x := ∃ c1 c2, cs = c1 ++ c2 ∧ r.rd ok w c1 x.1 ∧ s.rd ok w c2 x.2
  len h := by obtain ⟨c1, c2, rfl, h1, h2⟩ := h; simp [r.len h1, s.len h2]
  mono hk h := by obtain ⟨c1, c2, rfl, h1, h2⟩ := h; exact ⟨c1, c2, rfl, r.mono hk h1, s.mono hk h2⟩
  live h := by obtain ⟨c1, c2, rfl, h1, h2⟩ := h; exact ⟨c1, c2, rfl, r.live h1, s.live h2⟩
  frame hf h := by obtain ⟨c1, c2, rfl, h1, h2⟩ := h; exact ⟨c1, c2, rfl, r.frame hf h1, s.frame hf h2⟩
  one h := by
    obtain ⟨c1, c2, rfl, h1, h2⟩ := h
    intro u hu
    rcases List.mem_append.1 hu with hu | hu
    · exact r.one h1 u hu
    · exact s.one h2 u hu

structure Sl {α : Type} (r : Rep α) (ok : Nat → Prop) (w : World) (a : Option Addr) (n c : Nat) (l : List α) : Prop where
  len : l.length = n
  cap : n ≤ c
  bnd : c ≤ maxLen
  nil : a = none → c = 0
  cells : n = 0 ∨ ∃ b off, a = some ⟨b, off, none⟩ ∧ ok b ∧ b < w.heap.size ∧
    ∀ i x, l[i]? = some x → ∃ cs, (∀ j, j < r.sz → w.cell? ⟨b, off + i * r.sz + j, none⟩ = cs[j]?) ∧ r.rd ok w cs x

theorem live_of_same {w w' : World} {b : Nat} (h : w'.heap[b]? = w.heap[b]?) (hb : b < w.heap.size) : b < w'.heap.size := by
  rcases Nat.lt_or_ge b w'.heap.size with g | g
  · exact g
  · rw [Array.getElem?_eq_none g, Array.getElem?_eq_getElem hb] at h; cases h

theorem Sl.mono {α : Type} {r : Rep α} {ok ok' : Nat → Prop} {w : World} {a : Option Addr} {n c : Nat} {l : List α} (hk : ∀ b, ok b → ok' b) (h : Sl r ok w a n c l) : Sl r ok' w a n c l :=
  ⟨h.len, h.cap, h.bnd, h.nil, h.cells.imp id fun ⟨b, off, h1, h2, h3, h4⟩ => ⟨b, off, h1, hk _ h2, h3, fun i x hx => let ⟨cs, h5, h6⟩ := h4 i x hx; ⟨cs, h5, r.mono hk h6⟩⟩⟩
theorem Sl.live {α : Type} {r : Rep α} {ok : Nat → Prop} {w : World} {a : Option Addr} {n c : Nat} {l : List α} (h : Sl r ok w a n c l) : Sl r (fun b => ok b ∧ b < w.heap.size) w a n c l :=
  ⟨h.len, h.cap, h.bnd, h.nil, h.cells.imp id fun ⟨b, off, h1, h2, h3, h4⟩ => ⟨b, off, h1, ⟨h2, h3⟩, h3, fun i x hx => let ⟨cs, h5, h6⟩ := h4 i x hx; ⟨cs, h5, r.live h6⟩⟩⟩
theorem Sl.frame {α : Type} {r : Rep α} {ok : Nat → Prop} {w w' : World} {a : Option Addr} {n c : Nat} {l : List α} (hf : ∀ b, ok b → w'.heap[b]? = w.heap[b]?) (h : Sl r ok w a n c l) : Sl r ok w' a n c l :=
  ⟨h.len, h.cap, h.bnd, h.nil, h.cells.imp id fun ⟨b, off, h1, h2, h3, h4⟩ => ⟨b, off, h1, h2, live_of_same (hf b h2) h3,
    fun i x hx => let ⟨cs, h5, h6⟩ := h4 i x hx; ⟨cs, fun j hj => (World.cell?_of_block (w := w) (a := ⟨b, _, none⟩) (hf b h2)).trans (h5 j hj), r.frame hf h6⟩⟩⟩
theorem Sl.below {α : Type} {r : Rep α} {ok : Nat → Prop} {w w' : World} {a : Option Addr} {n c : Nat} {l : List α} (hb : Below w.heap.size w w') (h : Sl r ok w a n c l) : Sl r ok w' a n c l :=
  (Sl.frame (fun b hb' => hb.block b hb'.2) h.live).mono fun _ h => h.1

def listR {α : Type} (r : Rep α) : Rep (List α) where
  sz := 1
  rd ok w cs l := ∃ a n c, cs = [.slice a n c] ∧ Sl r ok w a n c l
  len h := by obtain ⟨a, n, c, rfl, _⟩ := h; rfl
  mono hk h := let ⟨a, n, c, e, h⟩ := h; ⟨a, n, c, e, h.mono hk⟩
  live h := let ⟨a, n, c, e, h⟩ := h; ⟨a, n, c, e, h.live⟩
  frame hf h := let ⟨a, n, c, e, h⟩ := h; ⟨a, n, c, e, h.frame hf⟩
  one h := by obtain ⟨a, n, c, rfl, _⟩ := h; intro u hu; cases List.mem_singleton.1 hu; rfl

section
variable {ok : Nat → Prop} {w : World} {a : Option Addr} {n c : Nat}
theorem Sl.at {α : Type} {r : Rep α} {b off : Nat} {l : List α} (h : Sl r ok w (some ⟨b, off, none⟩) n c l) {k : Nat} {x : α} (hx : l[k]? = some x) :
    ∃ cs, (∀ j, j < r.sz → w.cell? ⟨b, off + k * r.sz + j, none⟩ = cs[j]?) ∧ r.rd ok w cs x := by
  rcases h.cells with h0 | ⟨b', off', h1, _, _, h4⟩
  · have := (List.getElem?_eq_some_iff.1 hx).1
    have := h.len
    omega
  · cases h1
    exact h4 k x hx
theorem Sl.get {α : Type} {r : Rep α} {l : List α} (h : Sl r ok w a n c l) {k : Nat} (hk : k < n) : ∃ x, l[k]? = some x := by
  have := h.len
  exact ⟨l[k], List.getElem?_eq_getElem (by omega)⟩
theorem Sl.int {b off : Nat} {l : List Int} (h : Sl intR ok w (some ⟨b, off, none⟩) n c l) {k : Nat} {x : Int} (hx : l[k]? = some x) :
    w.cell? ⟨b, off + k, none⟩ = some (.int .i64 x) ∧ i64ok x := by
  obtain ⟨cs, h1, rfl, h2⟩ := h.at hx
  refine ⟨?_, h2⟩
  have := h1 0 Nat.zero_lt_one
  simpa [intR] using this
theorem Sl.slice {α : Type} {r : Rep α} {b off : Nat} {l : List (List α)} (h : Sl (listR r) ok w (some ⟨b, off, none⟩) n c l) {k : Nat} {x : List α} (hx : l[k]? = some x) :
    ∃ a' n' c', w.cell? ⟨b, off + k, none⟩ = some (.slice a' n' c') ∧ Sl r ok w a' n' c' x := by
  obtain ⟨cs, h1, a', n', c', rfl, h2⟩ := h.at hx
  refine ⟨a', n', c', ?_, h2⟩
  have := h1 0 Nat.zero_lt_one
  simpa [listR] using this
end

structure Later (W : World) where
  w : World
  below : Below W.heap.size W w
instance (W : World) : Nonempty (Later W) := ⟨⟨W, Below.refl _ _⟩⟩
def LaterS (W : World) : World → Prop := fun w' => ∃ x : Later W, w' = x.w
theorem LaterS.of {W w : World} (h : Below W.heap.size W w) : LaterS W w := ⟨⟨w, h⟩, rfl⟩
theorem LaterS.drew (W : World) : LaterS W W.drew := .of ((Below.refl _ _).drew)

end Go.Proofs.YtncobemfpammfaaGreat

namespace Go.Proofs.YtncobemfpammfaaGreat

def pick (ops : Array Oper) (is : List Nat) : List Oper := is.filterMap (ops[·]?)

def plainOp : Op → Bool
  | .move _ | .assign _ | .pick _ _ _ | .load _ _ | .binOp _ _ _ _ _ | .unOp _ _ _ | .convert _ _ _ | .makeFunc _ _ _ | .fieldAddr _ _ _ | .field _ _ _ | .indexAddr _ _ _ | .index _ _ _ | .slice _ _ _ _ _ | .extract _ _ | .build _ _ | .makeInterface _ _ => true
  | .call ⟨.builtin .len, _, _⟩ | .call ⟨.builtin .min, _, _⟩ | .call ⟨.builtin .max, _, _⟩ => true
  | _ => false

theorem value_of_bind {P : Program} {β : Type} {s : Sem β} {f : β → Value} {w w' : World} {n : Next} (h : ((do let x ← s; pure (Next.value (f x))) : Sem Next).run P w = .ok n w') : ∃ x, n = .value x := by
  rw [Sem.run_bind] at h
  cases hs : s.run P w with
  | ok x w1 => rw [hs] at h; simp at h; exact ⟨f x, h.1.symm⟩
  | halt x w1 => rw [hs] at h; simp [Result.andThen] at h

theorem plain_value {P : Program} {ρ : Operand → Value} {o : Oper} (hp : plainOp o.op = true) {w w' : World} {n : Next} (h : (execOp ρ o).run P w = .ok n w') : ∃ x, n = .value x := by
  unfold execOp at h
  cases ho : o.op <;> rw [ho] at hp h <;> try (simp [plainOp] at hp; done)
  case move x => simp at h; exact ⟨_, h.1.symm⟩
  case assign x => simp at h; exact ⟨_, h.1.symm⟩
  case call c =>
    obtain ⟨callee, args, ats⟩ := c
    cases callee <;> try (simp [plainOp] at hp; done)
    rename_i b
    cases b <;> try (simp [plainOp] at hp; done)
    all_goals
      simp only [resolve, Sem.run_bind, Sem.run_pure, Result.andThen_ok, invoke, builtin] at h
      exact value_of_bind (f := fun x => x) (by simpa [Sem.run_bind] using h)
  case pick c x y => exact value_of_bind (s := asBool (ρ c)) (f := fun b => if b = true then ρ x else ρ y) h
  all_goals exact value_of_bind (f := fun x => x) h

def quietRun (ops : Array Oper) : List Nat → Array Bool → Option (Array Bool)
  | [], l => some l
  | i :: is, l => if ((ops[i]?).map fun o => plainOp o.op).getD false && Region.free .any ops l i && (Region.ready .any ops l).contains i then quietRun ops is (l.setIfInBounds i true) else none

section
variable {P : Program} {ops : Array Oper} {S : World → Prop} {Q : Act → World → Prop}

def onlyNormal (Q : Act → World → Prop) : Exit → Act → World → Prop := fun e a w => e = .normal ∧ Q a w

end
end Go.Proofs.YtncobemfpammfaaGreat

namespace Go.Proofs.YtncobemfpammfaaGreat
open Go.RowKit

def Chunks {α : Type} (r : Rep α) (ok : Nat → Prop) (w : World) : List Value → List α → Prop
  | xs, [] => xs = []
  | xs, x :: l => ∃ c rest, xs = c ++ rest ∧ r.rd ok w c x ∧ Chunks r ok w rest l

section
variable {α : Type} {r : Rep α} {ok ok' : Nat → Prop} {w w' : World}
theorem Chunks.mono (hk : ∀ b, ok b → ok' b) : ∀ {l : List α} {xs : List Value}, Chunks r ok w xs l → Chunks r ok' w xs l
  | [], _, h => h
  | _ :: _, _, ⟨c, rest, e, h1, h2⟩ => ⟨c, rest, e, r.mono hk h1, h2.mono hk⟩
theorem Chunks.live : ∀ {l : List α} {xs : List Value}, Chunks r ok w xs l → Chunks r (fun b => ok b ∧ b < w.heap.size) w xs l
  | [], _, h => h
  | _ :: _, _, ⟨c, rest, e, h1, h2⟩ => ⟨c, rest, e, r.live h1, h2.live⟩
theorem Chunks.frame (hf : ∀ b, ok b → w'.heap[b]? = w.heap[b]?) : ∀ {l : List α} {xs : List Value}, Chunks r ok w xs l → Chunks r ok w' xs l
  | [], _, h => h
  | _ :: _, _, ⟨c, rest, e, h1, h2⟩ => ⟨c, rest, e, r.frame hf h1, h2.frame hf⟩
theorem Chunks.length : ∀ {l : List α} {xs : List Value}, Chunks r ok w xs l → xs.length = l.length * r.sz
  | [], _, h => by rw [h]; simp
  | x :: l, _, ⟨c, rest, e, h1, h2⟩ => by rw [e, List.length_append, r.len h1, h2.length, List.length_cons, Nat.add_mul]; omega
theorem Chunks.one : ∀ {l : List α} {xs : List Value}, Chunks r ok w xs l → ∀ u ∈ xs, u.oneCell' = true
  | [], _, h => by rw [h]; intro u hu; cases hu
  | _ :: _, _, ⟨c, rest, e, h1, h2⟩ => by
    rw [e]; intro u hu
    rcases List.mem_append.1 hu with hu | hu
    · exact r.one h1 u hu
    · exact h2.one u hu
theorem Chunks.append : ∀ {l : List α} {xs : List Value}, Chunks r ok w xs l → ∀ {m : List α} {ys : List Value}, Chunks r ok w ys m → Chunks r ok w (xs ++ ys) (l ++ m)
  | [], _, h, _, _, hm => by rw [h]; exact hm
  | _ :: _, _, ⟨c, rest, e, h1, h2⟩, _, ys, hm => ⟨c, rest ++ ys, by rw [e, List.append_assoc], h1, h2.append hm⟩
theorem Chunks.single {c : List Value} {x : α} (h : r.rd ok w c x) : Chunks r ok w c [x] := ⟨c, [], by simp, h, rfl⟩
theorem Chunks.at : ∀ {l : List α} {xs : List Value}, Chunks r ok w xs l → ∀ {i : Nat} {x : α}, l[i]? = some x → ∃ c, (∀ j, j < r.sz → xs[i * r.sz + j]? = c[j]?) ∧ r.rd ok w c x
  | [], _, _, i, x, hx => by simp at hx
  | y :: l, _, ⟨c, rest, e, h1, h2⟩, 0, x, hx => by
    simp only [List.getElem?_cons_zero, Option.some.injEq] at hx
    subst hx
    exact ⟨c, fun j hj => by rw [e, Nat.zero_mul, Nat.zero_add, List.getElem?_append_left (by rw [r.len h1]; exact hj)], h1⟩
  | y :: l, _, ⟨c, rest, e, h1, h2⟩, i + 1, x, hx => by
    obtain ⟨d, h3, h4⟩ := h2.at (i := i) (x := x) (by simpa using hx)
    refine ⟨d, fun j hj => ?_, h4⟩
    rw [e, List.getElem?_append_right (by rw [r.len h1, Nat.add_mul]; omega), r.len h1, ← h3 j hj]
    congr 1
    rw [Nat.add_mul]; omega
theorem Chunks.of_at {xs : List Value} : ∀ {l : List α} (off : Nat), xs.length = off + l.length * r.sz →
    (∀ i x, l[i]? = some x → ∃ c, (∀ j, j < r.sz → xs[off + i * r.sz + j]? = c[j]?) ∧ r.rd ok w c x) → Chunks r ok w (xs.drop off) l
  | [], off, hl, _ => by simp only [Chunks]; rw [List.drop_eq_nil_of_le]; simp at hl; omega
  | y :: l, off, hl, h => by
    obtain ⟨c, h1, h2⟩ := h 0 y rfl
    have hc := r.len h2
    have hlen : xs.length = off + r.sz + l.length * r.sz := by rw [hl, List.length_cons, Nat.add_mul]; omega
    refine ⟨c, xs.drop (off + r.sz), ?_, h2, Chunks.of_at (off + r.sz) hlen fun i x hx => ?_⟩
    · rw [← List.drop_drop]
      have : c = (xs.drop off).take r.sz := by
        apply List.ext_getElem?
        intro j
        rw [List.getElem?_take]
        split
        · rename_i hj
          rw [List.getElem?_drop, ← h1 j hj]
          congr 1; omega
        · rw [List.getElem?_eq_none]; omega
      rw [this, List.take_append_drop]
    · obtain ⟨d, h3, h4⟩ := h (i + 1) x (by simpa using hx)
      refine ⟨d, fun j hj => ?_, h4⟩
      rw [← h3 j hj]
      congr 1
      rw [Nat.add_mul]; omega
end

structure SliceT (P : Program) (T E sz bytes : Nat) (z : Value) : Prop where
  u : P.underlying T = some (.slice E)
  i : (P.info? E).map (fun i => (i.zero, i.size, i.bytes)) = some (some z, sz, bytes)
  zs : z.cells.size = sz
  pos : 0 < sz

def Own {α : Type} (r : Rep α) (B : Nat) (E : TypeId) (ok : Nat → Prop) (w : World) (v : Value) (l : List α) : Prop :=
  ∃ xs, w.ownsRow B E r.sz v l.length xs ∧ Chunks r (fun b => ok b ∧ Option.some b ≠ v.ownBlock) w xs l

def Src {α : Type} (r : Rep α) (ok : Nat → Prop) (w : World) (ao : Option Addr) (m c : Nat) (ys : List α) : Prop :=
  ys.length = m ∧ (ao = none → m = 0 ∧ c = 0) ∧ ∃ news, (∀ ad, ao = some ad → ∀ j u, news[j]? = some u → w.cell? (ad.add j) = some u) ∧ Chunks r ok w news ys

section
variable {α : Type} {r : Rep α} {B : Nat} {E : TypeId} {ok : Nat → Prop} {w w' : World} {v : Value} {l : List α}

theorem Own.nil (r : Rep α) (B : Nat) (E : TypeId) (ok : Nat → Prop) (w : World) : Own r B E ok w (.slice none 0 0) [] := ⟨[], World.ownsRow_nil _ _ _ _, rfl⟩
theorem Own.kept {row : Option Nat} (h : Own r B E ok w v l) (hg : w.grownBy w' row) (hne : v.ownBlock = none ∨ v.ownBlock ≠ row) (hr : ∀ b, row = some b → ¬ ok b) : Own r B E ok w' v l := by
  obtain ⟨xs, h1, h2⟩ := h
  refine ⟨xs, h1.kept hg hne, (Chunks.frame (fun b hb => ?_) h2.live).mono fun b hb => hb.1⟩
  exact hg.block b hb.2 fun e => hr b e.symm hb.1.1
theorem Own.lt (h : Own r B E ok w v l) : ∀ k, v.ownBlock = some k → B ≤ k ∧ k < w.heap.size := let ⟨_, h1, _⟩ := h; h1.lt
theorem Own.below (h : Own r B E ok w v l) (hb : Below w.heap.size w w') : Own r B E ok w' v l := by
  obtain ⟨xs, h1, h2⟩ := h
  have hg : w.grownBy w' none := ⟨hb.os, hb.tape, hb.output, hb.size, fun k hk _ => hb.block k hk⟩
  exact ⟨xs, h1.kept hg (by cases v.ownBlock <;> simp), (Chunks.frame (fun b hb' => hb.block b hb'.2) h2.live).mono fun b hb => hb.1⟩
theorem Own.mono {ok' : Nat → Prop} (hk : ∀ b, ok b → ok' b) (h : Own r B E ok w v l) : Own r B E ok' w v l :=
  let ⟨xs, h1, h2⟩ := h; ⟨xs, h1, h2.mono fun b hb => ⟨hk b hb.1, hb.2⟩⟩
theorem Own.sl (h : Own r B E ok w v l) : ∃ a n c, v = .slice a n c ∧ Sl r (fun b => ok b ∨ B ≤ b) w a n c l := by
  obtain ⟨xs, h1, h2⟩ := h
  have h1' := h1
  obtain ⟨hx, ⟨rfl, h0⟩ | ⟨g, cap, cur, rfl, hb, hg, hn, hc, hs, ht⟩⟩ := h1
  · refine ⟨none, 0, 0, rfl, ⟨h0, Nat.le_refl _, Nat.zero_le _, fun _ => rfl, .inl rfl⟩⟩
  · refine ⟨_, _, _, rfl, ⟨rfl, hn, hc, (fun e => by cases e), .inr ⟨g, 0, rfl, .inr hb, (Array.getElem?_eq_some_iff.1 hg).1, fun i x hi => ?_⟩⟩⟩
    obtain ⟨c, h3, h4⟩ := h2.at hi
    refine ⟨c, fun j hj => ?_, r.mono (fun b hb => .inl hb.1) h4⟩
    rw [← h3 j hj, Nat.zero_add, h1'.cellAt]
    have := (List.getElem?_eq_some_iff.1 hi).1
    calc i * r.sz + j < i * r.sz + r.sz := by omega
      _ = (i + 1) * r.sz := by rw [Nat.add_mul]; omega
      _ ≤ l.length * r.sz := Nat.mul_le_mul_right _ (by omega)

theorem Src.of_sl {ao : Option Addr} {m c : Nat} {ys : List α} (h : Sl r ok w ao m c ys) : Src r ok w ao m c ys := by
  refine ⟨h.len, fun e => ?_, ?_⟩
  · have := h.nil e; have := h.cap; omega
  · rcases h.cells with h0 | ⟨b, off, rfl, hb, _, h4⟩
    · have : ys = [] := List.eq_nil_of_length_eq_zero (by rw [h.len, h0])
      subst this
      exact ⟨[], fun ad _ j u hu => by simp at hu, rfl⟩
    · -- the cells, as the world holds them
      let news : List Value := (List.range (m * r.sz)).map fun j => (w.cell? ⟨b, off + j, none⟩).getD undef
      have hlt : ∀ i x, ys[i]? = some x → ∀ j, j < r.sz → i * r.sz + j < m * r.sz := fun i x hi j hj => by
        have h1 := (List.getElem?_eq_some_iff.1 hi).1
        have h2 : (i + 1) * r.sz ≤ m * r.sz := Nat.mul_le_mul_right _ (by rw [← h.len]; omega)
        rw [Nat.add_mul] at h2; omega
      have hcell : ∀ i x, ys[i]? = some x → ∃ cs, (∀ j, j < r.sz → news[i * r.sz + j]? = cs[j]?) ∧ r.rd ok w cs x := fun i x hi => by
        obtain ⟨cs, h5, h6⟩ := h4 i x hi
        refine ⟨cs, fun j hj => ?_, h6⟩
        have hc := r.len h6
        have e := h5 j hj
        have hj' : j < cs.length := by omega
        rw [List.getElem?_eq_getElem hj'] at e ⊢
        simp only [news, List.getElem?_map, List.getElem?_range (hlt i x hi j hj), Option.map_some]
        rw [← Nat.add_assoc, e]; rfl
      refine ⟨news, fun ad had j u hu => ?_, ?_⟩
      · obtain rfl := Option.some.inj had
        have hj : j < m * r.sz := by
          have := (List.getElem?_eq_some_iff.1 hu).1
          simpa [news] using this
        simp only [news, List.getElem?_map, List.getElem?_range hj, Option.map_some, Option.some.injEq] at hu
        -- the cell is there: it belongs to an element
        have hpos : 0 < r.sz := by rcases Nat.eq_zero_or_pos r.sz with h0 | h0; (rw [h0] at hj; simp at hj); exact h0
        have hi : j / r.sz < ys.length := by rw [h.len]; exact Nat.div_lt_of_lt_mul (by rw [Nat.mul_comm]; exact hj)
        obtain ⟨cs, h5, h6⟩ := h4 (j / r.sz) _ (List.getElem?_eq_getElem hi)
        have hm := Nat.mod_lt j hpos
        have e := h5 (j % r.sz) hm
        have e2 : off + j / r.sz * r.sz + j % r.sz = off + j := by rw [Nat.add_assoc, Nat.mul_comm, Nat.div_add_mod]
        rw [e2, List.getElem?_eq_getElem (by rw [r.len h6]; exact hm)] at e
        rw [e] at hu
        rw [Addr.add_lit, e, ← hu]; rfl
      · have := Chunks.of_at (r := r) (ok := ok) (w := w) (xs := news) (l := ys) 0 (by simp [news, h.len]) (fun i x hi => by
          obtain ⟨cs, h5, h6⟩ := hcell i x hi
          exact ⟨cs, fun j hj => by rw [Nat.zero_add]; exact h5 j hj, h6⟩)
        simpa using this

theorem run_app {P : Program} {T ty bytes : Nat} {z : Value} (ht : SliceT P T E r.sz bytes z) (h : Own r B E ok w v l) {ao : Option Addr} {m c : Nat} {ys : List α}
    (hs : Src r (fun b => ok b ∧ Option.some b ≠ v.ownBlock) w ao m c ys) (h63 : l.length + m ≤ maxLen) (hby : (l.length + m) * bytes ≤ 140737488355328) (hB : B ≤ w.heap.size) :
    ∃ v' w', (Builtin.append_ #[T, T] ty #[v, .slice ao m c]).run P w = .ok v' w' ∧ Own r B E ok w' v' (l ++ ys) ∧ w.grownBy w' v.ownBlock ∧ (v'.ownBlock = v.ownBlock ∨ v'.ownBlock = some w.heap.size) := by
  obtain ⟨i, hi, hz0, hz1, hz2⟩ := info_parts ht.i
  obtain ⟨xs, h1, h2⟩ := h
  obtain ⟨hm, hnil, news, hnews, hch⟩ := hs
  cases ao with
  | none =>
    obtain ⟨rfl, rfl⟩ := hnil rfl
    have : ys = [] := List.eq_nil_of_length_eq_zero hm
    subst this
    exact ⟨v, w, run_append_owned_none w B T ty E i r.sz ht.u hi v l.length xs h1, by rw [List.append_nil]; exact ⟨xs, h1, h2⟩, World.grownBy.refl _ _, .inl rfl⟩
  | some ad =>
    obtain ⟨v', w', hr, h3, h4, _, h6⟩ := run_append_own_at (P := P) w B T ty E i z r.sz bytes ht.u hi hz0 hz1 hz2 ht.zs ht.pos v l.length xs h1 ad m c news (by rw [hch.length, hm]) (hnews ad rfl) hch.one h63 hby hB
    refine ⟨v', w', hr, ⟨xs ++ news, by rw [List.length_append, hm]; exact h3, ?_⟩, h4, h6⟩
    have hfr : ∀ {xs : List Value} {l : List α}, Chunks r (fun b => ok b ∧ Option.some b ≠ v.ownBlock) w xs l → Chunks r (fun b => ok b ∧ Option.some b ≠ v'.ownBlock) w' xs l := fun hc => by
      refine (Chunks.frame (fun b hb => h4.block b hb.2 hb.1.2) hc.live).mono fun b hb => ⟨hb.1.1, ?_⟩
      rcases h6 with h6 | h6
      · rw [h6]; exact hb.1.2
      · rw [h6]; intro e; have := Option.some.inj e; have := hb.2; omega
    exact (hfr h2).append (hfr hch)

theorem wpList_app {P : Program} {ops : Array Oper} {rest : List Oper} {o : Oper} {a : Act} {Q : Exit → Act → World → Prop} {T bytes : Nat} {z : Value} (ht : SliceT P T E r.sz bytes z) (hgd : o.guard = none) (s x : Operand)
    (ho : o.op = .call { callee := .builtin .append, args := #[s, x], argTypes := #[T, T] }) (hs : a.eval s = v) (h : Own r B E ok w v l) {ao : Option Addr} {m c : Nat} {ys : List α} (hx : a.eval x = .slice ao m c)
    (hsrc : Src r (fun b => ok b ∧ Option.some b ≠ v.ownBlock) w ao m c ys) (h63 : l.length + m ≤ maxLen) (hby : (l.length + m) * bytes ≤ 140737488355328) (hB : B ≤ w.heap.size)
    (hk : ∀ v' w', Own r B E ok w' v' (l ++ ys) → w.grownBy w' v.ownBlock → (v'.ownBlock = v.ownBlock ∨ v'.ownBlock = some w.heap.size) → wpList P ops Q rest (a.put o.dst v') w') : wpList P ops Q (o :: rest) a w := by
  refine wpList_plain hgd fun K hK => ?_
  obtain ⟨v', w', hr, h2, h3, h4⟩ := run_app (P := P) (ty := o.type) ht h hsrc h63 hby hB
  unfold Oper.wp execOp
  simp only [ho, resolve, invoke, builtin, Sem.run_bind, Sem.run_pure, Result.andThen_ok, List.map_toArray, List.map_cons, List.map_nil, hs, hx, hr]
  exact hK _ _ (hk v' w' h2 h3 h4)
end

end Go.Proofs.YtncobemfpammfaaGreat

namespace Go.Proofs.YtncobemfpammfaaGreat

section
variable {F : Fence} {n : Nat} {P : Program} {ops : Array Oper} {S : World → Prop} {Q : Act → World → Prop}

def noDefer (ops : Array Oper) : Bool := ops.all fun o => match o.op with | .defer _ => false | _ => true
theorem noDefer_spec (h : noDefer ops = true) {j : Nat} {o : Oper} (ho : ops[j]? = some o) : ∀ c, o.op ≠ .defer c := by
  intro c e
  have := Array.all_eq_true_iff_forall_mem.1 h o (Array.mem_of_getElem? ho)
  simp [e] at this

theorem opIn_put (hF : ∀ f, F.fn f) (hnd : noDefer ops = true) (hsel : Region.noSelect ops = true) {i j : Nat} {oi oj : Oper} {v : Value} (hi : ops[i]? = some oi) (hj : ops[j]? = some oj) (hap : oi.apart ops oj = true) {K : Act → World → Prop} {a : Act} {w : World}
    (hy : YieldsIf P ops S oi v a) (h : wpOpIn F n P ops (onlyNormal Q) j K (a.put oi.dst v) w) : wpOpIn F n P ops (onlyNormal Q) j (fun a' w' => YieldsIf P ops S oi v a' ∧ K (a'.put oi.dst v) w') a w := by
  obtain ⟨h1, h2, h3⟩ := Oper.apart_spec hap
  have hsi := fun cs b => Region.noSelect_spec hsel i oi cs b hi
  have hsj := fun cs b => Region.noSelect_spec hsel j oj cs b hj
  have keep : ∀ u, YieldsIf P ops S oi v (a.put oj.dst u) := fun u => hy.of_same (execOp_put oi hsi a oj.dst u h3) (wanted_put oi a oj.dst u h3)
  have hab : ∀ (b : Act) f, oj.about P w b.eval = some f → F.fn f := fun _ f _ => hF f
  unfold wpOpIn at h ⊢
  simp only [hj] at h ⊢
  rw [wanted_put oj a oi.dst v h1] at h
  by_cases hw : Region.wanted oj (yielded ops a.tmps) = true
  · rw [if_pos hw] at h ⊢
    refine ⟨hab a, ?_⟩
    have h' := h.2
    rw [Oper.semAt_eq _ _ _ (noDefer_spec hnd hj)] at h' ⊢
    rw [execOp_put oj hsj a oi.dst v h1] at h'
    have put : ∀ u w', K ((a.put oi.dst v).put oj.dst u) w' → K ((a.put oj.dst u).put oi.dst v) w' := fun u w' hk => by rw [← Act.put_comm a v u h2]; exact hk
    have nope : ∀ {c a w}, onlyNormal Q (.panic c) a w → False := fun h => by cases h.1
    have out : LetsOut (onlyNormal Q) → False := fun ⟨_, _, h⟩ => by cases h.1
    cases hrun : (execOp a.eval oj).run P w with
    | halt x w1 =>
      rw [hrun] at h'
      cases x <;> simp only [Oper.uponIn] at h' ⊢
      exact (nope h').elim
    | ok x w1 =>
      rw [hrun] at h'
      cases x <;> simp only [Oper.uponIn] at h' ⊢
      case value u => exact ⟨keep u, put u _ h'⟩
      case skip => exact ⟨keep _, put _ _ h'⟩
      case defer d =>
        have hd : YieldsIf P ops S oi v { a with defers := d :: a.defers } := hy.of_same rfl rfl
        refine ⟨hd.of_same (execOp_put oi hsi _ oj.dst undef h3) (wanted_put oi _ oj.dst undef h3), ?_⟩
        rw [← Act.put_comm _ v undef h2, ← Act.put_defers]
        exact h'
      case enter f args =>
        refine ⟨h'.1, CallsIn.mono h'.2 fun e w2 he => ?_⟩
        cases e with
        | returned u => exact ⟨keep u, put u _ he⟩
        | panicked c => exact (nope he).elim
        | outgrown => exact (out he).elim
      case row r args => exact ⟨h'.1, RowsIn.mono h'.2 fun u w2 he => ⟨keep u, put u _ he⟩⟩
      case round l f tmps assign body =>
        refine ⟨h'.1, RoundIn.mono h'.2 fun e w2 he => ?_⟩
        cases e with
        | returned u => exact ⟨keep u, put u _ he⟩
        | panicked c => exact (nope he).elim
        | outgrown => exact (out he).elim
  · rw [if_neg hw] at h ⊢
    exact ⟨hab a, keep _, by rw [← Act.put_comm a v undef h2]; exact h.2⟩

theorem wpQuiet_imp {R R' : Act → Prop} (h : ∀ a, R a → R' a) : ∀ (os : List Oper) (a : Act), wpQuiet P ops S R os a → wpQuiet P ops S R' os a
  | [], a, hq => h a hq
  | o :: os, a, hq => by
    unfold wpQuiet at hq ⊢
    split at hq
    · rename_i hw; rw [if_pos hw]; exact Oper.quiet_mono (fun a' h' => wpQuiet_imp h os a' h') hq
    · rename_i hw; rw [if_neg hw]; exact wpQuiet_imp h os _ hq

end
end Go.Proofs.YtncobemfpammfaaGreat

namespace Go.Proofs.YtncobemfpammfaaGreat

section
variable {F : Fence} {n : Nat} {P : Program} {ops : Array Oper} {S : World → Prop} {Q : Act → World → Prop} {f : Nat}

def depM (ops : Array Oper) : Nat → Nat → Nat
  | 0, s => s
  | k + 1, s => depM ops k (if s.testBit k then (match ops[k]? with
    | some o => o.after.toList.foldl (fun s e => if Region.binds .any e then s ||| 2 ^ e.on else s) s
    | none => s) else s)
def depB (ops : Array Oper) (k m i : Nat) : Bool := (depM ops k (2 ^ m)).testBit i

def Closed (ops : Array Oper) (l : Array Bool) : Prop := ∀ m o, l.getD m false = true → ops[m]? = some o → ∀ e ∈ o.after, Region.binds .any e = true → l.getD e.on false = true

theorem Closed.depM {l : Array Bool} (hc : Closed ops l) : ∀ (k s : Nat), (∀ i, s.testBit i = true → l.getD i false = true) → ∀ i, (depM ops k s).testBit i = true → l.getD i false = true
  | 0, s, h, i, hi => h i hi
  | k + 1, s, h, i, hi => by
    refine hc.depM k _ ?_ i hi
    intro j hj
    split at hj
    · rename_i hk
      split at hj
      · rename_i o ho
        have key : ∀ (es : List Edge) (s : Nat), (∀ e ∈ es, e ∈ o.after) → (∀ i, s.testBit i = true → l.getD i false = true) → ∀ i, (es.foldl (fun s e => if Region.binds .any e then s ||| 2 ^ e.on else s) s).testBit i = true → l.getD i false = true := by
          intro es
          induction es with
          | nil => exact fun s _ h i hi => h i hi
          | cons e es ih =>
            intro s2 he h2 i hi
            refine ih _ (fun x hx => he x (List.mem_cons_of_mem _ hx)) ?_ i hi
            intro i hi
            by_cases hb : Region.binds .any e = true
            · simp only [hb, if_true] at hi
              rw [Nat.testBit_or, Bool.or_eq_true] at hi
              rcases hi with hi | hi
              · exact h2 i hi
              · rw [Nat.testBit_two_pow, decide_eq_true_eq] at hi
                rw [← hi]
                exact hc k o (h k hk) ho e (he e List.mem_cons_self) hb
            · simp only [hb] at hi
              exact h2 i hi
        exact key _ _ (fun e he => Array.mem_toList_iff.1 he) h j hj
      · exact h j hj
    · exact h j hj
theorem Closed.dep {l : Array Bool} (hc : Closed ops l) (k m i : Nat) (hm : l.getD m false = true) (h : depB ops k m i = true) : l.getD i false = true := by
  refine hc.depM k _ ?_ i h
  intro j hj
  rw [Nat.testBit_two_pow, decide_eq_true_eq] at hj
  rw [← hj]; exact hm

theorem getD_set (l : Array Bool) (i j : Nat) (hi : i < l.size) : (l.setIfInBounds i true).getD j false = if i = j then true else l.getD j false := by
  by_cases h : i = j
  · subst h; rw [if_pos rfl]; simp [hi]
  · rw [if_neg h]; exact getD_set_ne false h

theorem ready_lt {l : Array Bool} (hs : l.size = ops.size) {i : Nat} (h : i ∈ Region.ready .any ops l) : i < l.size := by
  rw [hs]
  have := List.mem_filter.1 h
  simpa using this.1
theorem Closed.set {l : Array Bool} (hc : Closed ops l) (hs : l.size = ops.size) {i : Nat} (h : i ∈ Region.ready .any ops l) : Closed ops (l.setIfInBounds i true) := by
  intro m o hm ho e he hb
  have hil := ready_lt hs h
  rw [getD_set l i _ hil] at hm ⊢
  split
  · rfl
  · split at hm
    · rename_i him
      subst him
      obtain ⟨_, oi, hoi, hall⟩ := mem_ready.1 h
      rw [ho] at hoi; cases hoi
      exact hall e he hb
    · exact hc m o hm ho e he hb

theorem oneAct (hF : ∀ f, F.fn f) {i : Nat} {R : Act → World → Prop} {a : Act} {w : World} {K : Act → World → Prop} (hK : ∀ a w, R a w → K a w)
    (h : wpListIn F n P ops (fun e a'' w'' => e = .normal ∧ R a'' w'') (pick ops [i]) a w) : wpOpIn F n P ops (onlyNormal Q) i K a w := by
  unfold wpOpIn
  cases ho : ops[i]? with
  | none =>
    simp only [pick, List.filterMap_cons, ho, List.filterMap_nil] at h
    exact hK _ _ h.2
  | some o =>
    simp only [pick, List.filterMap_cons, ho, List.filterMap_nil] at h
    unfold wpListIn at h
    simp only
    split at h
    · rename_i hw
      rw [if_pos hw]
      refine ⟨fun f _ => hF f, ?_⟩
      have h2 := h.2
      have go : ∀ {a1 : Act} {w1 : World}, wpListIn F n P ops (fun e a'' w'' => e = .normal ∧ R a'' w'') [] a1 w1 → K a1 w1 := fun h1 => hK _ _ h1.2
      generalize (o.semAt F.round a.eval).run P w = r at h2 ⊢
      cases r with
      | halt x w1 =>
        cases x <;> simp only [Oper.uponIn] at h2 ⊢
        cases h2.1
      | ok x w1 =>
        cases x <;> simp only [Oper.uponIn] at h2 ⊢
        case value u => exact go h2
        case skip => exact go h2
        case defer d => exact go h2
        case enter f args =>
          refine ⟨h2.1, CallsIn.mono h2.2 fun e w2 he => ?_⟩
          cases e with
          | returned u => exact go he
          | panicked c => cases he.1
          | outgrown => obtain ⟨_, _, h⟩ := he; cases h.1
        case row r args => exact ⟨h2.1, RowsIn.mono h2.2 fun u w2 he => go he⟩
        case round l f tmps assign body =>
          refine ⟨h2.1, RoundIn.mono h2.2 fun e w2 he => ?_⟩
          cases e with
          | returned u => exact go he
          | panicked c => cases he.1
          | outgrown => obtain ⟨_, _, h⟩ := he; cases h.1
    · rename_i hw
      rw [if_neg hw]
      exact ⟨fun f _ => hF f, hK _ _ h.2.2⟩

end
end Go.Proofs.YtncobemfpammfaaGreat

namespace Go.Proofs.YtncobemfpammfaaGreat
open Go.RowKit

abbrev secsR : Rep (List Sec) := listR secR
abbrev Wr := Int × Int × List Sec
def zeroSec : Sec := Vector.replicate 8 0

theorem Tryz.mixed : Tryz.prog.follows .mixedOrders = true := by kernel_rfl
theorem i64ok_nat {n : Nat} (h : n ≤ maxLen) : i64ok (n : Int) := by unfold i64ok maxLen at *; omega
theorem Sl.i64 {α : Type} {r : Rep α} {ok : Nat → Prop} {w : World} {a : Option Addr} {n c : Nat} {l : List α} (h : Sl r ok w a n c l) : i64ok (n : Int) := i64ok_nat (Nat.le_trans h.cap h.bnd)
theorem Sl.small {α : Type} {r : Rep α} {ok : Nat → Prop} {w : World} {a : Option Addr} {n c : Nat} {l : List α} (h : Sl r ok w a n c l) : n ≤ 9223372036854775807 := by
  have := Nat.le_trans h.cap h.bnd; unfold maxLen at this; omega

end Go.Proofs.YtncobemfpammfaaGreat

namespace Go.Proofs.YtncobemfpammfaaGreat
open Go.RowKit

def badSize (n : Int) : Bool := decide (n < 1) || decide (4096 < n)
def sizesErr (l : List Int) : Int := if l.length < 1 ∨ 8 < l.length then 6 else if l.any badSize then 2 else 0

def lens (im : List (List Sec)) : List Int := im.map fun v => (v.length : Int)

def imgErr (im : List (List Sec)) : Int := sizesErr (lens im)

end Go.Proofs.YtncobemfpammfaaGreat

namespace Go.Proofs.YtncobemfpammfaaGreat
open Go.RowKit

def fitErr (sizes : List Int) (vol start : Int) (len : Nat) : Int :=
  if vol < 0 ∨ (sizes.length : Int) ≤ vol then 7 else if len = 0 then 1
  else if start < 0 ∨ sizes.getD vol.toNat 0 ≤ start ∨ sizes.getD vol.toNat 0 - start < len then 2 else 0

end Go.Proofs.YtncobemfpammfaaGreat

namespace Go.Proofs.YtncobemfpammfaaGreat
open Go.RowKit

def fitsErr (im : List (List Sec)) (vol start : Int) (len : Nat) : Int := if imgErr im ≠ 0 then imgErr im else fitErr (lens im) vol start len

end Go.Proofs.YtncobemfpammfaaGreat

namespace Go.Proofs.YtncobemfpammfaaGreat
open Go.RowKit

end Go.Proofs.YtncobemfpammfaaGreat

namespace Go.Proofs.YtncobemfpammfaaGreat
open Go.RowKit

structure LaterB (W : World) (g : Nat) where
  w : World
  grown : W.grownBy w (some g)
instance (W : World) (g : Nat) : Nonempty (LaterB W g) := ⟨⟨W, World.grownBy.refl _ _⟩⟩
theorem LaterB.of {W w : World} {g : Nat} (h : W.grownBy w (some g)) : ∃ x : LaterB W g, w = x.w := ⟨⟨w, h⟩, rfl⟩
theorem grown_drew (W : World) (row : Option Nat) : W.grownBy W.drew row := ⟨rfl, rfl, rfl, Nat.le_refl _, fun _ _ _ => rfl⟩
theorem LaterB.drew (W : World) (g : Nat) : ∃ x : LaterB W g, W.drew = x.w := LaterB.of (grown_drew _ _)
theorem below_grown {w w' : World} (h : Below w.heap.size w w') : w.grownBy w' none := ⟨h.os, h.tape, h.output, h.size, fun k hk _ => h.block k hk⟩

def ChunksD {α : Type} (r : Rep α) (tag : Nat → Nat) (ok : Nat → Prop) (w : World) : Nat → List Value → List α → Prop
  | _, xs, [] => xs = []
  | i, xs, x :: l => ∃ c rest, xs = c ++ rest ∧ r.rd (fun b => ok b ∧ tag b = i) w c x ∧ ChunksD r tag ok w (i + 1) rest l

section
variable {α : Type} {r : Rep α} {tag tag' : Nat → Nat} {ok ok' : Nat → Prop} {w w' : World}
theorem ChunksD.mono (hk : ∀ b, ok b → ok' b) : ∀ {l : List α} {i : Nat} {xs : List Value}, ChunksD r tag ok w i xs l → ChunksD r tag ok' w i xs l
  | [], _, _, h => h
  | _ :: _, _, _, ⟨c, rest, e, h1, h2⟩ => ⟨c, rest, e, r.mono (fun b hb => ⟨hk b hb.1, hb.2⟩) h1, h2.mono hk⟩
theorem ChunksD.retag (hk : ∀ b, ok b → tag' b = tag b) : ∀ {l : List α} {i : Nat} {xs : List Value}, ChunksD r tag ok w i xs l → ChunksD r tag' ok w i xs l
  | [], _, _, h => h
  | _ :: _, _, _, ⟨c, rest, e, h1, h2⟩ => ⟨c, rest, e, r.mono (fun b hb => ⟨hb.1, by rw [hk b hb.1]; exact hb.2⟩) h1, h2.retag hk⟩
theorem ChunksD.live : ∀ {l : List α} {i : Nat} {xs : List Value}, ChunksD r tag ok w i xs l → ChunksD r tag (fun b => ok b ∧ b < w.heap.size) w i xs l
  | [], _, _, h => h
  | _ :: _, _, _, ⟨c, rest, e, h1, h2⟩ => ⟨c, rest, e, r.mono (fun b hb => ⟨⟨hb.1.1, hb.2⟩, hb.1.2⟩) (r.live h1), h2.live⟩
theorem ChunksD.frame (hf : ∀ b, ok b → w'.heap[b]? = w.heap[b]?) : ∀ {l : List α} {i : Nat} {xs : List Value}, ChunksD r tag ok w i xs l → ChunksD r tag ok w' i xs l
  | [], _, _, h => h
  | _ :: _, _, _, ⟨c, rest, e, h1, h2⟩ => ⟨c, rest, e, r.frame (fun b hb => hf b hb.1) h1, h2.frame hf⟩
theorem ChunksD.chunks : ∀ {l : List α} {i : Nat} {xs : List Value}, ChunksD r tag ok w i xs l → Chunks r ok w xs l
  | [], _, _, h => h
  | _ :: _, _, _, ⟨c, rest, e, h1, h2⟩ => ⟨c, rest, e, r.mono (fun b hb => hb.1) h1, h2.chunks⟩
theorem ChunksD.pick : ∀ {l : List α} {i : Nat} {xs : List Value}, ChunksD r tag ok w i xs l → ∀ {k : Nat} {x : α}, l[k]? = some x →
    ∃ c, (∀ j, j < r.sz → xs[k * r.sz + j]? = c[j]?) ∧ r.rd (fun b => ok b ∧ tag b = i + k) w c x ∧
      ∀ (w' : World) (x' : α), (∀ b, ok b → tag b ≠ i + k → w'.heap[b]? = w.heap[b]?) → r.rd (fun b => ok b ∧ tag b = i + k) w' c x' → ChunksD r tag ok w' i xs (l.set k x')
  | [], _, _, _, k, x, hx => by simp at hx
  | y :: l, i, xs, ⟨c, rest, e, h1, h2⟩, 0, x, hx => by
    simp only [List.getElem?_cons_zero, Option.some.injEq] at hx
    subst hx
    refine ⟨c, fun j hj => by rw [e, Nat.zero_mul, Nat.zero_add, List.getElem?_append_left (by rw [r.len h1]; exact hj)], h1, fun w' x' hf hr => ?_⟩
    refine ⟨c, rest, e, hr, ?_⟩
    -- the tail's elements bear other tags
    have : ∀ {l : List α} {m : Nat} {xs : List Value}, i < m → ChunksD r tag ok w m xs l → ChunksD r tag ok w' m xs l := by
      intro l
      induction l with
      | nil => intro m xs _ h; exact h
      | cons z l ih =>
        intro m xs hm h
        obtain ⟨d, rs, e', h3, h4⟩ := h
        exact ⟨d, rs, e', r.frame (fun b hb => hf b hb.1 (by rw [hb.2]; omega)) h3, ih (by omega) h4⟩
    exact this (Nat.lt_succ_self _) h2
  | y :: l, i, xs, ⟨c, rest, e, h1, h2⟩, k + 1, x, hx => by
    obtain ⟨d, h3, h4, h5⟩ := h2.pick (k := k) (x := x) (by simpa using hx)
    have ei : i + 1 + k = i + (k + 1) := by omega
    refine ⟨d, fun j hj => ?_, by rw [← ei]; exact h4, fun w' x' hf hr => ?_⟩
    · rw [e, List.getElem?_append_right (by rw [r.len h1, Nat.add_mul]; omega), r.len h1, ← h3 j hj]
      congr 1
      rw [Nat.add_mul]; omega
    · refine ⟨c, rest, e, r.frame (fun b hb => hf b hb.1 (by rw [hb.2]; omega)) h1, ?_⟩
      exact h5 w' x' (fun b hb hne => hf b hb (by rw [← ei]; exact hne)) (by rw [ei]; exact hr)
end

def OwnD {α : Type} (r : Rep α) (B F : Nat) (E : TypeId) (w : World) (v : Value) (l : List α) : Prop :=
  ∃ tag xs, w.ownsRow B E r.sz v l.length xs ∧ ChunksD r tag (fun b => B ≤ b ∧ b < F ∧ Option.some b ≠ v.ownBlock) w 0 xs l

section
variable {α : Type} {r : Rep α} {B F : Nat} {E : TypeId} {w w' : World} {v : Value} {l : List α}
theorem OwnD.nil (r : Rep α) (B F : Nat) (E : TypeId) (w : World) : OwnD r B F E w (.slice none 0 0) [] := ⟨fun _ => 0, [], World.ownsRow_nil _ _ _ _, rfl⟩
theorem OwnD.live (h : OwnD r B F E w v l) : OwnD r B w.heap.size E w v l :=
  let ⟨tag, xs, h1, h2⟩ := h; ⟨tag, xs, h1, h2.live.mono fun _ hb => ⟨hb.1.1, hb.2, hb.1.2.2⟩⟩
theorem OwnD.lt (h : OwnD r B F E w v l) : ∀ k, v.ownBlock = some k → B ≤ k ∧ k < w.heap.size := let ⟨_, _, h1, _⟩ := h; h1.lt
theorem OwnD.below (h : OwnD r B F E w v l) (hb : Below w.heap.size w w') : OwnD r B F E w' v l := by
  obtain ⟨tag, xs, h1, h2⟩ := h
  exact ⟨tag, xs, h1.kept (below_grown hb) (by cases v.ownBlock <;> simp), (ChunksD.frame (fun b hb' => hb.block b hb'.2) h2.live).mono fun b hb => hb.1⟩
theorem OwnD.own (h : OwnD r B F E w v l) : Own r B E (B ≤ ·) w v l :=
  let ⟨_, xs, h1, h2⟩ := h; ⟨xs, h1, h2.chunks.mono fun _ hb => ⟨hb.1, hb.2.2⟩⟩
theorem OwnD.sl (h : OwnD r B F E w v l) : ∃ a n c, v = .slice a n c ∧ Sl r (B ≤ ·) w a n c l :=
  let ⟨a, n, c, e, h⟩ := h.own.sl; ⟨a, n, c, e, h.mono fun _ hb => hb.elim id id⟩

def RetSlE {α : Type} (r : Rep α) (ok : Nat → Prop) (w : World) (l : List α) (err : Int) : Ending → World → Prop := fun e w' =>
  ∃ a n c, e = .returned (.tuple #[.slice a n c, .int .i64 err]) ∧ Sl r ok w' a n c l ∧ Below w.heap.size w w'
theorem RetSlE.mk {α : Type} {r : Rep α} {ok : Nat → Prop} {w w' : World} {l : List α} {err err' : Int} {a : Option Addr} {n c : Nat} (he : err' = err) (h : Sl r ok w' a n c l) (hB : Below w.heap.size w w') :
    RetSlE r ok w l err (.returned (.tuple #[.slice a n c, .int .i64 err'])) w' := ⟨a, n, c, by rw [he], h, hB⟩
def Flat {α : Type} (r : Rep α) : Prop := ∀ {ok ok' : Nat → Prop} {w w' : World} {cs : List Value} {x : α}, r.rd ok w cs x → r.rd ok' w' cs x
theorem Flat.int : Flat intR := fun h => h
theorem Flat.u8 : Flat u8R := fun h => h
theorem Flat.bool : Flat boolR := fun h => h
theorem Chunks.flat {α : Type} {r : Rep α} (hf : Flat r) {ok ok' : Nat → Prop} {w w' : World} : ∀ {l : List α} {xs : List Value}, Chunks r ok w xs l → Chunks r ok' w' xs l
  | [], _, h => h
  | _ :: _, _, ⟨c, rest, e, h1, h2⟩ => ⟨c, rest, e, hf h1, h2.flat hf⟩
theorem Src.flat {α : Type} {r : Rep α} (hf : Flat r) {ok ok' : Nat → Prop} {w : World} {ao : Option Addr} {m c : Nat} {ys : List α} (h : Src r ok w ao m c ys) : Src r ok' w ao m c ys :=
  let ⟨h1, h2, news, h3, h4⟩ := h; ⟨h1, h2, news, h3, h4.flat hf⟩
theorem Own.lit0 {α : Type} (r : Rep α) {B : Nat} {E : TypeId} {ok : Nat → Prop} {w : World} (hB : B ≤ w.heap.size) : Own r B E ok (w.alloc (.cells #[] E)) (.slice (some ⟨w.heap.size, 0, none⟩) 0 0) [] :=
  ⟨[], World.ownsRow_lit w #[] 0 hB (Nat.zero_le _) (by simp), rfl⟩

theorem OwnD.at (h : OwnD r B F E w v l) {k : Nat} {x : α} (hx : l[k]? = some x) :
    ∃ g cap c, ∃ okk : Nat → Prop, v = .slice (some ⟨g, 0, none⟩) l.length cap ∧ B ≤ g ∧ g < w.heap.size ∧ (∀ j, j < r.sz → w.cell? ⟨g, k * r.sz + j, none⟩ = c[j]?) ∧ r.rd okk w c x ∧ (∀ b, okk b → B ≤ b ∧ b < F ∧ b ≠ g) ∧
      ∀ (w' : World) (x' : α), (∀ b, b < w.heap.size → ¬ okk b → w'.heap[b]? = w.heap[b]?) → w'.os = w.os → w'.tape = w.tape → w'.output = w.output → w.heap.size ≤ w'.heap.size → r.rd okk w' c x' → OwnD r B F E w' v (l.set k x') := by
  obtain ⟨tag, xs, h1, h2⟩ := h
  have hk := (List.getElem?_eq_some_iff.1 hx).1
  obtain ⟨g, cap, rfl, hBg, hg⟩ : ∃ g cap, v = .slice (some ⟨g, 0, none⟩) l.length cap ∧ B ≤ g ∧ g < w.heap.size := by
    rcases h1.2 with ⟨_, h0⟩ | ⟨g, cap, cur, hv, hb, hg, _⟩
    · omega
    · exact ⟨g, cap, hv, hb, (Array.getElem?_eq_some_iff.1 hg).1⟩
  obtain ⟨c, h3, h4, h5⟩ := h2.live.pick hx
  refine ⟨g, cap, c, _, rfl, hBg, hg, fun j hj => ?_, h4, fun b hb => ⟨hb.1.1.1, hb.1.1.2.1, fun e => hb.1.1.2.2 (by rw [e]; rfl)⟩, fun w' x' hf hos htp hout hsz hr => ?_⟩
  · rw [← h3 j hj, h1.cellAt]
    calc k * r.sz + j < k * r.sz + r.sz := by omega
      _ = (k + 1) * r.sz := by rw [Nat.add_mul]; omega
      _ ≤ l.length * r.sz := Nat.mul_le_mul_right _ (by omega)
  · have h6 := h5 w' x' (fun b hb hne => hf b hb.2 fun e => hne (by simpa using e.2)) hr
    refine ⟨tag, xs, ?_, h6.mono fun b hb => hb.1⟩
    rw [List.length_set]
    have hgk : w'.heap[g]? = w.heap[g]? := hf g hg fun e => e.1.1.2.2 rfl
    obtain ⟨hl, ⟨hv, h0⟩ | ⟨g', cap', cur, hv, r1, r2, r3⟩⟩ := h1
    · cases hv
    · cases hv
      exact ⟨hl, .inr ⟨g, cap, cur, rfl, r1, by rw [hgk]; exact r2, r3⟩⟩
end

def ownRowR {α : Type} (r : Rep α) (E : TypeId) : Rep (List α) where
  sz := 1
  rd ok w cs l := ∃ v, cs = [v] ∧ (∀ b, v.ownBlock = some b → ok b) ∧ Own r 0 E (fun _ => False) w v l ∧ (l = [] → v = .slice none 0 0 ∨ ∃ g c, v = .slice (some ⟨g, 0, none⟩) 0 c)
  len h := by obtain ⟨v, rfl, _⟩ := h; rfl
  mono hk h := let ⟨v, e, h1, h2⟩ := h; ⟨v, e, fun b hb => hk b (h1 b hb), h2⟩
  live h := let ⟨v, e, h1, h2, h3⟩ := h; ⟨v, e, fun b hb => ⟨h1 b hb, (h2.lt b hb).2⟩, h2, h3⟩
  frame hf h := by
    obtain ⟨v, e, h1, ⟨xs, h2, h3⟩, h4⟩ := h
    refine ⟨v, e, h1, ⟨xs, ⟨h2.1, ?_⟩, (Chunks.frame (fun b hb => hb.1.elim) h3)⟩, h4⟩
    rcases h2.2 with h0 | ⟨g, cap, cur, hv, hb, hg, rest⟩
    · exact .inl h0
    · refine .inr ⟨g, cap, cur, hv, hb, ?_, rest⟩
      rw [hf g (h1 g (by rw [hv]; rfl))]; exact hg
  one h := by
    obtain ⟨v, rfl, _, ⟨xs, h2, _⟩, _⟩ := h
    intro u hu
    cases List.mem_singleton.1 hu
    rcases h2.2 with ⟨rfl, _⟩ | ⟨g, cap, cur, rfl, _⟩ <;> rfl

theorem ownRowR.sl {α : Type} {r : Rep α} {E : TypeId} {ok : Nat → Prop} {w : World} {v : Value} {l : List α} (hf : Flat r) (h : (ownRowR r E).rd ok w [v] l) : ∃ a n c, v = .slice a n c ∧ Sl r ok w a n c l := by
  obtain ⟨_, e, h1, h2, _⟩ := h
  cases e
  obtain ⟨a, n, c, rfl, h3⟩ := h2.sl
  refine ⟨a, n, c, rfl, h3.len, h3.cap, h3.bnd, h3.nil, h3.cells.imp id fun ⟨b, off, e, _, hb, hc⟩ => ⟨b, off, e, h1 b (by rw [e]; rfl), hb, fun i x hx => let ⟨cs, g1, g2⟩ := hc i x hx; ⟨cs, g1, hf g2⟩⟩⟩
theorem ownRowR.mk {α : Type} {r : Rep α} {B : Nat} {E : TypeId} {w : World} {v : Value} {l : List α} (h : Own r B E (fun _ => False) w v l) (hv : l = [] → v = .slice none 0 0 ∨ ∃ g c, v = .slice (some ⟨g, 0, none⟩) 0 c) : (ownRowR r E).rd (B ≤ ·) w [v] l := by
  refine ⟨v, rfl, fun b hb => (h.lt b hb).1, ?_, hv⟩
  obtain ⟨xs, h1, h2⟩ := h
  refine ⟨xs, ⟨h1.1, h1.2.imp id fun ⟨g, cap, cur, a1, a2, a3⟩ => ⟨g, cap, cur, a1, Nat.zero_le _, a3⟩⟩, h2⟩

section
variable {P : Program} {ops : Array Oper} {rest : List Oper} {o : Oper} {a : Act} {Q : Exit → Act → World → Prop} {α : Type} {r : Rep α} {B : Nat} {E : TypeId} {w : World}

end


section
variable {P : Program} {α : Type} {r : Rep α} {B : Nat} {E : TypeId} {w : World} {g cap : Nat} {l : List α}
end

def subAddr (a : Option Addr) (c lo sz : Nat) : Option Addr := if c = lo then a else a.map (·.add (lo * sz))

theorem Sl.sub {α : Type} {r : Rep α} {ok : Nat → Prop} {w : World} {a : Option Addr} {n c : Nat} {l : List α} (h : Sl r ok w a n c l) {s k : Nat} (hk : s + k ≤ n) : Sl r ok w (subAddr a c s r.sz) k (c - s) ((l.drop s).take k) := by
  have h1 := h.len
  have h2 := h.cap
  refine ⟨by simp; omega, by omega, Nat.le_trans (Nat.sub_le _ _) h.bnd, fun e => ?_, ?_⟩
  · unfold subAddr at e
    split at e
    · omega
    · have : a = none := by simpa using e
      have := h.nil this
      omega
  · rcases h.cells with h0 | ⟨b, off, rfl, hb, hlt, hc⟩
    · left; omega
    · by_cases hk0 : k = 0
      · exact .inl hk0
      · refine .inr ⟨b, off + s * r.sz, ?_, hb, hlt, fun i x hx => ?_⟩
        · unfold subAddr
          rw [if_neg (by omega)]
          simp [Addr.add_lit]
        · have hik : i < k := by have := (List.getElem?_eq_some_iff.1 hx).1; simp at this; omega
          rw [List.getElem?_take, if_pos hik, List.getElem?_drop] at hx
          obtain ⟨cs, g1, g2⟩ := hc (s + i) x hx
          refine ⟨cs, fun j hj => ?_, g2⟩
          rw [← g1 j hj, Nat.add_mul, Nat.add_assoc off]

section
variable {P : Program} {ops : Array Oper} {rest : List Oper} {o : Oper} {a : Act} {Q : Exit → Act → World → Prop} {α : Type} {r : Rep α} {B : Nat} {E : TypeId} {w : World} {g cap : Nat} {l : List α}

end

section
variable {ok : Nat → Prop} {w : World} {n c : Nat}
theorem Sl.wr {b off : Nat} {l : List (Int × Int × List Sec)} (h : Sl (pairR intR (pairR intR (listR secR))) ok w (some ⟨b, off, none⟩) n c l) {k : Nat} {v s : Int} {d : List Sec} (hx : l[k]? = some (v, s, d)) :
    ∃ a' n' c', w.cell? ⟨b, off + k * 3, none⟩ = some (.int .i64 v) ∧ w.cell? ⟨b, off + k * 3 + 1, none⟩ = some (.int .i64 s) ∧ w.cell? ⟨b, off + k * 3 + 2, none⟩ = some (.slice a' n' c') ∧ i64ok v ∧ i64ok s ∧ Sl secR ok w a' n' c' d := by
  obtain ⟨cs, h1, c1, c2, rfl, ⟨rfl, hv⟩, c3, c4, rfl, ⟨rfl, hs⟩, a', n', c', rfl, hd⟩ := h.at hx
  refine ⟨a', n', c', ?_, ?_, ?_, hv, hs, hd⟩
  · exact h1 0 (by show 0 < 3; omega)
  · exact h1 1 (by show 1 < 3; omega)
  · exact h1 2 (by show 2 < 3; omega)
theorem Sl.ext {b off : Nat} {l : List (Int × Int)} (h : Sl (pairR intR intR) ok w (some ⟨b, off, none⟩) n c l) {k : Nat} {s m : Int} (hx : l[k]? = some (s, m)) :
    w.cell? ⟨b, off + k * 2, none⟩ = some (.int .i64 s) ∧ w.cell? ⟨b, off + k * 2 + 1, none⟩ = some (.int .i64 m) ∧ i64ok s ∧ i64ok m := by
  obtain ⟨cs, h1, c1, c2, rfl, ⟨rfl, hv⟩, ⟨rfl, hs⟩⟩ := h.at hx
  exact ⟨h1 0 (by show 0 < 2; omega), h1 1 (by show 1 < 2; omega), hv, hs⟩
end

end Go.Proofs.YtncobemfpammfaaGreat
