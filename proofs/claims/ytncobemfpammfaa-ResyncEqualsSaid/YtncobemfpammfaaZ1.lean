/-
  Part 1 of the texts that the statement stands on.
-/
import Derived.WalkKit
import Derived.Lib.Hide
import Derived.BigQuiet
import Derived.Deep.QuietTactic
import Derived.Deep.LoopGhost
import Derived.Deep.Draws
import Derived.ChangeKeysEq
import Derived.Laws.StructEq
import Derived.OrdersHeld
import Derived.Deep.Quiet
import Derived.Tactics
import Derived.Tactics2
import Derived.Maps.AppendAt
import Derived.OrdersIn
import Derived.TacticsIn
import Derived.OwnWalkIn
import Derived.Test.YtncobemfpammfaaRows
import Derived.WalkSmall
set_option linter.all false
namespace Go.Proofs.Ytncobemfpammfaa
open Go.RowKit

structure Rep (α : Type) where
  sz : Nat
  rd : (Nat → Prop) → World → List Value → α → Prop
  len : ∀ {ok w cs x}, rd ok w cs x → cs.length = sz
  mono : ∀ {ok ok' : Nat → Prop} {w cs x}, (∀ b, ok b → ok' b) → rd ok w cs x → rd ok' w cs x
  live : ∀ {ok w cs x}, rd ok w cs x → rd (fun b => ok b ∧ b < w.heap.size) w cs x
  frame : ∀ {ok} {w w' : World} {cs x}, (∀ b, ok b → w'.heap[b]? = w.heap[b]?) → rd ok w cs x → rd ok w' cs x
  one : ∀ {ok w cs x}, rd ok w cs x → ∀ u ∈ cs, u.oneCell' = true

def i64ok (n : Int) : Prop := -9223372036854775808 ≤ n ∧ n ≤ 9223372036854775807

def intR : Rep Int where
  sz := 1
  rd _ _ cs n := cs = [.int .i64 n] ∧ i64ok n
  len h := by rw [h.1]; rfl
  mono _ h := h
  live h := h
  frame _ h := h
  one h := by rw [h.1]; intro u hu; cases List.mem_singleton.1 hu; rfl

def boolR : Rep Bool where
  sz := 1
  rd _ _ cs b := cs = [.bool b]
  len h := by rw [h]; rfl
  mono _ h := h
  live h := h
  frame _ h := h
  one h := by rw [h]; intro u hu; cases List.mem_singleton.1 hu; rfl

def u8R : Rep UInt8 where
  sz := 1
  rd _ _ cs b := cs = [.int .u8 (b.toNat : Int)]
  len h := by rw [h]; rfl
  mono _ h := h
  live h := h
  frame _ h := h
  one h := by rw [h]; intro u hu; cases List.mem_singleton.1 hu; rfl

abbrev Sec := Vector UInt8 8
def secCells (x : Sec) : List Value := x.toList.map fun b => .int .u8 (b.toNat : Int)
theorem secCells_length (x : Sec) : (secCells x).length = 8 := by simp [secCells]
theorem secCells_one (x : Sec) : ∀ u ∈ secCells x, u.oneCell' = true := by
  intro u hu; obtain ⟨_, _, rfl⟩ := List.mem_map.1 hu; rfl

def secR : Rep Sec where
  sz := 8
  rd _ _ cs x := cs = secCells x
  len h := by rw [h]; exact secCells_length _
  mono _ h := h
  live h := h
  frame _ h := h
  one h := by rw [h]; exact secCells_one _

def pairR {α β : Type} (r : Rep α) (s : Rep β) : Rep (α × β) where
  sz := r.sz + s.sz
  rd ok w cs x := ∃ c1 c2, cs = c1 ++ c2 ∧ r.rd ok w c1 x.1 ∧ s.rd ok w c2 x.2
  len h := by obtain ⟨c1, c2, rfl, h1, h2⟩ := h; simp [r.len h1, s.len h2]
  mono hk h := by obtain ⟨c1, c2, rfl, h1, h2⟩ := h; exact ⟨c1, c2, rfl, r.mono hk h1, s.mono hk h2⟩
  live h := by obtain ⟨c1, c2, rfl, h1, h2⟩ := h; exact ⟨c1, c2, rfl, r.live h1, s.live h2⟩
  frame hf h := by obtain ⟨c1, c2, rfl, h1, h2⟩ := h; exact ⟨c1, c2, rfl, r.frame hf h1, s.frame hf h2⟩
  one h := by
    obtain ⟨c1, c2, rfl, h1, h2⟩ := h
    intro u hu
    rcases List.mem_append.1 hu with hu | hu
    · exact r.one h1 u hu
    · exact s.one h2 u hu

structure Sl {α : Type} (r : Rep α) (ok : Nat → Prop) (w : World) (a : Option Addr) (n c : Nat) (l : List α) : Prop where
  len : l.length = n
  cap : n ≤ c
  bnd : c ≤ maxLen
  nil : a = none → c = 0
  cells : n = 0 ∨ ∃ b off, a = some ⟨b, off, none⟩ ∧ ok b ∧ b < w.heap.size ∧
    ∀ i x, l[i]? = some x → ∃ cs, (∀ j, j < r.sz → w.cell? ⟨b, off + i * r.sz + j, none⟩ = cs[j]?) ∧ r.rd ok w cs x

theorem live_of_same {w w' : World} {b : Nat} (h : w'.heap[b]? = w.heap[b]?) (hb : b < w.heap.size) : b < w'.heap.size := by
  rcases Nat.lt_or_ge b w'.heap.size with g | g
  · exact g
  · rw [Array.getElem?_eq_none g, Array.getElem?_eq_getElem hb] at h; cases h

theorem Sl.mono {α : Type} {r : Rep α} {ok ok' : Nat → Prop} {w : World} {a : Option Addr} {n c : Nat} {l : List α} (hk : ∀ b, ok b → ok' b) (h : Sl r ok w a n c l) : Sl r ok' w a n c l :=
  ⟨h.len, h.cap, h.bnd, h.nil, h.cells.imp id fun ⟨b, off, h1, h2, h3, h4⟩ => ⟨b, off, h1, hk _ h2, h3, fun i x hx => let ⟨cs, h5, h6⟩ := h4 i x hx; ⟨cs, h5, r.mono hk h6⟩⟩⟩
theorem Sl.live {α : Type} {r : Rep α} {ok : Nat → Prop} {w : World} {a : Option Addr} {n c : Nat} {l : List α} (h : Sl r ok w a n c l) : Sl r (fun b => ok b ∧ b < w.heap.size) w a n c l :=
  ⟨h.len, h.cap, h.bnd, h.nil, h.cells.imp id fun ⟨b, off, h1, h2, h3, h4⟩ => ⟨b, off, h1, ⟨h2, h3⟩, h3, fun i x hx => let ⟨cs, h5, h6⟩ := h4 i x hx; ⟨cs, h5, r.live h6⟩⟩⟩
theorem Sl.frame {α : Type} {r : Rep α} {ok : Nat → Prop} {w w' : World} {a : Option Addr} {n c : Nat} {l : List α} (hf : ∀ b, ok b → w'.heap[b]? = w.heap[b]?) (h : Sl r ok w a n c l) : Sl r ok w' a n c l :=
  ⟨h.len, h.cap, h.bnd, h.nil, h.cells.imp id fun ⟨b, off, h1, h2, h3, h4⟩ => ⟨b, off, h1, h2, live_of_same (hf b h2) h3,
    fun i x hx => let ⟨cs, h5, h6⟩ := h4 i x hx; ⟨cs, fun j hj => (World.cell?_of_block (w := w) (a := ⟨b, _, none⟩) (hf b h2)).trans (h5 j hj), r.frame hf h6⟩⟩⟩
theorem Sl.below {α : Type} {r : Rep α} {ok : Nat → Prop} {w w' : World} {a : Option Addr} {n c : Nat} {l : List α} (hb : Below w.heap.size w w') (h : Sl r ok w a n c l) : Sl r ok w' a n c l :=
  (Sl.frame (fun b hb' => hb.block b hb'.2) h.live).mono fun _ h => h.1

def listR {α : Type} (r : Rep α) : Rep (List α) where
  sz := 1
  rd ok w cs l := ∃ a n c, cs = [.slice a n c] ∧ Sl r ok w a n c l
  len h := by obtain ⟨a, n, c, rfl, _⟩ := h; rfl
  mono hk h := let ⟨a, n, c, e, h⟩ := h; ⟨a, n, c, e, h.mono hk⟩
  live h := let ⟨a, n, c, e, h⟩ := h; ⟨a, n, c, e, h.live⟩
  frame hf h := let ⟨a, n, c, e, h⟩ := h; ⟨a, n, c, e, h.frame hf⟩
  one h := by obtain ⟨a, n, c, rfl, _⟩ := h; intro u hu; cases List.mem_singleton.1 hu; rfl

section
variable {ok : Nat → Prop} {w : World} {a : Option Addr} {n c : Nat}
theorem Sl.addr {α : Type} {r : Rep α} {l : List α} (h : Sl r ok w a n c l) {k : Nat} (hk : k < n) : ∃ b off, a = some ⟨b, off, none⟩ ∧ ok b ∧ b < w.heap.size := by
  rcases h.cells with h0 | ⟨b, off, h1, h2, h3, _⟩
  · omega
  · exact ⟨b, off, h1, h2, h3⟩
theorem Sl.at {α : Type} {r : Rep α} {b off : Nat} {l : List α} (h : Sl r ok w (some ⟨b, off, none⟩) n c l) {k : Nat} {x : α} (hx : l[k]? = some x) :
    ∃ cs, (∀ j, j < r.sz → w.cell? ⟨b, off + k * r.sz + j, none⟩ = cs[j]?) ∧ r.rd ok w cs x := by
  rcases h.cells with h0 | ⟨b', off', h1, _, _, h4⟩
  · have := (List.getElem?_eq_some_iff.1 hx).1
    have := h.len
    omega
  · cases h1
    exact h4 k x hx
theorem Sl.get {α : Type} {r : Rep α} {l : List α} (h : Sl r ok w a n c l) {k : Nat} (hk : k < n) : ∃ x, l[k]? = some x := by
  have := h.len
  exact ⟨l[k], List.getElem?_eq_getElem (by omega)⟩
theorem Sl.int {b off : Nat} {l : List Int} (h : Sl intR ok w (some ⟨b, off, none⟩) n c l) {k : Nat} {x : Int} (hx : l[k]? = some x) :
    w.cell? ⟨b, off + k, none⟩ = some (.int .i64 x) ∧ i64ok x := by
  obtain ⟨cs, h1, rfl, h2⟩ := h.at hx
  refine ⟨?_, h2⟩
  have := h1 0 Nat.zero_lt_one
  simpa [intR] using this
theorem Sl.slice {α : Type} {r : Rep α} {b off : Nat} {l : List (List α)} (h : Sl (listR r) ok w (some ⟨b, off, none⟩) n c l) {k : Nat} {x : List α} (hx : l[k]? = some x) :
    ∃ a' n' c', w.cell? ⟨b, off + k, none⟩ = some (.slice a' n' c') ∧ Sl r ok w a' n' c' x := by
  obtain ⟨cs, h1, a', n', c', rfl, h2⟩ := h.at hx
  refine ⟨a', n', c', ?_, h2⟩
  have := h1 0 Nat.zero_lt_one
  simpa [listR] using this
theorem Sl.sec {b off : Nat} {l : List Sec} (h : Sl secR ok w (some ⟨b, off, none⟩) n c l) {k : Nat} {x : Sec} (hx : l[k]? = some x) :
    ∀ j, j < 8 → w.cell? ⟨b, off + k * 8 + j, none⟩ = (secCells x)[j]? := by
  obtain ⟨cs, h1, rfl⟩ := h.at hx
  exact h1
end

structure Later (W : World) where
  w : World
  below : Below W.heap.size W w
instance (W : World) : Nonempty (Later W) := ⟨⟨W, Below.refl _ _⟩⟩
def LaterS (W : World) : World → Prop := fun w' => ∃ x : Later W, w' = x.w
theorem LaterS.of {W w : World} (h : Below W.heap.size W w) : LaterS W w := ⟨⟨w, h⟩, rfl⟩
theorem LaterS.drew (W : World) : LaterS W W.drew := .of ((Below.refl _ _).drew)

end Go.Proofs.Ytncobemfpammfaa

namespace Go.Proofs.Ytncobemfpammfaa

def pick (ops : Array Oper) (is : List Nat) : List Oper := is.filterMap (ops[·]?)

def plainOp : Op → Bool
  | .move _ | .assign _ | .pick _ _ _ | .load _ _ | .binOp _ _ _ _ _ | .unOp _ _ _ | .convert _ _ _ | .makeFunc _ _ _ | .fieldAddr _ _ _ | .field _ _ _ | .indexAddr _ _ _ | .index _ _ _ | .slice _ _ _ _ _ | .extract _ _ | .build _ _ | .makeInterface _ _ => true
  | .call ⟨.builtin .len, _, _⟩ | .call ⟨.builtin .min, _, _⟩ | .call ⟨.builtin .max, _, _⟩ => true
  | _ => false

theorem value_of_bind {P : Program} {β : Type} {s : Sem β} {f : β → Value} {w w' : World} {n : Next} (h : ((do let x ← s; pure (Next.value (f x))) : Sem Next).run P w = .ok n w') : ∃ x, n = .value x := by
  rw [Sem.run_bind] at h
  cases hs : s.run P w with
  | ok x w1 => rw [hs] at h; simp at h; exact ⟨f x, h.1.symm⟩
  | halt x w1 => rw [hs] at h; simp [Result.andThen] at h

theorem plain_value {P : Program} {ρ : Operand → Value} {o : Oper} (hp : plainOp o.op = true) {w w' : World} {n : Next} (h : (execOp ρ o).run P w = .ok n w') : ∃ x, n = .value x := by
  unfold execOp at h
  cases ho : o.op <;> rw [ho] at hp h <;> try (simp [plainOp] at hp; done)
  case move x => simp at h; exact ⟨_, h.1.symm⟩
  case assign x => simp at h; exact ⟨_, h.1.symm⟩
  case call c =>
    obtain ⟨callee, args, ats⟩ := c
    cases callee <;> try (simp [plainOp] at hp; done)
    rename_i b
    cases b <;> try (simp [plainOp] at hp; done)
    all_goals
      simp only [resolve, Sem.run_bind, Sem.run_pure, Result.andThen_ok, invoke, builtin] at h
      exact value_of_bind (f := fun x => x) (by simpa [Sem.run_bind] using h)
  case pick c x y => exact value_of_bind (s := asBool (ρ c)) (f := fun b => if b = true then ρ x else ρ y) h
  all_goals exact value_of_bind (f := fun x => x) h

def quietRun (ops : Array Oper) : List Nat → Array Bool → Option (Array Bool)
  | [], l => some l
  | i :: is, l => if ((ops[i]?).map fun o => plainOp o.op).getD false && Region.free .any ops l i && (Region.ready .any ops l).contains i then quietRun ops is (l.setIfInBounds i true) else none

def actsB (ops : Array Oper) : List (List Nat × Nat) → List Nat → Array Bool → Bool
  | [], last, l => match quietRun ops last l with
    | some l' => (Region.ready .any ops l').isEmpty
    | none => false
  | (seg, i) :: more, last, l => match quietRun ops seg l with
    | some l' => (Region.ready .any ops l' == [i]) && actsB ops more last (l'.setIfInBounds i true)
    | none => false

def actsCount : List (List Nat × Nat) → List Nat → Nat
  | [], last => last.length
  | (seg, _) :: more, last => actsCount more last + 1 + seg.length

def actsOk (ops : Array Oper) (acts : List (List Nat × Nat)) (last : List Nat) : Bool :=
  Region.noSelect ops && (actsCount acts last == ops.size) && actsB ops acts last (Array.replicate ops.size false)

def wpActs (P : Program) (ops : Array Oper) (S : World → Prop) (Q : Act → World → Prop) : List (List Nat × Nat) → List Nat → Act → World → Prop
  | [], last, a, w => wpQuiet P ops S (fun a' => Q a' w) (pick ops last) a
  | (seg, i) :: more, last, a, w => wpQuiet P ops S (fun a' => wpList P ops (fun e a'' w'' => e = .normal ∧ S w'' ∧ wpActs P ops S Q more last a'' w'') (pick ops [i]) a' w) (pick ops seg) a

section
variable {P : Program} {ops : Array Oper} {S : World → Prop} {Q : Act → World → Prop}

theorem wpActs_act {seg : List Nat} {i : Nat} {more : List (List Nat × Nat)} {last : List Nat} {a : Act} {w : World}
    (h : wpQuiet P ops S (fun a' => wpList P ops (fun e a'' w'' => e = .normal ∧ S w'' ∧ wpActs P ops S Q more last a'' w'') (pick ops [i]) a' w) (pick ops seg) a) : wpActs P ops S Q ((seg, i) :: more) last a w := by
  unfold wpActs; exact h
theorem wpActs_last {last : List Nat} {a : Act} {w : World} (h : wpQuiet P ops S (fun a' => Q a' w) (pick ops last) a) : wpActs P ops S Q [] last a w := by
  unfold wpActs; exact h

def onlyNormal (Q : Act → World → Prop) : Exit → Act → World → Prop := fun e a w => e = .normal ∧ Q a w

theorem seg_sound (hsel : Region.noSelect ops = true) {w : World} (hS : S w) : ∀ (seg : List Nat) (n : Nat) (l l' : Array Bool) (a : Act), quietRun ops seg l = some l' →
    wpQuiet P ops S (fun a' => wpAnyH P .any ops (onlyNormal Q) S n l' a' w) (pick ops seg) a → wpAnyH P .any ops (onlyNormal Q) S (n + seg.length) l a w
  | [], n, l, l', a, hq, h => by
    simp only [quietRun, Option.some.injEq] at hq
    subst hq
    exact h
  | i :: is, n, l, l', a, hq, h => by
    unfold quietRun at hq
    split at hq
    case isFalse => cases hq
    rename_i hc
    simp only [Bool.and_eq_true] at hc
    obtain ⟨⟨hp, hf⟩, hr⟩ := hc
    cases ho : ops[i]? with
    | none => rw [ho] at hp; simp at hp
    | some o =>
      rw [ho] at hp
      simp only [Option.map_some, Option.getD_some] at hp
      simp only [pick, List.filterMap_cons, ho] at h
      unfold wpQuiet at h
      have key : ∃ v, YieldsIf P ops S o v a ∧ wpQuiet P ops S (fun a' => wpAnyH P .any ops (onlyNormal Q) S n l' a' w) (pick ops is) (a.put o.dst v) := by
        split at h
        · rename_i hw
          obtain ⟨v, h1, h2⟩ := h
          refine ⟨v, .inl ⟨hw, fun w1 hw1 => ?_⟩, h2⟩
          have h3 := h1 w1 hw1
          unfold Oper.quietAt at h3
          cases hrun : (execOp a.eval o).run P w1 with
          | halt x w2 => rw [hrun] at h3; exact h3.elim
          | ok x w2 =>
            obtain ⟨y, rfl⟩ := plain_value hp hrun
            rw [hrun] at h3
            obtain ⟨e1, e2⟩ := h3
            rw [e1, e2]
        · rename_i hw
          exact ⟨undef, .inr ⟨by simpa using hw, rfl⟩, h⟩
      obtain ⟨v, hy, hk⟩ := key
      exact wpAnyH_take ho hsel hf hr (fun c a w h => by cases h.1) hy hS (seg_sound hsel hS is n _ l' _ hq hk)

theorem wp_only {o : Oper} {a : Act} {w : World} {K K' : Act → World → Prop} {Qa Qb : Exit → Act → World → Prop} (hK : ∀ a w, K a w → K' a w) (hQ : ∀ e a w, Qa e a w → e = .normal) (h : o.wp P a w K Qa) : o.wp P a w K' Qb := by
  unfold Oper.wp at *
  generalize (execOp a.eval o).run P w = r at *
  cases r with
  | ok n w' =>
    cases n <;> simp only [Oper.upon] at h ⊢
    case value v => exact hK _ _ h
    case skip => exact hK _ _ h
    case defer d => exact hK _ _ h
    case enter f args =>
      exact h.mono fun e w'' he => by
        cases e with
        | returned v => exact hK _ _ he
        | panicked c => cases hQ _ _ _ he
        | outgrown => obtain ⟨a0, w0, h0⟩ := he; cases hQ _ _ _ h0
    case row r args => exact h.mono fun v w'' hv => hK _ _ hv
  | halt x w' =>
    cases x <;> simp only [Oper.upon] at h ⊢
    case panic v => cases hQ _ _ _ h

theorem acts_sound (hsel : Region.noSelect ops = true) : ∀ (acts : List (List Nat × Nat)) (last : List Nat) (l : Array Bool) (a : Act) (w : World), actsB ops acts last l = true → S w →
    wpActs P ops S Q acts last a w → wpAnyH P .any ops (onlyNormal Q) S (actsCount acts last) l a w
  | [], last, l, a, w, hB, hS, h => by
    unfold actsB at hB
    split at hB
    case h_2 => cases hB
    rename_i l' hq
    have := seg_sound (Q := Q) (P := P) hsel hS last 0 l l' a hq (by
      unfold wpActs at h
      have hd : ∀ a', Q a' w → wpAnyH P .any ops (onlyNormal Q) S 0 l' a' w := fun a' hq' => ⟨by simpa using hB, rfl, hq'⟩
      revert h
      generalize pick ops last = os
      induction os generalizing a with
      | nil => exact hd a
      | cons o os ih =>
        intro h
        unfold wpQuiet at h ⊢
        split at h
        · rename_i hw; rw [if_pos hw]; exact Oper.quiet_mono (fun a' h' => ih a' h') h
        · rename_i hw; rw [if_neg hw]; exact ih _ h)
    simpa [actsCount] using this
  | (seg, i) :: more, last, l, a, w, hB, hS, h => by
    unfold actsB at hB
    split at hB
    case h_2 => cases hB
    rename_i l' hq
    simp only [Bool.and_eq_true, beq_iff_eq] at hB
    obtain ⟨hr, hB'⟩ := hB
    have := seg_sound (Q := Q) (P := P) hsel hS seg (actsCount more last + 1) l l' a hq (by
      unfold wpActs at h
      have hd : ∀ a', wpList P ops (fun e a'' w'' => e = .normal ∧ S w'' ∧ wpActs P ops S Q more last a'' w'') (pick ops [i]) a' w → wpAnyH P .any ops (onlyNormal Q) S (actsCount more last + 1) l' a' w := fun a' h' => by
        refine wpAnyH_all hr (by simp) fun j hj => ?_
        obtain rfl : j = i := by simpa using hj
        unfold wpOp
        cases ho : ops[j]? with
        | none =>
          simp only [pick, List.filterMap_cons, ho, List.filterMap_nil] at h'
          obtain ⟨_, hs, ha⟩ := h'
          exact ⟨hs, acts_sound hsel more last _ _ _ hB' hs ha⟩
        | some o =>
          simp only [pick, List.filterMap_cons, ho, List.filterMap_nil] at h'
          unfold wpList at h'
          simp only
          split at h'
          · rename_i hw
            rw [if_pos hw]
            rcases h' with h' | ⟨_, a0, w0, h0⟩
            · exact .inl (wp_only (fun a1 w1 h1 => ⟨h1.2.1, acts_sound hsel more last _ _ _ hB' h1.2.1 h1.2.2⟩) (fun e a1 w1 h1 => h1.1) h')
            · cases h0.1
          · rename_i hw
            rw [if_neg hw]
            exact ⟨h'.2.1, acts_sound hsel more last _ _ _ hB' h'.2.1 h'.2.2⟩
      revert h
      generalize pick ops seg = os
      induction os generalizing a with
      | nil => exact hd a
      | cons o os ih =>
        intro h
        unfold wpQuiet at h ⊢
        split at h
        · rename_i hw; rw [if_pos hw]; exact Oper.quiet_mono (fun a' h' => ih a' h') h
        · rename_i hw; rw [if_neg hw]; exact ih _ h)
    simpa [actsCount] using this

theorem wp_region_acts {id : Nat} {l : List Oper} {a : Act} {w : World} {Q : Exit → Act → World → Prop} (S : World → Prop) (acts : List (List Nat × Nat)) (last : List Nat) (hm : P.follows .mixedOrders = true)
    (hB : actsOk l.toArray acts last = true) (hS : S w.drew) (h : wpActs P l.toArray S (Q .normal) acts last a w.drew) : (Code.region id l.toArray true).wp P Q a w := by
  simp only [actsOk, Bool.and_eq_true, beq_iff_eq] at hB
  obtain ⟨⟨hsel, hn⟩, hB⟩ := hB
  refine Code.wp_mono (Q := onlyNormal (Q .normal)) (fun e a w h => by obtain ⟨rfl, h⟩ := h; exact h) (wp_region_held (S := S) hm ?_)
  have := acts_sound hsel acts last _ a _ hB hS h
  rw [hn] at this
  exact this
end
end Go.Proofs.Ytncobemfpammfaa

namespace Go.Proofs.Ytncobemfpammfaa
open Go.RowKit

def Chunks {α : Type} (r : Rep α) (ok : Nat → Prop) (w : World) : List Value → List α → Prop
  | xs, [] => xs = []
  | xs, x :: l => ∃ c rest, xs = c ++ rest ∧ r.rd ok w c x ∧ Chunks r ok w rest l

section
variable {α : Type} {r : Rep α} {ok ok' : Nat → Prop} {w w' : World}
theorem Chunks.mono (hk : ∀ b, ok b → ok' b) : ∀ {l : List α} {xs : List Value}, Chunks r ok w xs l → Chunks r ok' w xs l
  | [], _, h => h
  | _ :: _, _, ⟨c, rest, e, h1, h2⟩ => ⟨c, rest, e, r.mono hk h1, h2.mono hk⟩
theorem Chunks.live : ∀ {l : List α} {xs : List Value}, Chunks r ok w xs l → Chunks r (fun b => ok b ∧ b < w.heap.size) w xs l
  | [], _, h => h
  | _ :: _, _, ⟨c, rest, e, h1, h2⟩ => ⟨c, rest, e, r.live h1, h2.live⟩
theorem Chunks.frame (hf : ∀ b, ok b → w'.heap[b]? = w.heap[b]?) : ∀ {l : List α} {xs : List Value}, Chunks r ok w xs l → Chunks r ok w' xs l
  | [], _, h => h
  | _ :: _, _, ⟨c, rest, e, h1, h2⟩ => ⟨c, rest, e, r.frame hf h1, h2.frame hf⟩
theorem Chunks.length : ∀ {l : List α} {xs : List Value}, Chunks r ok w xs l → xs.length = l.length * r.sz
  | [], _, h => by rw [h]; simp
  | x :: l, _, ⟨c, rest, e, h1, h2⟩ => by rw [e, List.length_append, r.len h1, h2.length, List.length_cons, Nat.add_mul]; omega
theorem Chunks.one : ∀ {l : List α} {xs : List Value}, Chunks r ok w xs l → ∀ u ∈ xs, u.oneCell' = true
  | [], _, h => by rw [h]; intro u hu; cases hu
  | _ :: _, _, ⟨c, rest, e, h1, h2⟩ => by
    rw [e]; intro u hu
    rcases List.mem_append.1 hu with hu | hu
    · exact r.one h1 u hu
    · exact h2.one u hu
theorem Chunks.append : ∀ {l : List α} {xs : List Value}, Chunks r ok w xs l → ∀ {m : List α} {ys : List Value}, Chunks r ok w ys m → Chunks r ok w (xs ++ ys) (l ++ m)
  | [], _, h, _, _, hm => by rw [h]; exact hm
  | _ :: _, _, ⟨c, rest, e, h1, h2⟩, _, ys, hm => ⟨c, rest ++ ys, by rw [e, List.append_assoc], h1, h2.append hm⟩
theorem Chunks.single {c : List Value} {x : α} (h : r.rd ok w c x) : Chunks r ok w c [x] := ⟨c, [], by simp, h, rfl⟩
theorem Chunks.at : ∀ {l : List α} {xs : List Value}, Chunks r ok w xs l → ∀ {i : Nat} {x : α}, l[i]? = some x → ∃ c, (∀ j, j < r.sz → xs[i * r.sz + j]? = c[j]?) ∧ r.rd ok w c x
  | [], _, _, i, x, hx => by simp at hx
  | y :: l, _, ⟨c, rest, e, h1, h2⟩, 0, x, hx => by
    simp only [List.getElem?_cons_zero, Option.some.injEq] at hx
    subst hx
    exact ⟨c, fun j hj => by rw [e, Nat.zero_mul, Nat.zero_add, List.getElem?_append_left (by rw [r.len h1]; exact hj)], h1⟩
  | y :: l, _, ⟨c, rest, e, h1, h2⟩, i + 1, x, hx => by
    obtain ⟨d, h3, h4⟩ := h2.at (i := i) (x := x) (by simpa using hx)
    refine ⟨d, fun j hj => ?_, h4⟩
    rw [e, List.getElem?_append_right (by rw [r.len h1, Nat.add_mul]; omega), r.len h1, ← h3 j hj]
    congr 1
    rw [Nat.add_mul]; omega
theorem Chunks.of_at {xs : List Value} : ∀ {l : List α} (off : Nat), xs.length = off + l.length * r.sz →
    (∀ i x, l[i]? = some x → ∃ c, (∀ j, j < r.sz → xs[off + i * r.sz + j]? = c[j]?) ∧ r.rd ok w c x) → Chunks r ok w (xs.drop off) l
  | [], off, hl, _ => by simp only [Chunks]; rw [List.drop_eq_nil_of_le]; simp at hl; omega
  | y :: l, off, hl, h => by
    obtain ⟨c, h1, h2⟩ := h 0 y rfl
    have hc := r.len h2
    have hlen : xs.length = off + r.sz + l.length * r.sz := by rw [hl, List.length_cons, Nat.add_mul]; omega
    refine ⟨c, xs.drop (off + r.sz), ?_, h2, Chunks.of_at (off + r.sz) hlen fun i x hx => ?_⟩
    · rw [← List.drop_drop]
      have : c = (xs.drop off).take r.sz := by
        apply List.ext_getElem?
        intro j
        rw [List.getElem?_take]
        split
        · rename_i hj
          rw [List.getElem?_drop, ← h1 j hj]
          congr 1; omega
        · rw [List.getElem?_eq_none]; omega
      rw [this, List.take_append_drop]
    · obtain ⟨d, h3, h4⟩ := h (i + 1) x (by simpa using hx)
      refine ⟨d, fun j hj => ?_, h4⟩
      rw [← h3 j hj]
      congr 1
      rw [Nat.add_mul]; omega
end

structure SliceT (P : Program) (T E sz bytes : Nat) (z : Value) : Prop where
  u : P.underlying T = some (.slice E)
  i : (P.info? E).map (fun i => (i.zero, i.size, i.bytes)) = some (some z, sz, bytes)
  zs : z.cells.size = sz
  pos : 0 < sz

def Own {α : Type} (r : Rep α) (B : Nat) (E : TypeId) (ok : Nat → Prop) (w : World) (v : Value) (l : List α) : Prop :=
  ∃ xs, w.ownsRow B E r.sz v l.length xs ∧ Chunks r (fun b => ok b ∧ Option.some b ≠ v.ownBlock) w xs l

def Src {α : Type} (r : Rep α) (ok : Nat → Prop) (w : World) (ao : Option Addr) (m c : Nat) (ys : List α) : Prop :=
  ys.length = m ∧ (ao = none → m = 0 ∧ c = 0) ∧ ∃ news, (∀ ad, ao = some ad → ∀ j u, news[j]? = some u → w.cell? (ad.add j) = some u) ∧ Chunks r ok w news ys

section
variable {α : Type} {r : Rep α} {B : Nat} {E : TypeId} {ok : Nat → Prop} {w w' : World} {v : Value} {l : List α}

theorem Own.nil (r : Rep α) (B : Nat) (E : TypeId) (ok : Nat → Prop) (w : World) : Own r B E ok w (.slice none 0 0) [] := ⟨[], World.ownsRow_nil _ _ _ _, rfl⟩
theorem Own.kept {row : Option Nat} (h : Own r B E ok w v l) (hg : w.grownBy w' row) (hne : v.ownBlock = none ∨ v.ownBlock ≠ row) (hr : ∀ b, row = some b → ¬ ok b) : Own r B E ok w' v l := by
  obtain ⟨xs, h1, h2⟩ := h
  refine ⟨xs, h1.kept hg hne, (Chunks.frame (fun b hb => ?_) h2.live).mono fun b hb => hb.1⟩
  exact hg.block b hb.2 fun e => hr b e.symm hb.1.1
theorem Own.lt (h : Own r B E ok w v l) : ∀ k, v.ownBlock = some k → B ≤ k ∧ k < w.heap.size := let ⟨_, h1, _⟩ := h; h1.lt
theorem Own.below (h : Own r B E ok w v l) (hb : Below w.heap.size w w') : Own r B E ok w' v l := by
  obtain ⟨xs, h1, h2⟩ := h
  have hg : w.grownBy w' none := ⟨hb.os, hb.tape, hb.output, hb.size, fun k hk _ => hb.block k hk⟩
  exact ⟨xs, h1.kept hg (by cases v.ownBlock <;> simp), (Chunks.frame (fun b hb' => hb.block b hb'.2) h2.live).mono fun b hb => hb.1⟩
theorem Own.mono {ok' : Nat → Prop} (hk : ∀ b, ok b → ok' b) (h : Own r B E ok w v l) : Own r B E ok' w v l :=
  let ⟨xs, h1, h2⟩ := h; ⟨xs, h1, h2.mono fun b hb => ⟨hk b hb.1, hb.2⟩⟩
theorem Own.sl (h : Own r B E ok w v l) : ∃ a n c, v = .slice a n c ∧ Sl r (fun b => ok b ∨ B ≤ b) w a n c l := by
  obtain ⟨xs, h1, h2⟩ := h
  have h1' := h1
  obtain ⟨hx, ⟨rfl, h0⟩ | ⟨g, cap, cur, rfl, hb, hg, hn, hc, hs, ht⟩⟩ := h1
  · refine ⟨none, 0, 0, rfl, ⟨h0, Nat.le_refl _, Nat.zero_le _, fun _ => rfl, .inl rfl⟩⟩
  · refine ⟨_, _, _, rfl, ⟨rfl, hn, hc, (fun e => by cases e), .inr ⟨g, 0, rfl, .inr hb, (Array.getElem?_eq_some_iff.1 hg).1, fun i x hi => ?_⟩⟩⟩
    obtain ⟨c, h3, h4⟩ := h2.at hi
    refine ⟨c, fun j hj => ?_, r.mono (fun b hb => .inl hb.1) h4⟩
    rw [← h3 j hj, Nat.zero_add, h1'.cellAt]
    have := (List.getElem?_eq_some_iff.1 hi).1
    calc i * r.sz + j < i * r.sz + r.sz := by omega
      _ = (i + 1) * r.sz := by rw [Nat.add_mul]; omega
      _ ≤ l.length * r.sz := Nat.mul_le_mul_right _ (by omega)

theorem Src.of_sl {ao : Option Addr} {m c : Nat} {ys : List α} (h : Sl r ok w ao m c ys) : Src r ok w ao m c ys := by
  refine ⟨h.len, fun e => ?_, ?_⟩
  · have := h.nil e; have := h.cap; omega
  · rcases h.cells with h0 | ⟨b, off, rfl, hb, _, h4⟩
    · have : ys = [] := List.eq_nil_of_length_eq_zero (by rw [h.len, h0])
      subst this
      exact ⟨[], fun ad _ j u hu => by simp at hu, rfl⟩
    · -- the cells, as the world holds them
      let news : List Value := (List.range (m * r.sz)).map fun j => (w.cell? ⟨b, off + j, none⟩).getD undef
      have hlt : ∀ i x, ys[i]? = some x → ∀ j, j < r.sz → i * r.sz + j < m * r.sz := fun i x hi j hj => by
        have h1 := (List.getElem?_eq_some_iff.1 hi).1
        have h2 : (i + 1) * r.sz ≤ m * r.sz := Nat.mul_le_mul_right _ (by rw [← h.len]; omega)
        rw [Nat.add_mul] at h2; omega
      have hcell : ∀ i x, ys[i]? = some x → ∃ cs, (∀ j, j < r.sz → news[i * r.sz + j]? = cs[j]?) ∧ r.rd ok w cs x := fun i x hi => by
        obtain ⟨cs, h5, h6⟩ := h4 i x hi
        refine ⟨cs, fun j hj => ?_, h6⟩
        have hc := r.len h6
        have e := h5 j hj
        have hj' : j < cs.length := by omega
        rw [List.getElem?_eq_getElem hj'] at e ⊢
        simp only [news, List.getElem?_map, List.getElem?_range (hlt i x hi j hj), Option.map_some]
        rw [← Nat.add_assoc, e]; rfl
      refine ⟨news, fun ad had j u hu => ?_, ?_⟩
      · obtain rfl := Option.some.inj had
        have hj : j < m * r.sz := by
          have := (List.getElem?_eq_some_iff.1 hu).1
          simpa [news] using this
        simp only [news, List.getElem?_map, List.getElem?_range hj, Option.map_some, Option.some.injEq] at hu
        -- the cell is there: it belongs to an element
        have hpos : 0 < r.sz := by rcases Nat.eq_zero_or_pos r.sz with h0 | h0; (rw [h0] at hj; simp at hj); exact h0
        have hi : j / r.sz < ys.length := by rw [h.len]; exact Nat.div_lt_of_lt_mul (by rw [Nat.mul_comm]; exact hj)
        obtain ⟨cs, h5, h6⟩ := h4 (j / r.sz) _ (List.getElem?_eq_getElem hi)
        have hm := Nat.mod_lt j hpos
        have e := h5 (j % r.sz) hm
        have e2 : off + j / r.sz * r.sz + j % r.sz = off + j := by rw [Nat.add_assoc, Nat.mul_comm, Nat.div_add_mod]
        rw [e2, List.getElem?_eq_getElem (by rw [r.len h6]; exact hm)] at e
        rw [e] at hu
        rw [Addr.add_lit, e, ← hu]; rfl
      · have := Chunks.of_at (r := r) (ok := ok) (w := w) (xs := news) (l := ys) 0 (by simp [news, h.len]) (fun i x hi => by
          obtain ⟨cs, h5, h6⟩ := hcell i x hi
          exact ⟨cs, fun j hj => by rw [Nat.zero_add]; exact h5 j hj, h6⟩)
        simpa using this

theorem run_app {P : Program} {T ty bytes : Nat} {z : Value} (ht : SliceT P T E r.sz bytes z) (h : Own r B E ok w v l) {ao : Option Addr} {m c : Nat} {ys : List α}
    (hs : Src r (fun b => ok b ∧ Option.some b ≠ v.ownBlock) w ao m c ys) (h63 : l.length + m ≤ maxLen) (hby : (l.length + m) * bytes ≤ 140737488355328) (hB : B ≤ w.heap.size) :
    ∃ v' w', (Builtin.append_ #[T, T] ty #[v, .slice ao m c]).run P w = .ok v' w' ∧ Own r B E ok w' v' (l ++ ys) ∧ w.grownBy w' v.ownBlock ∧ (v'.ownBlock = v.ownBlock ∨ v'.ownBlock = some w.heap.size) := by
  obtain ⟨i, hi, hz0, hz1, hz2⟩ := info_parts ht.i
  obtain ⟨xs, h1, h2⟩ := h
  obtain ⟨hm, hnil, news, hnews, hch⟩ := hs
  cases ao with
  | none =>
    obtain ⟨rfl, rfl⟩ := hnil rfl
    have : ys = [] := List.eq_nil_of_length_eq_zero hm
    subst this
    exact ⟨v, w, run_append_owned_none w B T ty E i r.sz ht.u hi v l.length xs h1, by rw [List.append_nil]; exact ⟨xs, h1, h2⟩, World.grownBy.refl _ _, .inl rfl⟩
  | some ad =>
    obtain ⟨v', w', hr, h3, h4, _, h6⟩ := run_append_own_at (P := P) w B T ty E i z r.sz bytes ht.u hi hz0 hz1 hz2 ht.zs ht.pos v l.length xs h1 ad m c news (by rw [hch.length, hm]) (hnews ad rfl) hch.one h63 hby hB
    refine ⟨v', w', hr, ⟨xs ++ news, by rw [List.length_append, hm]; exact h3, ?_⟩, h4, h6⟩
    have hfr : ∀ {xs : List Value} {l : List α}, Chunks r (fun b => ok b ∧ Option.some b ≠ v.ownBlock) w xs l → Chunks r (fun b => ok b ∧ Option.some b ≠ v'.ownBlock) w' xs l := fun hc => by
      refine (Chunks.frame (fun b hb => h4.block b hb.2 hb.1.2) hc.live).mono fun b hb => ⟨hb.1.1, ?_⟩
      rcases h6 with h6 | h6
      · rw [h6]; exact hb.1.2
      · rw [h6]; intro e; have := Option.some.inj e; have := hb.2; omega
    exact (hfr h2).append (hfr hch)

theorem wpList_app {P : Program} {ops : Array Oper} {rest : List Oper} {o : Oper} {a : Act} {Q : Exit → Act → World → Prop} {T bytes : Nat} {z : Value} (ht : SliceT P T E r.sz bytes z) (hgd : o.guard = none) (s x : Operand)
    (ho : o.op = .call { callee := .builtin .append, args := #[s, x], argTypes := #[T, T] }) (hs : a.eval s = v) (h : Own r B E ok w v l) {ao : Option Addr} {m c : Nat} {ys : List α} (hx : a.eval x = .slice ao m c)
    (hsrc : Src r (fun b => ok b ∧ Option.some b ≠ v.ownBlock) w ao m c ys) (h63 : l.length + m ≤ maxLen) (hby : (l.length + m) * bytes ≤ 140737488355328) (hB : B ≤ w.heap.size)
    (hk : ∀ v' w', Own r B E ok w' v' (l ++ ys) → w.grownBy w' v.ownBlock → (v'.ownBlock = v.ownBlock ∨ v'.ownBlock = some w.heap.size) → wpList P ops Q rest (a.put o.dst v') w') : wpList P ops Q (o :: rest) a w := by
  refine wpList_plain hgd fun K hK => ?_
  obtain ⟨v', w', hr, h2, h3, h4⟩ := run_app (P := P) (ty := o.type) ht h hsrc h63 hby hB
  unfold Oper.wp execOp
  simp only [ho, resolve, invoke, builtin, Sem.run_bind, Sem.run_pure, Result.andThen_ok, List.map_toArray, List.map_cons, List.map_nil, hs, hx, hr]
  exact hK _ _ (hk v' w' h2 h3 h4)
end

end Go.Proofs.Ytncobemfpammfaa

namespace Go.Proofs.Ytncobemfpammfaa

section
variable {F : Fence} {n : Nat} {P : Program} {ops : Array Oper} {S : World → Prop} {Q : Act → World → Prop}

def noDefer (ops : Array Oper) : Bool := ops.all fun o => match o.op with | .defer _ => false | _ => true
theorem noDefer_spec (h : noDefer ops = true) {j : Nat} {o : Oper} (ho : ops[j]? = some o) : ∀ c, o.op ≠ .defer c := by
  intro c e
  have := Array.all_eq_true_iff_forall_mem.1 h o (Array.mem_of_getElem? ho)
  simp [e] at this

theorem opIn_put (hF : ∀ f, F.fn f) (hnd : noDefer ops = true) (hsel : Region.noSelect ops = true) {i j : Nat} {oi oj : Oper} {v : Value} (hi : ops[i]? = some oi) (hj : ops[j]? = some oj) (hap : oi.apart ops oj = true) {K : Act → World → Prop} {a : Act} {w : World}
    (hy : YieldsIf P ops S oi v a) (h : wpOpIn F n P ops (onlyNormal Q) j K (a.put oi.dst v) w) : wpOpIn F n P ops (onlyNormal Q) j (fun a' w' => YieldsIf P ops S oi v a' ∧ K (a'.put oi.dst v) w') a w := by
  obtain ⟨h1, h2, h3⟩ := Oper.apart_spec hap
  have hsi := fun cs b => Region.noSelect_spec hsel i oi cs b hi
  have hsj := fun cs b => Region.noSelect_spec hsel j oj cs b hj
  have keep : ∀ u, YieldsIf P ops S oi v (a.put oj.dst u) := fun u => hy.of_same (execOp_put oi hsi a oj.dst u h3) (wanted_put oi a oj.dst u h3)
  have hab : ∀ (b : Act) f, oj.about P w b.eval = some f → F.fn f := fun _ f _ => hF f
  unfold wpOpIn at h ⊢
  simp only [hj] at h ⊢
  rw [wanted_put oj a oi.dst v h1] at h
  by_cases hw : Region.wanted oj (yielded ops a.tmps) = true
  · rw [if_pos hw] at h ⊢
    refine ⟨hab a, ?_⟩
    have h' := h.2
    rw [Oper.semAt_eq _ _ _ (noDefer_spec hnd hj)] at h' ⊢
    rw [execOp_put oj hsj a oi.dst v h1] at h'
    have put : ∀ u w', K ((a.put oi.dst v).put oj.dst u) w' → K ((a.put oj.dst u).put oi.dst v) w' := fun u w' hk => by rw [← Act.put_comm a v u h2]; exact hk
    have nope : ∀ {c a w}, onlyNormal Q (.panic c) a w → False := fun h => by cases h.1
    have out : LetsOut (onlyNormal Q) → False := fun ⟨_, _, h⟩ => by cases h.1
    cases hrun : (execOp a.eval oj).run P w with
    | halt x w1 =>
      rw [hrun] at h'
      cases x <;> simp only [Oper.uponIn] at h' ⊢
      exact (nope h').elim
    | ok x w1 =>
      rw [hrun] at h'
      cases x <;> simp only [Oper.uponIn] at h' ⊢
      case value u => exact ⟨keep u, put u _ h'⟩
      case skip => exact ⟨keep _, put _ _ h'⟩
      case defer d =>
        have hd : YieldsIf P ops S oi v { a with defers := d :: a.defers } := hy.of_same rfl rfl
        refine ⟨hd.of_same (execOp_put oi hsi _ oj.dst undef h3) (wanted_put oi _ oj.dst undef h3), ?_⟩
        rw [← Act.put_comm _ v undef h2, ← Act.put_defers]
        exact h'
      case enter f args =>
        refine ⟨h'.1, CallsIn.mono h'.2 fun e w2 he => ?_⟩
        cases e with
        | returned u => exact ⟨keep u, put u _ he⟩
        | panicked c => exact (nope he).elim
        | outgrown => exact (out he).elim
      case row r args => exact ⟨h'.1, RowsIn.mono h'.2 fun u w2 he => ⟨keep u, put u _ he⟩⟩
      case round l f tmps assign body =>
        refine ⟨h'.1, RoundIn.mono h'.2 fun e w2 he => ?_⟩
        cases e with
        | returned u => exact ⟨keep u, put u _ he⟩
        | panicked c => exact (nope he).elim
        | outgrown => exact (out he).elim
  · rw [if_neg hw] at h ⊢
    exact ⟨hab a, keep _, by rw [← Act.put_comm a v undef h2]; exact h.2⟩

theorem wpQuiet_imp {R R' : Act → Prop} (h : ∀ a, R a → R' a) : ∀ (os : List Oper) (a : Act), wpQuiet P ops S R os a → wpQuiet P ops S R' os a
  | [], a, hq => h a hq
  | o :: os, a, hq => by
    unfold wpQuiet at hq ⊢
    split at hq
    · rename_i hw; rw [if_pos hw]; exact Oper.quiet_mono (fun a' h' => wpQuiet_imp h os a' h') hq
    · rename_i hw; rw [if_neg hw]; exact wpQuiet_imp h os _ hq

end
end Go.Proofs.Ytncobemfpammfaa

namespace Go.Proofs.Ytncobemfpammfaa

section
variable {F : Fence} {n : Nat} {P : Program} {ops : Array Oper} {S : World → Prop} {Q : Act → World → Prop} {f : Nat}

def depM (ops : Array Oper) : Nat → Nat → Nat
  | 0, s => s
  | k + 1, s => depM ops k (if s.testBit k then (match ops[k]? with
    | some o => o.after.toList.foldl (fun s e => if Region.binds .any e then s ||| 2 ^ e.on else s) s
    | none => s) else s)
def depB (ops : Array Oper) (k m i : Nat) : Bool := (depM ops k (2 ^ m)).testBit i

def Closed (ops : Array Oper) (l : Array Bool) : Prop := ∀ m o, l.getD m false = true → ops[m]? = some o → ∀ e ∈ o.after, Region.binds .any e = true → l.getD e.on false = true

theorem Closed.depM {l : Array Bool} (hc : Closed ops l) : ∀ (k s : Nat), (∀ i, s.testBit i = true → l.getD i false = true) → ∀ i, (depM ops k s).testBit i = true → l.getD i false = true
  | 0, s, h, i, hi => h i hi
  | k + 1, s, h, i, hi => by
    refine hc.depM k _ ?_ i hi
    intro j hj
    split at hj
    · rename_i hk
      split at hj
      · rename_i o ho
        have key : ∀ (es : List Edge) (s : Nat), (∀ e ∈ es, e ∈ o.after) → (∀ i, s.testBit i = true → l.getD i false = true) → ∀ i, (es.foldl (fun s e => if Region.binds .any e then s ||| 2 ^ e.on else s) s).testBit i = true → l.getD i false = true := by
          intro es
          induction es with
          | nil => exact fun s _ h i hi => h i hi
          | cons e es ih =>
            intro s2 he h2 i hi
            refine ih _ (fun x hx => he x (List.mem_cons_of_mem _ hx)) ?_ i hi
            intro i hi
            by_cases hb : Region.binds .any e = true
            · simp only [hb, if_true] at hi
              rw [Nat.testBit_or, Bool.or_eq_true] at hi
              rcases hi with hi | hi
              · exact h2 i hi
              · rw [Nat.testBit_two_pow, decide_eq_true_eq] at hi
                rw [← hi]
                exact hc k o (h k hk) ho e (he e List.mem_cons_self) hb
            · simp only [hb] at hi
              exact h2 i hi
        exact key _ _ (fun e he => Array.mem_toList_iff.1 he) h j hj
      · exact h j hj
    · exact h j hj
theorem Closed.dep {l : Array Bool} (hc : Closed ops l) (k m i : Nat) (hm : l.getD m false = true) (h : depB ops k m i = true) : l.getD i false = true := by
  refine hc.depM k _ ?_ i h
  intro j hj
  rw [Nat.testBit_two_pow, decide_eq_true_eq] at hj
  rw [← hj]; exact hm

theorem getD_set (l : Array Bool) (i j : Nat) (hi : i < l.size) : (l.setIfInBounds i true).getD j false = if i = j then true else l.getD j false := by
  by_cases h : i = j
  · subst h; rw [if_pos rfl]; simp [hi]
  · rw [if_neg h]; exact getD_set_ne false h

theorem ready_lt {l : Array Bool} (hs : l.size = ops.size) {i : Nat} (h : i ∈ Region.ready .any ops l) : i < l.size := by
  rw [hs]
  have := List.mem_filter.1 h
  simpa using this.1
theorem Closed.set {l : Array Bool} (hc : Closed ops l) (hs : l.size = ops.size) {i : Nat} (h : i ∈ Region.ready .any ops l) : Closed ops (l.setIfInBounds i true) := by
  intro m o hm ho e he hb
  have hil := ready_lt hs h
  rw [getD_set l i _ hil] at hm ⊢
  split
  · rfl
  · split at hm
    · rename_i him
      subst him
      obtain ⟨_, oi, hoi, hall⟩ := mem_ready.1 h
      rw [ho] at hoi; cases hoi
      exact hall e he hb
    · exact hc m o hm ho e he hb

theorem oneAct (hF : ∀ f, F.fn f) {i : Nat} {R : Act → World → Prop} {a : Act} {w : World} {K : Act → World → Prop} (hK : ∀ a w, R a w → K a w)
    (h : wpListIn F n P ops (fun e a'' w'' => e = .normal ∧ R a'' w'') (pick ops [i]) a w) : wpOpIn F n P ops (onlyNormal Q) i K a w := by
  unfold wpOpIn
  cases ho : ops[i]? with
  | none =>
    simp only [pick, List.filterMap_cons, ho, List.filterMap_nil] at h
    exact hK _ _ h.2
  | some o =>
    simp only [pick, List.filterMap_cons, ho, List.filterMap_nil] at h
    unfold wpListIn at h
    simp only
    split at h
    · rename_i hw
      rw [if_pos hw]
      refine ⟨fun f _ => hF f, ?_⟩
      have h2 := h.2
      have go : ∀ {a1 : Act} {w1 : World}, wpListIn F n P ops (fun e a'' w'' => e = .normal ∧ R a'' w'') [] a1 w1 → K a1 w1 := fun h1 => hK _ _ h1.2
      generalize (o.semAt F.round a.eval).run P w = r at h2 ⊢
      cases r with
      | halt x w1 =>
        cases x <;> simp only [Oper.uponIn] at h2 ⊢
        cases h2.1
      | ok x w1 =>
        cases x <;> simp only [Oper.uponIn] at h2 ⊢
        case value u => exact go h2
        case skip => exact go h2
        case defer d => exact go h2
        case enter f args =>
          refine ⟨h2.1, CallsIn.mono h2.2 fun e w2 he => ?_⟩
          cases e with
          | returned u => exact go he
          | panicked c => cases he.1
          | outgrown => obtain ⟨_, _, h⟩ := he; cases h.1
        case row r args => exact ⟨h2.1, RowsIn.mono h2.2 fun u w2 he => go he⟩
        case round l f tmps assign body =>
          refine ⟨h2.1, RoundIn.mono h2.2 fun e w2 he => ?_⟩
          cases e with
          | returned u => exact go he
          | panicked c => cases he.1
          | outgrown => obtain ⟨_, _, h⟩ := he; cases h.1
    · rename_i hw
      rw [if_neg hw]
      exact ⟨fun f _ => hF f, hK _ _ h.2.2⟩

end
end Go.Proofs.Ytncobemfpammfaa

namespace Go.Proofs.Ytncobemfpammfaa
open Go.RowKit

abbrev secsR : Rep (List Sec) := listR secR
abbrev Wr := Int × Int × List Sec
abbrev wrR : Rep Wr := pairR intR (pairR intR secsR)
theorem Try.mixed : Try.prog.follows .mixedOrders = true := by kernel_rfl
theorem Try.slInt : SliceT Try.prog 67 3 1 8 (.int .i64 0) := ⟨Try.underlying67, by kernel_rfl, rfl, by decide⟩
theorem Try.slSec : SliceT Try.prog 49 52 8 8 (.agg #[.int .u8 0, .int .u8 0, .int .u8 0, .int .u8 0, .int .u8 0, .int .u8 0, .int .u8 0, .int .u8 0]) := ⟨Try.underlying49, by kernel_rfl, rfl, by decide⟩
theorem Try.slSecs : SliceT Try.prog 22 49 1 24 (.slice none 0 0) := ⟨Try.underlying22, by kernel_rfl, rfl, by decide⟩
theorem ret_int {k : IntKind} {a b : Int} (h : a = b) : Ending.returned (.int k a) = .returned (.int k b) := by rw [h]
theorem ret_bool {a b : Bool} (h : a = b) : Ending.returned (.bool a) = .returned (.bool b) := by rw [h]
theorem i64ok_nat {n : Nat} (h : n ≤ maxLen) : i64ok (n : Int) := by unfold i64ok maxLen at *; omega
theorem Sl.i64 {α : Type} {r : Rep α} {ok : Nat → Prop} {w : World} {a : Option Addr} {n c : Nat} {l : List α} (h : Sl r ok w a n c l) : i64ok (n : Int) := i64ok_nat (Nat.le_trans h.cap h.bnd)
theorem Sl.small {α : Type} {r : Rep α} {ok : Nat → Prop} {w : World} {a : Option Addr} {n c : Nat} {l : List α} (h : Sl r ok w a n c l) : n ≤ 9223372036854775807 := by
  have := Nat.le_trans h.cap h.bnd; unfold maxLen at this; omega

theorem take_any_succ {α : Type} {p : α → Bool} {l : List α} {k : Nat} {x : α} (h : l[k]? = some x) : (l.take (k + 1)).any p = ((l.take k).any p || p x) := by
  rw [List.take_add_one, h]; simp
theorem any_true {α : Type} {p : α → Bool} {l : List α} {k : Nat} {x : α} (h : l[k]? = some x) (hp : p x = true) : l.any p = true := by
  rw [List.any_eq_true]; exact ⟨x, List.mem_of_getElem? h, hp⟩
theorem take_succ_get {α : Type} {l : List α} {k : Nat} {x : α} (h : l[k]? = some x) : l.take (k + 1) = l.take k ++ [x] := by
  rw [List.take_add_one, h]; rfl
theorem take_all {α : Type} {l : List α} {n : Nat} (h : l.length = n) : l.take n = l := List.take_of_length_le (by omega)

end Go.Proofs.Ytncobemfpammfaa

namespace Go.Proofs.Ytncobemfpammfaa
open Go.RowKit

def badSize (n : Int) : Bool := decide (n < 1) || decide (4096 < n)
def sizesErr (l : List Int) : Int := if l.length < 1 ∨ 8 < l.length then 6 else if l.any badSize then 2 else 0

def lens (im : List (List Sec)) : List Int := im.map fun v => (v.length : Int)

def imgErr (im : List (List Sec)) : Int := sizesErr (lens im)

end Go.Proofs.Ytncobemfpammfaa

namespace Go.Proofs.Ytncobemfpammfaa
open Go.RowKit

def fitErr (sizes : List Int) (vol start : Int) (len : Nat) : Int :=
  if vol < 0 ∨ (sizes.length : Int) ≤ vol then 7 else if len = 0 then 1
  else if start < 0 ∨ sizes.getD vol.toNat 0 ≤ start ∨ sizes.getD vol.toNat 0 - start < len then 2 else 0

theorem getD_of {α : Type} {l : List α} {k : Nat} {x d : α} (h : l[k]? = some x) : l.getD k d = x := by simp [List.getD, h]

end Go.Proofs.Ytncobemfpammfaa

namespace Go.Proofs.Ytncobemfpammfaa
open Go.RowKit

def fitsErr (im : List (List Sec)) (vol start : Int) (len : Nat) : Int := if imgErr im ≠ 0 then imgErr im else fitErr (lens im) vol start len

end Go.Proofs.Ytncobemfpammfaa

namespace Go.Proofs.Ytncobemfpammfaa
open Go.RowKit

end Go.Proofs.Ytncobemfpammfaa

namespace Go.Proofs.Ytncobemfpammfaa
open Go.RowKit

structure LaterB (W : World) (g : Nat) where
  w : World
  grown : W.grownBy w (some g)
instance (W : World) (g : Nat) : Nonempty (LaterB W g) := ⟨⟨W, World.grownBy.refl _ _⟩⟩
theorem LaterB.of {W w : World} {g : Nat} (h : W.grownBy w (some g)) : ∃ x : LaterB W g, w = x.w := ⟨⟨w, h⟩, rfl⟩
theorem grown_drew (W : World) (row : Option Nat) : W.grownBy W.drew row := ⟨rfl, rfl, rfl, Nat.le_refl _, fun _ _ _ => rfl⟩
theorem LaterB.drew (W : World) (g : Nat) : ∃ x : LaterB W g, W.drew = x.w := LaterB.of (grown_drew _ _)
theorem cellLaterB {w : World} {g : Nat} {a : Addr} {v : Value} (h : w.cell? a = some v) (hne : a.block ≠ g) : ∀ x : LaterB w g, x.w.cell? a = some v := fun x =>
  x.grown.cell h fun e => hne (Option.some.inj e)
theorem grown_trans {a b c : World} {row : Option Nat} (h : a.grownBy b row) (k : b.grownBy c row) : a.grownBy c row :=
  ⟨k.os.trans h.os, k.tape.trans h.tape, k.output.trans h.output, Nat.le_trans h.size k.size, fun i hi hr => (k.block i (Nat.lt_of_lt_of_le hi h.size) hr).trans (h.block i hi hr)⟩
theorem grown_below {B : Nat} {w w' : World} {row : Option Nat} (h : w.grownBy w' row) (hB : B ≤ w.heap.size) (hr : ∀ k, row = some k → B ≤ k) : Below B w w' := (Below.refl B w).grown h hB hr
theorem below_grown {w w' : World} (h : Below w.heap.size w w') : w.grownBy w' none := ⟨h.os, h.tape, h.output, h.size, fun k hk _ => h.block k hk⟩

theorem boxCell {w w1 : World} {cs : Array Value} {T : TypeId} (hb : Below (w.alloc (.cells cs T)).heap.size (w.alloc (.cells cs T)) w1) {j : Nat} {v : Value} (h : cs[j]? = some v) : w1.cell? ⟨w.heap.size, j, none⟩ = some v := by
  rw [hb.cell (p := ⟨w.heap.size, j, none⟩) (by simp), World.cell?_alloc_mark w cs T (0, 0) j, h]
theorem news_new (w : World) (E : TypeId) (cs : Array Value) : ∀ j u, cs.toList[j]? = some u → (w.alloc (.cells cs E)).cell? ((⟨w.heap.size, 0, none⟩ : Addr).add j) = some u := fun j u hu => by
  rw [Addr.add_lit, Nat.zero_add, World.cell?_alloc_mark w cs E (0, 0) j]
  simpa using hu
theorem rd_below {α : Type} {r : Rep α} {ok : Nat → Prop} {w w' : World} {cs : List Value} {x : α} (h : r.rd ok w cs x) (hb : Below w.heap.size w w') : r.rd ok w' cs x :=
  r.mono (fun _ hb => hb.1) (r.frame (fun b hb' => hb.block b hb'.2) (r.live h))
theorem rd_alloc {α : Type} {r : Rep α} {ok : Nat → Prop} {w : World} {cs : List Value} {x : α} (h : r.rd ok w cs x) {o : Obj} : r.rd ok (w.alloc o) cs x := rd_below h ((Below.refl _ _).alloc (Nat.le_refl _) _)

def ChunksD {α : Type} (r : Rep α) (tag : Nat → Nat) (ok : Nat → Prop) (w : World) : Nat → List Value → List α → Prop
  | _, xs, [] => xs = []
  | i, xs, x :: l => ∃ c rest, xs = c ++ rest ∧ r.rd (fun b => ok b ∧ tag b = i) w c x ∧ ChunksD r tag ok w (i + 1) rest l

section
variable {α : Type} {r : Rep α} {tag tag' : Nat → Nat} {ok ok' : Nat → Prop} {w w' : World}
theorem ChunksD.mono (hk : ∀ b, ok b → ok' b) : ∀ {l : List α} {i : Nat} {xs : List Value}, ChunksD r tag ok w i xs l → ChunksD r tag ok' w i xs l
  | [], _, _, h => h
  | _ :: _, _, _, ⟨c, rest, e, h1, h2⟩ => ⟨c, rest, e, r.mono (fun b hb => ⟨hk b hb.1, hb.2⟩) h1, h2.mono hk⟩
theorem ChunksD.retag (hk : ∀ b, ok b → tag' b = tag b) : ∀ {l : List α} {i : Nat} {xs : List Value}, ChunksD r tag ok w i xs l → ChunksD r tag' ok w i xs l
  | [], _, _, h => h
  | _ :: _, _, _, ⟨c, rest, e, h1, h2⟩ => ⟨c, rest, e, r.mono (fun b hb => ⟨hb.1, by rw [hk b hb.1]; exact hb.2⟩) h1, h2.retag hk⟩
theorem ChunksD.live : ∀ {l : List α} {i : Nat} {xs : List Value}, ChunksD r tag ok w i xs l → ChunksD r tag (fun b => ok b ∧ b < w.heap.size) w i xs l
  | [], _, _, h => h
  | _ :: _, _, _, ⟨c, rest, e, h1, h2⟩ => ⟨c, rest, e, r.mono (fun b hb => ⟨⟨hb.1.1, hb.2⟩, hb.1.2⟩) (r.live h1), h2.live⟩
theorem ChunksD.frame (hf : ∀ b, ok b → w'.heap[b]? = w.heap[b]?) : ∀ {l : List α} {i : Nat} {xs : List Value}, ChunksD r tag ok w i xs l → ChunksD r tag ok w' i xs l
  | [], _, _, h => h
  | _ :: _, _, _, ⟨c, rest, e, h1, h2⟩ => ⟨c, rest, e, r.frame (fun b hb => hf b hb.1) h1, h2.frame hf⟩
theorem ChunksD.chunks : ∀ {l : List α} {i : Nat} {xs : List Value}, ChunksD r tag ok w i xs l → Chunks r ok w xs l
  | [], _, _, h => h
  | _ :: _, _, _, ⟨c, rest, e, h1, h2⟩ => ⟨c, rest, e, r.mono (fun b hb => hb.1) h1, h2.chunks⟩
theorem ChunksD.snoc {c : List Value} {x : α} : ∀ {l : List α} {i : Nat} {xs : List Value}, ChunksD r tag ok w i xs l → r.rd (fun b => ok b ∧ tag b = i + l.length) w c x → ChunksD r tag ok w i (xs ++ c) (l ++ [x])
  | [], i, xs, h, hc => by
    simp only [ChunksD] at h
    subst h
    exact ⟨c, [], by simp, by simpa using hc, rfl⟩
  | y :: l, i, xs, ⟨d, rest, e, h1, h2⟩, hc => ⟨d, rest ++ c, by rw [e, List.append_assoc], h1, h2.snoc (by rw [List.length_cons] at hc; rw [show i + 1 + l.length = i + (l.length + 1) by omega]; exact hc)⟩
theorem ChunksD.pick : ∀ {l : List α} {i : Nat} {xs : List Value}, ChunksD r tag ok w i xs l → ∀ {k : Nat} {x : α}, l[k]? = some x →
    ∃ c, (∀ j, j < r.sz → xs[k * r.sz + j]? = c[j]?) ∧ r.rd (fun b => ok b ∧ tag b = i + k) w c x ∧
      ∀ (w' : World) (x' : α), (∀ b, ok b → tag b ≠ i + k → w'.heap[b]? = w.heap[b]?) → r.rd (fun b => ok b ∧ tag b = i + k) w' c x' → ChunksD r tag ok w' i xs (l.set k x')
  | [], _, _, _, k, x, hx => by simp at hx
  | y :: l, i, xs, ⟨c, rest, e, h1, h2⟩, 0, x, hx => by
    simp only [List.getElem?_cons_zero, Option.some.injEq] at hx
    subst hx
    refine ⟨c, fun j hj => by rw [e, Nat.zero_mul, Nat.zero_add, List.getElem?_append_left (by rw [r.len h1]; exact hj)], h1, fun w' x' hf hr => ?_⟩
    refine ⟨c, rest, e, hr, ?_⟩
    -- the tail's elements bear other tags
    have : ∀ {l : List α} {m : Nat} {xs : List Value}, i < m → ChunksD r tag ok w m xs l → ChunksD r tag ok w' m xs l := by
      intro l
      induction l with
      | nil => intro m xs _ h; exact h
      | cons z l ih =>
        intro m xs hm h
        obtain ⟨d, rs, e', h3, h4⟩ := h
        exact ⟨d, rs, e', r.frame (fun b hb => hf b hb.1 (by rw [hb.2]; omega)) h3, ih (by omega) h4⟩
    exact this (Nat.lt_succ_self _) h2
  | y :: l, i, xs, ⟨c, rest, e, h1, h2⟩, k + 1, x, hx => by
    obtain ⟨d, h3, h4, h5⟩ := h2.pick (k := k) (x := x) (by simpa using hx)
    have ei : i + 1 + k = i + (k + 1) := by omega
    refine ⟨d, fun j hj => ?_, by rw [← ei]; exact h4, fun w' x' hf hr => ?_⟩
    · rw [e, List.getElem?_append_right (by rw [r.len h1, Nat.add_mul]; omega), r.len h1, ← h3 j hj]
      congr 1
      rw [Nat.add_mul]; omega
    · refine ⟨c, rest, e, r.frame (fun b hb => hf b hb.1 (by rw [hb.2]; omega)) h1, ?_⟩
      exact h5 w' x' (fun b hb hne => hf b hb (by rw [← ei]; exact hne)) (by rw [ei]; exact hr)
end

def OwnD {α : Type} (r : Rep α) (B F : Nat) (E : TypeId) (w : World) (v : Value) (l : List α) : Prop :=
  ∃ tag xs, w.ownsRow B E r.sz v l.length xs ∧ ChunksD r tag (fun b => B ≤ b ∧ b < F ∧ Option.some b ≠ v.ownBlock) w 0 xs l

section
variable {α : Type} {r : Rep α} {B F : Nat} {E : TypeId} {w w' : World} {v : Value} {l : List α}
theorem OwnD.nil (r : Rep α) (B F : Nat) (E : TypeId) (w : World) : OwnD r B F E w (.slice none 0 0) [] := ⟨fun _ => 0, [], World.ownsRow_nil _ _ _ _, rfl⟩
theorem OwnD.up {F' : Nat} (h : OwnD r B F E w v l) (hF : F ≤ F') : OwnD r B F' E w v l :=
  let ⟨tag, xs, h1, h2⟩ := h; ⟨tag, xs, h1, h2.mono fun _ hb => ⟨hb.1, Nat.lt_of_lt_of_le hb.2.1 hF, hb.2.2⟩⟩
theorem OwnD.live (h : OwnD r B F E w v l) : OwnD r B w.heap.size E w v l :=
  let ⟨tag, xs, h1, h2⟩ := h; ⟨tag, xs, h1, h2.live.mono fun _ hb => ⟨hb.1.1, hb.2, hb.1.2.2⟩⟩
theorem OwnD.lt (h : OwnD r B F E w v l) : ∀ k, v.ownBlock = some k → B ≤ k ∧ k < w.heap.size := let ⟨_, _, h1, _⟩ := h; h1.lt
theorem OwnD.below (h : OwnD r B F E w v l) (hb : Below w.heap.size w w') : OwnD r B F E w' v l := by
  obtain ⟨tag, xs, h1, h2⟩ := h
  exact ⟨tag, xs, h1.kept (below_grown hb) (by cases v.ownBlock <;> simp), (ChunksD.frame (fun b hb' => hb.block b hb'.2) h2.live).mono fun b hb => hb.1⟩
theorem OwnD.own (h : OwnD r B F E w v l) : Own r B E (B ≤ ·) w v l :=
  let ⟨_, xs, h1, h2⟩ := h; ⟨xs, h1, h2.chunks.mono fun _ hb => ⟨hb.1, hb.2.2⟩⟩
theorem OwnD.sl (h : OwnD r B F E w v l) : ∃ a n c, v = .slice a n c ∧ Sl r (B ≤ ·) w a n c l :=
  let ⟨a, n, c, e, h⟩ := h.own.sl; ⟨a, n, c, e, h.mono fun _ hb => hb.elim id id⟩

theorem wpList_appD {P : Program} {ops : Array Oper} {rest : List Oper} {o : Oper} {a : Act} {Q : Exit → Act → World → Prop} {T bytes : Nat} {z : Value} (ht : SliceT P T E r.sz bytes z) (hgd : o.guard = none) (s x : Operand)
    (ho : o.op = .call { callee := .builtin .append, args := #[s, x], argTypes := #[T, T] }) (hs : a.eval s = v) (h : OwnD r B F E w v l) {ad : Addr} {c : Nat} (hx : a.eval x = .slice (some ad) 1 c)
    {y : α} {news : List Value} (hnews : ∀ j u, news[j]? = some u → w.cell? (ad.add j) = some u) (hrd : r.rd (F ≤ ·) w news y) (hown : ∀ k, v.ownBlock = some k → k < F)
    (h63 : l.length + 1 ≤ maxLen) (hby : (l.length + 1) * bytes ≤ 140737488355328) (hB : B ≤ F) (hF : F ≤ w.heap.size)
    (hk : ∀ v' w', OwnD r B w'.heap.size E w' v' (l ++ [y]) → w.grownBy w' v.ownBlock → (v'.ownBlock = v.ownBlock ∨ v'.ownBlock = some w.heap.size) → wpList P ops Q rest (a.put o.dst v') w') : wpList P ops Q (o :: rest) a w := by
  refine wpList_plain hgd fun K hK => ?_
  obtain ⟨i, hi, hz0, hz1, hz2⟩ := info_parts ht.i
  obtain ⟨tag, xs, h1, h2⟩ := h
  obtain ⟨v', w', hr, h3, h4, _, h6⟩ := run_append_own_at (P := P) w B T o.type E i z r.sz bytes ht.u hi hz0 hz1 hz2 ht.zs ht.pos v l.length xs h1 ad 1 c news (by rw [r.len hrd]; simp) hnews (r.one hrd) h63 hby (by omega)
  unfold Oper.wp execOp
  simp only [ho, resolve, invoke, builtin, Sem.run_bind, Sem.run_pure, Result.andThen_ok, List.map_toArray, List.map_cons, List.map_nil, hs, hx, hr]
  refine hK _ _ (hk v' w' ?_ h4 h6)
  refine ⟨fun b => if F ≤ b then l.length else tag b, xs ++ news, by rw [List.length_append]; exact h3, ?_⟩
  have hne : ∀ b, b < w.heap.size → Option.some b ≠ v.ownBlock → Option.some b ≠ v'.ownBlock := fun b hb hn => by
    rcases h6 with h6 | h6
    · rw [h6]; exact hn
    · rw [h6]; intro e; have := Option.some.inj e; omega
  refine ChunksD.snoc ?_ ?_
  · have e1 : ChunksD r (fun b => if F ≤ b then l.length else tag b) (fun b => B ≤ b ∧ b < F ∧ Option.some b ≠ v.ownBlock) w 0 xs l := h2.retag fun b hb => by
      show (if F ≤ b then l.length else tag b) = tag b
      rw [if_neg (by omega)]
    refine (ChunksD.frame (fun b hb => h4.block b (by omega) hb.2.2) e1).mono fun b hb => ⟨hb.1, Nat.lt_of_lt_of_le hb.2.1 (Nat.le_trans hF h4.size), hne b (by omega) hb.2.2⟩
  · have hno : ∀ b, F ≤ b → Option.some b ≠ v.ownBlock := fun b hb e => by have := hown b e.symm; omega
    refine r.mono (fun b hb => ⟨⟨by omega, Nat.lt_of_lt_of_le hb.2 h4.size, hne b hb.2 (hno b hb.1)⟩, ?_⟩) (r.frame (fun b hb => h4.block b hb.2 (hno b hb.1)) (r.live hrd))
    show (if F ≤ b then l.length else tag b) = 0 + l.length
    rw [if_pos hb.1, Nat.zero_add]

def RetSlE {α : Type} (r : Rep α) (ok : Nat → Prop) (w : World) (l : List α) (err : Int) : Ending → World → Prop := fun e w' =>
  ∃ a n c, e = .returned (.tuple #[.slice a n c, .int .i64 err]) ∧ Sl r ok w' a n c l ∧ Below w.heap.size w w'
theorem RetSlE.mk {α : Type} {r : Rep α} {ok : Nat → Prop} {w w' : World} {l : List α} {err err' : Int} {a : Option Addr} {n c : Nat} (he : err' = err) (h : Sl r ok w' a n c l) (hB : Below w.heap.size w w') :
    RetSlE r ok w l err (.returned (.tuple #[.slice a n c, .int .i64 err'])) w' := ⟨a, n, c, by rw [he], h, hB⟩
theorem Sl.nil0 {α : Type} (r : Rep α) (ok : Nat → Prop) (w : World) : Sl r ok w none 0 0 [] := ⟨rfl, Nat.le_refl _, Nat.zero_le _, fun _ => rfl, .inl rfl⟩

def Flat {α : Type} (r : Rep α) : Prop := ∀ {ok ok' : Nat → Prop} {w w' : World} {cs : List Value} {x : α}, r.rd ok w cs x → r.rd ok' w' cs x
theorem Flat.int : Flat intR := fun h => h
theorem Flat.sec : Flat secR := fun h => h
theorem Flat.u8 : Flat u8R := fun h => h
theorem Flat.bool : Flat boolR := fun h => h
theorem Chunks.flat {α : Type} {r : Rep α} (hf : Flat r) {ok ok' : Nat → Prop} {w w' : World} : ∀ {l : List α} {xs : List Value}, Chunks r ok w xs l → Chunks r ok' w' xs l
  | [], _, h => h
  | _ :: _, _, ⟨c, rest, e, h1, h2⟩ => ⟨c, rest, e, hf h1, h2.flat hf⟩
theorem Src.flat {α : Type} {r : Rep α} (hf : Flat r) {ok ok' : Nat → Prop} {w : World} {ao : Option Addr} {m c : Nat} {ys : List α} (h : Src r ok w ao m c ys) : Src r ok' w ao m c ys :=
  let ⟨h1, h2, news, h3, h4⟩ := h; ⟨h1, h2, news, h3, h4.flat hf⟩
theorem Own.lit0 {α : Type} (r : Rep α) {B : Nat} {E : TypeId} {ok : Nat → Prop} {w : World} (hB : B ≤ w.heap.size) : Own r B E ok (w.alloc (.cells #[] E)) (.slice (some ⟨w.heap.size, 0, none⟩) 0 0) [] :=
  ⟨[], World.ownsRow_lit w #[] 0 hB (Nat.zero_le _) (by simp), rfl⟩

theorem OwnD.at (h : OwnD r B F E w v l) {k : Nat} {x : α} (hx : l[k]? = some x) :
    ∃ g cap c, ∃ okk : Nat → Prop, v = .slice (some ⟨g, 0, none⟩) l.length cap ∧ B ≤ g ∧ g < w.heap.size ∧ (∀ j, j < r.sz → w.cell? ⟨g, k * r.sz + j, none⟩ = c[j]?) ∧ r.rd okk w c x ∧ (∀ b, okk b → B ≤ b ∧ b < F ∧ b ≠ g) ∧
      ∀ (w' : World) (x' : α), (∀ b, b < w.heap.size → ¬ okk b → w'.heap[b]? = w.heap[b]?) → w'.os = w.os → w'.tape = w.tape → w'.output = w.output → w.heap.size ≤ w'.heap.size → r.rd okk w' c x' → OwnD r B F E w' v (l.set k x') := by
  obtain ⟨tag, xs, h1, h2⟩ := h
  have hk := (List.getElem?_eq_some_iff.1 hx).1
  obtain ⟨g, cap, rfl, hBg, hg⟩ : ∃ g cap, v = .slice (some ⟨g, 0, none⟩) l.length cap ∧ B ≤ g ∧ g < w.heap.size := by
    rcases h1.2 with ⟨_, h0⟩ | ⟨g, cap, cur, hv, hb, hg, _⟩
    · omega
    · exact ⟨g, cap, hv, hb, (Array.getElem?_eq_some_iff.1 hg).1⟩
  obtain ⟨c, h3, h4, h5⟩ := h2.live.pick hx
  refine ⟨g, cap, c, _, rfl, hBg, hg, fun j hj => ?_, h4, fun b hb => ⟨hb.1.1.1, hb.1.1.2.1, fun e => hb.1.1.2.2 (by rw [e]; rfl)⟩, fun w' x' hf hos htp hout hsz hr => ?_⟩
  · rw [← h3 j hj, h1.cellAt]
    calc k * r.sz + j < k * r.sz + r.sz := by omega
      _ = (k + 1) * r.sz := by rw [Nat.add_mul]; omega
      _ ≤ l.length * r.sz := Nat.mul_le_mul_right _ (by omega)
  · have h6 := h5 w' x' (fun b hb hne => hf b hb.2 fun e => hne (by simpa using e.2)) hr
    refine ⟨tag, xs, ?_, h6.mono fun b hb => hb.1⟩
    rw [List.length_set]
    have hgk : w'.heap[g]? = w.heap[g]? := hf g hg fun e => e.1.1.2.2 rfl
    obtain ⟨hl, ⟨hv, h0⟩ | ⟨g', cap', cur, hv, r1, r2, r3⟩⟩ := h1
    · cases hv
    · cases hv
      exact ⟨hl, .inr ⟨g, cap, cur, rfl, r1, by rw [hgk]; exact r2, r3⟩⟩
end

def ownRowR {α : Type} (r : Rep α) (E : TypeId) : Rep (List α) where
  sz := 1
  rd ok w cs l := ∃ v, cs = [v] ∧ (∀ b, v.ownBlock = some b → ok b) ∧ Own r 0 E (fun _ => False) w v l ∧ (l = [] → v = .slice none 0 0 ∨ ∃ g c, v = .slice (some ⟨g, 0, none⟩) 0 c)
  len h := by obtain ⟨v, rfl, _⟩ := h; rfl
  mono hk h := let ⟨v, e, h1, h2⟩ := h; ⟨v, e, fun b hb => hk b (h1 b hb), h2⟩
  live h := let ⟨v, e, h1, h2, h3⟩ := h; ⟨v, e, fun b hb => ⟨h1 b hb, (h2.lt b hb).2⟩, h2, h3⟩
  frame hf h := by
    obtain ⟨v, e, h1, ⟨xs, h2, h3⟩, h4⟩ := h
    refine ⟨v, e, h1, ⟨xs, ⟨h2.1, ?_⟩, (Chunks.frame (fun b hb => hb.1.elim) h3)⟩, h4⟩
    rcases h2.2 with h0 | ⟨g, cap, cur, hv, hb, hg, rest⟩
    · exact .inl h0
    · refine .inr ⟨g, cap, cur, hv, hb, ?_, rest⟩
      rw [hf g (h1 g (by rw [hv]; rfl))]; exact hg
  one h := by
    obtain ⟨v, rfl, _, ⟨xs, h2, _⟩, _⟩ := h
    intro u hu
    cases List.mem_singleton.1 hu
    rcases h2.2 with ⟨rfl, _⟩ | ⟨g, cap, cur, rfl, _⟩ <;> rfl

theorem ownRowR.sl {α : Type} {r : Rep α} {E : TypeId} {ok : Nat → Prop} {w : World} {v : Value} {l : List α} (hf : Flat r) (h : (ownRowR r E).rd ok w [v] l) : ∃ a n c, v = .slice a n c ∧ Sl r ok w a n c l := by
  obtain ⟨_, e, h1, h2, _⟩ := h
  cases e
  obtain ⟨a, n, c, rfl, h3⟩ := h2.sl
  refine ⟨a, n, c, rfl, h3.len, h3.cap, h3.bnd, h3.nil, h3.cells.imp id fun ⟨b, off, e, _, hb, hc⟩ => ⟨b, off, e, h1 b (by rw [e]; rfl), hb, fun i x hx => let ⟨cs, g1, g2⟩ := hc i x hx; ⟨cs, g1, hf g2⟩⟩⟩
theorem ownRowR.mk {α : Type} {r : Rep α} {B : Nat} {E : TypeId} {w : World} {v : Value} {l : List α} (h : Own r B E (fun _ => False) w v l) (hv : l = [] → v = .slice none 0 0 ∨ ∃ g c, v = .slice (some ⟨g, 0, none⟩) 0 c) : (ownRowR r E).rd (B ≤ ·) w [v] l := by
  refine ⟨v, rfl, fun b hb => (h.lt b hb).1, ?_, hv⟩
  obtain ⟨xs, h1, h2⟩ := h
  refine ⟨xs, ⟨h1.1, h1.2.imp id fun ⟨g, cap, cur, a1, a2, a3⟩ => ⟨g, cap, cur, a1, Nat.zero_le _, a3⟩⟩, h2⟩

section
variable {P : Program} {ops : Array Oper} {rest : List Oper} {o : Oper} {a : Act} {Q : Exit → Act → World → Prop} {α : Type} {r : Rep α} {B : Nat} {E : TypeId} {w : World}

theorem wpList_make0 {T bytes : Nat} {z : Value} (ht : SliceT P T E r.sz bytes z) (hg : o.guard = none) (l c : Operand) (hop : o.op = Op.makeSlice T l c)
    {kl kc : IntKind} {n : Nat} (hl : a.eval l = .int kl 0) (hc : a.eval c = .int kc (n : Int)) (b2 : bytes * n ≤ 281474976710656) (b3 : n ≤ maxLen) (b4 : B ≤ w.heap.size)
    (hK : ∀ w', (∀ F, OwnD r B F E w' (.slice (some ⟨w.heap.size, 0, none⟩) 0 n) []) → Below w.heap.size w w' → wpList P ops Q rest (a.put o.dst (.slice (some ⟨w.heap.size, 0, none⟩) 0 n)) w') : wpList P ops Q (o :: rest) a w := by
  obtain ⟨i, hi, hz0, hz1, hz2⟩ := info_parts ht.i
  refine wpList_make_own w hg l c T hop B E i z r.sz ht.u hi hz0 hz1 kl kc (n : Int) n hl hc rfl (by rw [hz2]; exact b2) b3 b4 fun w' h1 h2 => hK w' (fun F => ⟨fun _ => 0, [], h1, rfl⟩) (grown_below h2 (Nat.le_refl _) (fun k e => by cases e))

end


section
variable {P : Program} {α : Type} {r : Rep α} {B : Nat} {E : TypeId} {w : World} {g cap : Nat} {l : List α}
theorem run_storeOwn (h : Own r B E (fun _ => False) w (.slice (some ⟨g, 0, none⟩) l.length cap) l) {s : Nat} {ys : List α} {news : List Value} (hn : Chunks r (fun _ => False) w news ys) (hs : s + ys.length ≤ l.length) (hne : l ≠ [] ∨ ys ≠ []) :
    ∃ w', (storeCells ⟨g, s * r.sz, none⟩ news).run P w = .ok () w' ∧ Own r B E (fun _ => False) w' (.slice (some ⟨g, 0, none⟩) l.length cap) (l.take s ++ ys ++ l.drop (s + ys.length)) ∧ w.grownBy w' (some g) ∧ w'.heap.size = w.heap.size := by
  obtain ⟨xs, h1, h2⟩ := h
  obtain ⟨hx, ⟨hv, _⟩ | ⟨g', cap', cur, hv, hb, hg, hnc, hcm, hcs, ht⟩⟩ := h1
  · cases hv
  · cases hv
    have hnl := hn.length
    have hxl := h2.length
    have hfit : s * r.sz + 0 + news.length ≤ cur.size := by
      rw [hcs, hnl, Nat.add_zero, ← Nat.add_mul]
      exact Nat.mul_le_mul_right _ (by omega)
    have hrun := run_storeCells_at P g (s * r.sz) E news 0 cur w hg hfit hn.one
    rw [Nat.add_zero] at hrun
    refine ⟨_, hrun, ?_, ⟨rfl, rfl, rfl, by simp, fun k _ hk => setRow_other w g k _ (fun e => hk (by simp [e]))⟩, by simp⟩
    have hlen' : (l.take s ++ ys ++ l.drop (s + ys.length)).length = l.length := by simp; omega
    have hcell : ∀ i, (xs.take (s * r.sz) ++ news ++ xs.drop (s * r.sz + news.length))[i]? = if i < s * r.sz then xs[i]? else if i < s * r.sz + news.length then news[i - s * r.sz]? else xs[i]? := by
      intro i
      have hs1 : s * r.sz ≤ xs.length := by rw [hxl]; exact Nat.mul_le_mul_right _ (by omega)
      have e1 : (xs.take (s * r.sz)).length = s * r.sz := by rw [List.length_take]; omega
      by_cases hi : i < s * r.sz
      · rw [if_pos hi, List.append_assoc, List.getElem?_append_left (by rw [e1]; exact hi), List.getElem?_take, if_pos hi]
      · rw [if_neg hi]
        by_cases hi2 : i < s * r.sz + news.length
        · rw [if_pos hi2, List.getElem?_append_left (by rw [List.length_append, e1]; exact hi2), List.getElem?_append_right (by rw [e1]; omega), e1]
        · rw [if_neg hi2, List.getElem?_append_right (by rw [List.length_append, e1]; omega), List.length_append, e1, List.getElem?_drop]
          congr 1; omega
    refine ⟨xs.take (s * r.sz) ++ news ++ xs.drop (s * r.sz + news.length), ⟨?_, .inr ⟨g, cap, _, by rw [hlen'], hb, setRow_heap w g cur _ E _ hg, by rw [hlen']; exact hnc, hcm, ?_, ?_⟩⟩, ?_⟩
    · rw [hlen', List.length_append, List.length_append, List.length_take, List.length_drop, hxl, hnl]
      have : (s + ys.length) * r.sz ≤ l.length * r.sz := Nat.mul_le_mul_right _ hs
      rw [Nat.add_mul] at this
      omega
    · rw [List.size_toArray, List.length_append, List.length_append, List.length_take, List.length_drop, Array.length_toList]
      omega
    · rw [hlen', ← ht]
      have hA : s * r.sz + news.length ≤ l.length * r.sz := by rw [hnl, ← Nat.add_mul]; exact Nat.mul_le_mul_right _ hs
      have hB2 : l.length * r.sz ≤ cur.size := by rw [hcs]; exact Nat.mul_le_mul_right _ hnc
      apply List.ext_getElem?
      intro i
      have e1 : (cur.toList.take (s * r.sz)).length = s * r.sz := by rw [List.length_take, Array.length_toList]; omega
      have e2 : ((cur.toList.take (l.length * r.sz)).take (s * r.sz)).length = s * r.sz := by simp only [List.length_take, Array.length_toList]; omega
      by_cases hi : i < s * r.sz
      · rw [List.getElem?_take, if_pos (by omega), List.append_assoc, List.getElem?_append_left (by rw [e1]; exact hi), List.append_assoc, List.getElem?_append_left (by rw [e2]; exact hi), List.getElem?_take, if_pos hi, List.getElem?_take, if_pos hi, List.getElem?_take, if_pos (by omega)]
      · by_cases hi2 : i < s * r.sz + news.length
        · rw [List.getElem?_take, if_pos (by omega), List.getElem?_append_left (by rw [List.length_append, e1]; exact hi2), List.getElem?_append_right (by rw [e1]; omega), e1,
            List.getElem?_append_left (by rw [List.length_append, e2]; exact hi2), List.getElem?_append_right (by rw [e2]; omega), e2]
        · rw [List.getElem?_take, List.getElem?_append_right (by rw [List.length_append, e1]; omega), List.getElem?_append_right (by rw [List.length_append, e2]; omega), List.length_append, List.length_append, e1, e2, List.getElem?_drop, List.getElem?_drop, List.getElem?_take]
          have : s * r.sz + news.length + (i - (s * r.sz + news.length)) = i := by omega
          rw [this]
    · -- the elements
      have := Chunks.of_at (r := r) (ok := fun b => False ∧ Option.some b ≠ (Value.slice (some ⟨g, 0, none⟩) l.length cap).ownBlock) (w := w.setRow g (cur.toList.take (s * r.sz) ++ news ++ cur.toList.drop (s * r.sz + news.length)).toArray) (xs := xs.take (s * r.sz) ++ news ++ xs.drop (s * r.sz + news.length)) (l := l.take s ++ ys ++ l.drop (s + ys.length)) 0 (by
          rw [hlen', List.length_append, List.length_append, List.length_take, List.length_drop, hxl, hnl]
          have : (s + ys.length) * r.sz ≤ l.length * r.sz := Nat.mul_le_mul_right _ hs
          rw [Nat.add_mul] at this
          omega) (fun i x hx => by
          have key : ∃ c w0, (∀ j, j < r.sz → (xs.take (s * r.sz) ++ news ++ xs.drop (s * r.sz + news.length))[i * r.sz + j]? = c[j]?) ∧ r.rd (fun _ => False) w0 c x := by
            have es : (l.take s).length = s := by rw [List.length_take]; omega
            by_cases hi : i < s
            · rw [List.append_assoc, List.getElem?_append_left (by rw [es]; exact hi), List.getElem?_take, if_pos hi] at hx
              obtain ⟨c, h3, h4⟩ := h2.at hx
              refine ⟨c, w, fun j hj => ?_, r.mono (fun b hb => hb.1) h4⟩
              rw [hcell, if_pos, h3 j hj]
              calc i * r.sz + j < i * r.sz + r.sz := by omega
                _ = (i + 1) * r.sz := by rw [Nat.add_mul]; omega
                _ ≤ s * r.sz := Nat.mul_le_mul_right _ (by omega)
            · by_cases hi2 : i < s + ys.length
              · rw [List.getElem?_append_left (by rw [List.length_append, es]; exact hi2), List.getElem?_append_right (by rw [es]; omega), es] at hx
                obtain ⟨c, h3, h4⟩ := hn.at hx
                refine ⟨c, w, fun j hj => ?_, h4⟩
                have e3 : s * r.sz ≤ i * r.sz := Nat.mul_le_mul_right _ (by omega)
                have e4 : (i + 1) * r.sz ≤ (s + ys.length) * r.sz := Nat.mul_le_mul_right _ (by omega)
                rw [Nat.add_mul, Nat.add_mul] at e4
                rw [hcell, if_neg (by omega), if_pos (by rw [hnl]; omega), ← h3 j hj]
                congr 1
                rw [Nat.sub_mul]; omega
              · rw [List.getElem?_append_right (by rw [List.length_append, es]; omega), List.length_append, es, List.getElem?_drop, show s + ys.length + (i - (s + ys.length)) = i by omega] at hx
                obtain ⟨c, h3, h4⟩ := h2.at hx
                refine ⟨c, w, fun j hj => ?_, r.mono (fun b hb => hb.1) h4⟩
                have e3 : (s + ys.length) * r.sz ≤ i * r.sz := Nat.mul_le_mul_right _ (by omega)
                rw [Nat.add_mul] at e3
                rw [hcell, if_neg (by omega), if_neg (by rw [hnl]; omega), h3 j hj]
          obtain ⟨c, w0, h3, h4⟩ := key
          exact ⟨c, fun j hj => by rw [Nat.zero_add]; exact h3 j hj, r.mono (fun b hb => hb.elim) (r.frame (fun b hb => hb.elim) h4)⟩)
      simpa using this
end

def subAddr (a : Option Addr) (c lo sz : Nat) : Option Addr := if c = lo then a else a.map (·.add (lo * sz))

theorem run_subFrom {P : Program} {T E sz : Nat} (hT : P.underlying T = some (.slice E)) (hi : (P.info? E).map (·.size) = some sz) (a : Option Addr) (n c s : Nat) (h : s ≤ n) (w : World) :
    (Instr.sliceAt T (.slice a n c) (some (.int .i64 (s : Int))) none none).run P w = .ok (.slice (subAddr a c s sz) (n - s) (c - s)) w := by
  have he : P.elem T = E := by simp [Program.elem, hT]
  have hT' : P.underlying T = some (.slice (P.elem T)) := by rw [he]; exact hT
  have hz : (sizeOf (P.elem T)).run P w = .ok sz w := by
    obtain ⟨i, hi, hs⟩ := Option.map_eq_some_iff.1 hi
    rw [he]; simp [sizeOf, typeInfo, hi, hs]
  rw [run_sliceAt_slice w T _ _ _ _ hT', run_slice_l w T a n c hT' .i64 s (by omega) (by omega), hz, Result.andThen_ok]
  simp only [sliced, subAddr, Int.toNat_natCast]
theorem Sl.sub {α : Type} {r : Rep α} {ok : Nat → Prop} {w : World} {a : Option Addr} {n c : Nat} {l : List α} (h : Sl r ok w a n c l) {s k : Nat} (hk : s + k ≤ n) : Sl r ok w (subAddr a c s r.sz) k (c - s) ((l.drop s).take k) := by
  have h1 := h.len
  have h2 := h.cap
  refine ⟨by simp; omega, by omega, Nat.le_trans (Nat.sub_le _ _) h.bnd, fun e => ?_, ?_⟩
  · unfold subAddr at e
    split at e
    · omega
    · have : a = none := by simpa using e
      have := h.nil this
      omega
  · rcases h.cells with h0 | ⟨b, off, rfl, hb, hlt, hc⟩
    · left; omega
    · by_cases hk0 : k = 0
      · exact .inl hk0
      · refine .inr ⟨b, off + s * r.sz, ?_, hb, hlt, fun i x hx => ?_⟩
        · unfold subAddr
          rw [if_neg (by omega)]
          simp [Addr.add_lit]
        · have hik : i < k := by have := (List.getElem?_eq_some_iff.1 hx).1; simp at this; omega
          rw [List.getElem?_take, if_pos hik, List.getElem?_drop] at hx
          obtain ⟨cs, g1, g2⟩ := hc (s + i) x hx
          refine ⟨cs, fun j hj => ?_, g2⟩
          rw [← g1 j hj, Nat.add_mul, Nat.add_assoc off]

section
variable {P : Program} {ops : Array Oper} {rest : List Oper} {o : Oper} {a : Act} {Q : Exit → Act → World → Prop} {α : Type} {r : Rep α} {B : Nat} {E : TypeId} {w : World} {g cap : Nat} {l : List α}

theorem wpList_copyOwn {T bytes : Nat} {z : Value} (ht : SliceT P T E r.sz bytes z) (hfl : Flat r) (hgd : o.guard = none) (d x : Operand)
    (ho : o.op = .call { callee := .builtin .copy, args := #[d, x], argTypes := #[T, T] }) {s dl dc : Nat} (hd : a.eval d = .slice (some ⟨g, s * r.sz, none⟩) dl dc) {ao : Option Addr} {m c : Nat} (hx : a.eval x = .slice ao m c)
    (h : Own r B E (fun _ => False) w (.slice (some ⟨g, 0, none⟩) l.length cap) l) {ok : Nat → Prop} {ys : List α} (hs : Sl r ok w ao m c ys) (hle : s + m ≤ l.length) (hm : 0 < m) (hdl : m ≤ dl)
    (hk : ∀ w', Own r B E (fun _ => False) w' (.slice (some ⟨g, 0, none⟩) l.length cap) (l.take s ++ ys ++ l.drop (s + ys.length)) → w.grownBy w' (some g) → w'.heap.size = w.heap.size → wpList P ops Q rest (a.put o.dst (.int .i64 m)) w') : wpList P ops Q (o :: rest) a w := by
  refine wpList_plain hgd fun K hK => ?_
  obtain ⟨i, hi, _, hz1, _⟩ := info_parts ht.i
  obtain ⟨hlen, hnil, news, hnews, hch⟩ := Src.of_sl hs
  obtain ⟨ad, rfl⟩ : ∃ ad, ao = some ad := by
    cases ao with
    | some ad => exact ⟨ad, rfl⟩
    | none => have := (hnil rfl).1; omega
  have hnl := hch.length
  obtain ⟨w', hst, h1, h2, h3⟩ := run_storeOwn (P := P) h (s := s) (ys := ys) (hch.flat hfl) (by omega) (.inr (by intro e; rw [e] at hlen; simp at hlen; omega))
  have hld := run_loadCells_list (P := P) (w := w) ad news (hnews ad rfl)
  have hmin : Nat.min m dl = m := Nat.min_eq_left hdl
  rw [hnl, hlen] at hld
  unfold Oper.wp execOp
  have hrun : (Builtin.copy_ #[T, T] o.type #[.slice (some ⟨g, s * r.sz, none⟩) dl dc, .slice (some ad) m c]).run P w = .ok (goInt m) w' := by
    simp [Builtin.copy_, run_underlying ht.u, Builtin.lenOf, Builtin.firstCells, sizeOf, typeInfo, hi, hz1, hmin, hld, hst]
  simp only [ho, resolve, invoke, builtin, Sem.run_bind, Sem.run_pure, Result.andThen_ok, List.map_toArray, List.map_cons, List.map_nil, hd, hx, hrun]
  exact hK _ _ (hk w' h1 h2 h3)

end

section
variable {ok : Nat → Prop} {w : World} {n c : Nat}
theorem Sl.wr {b off : Nat} {l : List (Int × Int × List Sec)} (h : Sl (pairR intR (pairR intR (listR secR))) ok w (some ⟨b, off, none⟩) n c l) {k : Nat} {v s : Int} {d : List Sec} (hx : l[k]? = some (v, s, d)) :
    ∃ a' n' c', w.cell? ⟨b, off + k * 3, none⟩ = some (.int .i64 v) ∧ w.cell? ⟨b, off + k * 3 + 1, none⟩ = some (.int .i64 s) ∧ w.cell? ⟨b, off + k * 3 + 2, none⟩ = some (.slice a' n' c') ∧ i64ok v ∧ i64ok s ∧ Sl secR ok w a' n' c' d := by
  obtain ⟨cs, h1, c1, c2, rfl, ⟨rfl, hv⟩, c3, c4, rfl, ⟨rfl, hs⟩, a', n', c', rfl, hd⟩ := h.at hx
  refine ⟨a', n', c', ?_, ?_, ?_, hv, hs, hd⟩
  · exact h1 0 (by show 0 < 3; omega)
  · exact h1 1 (by show 1 < 3; omega)
  · exact h1 2 (by show 2 < 3; omega)
theorem Sl.ext {b off : Nat} {l : List (Int × Int)} (h : Sl (pairR intR intR) ok w (some ⟨b, off, none⟩) n c l) {k : Nat} {s m : Int} (hx : l[k]? = some (s, m)) :
    w.cell? ⟨b, off + k * 2, none⟩ = some (.int .i64 s) ∧ w.cell? ⟨b, off + k * 2 + 1, none⟩ = some (.int .i64 m) ∧ i64ok s ∧ i64ok m := by
  obtain ⟨cs, h1, c1, c2, rfl, ⟨rfl, hv⟩, ⟨rfl, hs⟩⟩ := h.at hx
  exact ⟨h1 0 (by show 0 < 2; omega), h1 1 (by show 1 < 2; omega), hv, hs⟩
end

end Go.Proofs.Ytncobemfpammfaa
