/-
  A region that draws its order: its plain operations (which only read) are taken first, as soon as they may come up, by facts that hold in every world of a class S; the others (calls, allocations, stores) come up one by one.
-/
import Derived.OrdersHeld
import Derived.Deep.Quiet
import Derived.Tactics
import Derived.Tactics2
namespace Go.Proofs.Ytldnpgbacakfeaa

def pick (ops : Array Oper) (is : List Nat) : List Oper := is.filterMap (ops[·]?)

def plainOp : Op → Bool
  | .move _ | .assign _ | .pick _ _ _ | .load _ _ | .binOp _ _ _ _ _ | .unOp _ _ _ | .convert _ _ _ | .makeFunc _ _ _ | .fieldAddr _ _ _ | .field _ _ _ | .indexAddr _ _ _ | .index _ _ _ | .slice _ _ _ _ _ | .extract _ _ | .build _ _ | .makeInterface _ _ => true
  | .call ⟨.builtin .len, _, _⟩ | .call ⟨.builtin .min, _, _⟩ | .call ⟨.builtin .max, _, _⟩ => true
  | _ => false

theorem value_of_bind {P : Program} {β : Type} {s : Sem β} {f : β → Value} {w w' : World} {n : Next} (h : ((do let x ← s; pure (Next.value (f x))) : Sem Next).run P w = .ok n w') : ∃ x, n = .value x := by
  rw [Sem.run_bind] at h
  cases hs : s.run P w with
  | ok x w1 => rw [hs] at h; simp at h; exact ⟨f x, h.1.symm⟩
  | halt x w1 => rw [hs] at h; simp [Result.andThen] at h

theorem plain_value {P : Program} {ρ : Operand → Value} {o : Oper} (hp : plainOp o.op = true) {w w' : World} {n : Next} (h : (execOp ρ o).run P w = .ok n w') : ∃ x, n = .value x := by
  unfold execOp at h
  cases ho : o.op <;> rw [ho] at hp h <;> try (simp [plainOp] at hp; done)
  case move x => simp at h; exact ⟨_, h.1.symm⟩
  case assign x => simp at h; exact ⟨_, h.1.symm⟩
  case call c =>
    obtain ⟨callee, args, ats⟩ := c
    cases callee <;> try (simp [plainOp] at hp; done)
    rename_i b
    cases b <;> try (simp [plainOp] at hp; done)
    all_goals
      simp only [resolve, Sem.run_bind, Sem.run_pure, Result.andThen_ok, invoke, builtin] at h
      exact value_of_bind (f := fun x => x) (by simpa [Sem.run_bind] using h)
  case pick c x y => exact value_of_bind (s := asBool (ρ c)) (f := fun b => if b = true then ρ x else ρ y) h
  all_goals exact value_of_bind (f := fun x => x) h

def quietRun (ops : Array Oper) : List Nat → Array Bool → Option (Array Bool)
  | [], l => some l
  | i :: is, l => if ((ops[i]?).map fun o => plainOp o.op).getD false && Region.free .any ops l i && (Region.ready .any ops l).contains i then quietRun ops is (l.setIfInBounds i true) else none

def actsB (ops : Array Oper) : List (List Nat × Nat) → List Nat → Array Bool → Bool
  | [], last, l => match quietRun ops last l with
    | some l' => (Region.ready .any ops l').isEmpty
    | none => false
  | (seg, i) :: more, last, l => match quietRun ops seg l with
    | some l' => (Region.ready .any ops l' == [i]) && actsB ops more last (l'.setIfInBounds i true)
    | none => false

def actsCount : List (List Nat × Nat) → List Nat → Nat
  | [], last => last.length
  | (seg, _) :: more, last => actsCount more last + 1 + seg.length

/-- The whole check, for the kernel. -/
def actsOk (ops : Array Oper) (acts : List (List Nat × Nat)) (last : List Nat) : Bool :=
  Region.noSelect ops && (actsCount acts last == ops.size) && actsB ops acts last (Array.replicate ops.size false)

def wpActs (P : Program) (ops : Array Oper) (S : World → Prop) (Q : Act → World → Prop) : List (List Nat × Nat) → List Nat → Act → World → Prop
  | [], last, a, w => wpQuiet P ops S (fun a' => Q a' w) (pick ops last) a
  | (seg, i) :: more, last, a, w => wpQuiet P ops S (fun a' => wpList P ops (fun e a'' w'' => e = .normal ∧ S w'' ∧ wpActs P ops S Q more last a'' w'') (pick ops [i]) a' w) (pick ops seg) a

section
variable {P : Program} {ops : Array Oper} {S : World → Prop} {Q : Act → World → Prop}

theorem wpActs_act {seg : List Nat} {i : Nat} {more : List (List Nat × Nat)} {last : List Nat} {a : Act} {w : World}
    (h : wpQuiet P ops S (fun a' => wpList P ops (fun e a'' w'' => e = .normal ∧ S w'' ∧ wpActs P ops S Q more last a'' w'') (pick ops [i]) a' w) (pick ops seg) a) : wpActs P ops S Q ((seg, i) :: more) last a w := by
  unfold wpActs; exact h
theorem wpActs_last {last : List Nat} {a : Act} {w : World} (h : wpQuiet P ops S (fun a' => Q a' w) (pick ops last) a) : wpActs P ops S Q [] last a w := by
  unfold wpActs; exact h

def onlyNormal (Q : Act → World → Prop) : Exit → Act → World → Prop := fun e a w => e = .normal ∧ Q a w

theorem seg_sound (hsel : Region.noSelect ops = true) {w : World} (hS : S w) : ∀ (seg : List Nat) (n : Nat) (l l' : Array Bool) (a : Act), quietRun ops seg l = some l' →
    wpQuiet P ops S (fun a' => wpAnyH P .any ops (onlyNormal Q) S n l' a' w) (pick ops seg) a → wpAnyH P .any ops (onlyNormal Q) S (n + seg.length) l a w
  | [], n, l, l', a, hq, h => by
    simp only [quietRun, Option.some.injEq] at hq
    subst hq
    exact h
  | i :: is, n, l, l', a, hq, h => by
    unfold quietRun at hq
    split at hq
    case isFalse => cases hq
    rename_i hc
    simp only [Bool.and_eq_true] at hc
    obtain ⟨⟨hp, hf⟩, hr⟩ := hc
    cases ho : ops[i]? with
    | none => rw [ho] at hp; simp at hp
    | some o =>
      rw [ho] at hp
      simp only [Option.map_some, Option.getD_some] at hp
      simp only [pick, List.filterMap_cons, ho] at h
      unfold wpQuiet at h
      have key : ∃ v, YieldsIf P ops S o v a ∧ wpQuiet P ops S (fun a' => wpAnyH P .any ops (onlyNormal Q) S n l' a' w) (pick ops is) (a.put o.dst v) := by
        split at h
        · rename_i hw
          obtain ⟨v, h1, h2⟩ := h
          refine ⟨v, .inl ⟨hw, fun w1 hw1 => ?_⟩, h2⟩
          have h3 := h1 w1 hw1
          unfold Oper.quietAt at h3
          cases hrun : (execOp a.eval o).run P w1 with
          | halt x w2 => rw [hrun] at h3; exact h3.elim
          | ok x w2 =>
            obtain ⟨y, rfl⟩ := plain_value hp hrun
            rw [hrun] at h3
            obtain ⟨e1, e2⟩ := h3
            rw [e1, e2]
        · rename_i hw
          exact ⟨undef, .inr ⟨by simpa using hw, rfl⟩, h⟩
      obtain ⟨v, hy, hk⟩ := key
      exact wpAnyH_take ho hsel hf hr (fun c a w h => by cases h.1) hy hS (seg_sound hsel hS is n _ l' _ hq hk)

theorem wp_only {o : Oper} {a : Act} {w : World} {K K' : Act → World → Prop} {Qa Qb : Exit → Act → World → Prop} (hK : ∀ a w, K a w → K' a w) (hQ : ∀ e a w, Qa e a w → e = .normal) (h : o.wp P a w K Qa) : o.wp P a w K' Qb := by
  unfold Oper.wp at *
  generalize (execOp a.eval o).run P w = r at *
  cases r with
  | ok n w' =>
    cases n <;> simp only [Oper.upon] at h ⊢
    case value v => exact hK _ _ h
    case skip => exact hK _ _ h
    case defer d => exact hK _ _ h
    case enter f args =>
      exact h.mono fun e w'' he => by
        cases e with
        | returned v => exact hK _ _ he
        | panicked c => cases hQ _ _ _ he
        | outgrown => obtain ⟨a0, w0, h0⟩ := he; cases hQ _ _ _ h0
    case row r args => exact h.mono fun v w'' hv => hK _ _ hv
  | halt x w' =>
    cases x <;> simp only [Oper.upon] at h ⊢
    case panic v => cases hQ _ _ _ h

theorem acts_sound (hsel : Region.noSelect ops = true) : ∀ (acts : List (List Nat × Nat)) (last : List Nat) (l : Array Bool) (a : Act) (w : World), actsB ops acts last l = true → S w →
    wpActs P ops S Q acts last a w → wpAnyH P .any ops (onlyNormal Q) S (actsCount acts last) l a w
  | [], last, l, a, w, hB, hS, h => by
    unfold actsB at hB
    split at hB
    case h_2 => cases hB
    rename_i l' hq
    have := seg_sound (Q := Q) (P := P) hsel hS last 0 l l' a hq (by
      unfold wpActs at h
      have hd : ∀ a', Q a' w → wpAnyH P .any ops (onlyNormal Q) S 0 l' a' w := fun a' hq' => ⟨by simpa using hB, rfl, hq'⟩
      revert h
      generalize pick ops last = os
      induction os generalizing a with
      | nil => exact hd a
      | cons o os ih =>
        intro h
        unfold wpQuiet at h ⊢
        split at h
        · rename_i hw; rw [if_pos hw]; exact Oper.quiet_mono (fun a' h' => ih a' h') h
        · rename_i hw; rw [if_neg hw]; exact ih _ h)
    simpa [actsCount] using this
  | (seg, i) :: more, last, l, a, w, hB, hS, h => by
    unfold actsB at hB
    split at hB
    case h_2 => cases hB
    rename_i l' hq
    simp only [Bool.and_eq_true, beq_iff_eq] at hB
    obtain ⟨hr, hB'⟩ := hB
    have := seg_sound (Q := Q) (P := P) hsel hS seg (actsCount more last + 1) l l' a hq (by
      unfold wpActs at h
      have hd : ∀ a', wpList P ops (fun e a'' w'' => e = .normal ∧ S w'' ∧ wpActs P ops S Q more last a'' w'') (pick ops [i]) a' w → wpAnyH P .any ops (onlyNormal Q) S (actsCount more last + 1) l' a' w := fun a' h' => by
        refine wpAnyH_all hr (by simp) fun j hj => ?_
        obtain rfl : j = i := by simpa using hj
        unfold wpOp
        cases ho : ops[j]? with
        | none =>
          simp only [pick, List.filterMap_cons, ho, List.filterMap_nil] at h'
          obtain ⟨_, hs, ha⟩ := h'
          exact ⟨hs, acts_sound hsel more last _ _ _ hB' hs ha⟩
        | some o =>
          simp only [pick, List.filterMap_cons, ho, List.filterMap_nil] at h'
          unfold wpList at h'
          simp only
          split at h'
          · rename_i hw
            rw [if_pos hw]
            rcases h' with h' | ⟨_, a0, w0, h0⟩
            · exact .inl (wp_only (fun a1 w1 h1 => ⟨h1.2.1, acts_sound hsel more last _ _ _ hB' h1.2.1 h1.2.2⟩) (fun e a1 w1 h1 => h1.1) h')
            · cases h0.1
          · rename_i hw
            rw [if_neg hw]
            exact ⟨h'.2.1, acts_sound hsel more last _ _ _ hB' h'.2.1 h'.2.2⟩
      revert h
      generalize pick ops seg = os
      induction os generalizing a with
      | nil => exact hd a
      | cons o os ih =>
        intro h
        unfold wpQuiet at h ⊢
        split at h
        · rename_i hw; rw [if_pos hw]; exact Oper.quiet_mono (fun a' h' => ih a' h') h
        · rename_i hw; rw [if_neg hw]; exact ih _ h)
    simpa [actsCount] using this

/-- **The region.** -/
theorem wp_region_acts {id : Nat} {l : List Oper} {a : Act} {w : World} {Q : Exit → Act → World → Prop} (S : World → Prop) (acts : List (List Nat × Nat)) (last : List Nat) (hm : P.follows .mixedOrders = true)
    (hB : actsOk l.toArray acts last = true) (hS : S w.drew) (h : wpActs P l.toArray S (Q .normal) acts last a w.drew) : (Code.region id l.toArray true).wp P Q a w := by
  simp only [actsOk, Bool.and_eq_true, beq_iff_eq] at hB
  obtain ⟨⟨hsel, hn⟩, hB⟩ := hB
  refine Code.wp_mono (Q := onlyNormal (Q .normal)) (fun e a w h => by obtain ⟨rfl, h⟩ := h; exact h) (wp_region_held (S := S) hm ?_)
  have := acts_sound hsel acts last _ a _ hB hS h
  rw [hn] at this
  exact this
end
end Go.Proofs.Ytldnpgbacakfeaa
