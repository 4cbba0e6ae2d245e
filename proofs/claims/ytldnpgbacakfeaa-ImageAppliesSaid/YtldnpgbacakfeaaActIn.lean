/-
  The same for a region inside a fence that lets every function by (a function that ranges over a function, an iterator, a round).
-/
import Derived.Test.YtldnpgbacakfeaaAct
import Derived.OrdersIn
import Derived.TacticsIn
import Derived.OwnWalkIn
namespace Go.Proofs.Ytldnpgbacakfeaa

section
variable {F : Fence} {n : Nat} {P : Program} {ops : Array Oper} {S : World → Prop} {Q : Act → World → Prop}

theorem plain_not_defer {o : Oper} (h : plainOp o.op = true) : ∀ c, o.op ≠ .defer c := by
  intro c e; rw [e] at h; cases h
def noDefer (ops : Array Oper) : Bool := ops.all fun o => match o.op with | .defer _ => false | _ => true
theorem noDefer_spec (h : noDefer ops = true) {j : Nat} {o : Oper} (ho : ops[j]? = some o) : ∀ c, o.op ≠ .defer c := by
  intro c e
  have := Array.all_eq_true_iff_forall_mem.1 h o (Array.mem_of_getElem? ho)
  simp [e] at this

/-- In whatever order; behind every operation the world is one of the class. -/
def anyIn (F : Fence) (n : Nat) (P : Program) (ops : Array Oper) (S : World → Prop) (Q : Act → World → Prop) : Nat → Array Bool → Act → World → Prop
  | 0, l, a, w => Region.ready .any ops l = [] ∧ Q a w
  | fuel + 1, l, a, w => (Region.ready .any ops l = [] → Q a w) ∧ ∀ i ∈ Region.ready .any ops l, wpOpIn F n P ops (onlyNormal Q) i (fun a' w' => S w' ∧ anyIn F n P ops S Q fuel (l.setIfInBounds i true) a' w') a w

theorem anyIn_wp : ∀ (fuel : Nat) (l : Array Bool) (a : Act) (w : World), anyIn F n P ops S Q fuel l a w → wpAnyIn F n P .any ops (onlyNormal Q) fuel l a w
  | 0, _, _, _, h => ⟨h.1, rfl, h.2⟩
  | fuel + 1, _, _, _, h => ⟨fun h0 => ⟨rfl, h.1 h0⟩, fun i hi => wpOpIn_mono (fun a' w' h' => anyIn_wp fuel _ a' w' h'.2) (h.2 i hi)⟩

/-- An operation apart from a plain one: the plain one's value may be put before it or behind it. -/
theorem opIn_put (hF : ∀ f, F.fn f) (hnd : noDefer ops = true) (hsel : Region.noSelect ops = true) {i j : Nat} {oi oj : Oper} {v : Value} (hi : ops[i]? = some oi) (hj : ops[j]? = some oj) (hap : oi.apart ops oj = true) {K : Act → World → Prop} {a : Act} {w : World}
    (hy : YieldsIf P ops S oi v a) (h : wpOpIn F n P ops (onlyNormal Q) j K (a.put oi.dst v) w) : wpOpIn F n P ops (onlyNormal Q) j (fun a' w' => YieldsIf P ops S oi v a' ∧ K (a'.put oi.dst v) w') a w := by
  obtain ⟨h1, h2, h3⟩ := Oper.apart_spec hap
  have hsi := fun cs b => Region.noSelect_spec hsel i oi cs b hi
  have hsj := fun cs b => Region.noSelect_spec hsel j oj cs b hj
  have keep : ∀ u, YieldsIf P ops S oi v (a.put oj.dst u) := fun u => hy.of_same (execOp_put oi hsi a oj.dst u h3) (wanted_put oi a oj.dst u h3)
  have hab : ∀ (b : Act) f, oj.about P w b.eval = some f → F.fn f := fun _ f _ => hF f
  unfold wpOpIn at h ⊢
  simp only [hj] at h ⊢
  rw [wanted_put oj a oi.dst v h1] at h
  by_cases hw : Region.wanted oj (yielded ops a.tmps) = true
  · rw [if_pos hw] at h ⊢
    refine ⟨hab a, ?_⟩
    have h' := h.2
    rw [Oper.semAt_eq _ _ _ (noDefer_spec hnd hj)] at h' ⊢
    rw [execOp_put oj hsj a oi.dst v h1] at h'
    have put : ∀ u w', K ((a.put oi.dst v).put oj.dst u) w' → K ((a.put oj.dst u).put oi.dst v) w' := fun u w' hk => by rw [← Act.put_comm a v u h2]; exact hk
    have nope : ∀ {c a w}, onlyNormal Q (.panic c) a w → False := fun h => by cases h.1
    have out : LetsOut (onlyNormal Q) → False := fun ⟨_, _, h⟩ => by cases h.1
    cases hrun : (execOp a.eval oj).run P w with
    | halt x w1 =>
      rw [hrun] at h'
      cases x <;> simp only [Oper.uponIn] at h' ⊢
      exact (nope h').elim
    | ok x w1 =>
      rw [hrun] at h'
      cases x <;> simp only [Oper.uponIn] at h' ⊢
      case value u => exact ⟨keep u, put u _ h'⟩
      case skip => exact ⟨keep _, put _ _ h'⟩
      case defer d =>
        have hd : YieldsIf P ops S oi v { a with defers := d :: a.defers } := hy.of_same rfl rfl
        refine ⟨hd.of_same (execOp_put oi hsi _ oj.dst undef h3) (wanted_put oi _ oj.dst undef h3), ?_⟩
        rw [← Act.put_comm _ v undef h2, ← Act.put_defers]
        exact h'
      case enter f args =>
        refine ⟨h'.1, CallsIn.mono h'.2 fun e w2 he => ?_⟩
        cases e with
        | returned u => exact ⟨keep u, put u _ he⟩
        | panicked c => exact (nope he).elim
        | outgrown => exact (out he).elim
      case row r args => exact ⟨h'.1, RowsIn.mono h'.2 fun u w2 he => ⟨keep u, put u _ he⟩⟩
      case round l f tmps assign body =>
        refine ⟨h'.1, RoundIn.mono h'.2 fun e w2 he => ?_⟩
        cases e with
        | returned u => exact ⟨keep u, put u _ he⟩
        | panicked c => exact (nope he).elim
        | outgrown => exact (out he).elim
  · rw [if_neg hw] at h ⊢
    exact ⟨hab a, keep _, by rw [← Act.put_comm a v undef h2]; exact h.2⟩

theorem anyIn_first (hF : ∀ f, F.fn f) (hnd : noDefer ops = true) (hsel : Region.noSelect ops = true) {i : Nat} {oi : Oper} {v : Value} (hi : ops[i]? = some oi) :
    ∀ (fuel : Nat) (l : Array Bool) (a : Act) (w : World),
      (∀ j oj, ops[j]? = some oj → j ≠ i → l.getD j true = false → (∀ e ∈ oj.after, Region.binds .any e = true → e.on ≠ i) → oi.apart ops oj = true) →
      i ∈ Region.ready .any ops l → YieldsIf P ops S oi v a → S w →
      anyIn F n P ops S Q fuel (l.setIfInBounds i true) (a.put oi.dst v) w → anyIn F n P ops S Q (fuel + 1) l a w := by
  have self : ∀ {a : Act} {w : World} {K : Act → World → Prop}, YieldsIf P ops S oi v a → S w → K (a.put oi.dst v) w → wpOpIn F n P ops (onlyNormal Q) i K a w := by
    intro a w K hy hS hk
    unfold wpOpIn
    simp only [hi]
    rcases hy with ⟨hw, hv⟩ | ⟨hw, rfl⟩
    · rw [if_pos hw]
      refine ⟨fun f _ => hF f, ?_⟩
      rw [Oper.semAt_eq _ _ _ (noDefer_spec hnd hi), hv w hS]
      exact hk
    · rw [if_neg (by rw [hw]; decide)]
      exact ⟨fun f _ => hF f, hk⟩
  intro fuel
  induction fuel with
  | zero =>
    intro l a w _ hr hy hS H
    refine ⟨fun h => (by rw [h] at hr; cases hr), fun j hj => ?_⟩
    by_cases hji : j = i
    · subst hji; exact self hy hS ⟨hS, H⟩
    · have := ready_mono hj hji
      rw [H.1] at this
      cases this
  | succ fuel ih =>
    intro l a w hfree hr hy hS H
    refine ⟨fun h => (by rw [h] at hr; cases hr), fun j hj => ?_⟩
    by_cases hji : j = i
    · subst hji; exact self hy hS ⟨hS, H⟩
    · have h1 := H.2 j (ready_mono hj hji)
      obtain ⟨hjun, oj, hoj, hall⟩ := mem_ready.1 hj
      have hiun := (mem_ready.1 hr).1
      have hnot : ∀ e ∈ oj.after, Region.binds .any e = true → e.on ≠ i := fun e he hb heq => by
        have h1 := hall e he hb
        rw [heq] at h1
        by_cases hb' : i < l.size
        · simp [hb'] at hiun h1; rw [hiun] at h1; cases h1
        · simp [Array.getElem?_eq_none (Nat.le_of_not_lt hb')] at hiun
      have h2 := opIn_put hF hnd hsel hi hoj (hfree j oj hoj hji hjun hnot) hy h1
      refine wpOpIn_mono (fun a' w' h3 => ⟨h3.2.1, ih (l.setIfInBounds j true) a' w' (fun k ok hk hki hun hno => hfree k ok hk hki ?_ hno) (ready_mono hr (Ne.symm hji)) h3.1 h3.2.1 ?_⟩) h2
      · by_cases hjk : j = k
        · subst hjk; exact hjun
        · rw [getD_set_ne true hjk] at hun; exact hun
      · rw [Array.setIfInBounds_comm _ _ hji]
        exact h3.2.2

def wpActsIn (F : Fence) (n : Nat) (P : Program) (ops : Array Oper) (S : World → Prop) (Q : Act → World → Prop) : List (List Nat × Nat) → List Nat → Act → World → Prop
  | [], last, a, w => wpQuiet P ops S (fun a' => Q a' w) (pick ops last) a
  | (seg, i) :: more, last, a, w => wpQuiet P ops S (fun a' => wpListIn F n P ops (fun e a'' w'' => e = .normal ∧ S w'' ∧ wpActsIn F n P ops S Q more last a'' w'') (pick ops [i]) a' w) (pick ops seg) a
theorem wpActsIn_act {seg : List Nat} {i : Nat} {more : List (List Nat × Nat)} {last : List Nat} {a : Act} {w : World}
    (h : wpQuiet P ops S (fun a' => wpListIn F n P ops (fun e a'' w'' => e = .normal ∧ S w'' ∧ wpActsIn F n P ops S Q more last a'' w'') (pick ops [i]) a' w) (pick ops seg) a) : wpActsIn F n P ops S Q ((seg, i) :: more) last a w := by
  unfold wpActsIn; exact h
theorem wpActsIn_last {last : List Nat} {a : Act} {w : World} (h : wpQuiet P ops S (fun a' => Q a' w) (pick ops last) a) : wpActsIn F n P ops S Q [] last a w := by
  unfold wpActsIn; exact h

theorem wpQuiet_imp {R R' : Act → Prop} (h : ∀ a, R a → R' a) : ∀ (os : List Oper) (a : Act), wpQuiet P ops S R os a → wpQuiet P ops S R' os a
  | [], a, hq => h a hq
  | o :: os, a, hq => by
    unfold wpQuiet at hq ⊢
    split at hq
    · rename_i hw; rw [if_pos hw]; exact Oper.quiet_mono (fun a' h' => wpQuiet_imp h os a' h') hq
    · rename_i hw; rw [if_neg hw]; exact wpQuiet_imp h os _ hq

theorem segIn_sound (hF : ∀ f, F.fn f) (hnd : noDefer ops = true) (hsel : Region.noSelect ops = true) {w : World} (hS : S w) : ∀ (seg : List Nat) (m : Nat) (l l' : Array Bool) (a : Act), quietRun ops seg l = some l' →
    wpQuiet P ops S (fun a' => anyIn F n P ops S Q m l' a' w) (pick ops seg) a → anyIn F n P ops S Q (m + seg.length) l a w
  | [], m, l, l', a, hq, h => by
    simp only [quietRun, Option.some.injEq] at hq
    subst hq
    exact h
  | i :: is, m, l, l', a, hq, h => by
    unfold quietRun at hq
    split at hq
    case isFalse => cases hq
    rename_i hc
    simp only [Bool.and_eq_true] at hc
    obtain ⟨⟨hp, hf⟩, hr⟩ := hc
    cases ho : ops[i]? with
    | none => rw [ho] at hp; simp at hp
    | some o =>
      rw [ho] at hp
      simp only [Option.map_some, Option.getD_some] at hp
      simp only [pick, List.filterMap_cons, ho] at h
      unfold wpQuiet at h
      have key : ∃ v, YieldsIf P ops S o v a ∧ wpQuiet P ops S (fun a' => anyIn F n P ops S Q m l' a' w) (pick ops is) (a.put o.dst v) := by
        split at h
        · rename_i hw
          obtain ⟨v, h1, h2⟩ := h
          refine ⟨v, .inl ⟨hw, fun w1 hw1 => ?_⟩, h2⟩
          have h3 := h1 w1 hw1
          unfold Oper.quietAt at h3
          cases hrun : (execOp a.eval o).run P w1 with
          | halt x w2 => rw [hrun] at h3; exact h3.elim
          | ok x w2 =>
            obtain ⟨y, rfl⟩ := plain_value hp hrun
            rw [hrun] at h3
            obtain ⟨e1, e2⟩ := h3
            rw [e1, e2]
        · rename_i hw
          exact ⟨undef, .inr ⟨by simpa using hw, rfl⟩, h⟩
      obtain ⟨v, hy, hk⟩ := key
      exact anyIn_first hF hnd hsel ho (m + is.length) l a w (Region.free_spec ho hf) (by simpa using hr) hy hS (segIn_sound hF hnd hsel hS is m _ l' _ hq hk)

theorem actsIn_sound (hF : ∀ f, F.fn f) (hnd : noDefer ops = true) (hsel : Region.noSelect ops = true) : ∀ (acts : List (List Nat × Nat)) (last : List Nat) (l : Array Bool) (a : Act) (w : World), actsB ops acts last l = true → S w →
    wpActsIn F n P ops S Q acts last a w → anyIn F n P ops S Q (actsCount acts last) l a w
  | [], last, l, a, w, hB, hS, h => by
    unfold actsB at hB
    split at hB
    case h_2 => cases hB
    rename_i l' hq
    unfold wpActsIn at h
    have := segIn_sound (Q := Q) (P := P) (F := F) (n := n) hF hnd hsel hS last 0 l l' a hq (wpQuiet_imp (fun a' hq' => ⟨by simpa using hB, hq'⟩) _ _ h)
    simpa [actsCount] using this
  | (seg, i) :: more, last, l, a, w, hB, hS, h => by
    unfold actsB at hB
    split at hB
    case h_2 => cases hB
    rename_i l' hq
    simp only [Bool.and_eq_true, beq_iff_eq] at hB
    obtain ⟨hr, hB'⟩ := hB
    unfold wpActsIn at h
    have := segIn_sound (Q := Q) (P := P) (F := F) (n := n) hF hnd hsel hS seg (actsCount more last + 1) l l' a hq (wpQuiet_imp (fun a' h' => by
        refine ⟨fun h0 => (by rw [hr] at h0; cases h0), fun j hj => ?_⟩
        rw [hr] at hj
        obtain rfl : j = i := by simpa using hj
        unfold wpOpIn
        cases ho : ops[j]? with
        | none =>
          simp only [pick, List.filterMap_cons, ho, List.filterMap_nil] at h'
          obtain ⟨_, hs, ha⟩ := h'
          exact ⟨hs, actsIn_sound hF hnd hsel more last _ _ _ hB' hs ha⟩
        | some o =>
          simp only [pick, List.filterMap_cons, ho, List.filterMap_nil] at h'
          unfold wpListIn at h'
          simp only
          split at h'
          · rename_i hw
            rw [if_pos hw]
            have nope : ∀ {c : List PanicEntry} {a1 : Act} {w1 : World}, ((Exit.panic c = .normal) ∧ S w1 ∧ wpActsIn F n P ops S Q more last a1 w1) → False := fun h => by cases h.1
            have go : ∀ {a1 : Act} {w1 : World}, wpListIn F n P ops (fun e a'' w'' => e = .normal ∧ S w'' ∧ wpActsIn F n P ops S Q more last a'' w'') [] a1 w1 → S w1 ∧ anyIn F n P ops S Q (actsCount more last) (l'.setIfInBounds j true) a1 w1 :=
              fun h1 => ⟨h1.2.1, actsIn_sound hF hnd hsel more last _ _ _ hB' h1.2.1 h1.2.2⟩
            refine ⟨fun f _ => hF f, ?_⟩
            have h2 := h'.2
            generalize (o.semAt F.round a'.eval).run P w = r at h2 ⊢
            cases r with
            | halt x w1 =>
              cases x <;> simp only [Oper.uponIn] at h2 ⊢
              cases h2.1
            | ok x w1 =>
              cases x <;> simp only [Oper.uponIn] at h2 ⊢
              case value u => exact go h2
              case skip => exact go h2
              case defer d => exact go h2
              case enter f args =>
                refine ⟨h2.1, CallsIn.mono h2.2 fun e w2 he => ?_⟩
                cases e with
                | returned u => exact go he
                | panicked c => cases he.1
                | outgrown => obtain ⟨_, _, h⟩ := he; cases h.1
              case row r args => exact ⟨h2.1, RowsIn.mono h2.2 fun u w2 he => go he⟩
              case round l f tmps assign body =>
                refine ⟨h2.1, RoundIn.mono h2.2 fun e w2 he => ?_⟩
                cases e with
                | returned u => exact go he
                | panicked c => cases he.1
                | outgrown => obtain ⟨_, _, h⟩ := he; cases h.1
          · rename_i hw
            rw [if_neg hw]
            exact ⟨fun f _ => hF f, h'.2.2.1, actsIn_sound hF hnd hsel more last _ _ _ hB' h'.2.2.1 h'.2.2.2⟩) _ _ h)
    simpa [actsCount] using this

/-- **The region, inside a fence.** -/
theorem wpIn_region_acts {id : Nat} {l : List Oper} {a : Act} {w : World} {Q : Exit → Act → World → Prop} (S : World → Prop) (acts : List (List Nat × Nat)) (last : List Nat) (hF : ∀ f, F.fn f) (hm : P.follows .mixedOrders = true)
    (hnd : noDefer l.toArray = true) (hB : actsOk l.toArray acts last = true) (hS : S w.drew) (h : wpActsIn F n P l.toArray S (Q .normal) acts last a w.drew) : (Code.region id l.toArray true).wpIn F n P Q a w := by
  simp only [actsOk, Bool.and_eq_true, beq_iff_eq] at hB
  obtain ⟨⟨hsel, hn⟩, hB⟩ := hB
  refine Code.wpIn_mono (Q := onlyNormal (Q .normal)) (fun e a w h => by obtain ⟨rfl, h⟩ := h; exact h) (wpIn_region_any hm ?_)
  have := anyIn_wp _ _ _ _ (actsIn_sound hF hnd hsel acts last _ a _ hB hS h)
  rw [hn] at this
  exact this
end
end Go.Proofs.Ytldnpgbacakfeaa
