/-
  A region inside a fence whose last act may leave whatever world: an iterator's call of 'yield'. What is read is read ahead of it.
-/
import Derived.Test.YtldnpgbacakfeaaActIn
namespace Go.Proofs.Ytldnpgbacakfeaa

section
variable {F : Fence} {n : Nat} {P : Program} {ops : Array Oper} {S : World → Prop} {Q : Act → World → Prop} {f : Nat}

/-- Number m waits for number i, directly or through others. -/
def depB (ops : Array Oper) : Nat → Nat → Nat → Bool
  | 0, m, i => m == i
  | k + 1, m, i => m == i || (match ops[m]? with
    | some o => o.after.any fun e => Region.binds .any e && depB ops k e.on i
    | none => false)

/-- What has come up: all that it waits for has come up. -/
def Closed (ops : Array Oper) (l : Array Bool) : Prop := ∀ m o, l.getD m false = true → ops[m]? = some o → ∀ e ∈ o.after, Region.binds .any e = true → l.getD e.on false = true

theorem Closed.dep {l : Array Bool} (hc : Closed ops l) : ∀ (k m i : Nat), l.getD m false = true → depB ops k m i = true → l.getD i false = true
  | 0, m, i, hm, h => by simp only [depB, beq_iff_eq] at h; subst h; exact hm
  | k + 1, m, i, hm, h => by
    simp only [depB, Bool.or_eq_true, beq_iff_eq] at h
    rcases h with rfl | h
    · exact hm
    · cases ho : ops[m]? with
      | none => rw [ho] at h; cases h
      | some o =>
        rw [ho] at h
        obtain ⟨e, he, hb⟩ := Array.any_eq_true'.1 h
        simp only [Bool.and_eq_true] at hb
        exact hc.dep k e.on i (hc m o hm ho e he hb.1) hb.2

theorem getD_set (l : Array Bool) (i j : Nat) (hi : i < l.size) : (l.setIfInBounds i true).getD j false = if i = j then true else l.getD j false := by
  by_cases h : i = j
  · subst h; rw [if_pos rfl]; simp [hi]
  · rw [if_neg h]; exact getD_set_ne false h

theorem ready_lt {l : Array Bool} (hs : l.size = ops.size) {i : Nat} (h : i ∈ Region.ready .any ops l) : i < l.size := by
  rw [hs]
  have := List.mem_filter.1 h
  simpa using this.1
theorem Closed.set {l : Array Bool} (hc : Closed ops l) (hs : l.size = ops.size) {i : Nat} (h : i ∈ Region.ready .any ops l) : Closed ops (l.setIfInBounds i true) := by
  intro m o hm ho e he hb
  have hil := ready_lt hs h
  rw [getD_set l i _ hil] at hm ⊢
  split
  · rfl
  · split at hm
    · rename_i him
      subst him
      obtain ⟨_, oi, hoi, hall⟩ := mem_ready.1 h
      rw [ho] at hoi; cases hoi
      exact hall e he hb
    · exact hc m o hm ho e he hb

/-- In whatever order; as long as the final act has not come up the world is one of the class. -/
def anyFin (F : Fence) (n : Nat) (P : Program) (ops : Array Oper) (S : World → Prop) (f : Nat) (Q : Act → World → Prop) : Nat → Array Bool → Act → World → Prop
  | 0, l, a, w => Region.ready .any ops l = [] ∧ Q a w
  | fuel + 1, l, a, w => (Region.ready .any ops l = [] → Q a w) ∧ ∀ i ∈ Region.ready .any ops l, wpOpIn F n P ops (onlyNormal Q) i (fun a' w' => ((l.setIfInBounds i true).getD f false = true ∨ S w') ∧ anyFin F n P ops S f Q fuel (l.setIfInBounds i true) a' w') a w

theorem anyFin_wp : ∀ (fuel : Nat) (l : Array Bool) (a : Act) (w : World), anyFin F n P ops S f Q fuel l a w → wpAnyIn F n P .any ops (onlyNormal Q) fuel l a w
  | 0, _, _, _, h => ⟨h.1, rfl, h.2⟩
  | fuel + 1, _, _, _, h => ⟨fun h0 => ⟨rfl, h.1 h0⟩, fun i hi => wpOpIn_mono (fun a' w' h' => anyFin_wp fuel _ a' w' h'.2) (h.2 i hi)⟩

/-- A plain operation may be taken first: one that the final act waits for, in the class; or one behind it, in whatever world ('T'). -/
theorem anyFin_first (hF : ∀ f, F.fn f) (hnd : noDefer ops = true) (hsel : Region.noSelect ops = true) {T : World → Prop} {i : Nat} {oi : Oper} {v : Value} (hi : ops[i]? = some oi) (hfi : f ≠ i)
    (hT : ∀ l : Array Bool, l.size = ops.size → Closed ops l → l.getD i false = false → ∀ w, (l.getD f false = true ∨ S w) → T w) :
    ∀ (fuel : Nat) (l : Array Bool) (a : Act) (w : World), l.size = ops.size → Closed ops l → (l.getD f false = true ∨ S w) →
      (∀ j oj, ops[j]? = some oj → j ≠ i → l.getD j true = false → (∀ e ∈ oj.after, Region.binds .any e = true → e.on ≠ i) → oi.apart ops oj = true) →
      i ∈ Region.ready .any ops l → YieldsIf P ops T oi v a →
      anyFin F n P ops S f Q fuel (l.setIfInBounds i true) (a.put oi.dst v) w → anyFin F n P ops S f Q (fuel + 1) l a w := by
  have self : ∀ {a : Act} {w : World} {K : Act → World → Prop}, YieldsIf P ops T oi v a → T w → K (a.put oi.dst v) w → wpOpIn F n P ops (onlyNormal Q) i K a w := by
    intro a w K hy hS hk
    unfold wpOpIn
    simp only [hi]
    rcases hy with ⟨hw, hv⟩ | ⟨hw, rfl⟩
    · rw [if_pos hw]
      refine ⟨fun f _ => hF f, ?_⟩
      rw [Oper.semAt_eq _ _ _ (noDefer_spec hnd hi), hv w hS]
      exact hk
    · rw [if_neg (by rw [hw]; decide)]
      exact ⟨fun f _ => hF f, hk⟩
  have listed : ∀ {l : Array Bool} {w : World}, l.size = ops.size → i ∈ Region.ready .any ops l → (l.getD f false = true ∨ S w) → ((l.setIfInBounds i true).getD f false = true ∨ S w) := fun hs hr h => h.imp (fun h => by rw [getD_set _ _ _ (ready_lt hs hr), if_neg (Ne.symm hfi)]; exact h) id
  have unlisted : ∀ {l : Array Bool}, i ∈ Region.ready .any ops l → l.size = ops.size → l.getD i false = false := fun h hs => by
    have h1 := (mem_ready.1 h).1
    have h2 := ready_lt hs h
    simpa [h2] using h1
  intro fuel
  induction fuel with
  | zero =>
    intro l a w hs hc hS _ hr hy H
    refine ⟨fun h => (by rw [h] at hr; cases hr), fun j hj => ?_⟩
    by_cases hji : j = i
    · subst hji; exact self hy (hT l hs hc (unlisted hr hs) w hS) ⟨listed hs hr hS, H⟩
    · have := ready_mono hj hji
      rw [H.1] at this
      cases this
  | succ fuel ih =>
    intro l a w hs hc hS hfree hr hy H
    refine ⟨fun h => (by rw [h] at hr; cases hr), fun j hj => ?_⟩
    by_cases hji : j = i
    · subst hji; exact self hy (hT l hs hc (unlisted hr hs) w hS) ⟨listed hs hr hS, H⟩
    · have h1 := H.2 j (ready_mono hj hji)
      obtain ⟨hjun, oj, hoj, hall⟩ := mem_ready.1 hj
      have hnot : ∀ e ∈ oj.after, Region.binds .any e = true → e.on ≠ i := fun e he hb heq => by
        have h1 := hall e he hb
        rw [heq, unlisted hr hs] at h1
        cases h1
      have h2 := opIn_put hF hnd hsel hi hoj (hfree j oj hoj hji hjun hnot) hy h1
      have hs' : (l.setIfInBounds j true).size = ops.size := by simpa using hs
      refine wpOpIn_mono (fun a' w' h3 => ?_) h2
      have hSS : ((l.setIfInBounds j true).getD f false = true ∨ S w') := h3.2.1.imp (fun h => by
        rw [getD_set _ _ _ (by simpa using ready_lt hs hj), getD_set _ _ _ (ready_lt hs hr), if_neg (Ne.symm hfi)] at h
        rw [getD_set _ _ _ (ready_lt hs hj)]; exact h) id
      refine ⟨hSS, ih (l.setIfInBounds j true) a' w' hs' (hc.set hs hj) hSS (fun k ok hk hki hun hno => hfree k ok hk hki ?_ hno) (ready_mono hr (Ne.symm hji)) h3.1 ?_⟩
      · by_cases hjk : j = k
        · subst hjk; exact hjun
        · rw [getD_set_ne true hjk] at hun; exact hun
      · rw [Array.setIfInBounds_comm _ _ hji]
        exact h3.2.2

/-- A segment of plain operations. -/
theorem segFin_sound (hF : ∀ f, F.fn f) (hnd : noDefer ops = true) (hsel : Region.noSelect ops = true) {T : World → Prop} {w : World} : ∀ (seg : List Nat) (m : Nat) (l l' : Array Bool) (a : Act), l.size = ops.size → Closed ops l → (l.getD f false = true ∨ S w) →
    (∀ i ∈ seg, f ≠ i ∧ ∀ l : Array Bool, l.size = ops.size → Closed ops l → l.getD i false = false → (∀ j, l.getD j false = true ∨ True) → ∀ w, (l.getD f false = true ∨ S w) → T w) →
    quietRun ops seg l = some l' → (l'.size = ops.size → Closed ops l' → (l'.getD f false = true ∨ S w) → True) →
    wpQuiet P ops T (fun a' => ∀ (_ : l'.size = ops.size) (_ : Closed ops l') (_ : l'.getD f false = true ∨ S w), anyFin F n P ops S f Q m l' a' w) (pick ops seg) a → anyFin F n P ops S f Q (m + seg.length) l a w
  | [], m, l, l', a, hs, hc, hS, _, hq, _, h => by
    simp only [quietRun, Option.some.injEq] at hq
    subst hq
    exact h hs hc hS
  | i :: is, m, l, l', a, hs, hc, hS, hT, hq, ht, h => by
    unfold quietRun at hq
    split at hq
    case isFalse => cases hq
    rename_i hcnd
    simp only [Bool.and_eq_true] at hcnd
    obtain ⟨⟨hp, hf⟩, hr⟩ := hcnd
    have hr' : i ∈ Region.ready .any ops l := by simpa using hr
    cases ho : ops[i]? with
    | none => rw [ho] at hp; simp at hp
    | some o =>
      rw [ho] at hp
      simp only [Option.map_some, Option.getD_some] at hp
      simp only [pick, List.filterMap_cons, ho] at h
      unfold wpQuiet at h
      have key : ∃ v, YieldsIf P ops T o v a ∧ wpQuiet P ops T (fun a' => ∀ (_ : l'.size = ops.size) (_ : Closed ops l') (_ : l'.getD f false = true ∨ S w), anyFin F n P ops S f Q m l' a' w) (pick ops is) (a.put o.dst v) := by
        split at h
        · rename_i hw
          obtain ⟨v, h1, h2⟩ := h
          refine ⟨v, .inl ⟨hw, fun w1 hw1 => ?_⟩, h2⟩
          have h3 := h1 w1 hw1
          unfold Oper.quietAt at h3
          cases hrun : (execOp a.eval o).run P w1 with
          | halt x w2 => rw [hrun] at h3; exact h3.elim
          | ok x w2 =>
            obtain ⟨y, rfl⟩ := plain_value hp hrun
            rw [hrun] at h3
            obtain ⟨e1, e2⟩ := h3
            rw [e1, e2]
        · rename_i hw
          exact ⟨undef, .inr ⟨by simpa using hw, rfl⟩, h⟩
      obtain ⟨v, hy, hk⟩ := key
      have hTi := hT i (by simp)
      refine anyFin_first hF hnd hsel ho hTi.1 (fun l hs hc hu w hS => hTi.2 l hs hc hu (fun _ => .inr trivial) w hS) (m + is.length) l a w hs hc hS (Region.free_spec ho hf) hr' hy ?_
      refine segFin_sound hF hnd hsel is m (l.setIfInBounds i true) l' _ (by simpa using hs) (hc.set hs hr') (hS.imp (fun h => ?_) id) (fun j hj => hT j (by simp [hj])) hq ht hk
      rw [getD_set _ _ _ (ready_lt hs hr'), if_neg (Ne.symm hTi.1)]; exact h

/-- The check, for the kernel: segments and acts up to the final act f; then what is left. -/
def finB (ops : Array Oper) (f : Nat) : List (List Nat × Nat) → List Nat → List Nat → Array Bool → Bool
  | [], segf, last, l => segf.all (fun i => f != i && depB ops ops.size f i) && last.all (fun i => f != i) && match quietRun ops segf l with
    | some l1 => (Region.ready .any ops l1 == [f]) && match quietRun ops last (l1.setIfInBounds f true) with
      | some l2 => (Region.ready .any ops l2).isEmpty
      | none => false
    | none => false
  | (seg, i) :: more, segf, last, l => seg.all (fun i => f != i && depB ops ops.size f i) && f != i && match quietRun ops seg l with
    | some l1 => (Region.ready .any ops l1 == [i]) && finB ops f more segf last (l1.setIfInBounds i true)
    | none => false
def finCount : List (List Nat × Nat) → List Nat → List Nat → Nat
  | [], segf, last => last.length + 1 + segf.length
  | (seg, _) :: more, segf, last => finCount more segf last + 1 + seg.length
def finOk (ops : Array Oper) (f : Nat) (acts : List (List Nat × Nat)) (segf last : List Nat) : Bool :=
  Region.noSelect ops && (finCount acts segf last == ops.size) && finB ops f acts segf last (Array.replicate ops.size false)

def wpFin (F : Fence) (n : Nat) (P : Program) (ops : Array Oper) (S : World → Prop) (Q : Act → World → Prop) (f : Nat) : List (List Nat × Nat) → List Nat → List Nat → Act → World → Prop
  | [], segf, last, a, w => wpQuiet P ops S (fun a' => wpListIn F n P ops (fun e a'' w'' => e = .normal ∧ wpQuiet P ops (fun _ => True) (fun a3 => Q a3 w'') (pick ops last) a'') (pick ops [f]) a' w) (pick ops segf) a
  | (seg, i) :: more, segf, last, a, w => wpQuiet P ops S (fun a' => wpListIn F n P ops (fun e a'' w'' => e = .normal ∧ S w'' ∧ wpFin F n P ops S Q f more segf last a'' w'') (pick ops [i]) a' w) (pick ops seg) a
theorem wpFin_act {seg : List Nat} {i : Nat} {more : List (List Nat × Nat)} {segf last : List Nat} {a : Act} {w : World}
    (h : wpQuiet P ops S (fun a' => wpListIn F n P ops (fun e a'' w'' => e = .normal ∧ S w'' ∧ wpFin F n P ops S Q f more segf last a'' w'') (pick ops [i]) a' w) (pick ops seg) a) : wpFin F n P ops S Q f ((seg, i) :: more) segf last a w := by
  unfold wpFin; exact h
theorem wpFin_last {segf last : List Nat} {a : Act} {w : World}
    (h : wpQuiet P ops S (fun a' => wpListIn F n P ops (fun e a'' w'' => e = .normal ∧ wpQuiet P ops (fun _ => True) (fun a3 => Q a3 w'') (pick ops last) a'') (pick ops [f]) a' w) (pick ops segf) a) : wpFin F n P ops S Q f [] segf last a w := by
  unfold wpFin; exact h

/-- One act, the only one that may come up. -/
theorem oneAct (hF : ∀ f, F.fn f) {i : Nat} {R : Act → World → Prop} {a : Act} {w : World} {K : Act → World → Prop} (hK : ∀ a w, R a w → K a w)
    (h : wpListIn F n P ops (fun e a'' w'' => e = .normal ∧ R a'' w'') (pick ops [i]) a w) : wpOpIn F n P ops (onlyNormal Q) i K a w := by
  unfold wpOpIn
  cases ho : ops[i]? with
  | none =>
    simp only [pick, List.filterMap_cons, ho, List.filterMap_nil] at h
    exact hK _ _ h.2
  | some o =>
    simp only [pick, List.filterMap_cons, ho, List.filterMap_nil] at h
    unfold wpListIn at h
    simp only
    split at h
    · rename_i hw
      rw [if_pos hw]
      refine ⟨fun f _ => hF f, ?_⟩
      have h2 := h.2
      have go : ∀ {a1 : Act} {w1 : World}, wpListIn F n P ops (fun e a'' w'' => e = .normal ∧ R a'' w'') [] a1 w1 → K a1 w1 := fun h1 => hK _ _ h1.2
      generalize (o.semAt F.round a.eval).run P w = r at h2 ⊢
      cases r with
      | halt x w1 =>
        cases x <;> simp only [Oper.uponIn] at h2 ⊢
        cases h2.1
      | ok x w1 =>
        cases x <;> simp only [Oper.uponIn] at h2 ⊢
        case value u => exact go h2
        case skip => exact go h2
        case defer d => exact go h2
        case enter f args =>
          refine ⟨h2.1, CallsIn.mono h2.2 fun e w2 he => ?_⟩
          cases e with
          | returned u => exact go he
          | panicked c => cases he.1
          | outgrown => obtain ⟨_, _, h⟩ := he; cases h.1
        case row r args => exact ⟨h2.1, RowsIn.mono h2.2 fun u w2 he => go he⟩
        case round l f tmps assign body =>
          refine ⟨h2.1, RoundIn.mono h2.2 fun e w2 he => ?_⟩
          cases e with
          | returned u => exact go he
          | panicked c => cases he.1
          | outgrown => obtain ⟨_, _, h⟩ := he; cases h.1
    · rename_i hw
      rw [if_neg hw]
      exact ⟨fun f _ => hF f, hK _ _ h.2.2⟩

theorem fin_sound (hF : ∀ f, F.fn f) (hnd : noDefer ops = true) (hsel : Region.noSelect ops = true) : ∀ (acts : List (List Nat × Nat)) (segf last : List Nat) (l : Array Bool) (a : Act) (w : World), l.size = ops.size → Closed ops l → finB ops f acts segf last l = true → S w →
    wpFin F n P ops S Q f acts segf last a w → anyFin F n P ops S f Q (finCount acts segf last) l a w
  | [], segf, last, l, a, w, hs, hc, hB, hS, h => by
    unfold finB at hB
    simp only [Bool.and_eq_true] at hB
    obtain ⟨⟨hsg, hl⟩, hB⟩ := hB
    split at hB
    case h_2 => cases hB
    rename_i l1 hq1
    simp only [Bool.and_eq_true, beq_iff_eq] at hB
    obtain ⟨hr, hB⟩ := hB
    split at hB
    case h_2 => cases hB
    rename_i l2 hq2
    unfold wpFin at h
    have := segFin_sound (F := F) (n := n) (P := P) (S := S) (Q := Q) (f := f) hF hnd hsel (T := S) (w := w) segf (last.length + 1) l l1 a hs hc (.inr hS) (fun i hi => by
      have := List.all_eq_true.1 hsg i hi
      simp only [Bool.and_eq_true, bne_iff_ne] at this
      refine ⟨this.1, fun l _ hc hu _ w hS => hS.resolve_left fun hf => ?_⟩
      rw [hc.dep _ _ _ hf this.2] at hu; cases hu) hq1 (fun _ _ _ => trivial) (wpQuiet_imp (fun a' h' hs1 hc1 _ => by
        refine ⟨fun h0 => (by rw [hr] at h0; cases h0), fun j hj => ?_⟩
        have hj' := hj
        rw [hr] at hj
        obtain rfl : j = f := by simpa using hj
        have hf1 : (l1.setIfInBounds j true).getD j false = true := by rw [getD_set _ _ _ (ready_lt hs1 hj'), if_pos rfl]
        refine oneAct hF (fun a2 w2 h2 => ⟨.inl hf1, ?_⟩) h'
        have h3 := segFin_sound (F := F) (n := n) (P := P) (S := S) (Q := Q) (f := j) hF hnd hsel (T := fun _ => True) (w := w2) last 0 (l1.setIfInBounds j true) l2 a2 (by simpa using hs1) (hc1.set hs1 hj') (.inl hf1)
          (fun i hi => ⟨by have := List.all_eq_true.1 hl i hi; simpa using this, fun _ _ _ _ _ _ _ => trivial⟩) hq2 (fun _ _ _ => trivial) (wpQuiet_imp (fun a3 h3 _ _ _ => ⟨by simpa using hB, h3⟩) _ _ h2)
        simpa using h3) _ _ h)
    simpa [finCount] using this
  | (seg, i) :: more, segf, last, l, a, w, hs, hc, hB, hS, h => by
    unfold finB at hB
    simp only [Bool.and_eq_true, bne_iff_ne] at hB
    obtain ⟨⟨hsg, hfi⟩, hB⟩ := hB
    split at hB
    case h_2 => cases hB
    rename_i l1 hq1
    simp only [Bool.and_eq_true, beq_iff_eq] at hB
    obtain ⟨hr, hB⟩ := hB
    unfold wpFin at h
    have := segFin_sound (F := F) (n := n) (P := P) (S := S) (Q := Q) (f := f) hF hnd hsel (T := S) (w := w) seg (finCount more segf last + 1) l l1 a hs hc (.inr hS) (fun i hi => by
      have := List.all_eq_true.1 hsg i hi
      simp only [Bool.and_eq_true, bne_iff_ne] at this
      refine ⟨this.1, fun l _ hc hu _ w hS => hS.resolve_left fun hf => ?_⟩
      rw [hc.dep _ _ _ hf this.2] at hu; cases hu) hq1 (fun _ _ _ => trivial) (wpQuiet_imp (fun a' h' hs1 hc1 _ => by
        refine ⟨fun h0 => (by rw [hr] at h0; cases h0), fun j hj => ?_⟩
        have hj' := hj
        rw [hr] at hj
        obtain rfl : j = i := by simpa using hj
        exact oneAct hF (fun a2 w2 h2 => ⟨.inr h2.1, fin_sound hF hnd hsel more segf last _ _ _ (by simpa using hs1) (hc1.set hs1 hj') hB h2.1 h2.2⟩) h') _ _ h)
    simpa [finCount] using this

/-- **The region, inside a fence, up to an act that may leave whatever world.** -/
theorem wpIn_region_fin {id : Nat} {l : List Oper} {a : Act} {w : World} {Q : Exit → Act → World → Prop} (S : World → Prop) (acts : List (List Nat × Nat)) (segf : List Nat) (f : Nat) (last : List Nat) (hF : ∀ f, F.fn f) (hm : P.follows .mixedOrders = true)
    (hnd : noDefer l.toArray = true) (hB : finOk l.toArray f acts segf last = true) (hS : S w.drew) (h : wpFin F n P l.toArray S (Q .normal) f acts segf last a w.drew) : (Code.region id l.toArray true).wpIn F n P Q a w := by
  simp only [finOk, Bool.and_eq_true, beq_iff_eq] at hB
  obtain ⟨⟨hsel, hn⟩, hB⟩ := hB
  refine Code.wpIn_mono (Q := onlyNormal (Q .normal)) (fun e a w h => by obtain ⟨rfl, h⟩ := h; exact h) (wpIn_region_any hm ?_)
  have := anyFin_wp _ _ _ _ (fin_sound hF hnd hsel acts segf last (Array.replicate l.toArray.size false) a _ (by simp) (fun m o hm => absurd hm (by rw [Array.getD_eq_getD_getElem?, Array.getElem?_replicate]; split <;> simp)) hB hS h)
  rw [hn] at this
  exact this
end
end Go.Proofs.Ytldnpgbacakfeaa
