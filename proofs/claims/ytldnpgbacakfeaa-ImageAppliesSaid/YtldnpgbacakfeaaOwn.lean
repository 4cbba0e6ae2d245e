/-
  A slice that the call itself has built: it owns its row; append goes on with it.
-/
import Derived.Test.YtldnpgbacakfeaaBase
import Derived.Maps.AppendAt
namespace Go.Proofs.Ytldnpgbacakfeaa
open Go.RowKit

/-- The cells read as the elements, one behind the other. -/
def Chunks {α : Type} (r : Rep α) (ok : Nat → Prop) (w : World) : List Value → List α → Prop
  | xs, [] => xs = []
  | xs, x :: l => ∃ c rest, xs = c ++ rest ∧ r.rd ok w c x ∧ Chunks r ok w rest l

section
variable {α : Type} {r : Rep α} {ok ok' : Nat → Prop} {w w' : World}
theorem Chunks.mono (hk : ∀ b, ok b → ok' b) : ∀ {l : List α} {xs : List Value}, Chunks r ok w xs l → Chunks r ok' w xs l
  | [], _, h => h
  | _ :: _, _, ⟨c, rest, e, h1, h2⟩ => ⟨c, rest, e, r.mono hk h1, h2.mono hk⟩
theorem Chunks.live : ∀ {l : List α} {xs : List Value}, Chunks r ok w xs l → Chunks r (fun b => ok b ∧ b < w.heap.size) w xs l
  | [], _, h => h
  | _ :: _, _, ⟨c, rest, e, h1, h2⟩ => ⟨c, rest, e, r.live h1, h2.live⟩
theorem Chunks.frame (hf : ∀ b, ok b → w'.heap[b]? = w.heap[b]?) : ∀ {l : List α} {xs : List Value}, Chunks r ok w xs l → Chunks r ok w' xs l
  | [], _, h => h
  | _ :: _, _, ⟨c, rest, e, h1, h2⟩ => ⟨c, rest, e, r.frame hf h1, h2.frame hf⟩
theorem Chunks.length : ∀ {l : List α} {xs : List Value}, Chunks r ok w xs l → xs.length = l.length * r.sz
  | [], _, h => by rw [h]; simp
  | x :: l, _, ⟨c, rest, e, h1, h2⟩ => by rw [e, List.length_append, r.len h1, h2.length, List.length_cons, Nat.add_mul]; omega
theorem Chunks.one : ∀ {l : List α} {xs : List Value}, Chunks r ok w xs l → ∀ u ∈ xs, u.oneCell' = true
  | [], _, h => by rw [h]; intro u hu; cases hu
  | _ :: _, _, ⟨c, rest, e, h1, h2⟩ => by
    rw [e]; intro u hu
    rcases List.mem_append.1 hu with hu | hu
    · exact r.one h1 u hu
    · exact h2.one u hu
theorem Chunks.append : ∀ {l : List α} {xs : List Value}, Chunks r ok w xs l → ∀ {m : List α} {ys : List Value}, Chunks r ok w ys m → Chunks r ok w (xs ++ ys) (l ++ m)
  | [], _, h, _, _, hm => by rw [h]; exact hm
  | _ :: _, _, ⟨c, rest, e, h1, h2⟩, _, ys, hm => ⟨c, rest ++ ys, by rw [e, List.append_assoc], h1, h2.append hm⟩
theorem Chunks.single {c : List Value} {x : α} (h : r.rd ok w c x) : Chunks r ok w c [x] := ⟨c, [], by simp, h, rfl⟩
theorem Chunks.at : ∀ {l : List α} {xs : List Value}, Chunks r ok w xs l → ∀ {i : Nat} {x : α}, l[i]? = some x → ∃ c, (∀ j, j < r.sz → xs[i * r.sz + j]? = c[j]?) ∧ r.rd ok w c x
  | [], _, _, i, x, hx => by simp at hx
  | y :: l, _, ⟨c, rest, e, h1, h2⟩, 0, x, hx => by
    simp only [List.getElem?_cons_zero, Option.some.injEq] at hx
    subst hx
    exact ⟨c, fun j hj => by rw [e, Nat.zero_mul, Nat.zero_add, List.getElem?_append_left (by rw [r.len h1]; exact hj)], h1⟩
  | y :: l, _, ⟨c, rest, e, h1, h2⟩, i + 1, x, hx => by
    obtain ⟨d, h3, h4⟩ := h2.at (i := i) (x := x) (by simpa using hx)
    refine ⟨d, fun j hj => ?_, h4⟩
    rw [e, List.getElem?_append_right (by rw [r.len h1, Nat.add_mul]; omega), r.len h1, ← h3 j hj]
    congr 1
    rw [Nat.add_mul]; omega
/-- Cells that read one by one, in a row. -/
theorem Chunks.of_at {xs : List Value} : ∀ {l : List α} (off : Nat), xs.length = off + l.length * r.sz →
    (∀ i x, l[i]? = some x → ∃ c, (∀ j, j < r.sz → xs[off + i * r.sz + j]? = c[j]?) ∧ r.rd ok w c x) → Chunks r ok w (xs.drop off) l
  | [], off, hl, _ => by simp only [Chunks]; rw [List.drop_eq_nil_of_le]; simp at hl; omega
  | y :: l, off, hl, h => by
    obtain ⟨c, h1, h2⟩ := h 0 y rfl
    have hc := r.len h2
    have hlen : xs.length = off + r.sz + l.length * r.sz := by rw [hl, List.length_cons, Nat.add_mul]; omega
    refine ⟨c, xs.drop (off + r.sz), ?_, h2, Chunks.of_at (off + r.sz) hlen fun i x hx => ?_⟩
    · rw [← List.drop_drop]
      have : c = (xs.drop off).take r.sz := by
        apply List.ext_getElem?
        intro j
        rw [List.getElem?_take]
        split
        · rename_i hj
          rw [List.getElem?_drop, ← h1 j hj]
          congr 1; omega
        · rw [List.getElem?_eq_none]; omega
      rw [this, List.take_append_drop]
    · obtain ⟨d, h3, h4⟩ := h (i + 1) x (by simpa using hx)
      refine ⟨d, fun j hj => ?_, h4⟩
      rw [← h3 j hj]
      congr 1
      rw [Nat.add_mul]; omega
end

/-- A row of the program's table of types: T is the slice type over E. -/
structure SliceT (P : Program) (T E sz bytes : Nat) (z : Value) : Prop where
  u : P.underlying T = some (.slice E)
  i : (P.info? E).map (fun i => (i.zero, i.size, i.bytes)) = some (some z, sz, bytes)
  zs : z.cells.size = sz
  pos : 0 < sz

/-- The call owns the slice: its row lies from block B on; it reads as l; whatever else is looked into lies in blocks of 'ok', and not in that row. -/
def Own {α : Type} (r : Rep α) (B : Nat) (E : TypeId) (ok : Nat → Prop) (w : World) (v : Value) (l : List α) : Prop :=
  ∃ xs, w.ownsRow B E r.sz v l.length xs ∧ Chunks r (fun b => ok b ∧ Option.some b ≠ v.ownBlock) w xs l

/-- What is appended. -/
def Src {α : Type} (r : Rep α) (ok : Nat → Prop) (w : World) (ao : Option Addr) (m c : Nat) (ys : List α) : Prop :=
  ys.length = m ∧ (ao = none → m = 0 ∧ c = 0) ∧ ∃ news, (∀ ad, ao = some ad → ∀ j u, news[j]? = some u → w.cell? (ad.add j) = some u) ∧ Chunks r ok w news ys

section
variable {α : Type} {r : Rep α} {B : Nat} {E : TypeId} {ok : Nat → Prop} {w w' : World} {v : Value} {l : List α}

theorem Own.nil (r : Rep α) (B : Nat) (E : TypeId) (ok : Nat → Prop) (w : World) : Own r B E ok w (.slice none 0 0) [] := ⟨[], World.ownsRow_nil _ _ _ _, rfl⟩
theorem Own.kept {row : Option Nat} (h : Own r B E ok w v l) (hg : w.grownBy w' row) (hne : v.ownBlock = none ∨ v.ownBlock ≠ row) (hr : ∀ b, row = some b → ¬ ok b) : Own r B E ok w' v l := by
  obtain ⟨xs, h1, h2⟩ := h
  refine ⟨xs, h1.kept hg hne, (Chunks.frame (fun b hb => ?_) h2.live).mono fun b hb => hb.1⟩
  exact hg.block b hb.2 fun e => hr b e.symm hb.1.1
theorem Own.lt (h : Own r B E ok w v l) : ∀ k, v.ownBlock = some k → B ≤ k ∧ k < w.heap.size := let ⟨_, h1, _⟩ := h; h1.lt
/-- New blocks, draws: all that was there is as it was. -/
theorem Own.below (h : Own r B E ok w v l) (hb : Below w.heap.size w w') : Own r B E ok w' v l := by
  obtain ⟨xs, h1, h2⟩ := h
  have hg : w.grownBy w' none := ⟨hb.os, hb.tape, hb.output, hb.size, fun k hk _ => hb.block k hk⟩
  exact ⟨xs, h1.kept hg (by cases v.ownBlock <;> simp), (Chunks.frame (fun b hb' => hb.block b hb'.2) h2.live).mono fun b hb => hb.1⟩
theorem Own.mono {ok' : Nat → Prop} (hk : ∀ b, ok b → ok' b) (h : Own r B E ok w v l) : Own r B E ok' w v l :=
  let ⟨xs, h1, h2⟩ := h; ⟨xs, h1, h2.mono fun b hb => ⟨hk b hb.1, hb.2⟩⟩
/-- What the call owns reads as a slice. -/
theorem Own.sl (h : Own r B E ok w v l) : ∃ a n c, v = .slice a n c ∧ Sl r (fun b => ok b ∨ B ≤ b) w a n c l := by
  obtain ⟨xs, h1, h2⟩ := h
  have h1' := h1
  obtain ⟨hx, ⟨rfl, h0⟩ | ⟨g, cap, cur, rfl, hb, hg, hn, hc, hs, ht⟩⟩ := h1
  · refine ⟨none, 0, 0, rfl, ⟨h0, Nat.le_refl _, Nat.zero_le _, fun _ => rfl, .inl rfl⟩⟩
  · refine ⟨_, _, _, rfl, ⟨rfl, hn, hc, (fun e => by cases e), .inr ⟨g, 0, rfl, .inr hb, (Array.getElem?_eq_some_iff.1 hg).1, fun i x hi => ?_⟩⟩⟩
    obtain ⟨c, h3, h4⟩ := h2.at hi
    refine ⟨c, fun j hj => ?_, r.mono (fun b hb => .inl hb.1) h4⟩
    rw [← h3 j hj, Nat.zero_add, h1'.cellAt]
    have := (List.getElem?_eq_some_iff.1 hi).1
    calc i * r.sz + j < i * r.sz + r.sz := by omega
      _ = (i + 1) * r.sz := by rw [Nat.add_mul]; omega
      _ ≤ l.length * r.sz := Nat.mul_le_mul_right _ (by omega)

theorem Src.of_sl {ao : Option Addr} {m c : Nat} {ys : List α} (h : Sl r ok w ao m c ys) : Src r ok w ao m c ys := by
  refine ⟨h.len, fun e => ?_, ?_⟩
  · have := h.nil e; have := h.cap; omega
  · rcases h.cells with h0 | ⟨b, off, rfl, hb, _, h4⟩
    · have : ys = [] := List.eq_nil_of_length_eq_zero (by rw [h.len, h0])
      subst this
      exact ⟨[], fun ad _ j u hu => by simp at hu, rfl⟩
    · -- the cells, as the world holds them
      let news : List Value := (List.range (m * r.sz)).map fun j => (w.cell? ⟨b, off + j, none⟩).getD undef
      have hlt : ∀ i x, ys[i]? = some x → ∀ j, j < r.sz → i * r.sz + j < m * r.sz := fun i x hi j hj => by
        have h1 := (List.getElem?_eq_some_iff.1 hi).1
        have h2 : (i + 1) * r.sz ≤ m * r.sz := Nat.mul_le_mul_right _ (by rw [← h.len]; omega)
        rw [Nat.add_mul] at h2; omega
      have hcell : ∀ i x, ys[i]? = some x → ∃ cs, (∀ j, j < r.sz → news[i * r.sz + j]? = cs[j]?) ∧ r.rd ok w cs x := fun i x hi => by
        obtain ⟨cs, h5, h6⟩ := h4 i x hi
        refine ⟨cs, fun j hj => ?_, h6⟩
        have hc := r.len h6
        have e := h5 j hj
        have hj' : j < cs.length := by omega
        rw [List.getElem?_eq_getElem hj'] at e ⊢
        simp only [news, List.getElem?_map, List.getElem?_range (hlt i x hi j hj), Option.map_some]
        rw [← Nat.add_assoc, e]; rfl
      refine ⟨news, fun ad had j u hu => ?_, ?_⟩
      · obtain rfl := Option.some.inj had
        have hj : j < m * r.sz := by
          have := (List.getElem?_eq_some_iff.1 hu).1
          simpa [news] using this
        simp only [news, List.getElem?_map, List.getElem?_range hj, Option.map_some, Option.some.injEq] at hu
        -- the cell is there: it belongs to an element
        have hpos : 0 < r.sz := by rcases Nat.eq_zero_or_pos r.sz with h0 | h0; (rw [h0] at hj; simp at hj); exact h0
        have hi : j / r.sz < ys.length := by rw [h.len]; exact Nat.div_lt_of_lt_mul (by rw [Nat.mul_comm]; exact hj)
        obtain ⟨cs, h5, h6⟩ := h4 (j / r.sz) _ (List.getElem?_eq_getElem hi)
        have hm := Nat.mod_lt j hpos
        have e := h5 (j % r.sz) hm
        have e2 : off + j / r.sz * r.sz + j % r.sz = off + j := by rw [Nat.add_assoc, Nat.mul_comm, Nat.div_add_mod]
        rw [e2, List.getElem?_eq_getElem (by rw [r.len h6]; exact hm)] at e
        rw [e] at hu
        rw [Addr.add_lit, e, ← hu]; rfl
      · have := Chunks.of_at (r := r) (ok := ok) (w := w) (xs := news) (l := ys) 0 (by simp [news, h.len]) (fun i x hi => by
          obtain ⟨cs, h5, h6⟩ := hcell i x hi
          exact ⟨cs, fun j hj => by rw [Nat.zero_add]; exact h5 j hj, h6⟩)
        simpa using this

/-- One element, laid in a new block ('append(s, x)'). -/
theorem Src.new1 {cs : Array Value} {x : α} (h : r.rd ok w cs.toList x) : Src r ok (w.alloc (.cells cs E)) (some ⟨w.heap.size, 0, none⟩) 1 1 [x] := by
  refine ⟨rfl, (fun e => by cases e), cs.toList, fun ad had j u hu => ?_, Chunks.single ?_⟩
  · obtain rfl := Option.some.inj had
    rw [Addr.add_lit, Nat.zero_add, World.cell?_alloc_mark w cs E (0, 0) j]
    simpa using hu
  · exact r.mono (fun b hb => hb.1) (r.frame (fun b hb => Below.heap_alloc _ _ _ hb.2) (r.live h))

theorem run_app {P : Program} {T ty bytes : Nat} {z : Value} (ht : SliceT P T E r.sz bytes z) (h : Own r B E ok w v l) {ao : Option Addr} {m c : Nat} {ys : List α}
    (hs : Src r (fun b => ok b ∧ Option.some b ≠ v.ownBlock) w ao m c ys) (h63 : l.length + m ≤ maxLen) (hby : (l.length + m) * bytes ≤ 140737488355328) (hB : B ≤ w.heap.size) :
    ∃ v' w', (Builtin.append_ #[T, T] ty #[v, .slice ao m c]).run P w = .ok v' w' ∧ Own r B E ok w' v' (l ++ ys) ∧ w.grownBy w' v.ownBlock ∧ (v'.ownBlock = v.ownBlock ∨ v'.ownBlock = some w.heap.size) := by
  obtain ⟨i, hi, hz0, hz1, hz2⟩ := info_parts ht.i
  obtain ⟨xs, h1, h2⟩ := h
  obtain ⟨hm, hnil, news, hnews, hch⟩ := hs
  cases ao with
  | none =>
    obtain ⟨rfl, rfl⟩ := hnil rfl
    have : ys = [] := List.eq_nil_of_length_eq_zero hm
    subst this
    exact ⟨v, w, run_append_owned_none w B T ty E i r.sz ht.u hi v l.length xs h1, by rw [List.append_nil]; exact ⟨xs, h1, h2⟩, World.grownBy.refl _ _, .inl rfl⟩
  | some ad =>
    obtain ⟨v', w', hr, h3, h4, _, h6⟩ := run_append_own_at (P := P) w B T ty E i z r.sz bytes ht.u hi hz0 hz1 hz2 ht.zs ht.pos v l.length xs h1 ad m c news (by rw [hch.length, hm]) (hnews ad rfl) hch.one h63 hby hB
    refine ⟨v', w', hr, ⟨xs ++ news, by rw [List.length_append, hm]; exact h3, ?_⟩, h4, h6⟩
    have hfr : ∀ {xs : List Value} {l : List α}, Chunks r (fun b => ok b ∧ Option.some b ≠ v.ownBlock) w xs l → Chunks r (fun b => ok b ∧ Option.some b ≠ v'.ownBlock) w' xs l := fun hc => by
      refine (Chunks.frame (fun b hb => h4.block b hb.2 hb.1.2) hc.live).mono fun b hb => ⟨hb.1.1, ?_⟩
      rcases h6 with h6 | h6
      · rw [h6]; exact hb.1.2
      · rw [h6]; intro e; have := Option.some.inj e; have := hb.2; omega
    exact (hfr h2).append (hfr hch)

/-- 'append' in a plain region. -/
theorem wpList_app {P : Program} {ops : Array Oper} {rest : List Oper} {o : Oper} {a : Act} {Q : Exit → Act → World → Prop} {T bytes : Nat} {z : Value} (ht : SliceT P T E r.sz bytes z) (hgd : o.guard = none) (s x : Operand)
    (ho : o.op = .call { callee := .builtin .append, args := #[s, x], argTypes := #[T, T] }) (hs : a.eval s = v) (h : Own r B E ok w v l) {ao : Option Addr} {m c : Nat} {ys : List α} (hx : a.eval x = .slice ao m c)
    (hsrc : Src r (fun b => ok b ∧ Option.some b ≠ v.ownBlock) w ao m c ys) (h63 : l.length + m ≤ maxLen) (hby : (l.length + m) * bytes ≤ 140737488355328) (hB : B ≤ w.heap.size)
    (hk : ∀ v' w', Own r B E ok w' v' (l ++ ys) → w.grownBy w' v.ownBlock → (v'.ownBlock = v.ownBlock ∨ v'.ownBlock = some w.heap.size) → wpList P ops Q rest (a.put o.dst v') w') : wpList P ops Q (o :: rest) a w := by
  refine wpList_plain hgd fun K hK => ?_
  obtain ⟨v', w', hr, h2, h3, h4⟩ := run_app (P := P) (ty := o.type) ht h hsrc h63 hby hB
  unfold Oper.wp execOp
  simp only [ho, resolve, invoke, builtin, Sem.run_bind, Sem.run_pure, Result.andThen_ok, List.map_toArray, List.map_cons, List.map_nil, hs, hx, hr]
  exact hK _ _ (hk v' w' h2 h3 h4)
end

end Go.Proofs.Ytldnpgbacakfeaa
