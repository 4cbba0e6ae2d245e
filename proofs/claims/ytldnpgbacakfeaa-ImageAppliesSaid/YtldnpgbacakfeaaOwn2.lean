/-
  Slices whose elements lie in blocks of their own; make; copy; a store of a whole element.
-/
import Derived.Test.YtldnpgbacakfeaaOwn
namespace Go.Proofs.Ytldnpgbacakfeaa
open Go.RowKit

theorem cellLater {w : World} {a : Addr} {v : Value} (h : w.cell? a = some v) : ∀ x : Later w, x.w.cell? a = some v := fun x => (x.below.cell (World.block_lt_of_cell? w a h)).trans h
/-- The worlds in which all that stood in W is as it was, but for block g. -/
structure LaterB (W : World) (g : Nat) where
  w : World
  grown : W.grownBy w (some g)
instance (W : World) (g : Nat) : Nonempty (LaterB W g) := ⟨⟨W, World.grownBy.refl _ _⟩⟩
theorem LaterB.of {W w : World} {g : Nat} (h : W.grownBy w (some g)) : ∃ x : LaterB W g, w = x.w := ⟨⟨w, h⟩, rfl⟩
theorem grown_drew (W : World) (row : Option Nat) : W.grownBy W.drew row := ⟨rfl, rfl, rfl, Nat.le_refl _, fun _ _ _ => rfl⟩
theorem LaterB.drew (W : World) (g : Nat) : ∃ x : LaterB W g, W.drew = x.w := LaterB.of (grown_drew _ _)
theorem cellLaterB {w : World} {g : Nat} {a : Addr} {v : Value} (h : w.cell? a = some v) (hne : a.block ≠ g) : ∀ x : LaterB w g, x.w.cell? a = some v := fun x =>
  x.grown.cell h fun e => hne (Option.some.inj e)
theorem grown_trans {a b c : World} {row : Option Nat} (h : a.grownBy b row) (k : b.grownBy c row) : a.grownBy c row :=
  ⟨k.os.trans h.os, k.tape.trans h.tape, k.output.trans h.output, Nat.le_trans h.size k.size, fun i hi hr => (k.block i (Nat.lt_of_lt_of_le hi h.size) hr).trans (h.block i hi hr)⟩
theorem grown_row {w w' : World} {row : Option Nat} (h : w.grownBy w' none) : w.grownBy w' row := ⟨h.os, h.tape, h.output, h.size, fun k hk _ => h.block k hk (by simp)⟩
theorem grown_below {B : Nat} {w w' : World} {row : Option Nat} (h : w.grownBy w' row) (hB : B ≤ w.heap.size) (hr : ∀ k, row = some k → B ≤ k) : Below B w w' := (Below.refl B w).grown h hB hr
theorem below_grown {w w' : World} (h : Below w.heap.size w w') : w.grownBy w' none := ⟨h.os, h.tape, h.output, h.size, fun k hk _ => h.block k hk⟩

/-- A cell of a block that was laid, in a later world. -/
theorem boxCell {w w1 : World} {cs : Array Value} {T : TypeId} (hb : Below (w.alloc (.cells cs T)).heap.size (w.alloc (.cells cs T)) w1) {j : Nat} {v : Value} (h : cs[j]? = some v) : w1.cell? ⟨w.heap.size, j, none⟩ = some v := by
  rw [hb.cell (p := ⟨w.heap.size, j, none⟩) (by simp), World.cell?_alloc_mark w cs T (0, 0) j, h]
theorem news_new (w : World) (E : TypeId) (cs : Array Value) : ∀ j u, cs.toList[j]? = some u → (w.alloc (.cells cs E)).cell? ((⟨w.heap.size, 0, none⟩ : Addr).add j) = some u := fun j u hu => by
  rw [Addr.add_lit, Nat.zero_add, World.cell?_alloc_mark w cs E (0, 0) j]
  simpa using hu
theorem rd_below {α : Type} {r : Rep α} {ok : Nat → Prop} {w w' : World} {cs : List Value} {x : α} (h : r.rd ok w cs x) (hb : Below w.heap.size w w') : r.rd ok w' cs x :=
  r.mono (fun _ hb => hb.1) (r.frame (fun b hb' => hb.block b hb'.2) (r.live h))
theorem rd_alloc {α : Type} {r : Rep α} {ok : Nat → Prop} {w : World} {cs : List Value} {x : α} (h : r.rd ok w cs x) {o : Obj} : r.rd ok (w.alloc o) cs x := rd_below h ((Below.refl _ _).alloc (Nat.le_refl _) _)

/-- The elements' cells one behind the other; what element number i looks into lies in blocks with the tag i. -/
def ChunksD {α : Type} (r : Rep α) (tag : Nat → Nat) (ok : Nat → Prop) (w : World) : Nat → List Value → List α → Prop
  | _, xs, [] => xs = []
  | i, xs, x :: l => ∃ c rest, xs = c ++ rest ∧ r.rd (fun b => ok b ∧ tag b = i) w c x ∧ ChunksD r tag ok w (i + 1) rest l

section
variable {α : Type} {r : Rep α} {tag tag' : Nat → Nat} {ok ok' : Nat → Prop} {w w' : World}
theorem ChunksD.mono (hk : ∀ b, ok b → ok' b) : ∀ {l : List α} {i : Nat} {xs : List Value}, ChunksD r tag ok w i xs l → ChunksD r tag ok' w i xs l
  | [], _, _, h => h
  | _ :: _, _, _, ⟨c, rest, e, h1, h2⟩ => ⟨c, rest, e, r.mono (fun b hb => ⟨hk b hb.1, hb.2⟩) h1, h2.mono hk⟩
theorem ChunksD.retag (hk : ∀ b, ok b → tag' b = tag b) : ∀ {l : List α} {i : Nat} {xs : List Value}, ChunksD r tag ok w i xs l → ChunksD r tag' ok w i xs l
  | [], _, _, h => h
  | _ :: _, _, _, ⟨c, rest, e, h1, h2⟩ => ⟨c, rest, e, r.mono (fun b hb => ⟨hb.1, by rw [hk b hb.1]; exact hb.2⟩) h1, h2.retag hk⟩
theorem ChunksD.live : ∀ {l : List α} {i : Nat} {xs : List Value}, ChunksD r tag ok w i xs l → ChunksD r tag (fun b => ok b ∧ b < w.heap.size) w i xs l
  | [], _, _, h => h
  | _ :: _, _, _, ⟨c, rest, e, h1, h2⟩ => ⟨c, rest, e, r.mono (fun b hb => ⟨⟨hb.1.1, hb.2⟩, hb.1.2⟩) (r.live h1), h2.live⟩
theorem ChunksD.frame (hf : ∀ b, ok b → w'.heap[b]? = w.heap[b]?) : ∀ {l : List α} {i : Nat} {xs : List Value}, ChunksD r tag ok w i xs l → ChunksD r tag ok w' i xs l
  | [], _, _, h => h
  | _ :: _, _, _, ⟨c, rest, e, h1, h2⟩ => ⟨c, rest, e, r.frame (fun b hb => hf b hb.1) h1, h2.frame hf⟩
theorem ChunksD.chunks : ∀ {l : List α} {i : Nat} {xs : List Value}, ChunksD r tag ok w i xs l → Chunks r ok w xs l
  | [], _, _, h => h
  | _ :: _, _, _, ⟨c, rest, e, h1, h2⟩ => ⟨c, rest, e, r.mono (fun b hb => hb.1) h1, h2.chunks⟩
theorem ChunksD.snoc {c : List Value} {x : α} : ∀ {l : List α} {i : Nat} {xs : List Value}, ChunksD r tag ok w i xs l → r.rd (fun b => ok b ∧ tag b = i + l.length) w c x → ChunksD r tag ok w i (xs ++ c) (l ++ [x])
  | [], i, xs, h, hc => by
    simp only [ChunksD] at h
    subst h
    exact ⟨c, [], by simp, by simpa using hc, rfl⟩
  | y :: l, i, xs, ⟨d, rest, e, h1, h2⟩, hc => ⟨d, rest ++ c, by rw [e, List.append_assoc], h1, h2.snoc (by rw [List.length_cons] at hc; rw [show i + 1 + l.length = i + (l.length + 1) by omega]; exact hc)⟩
/-- One element looked at, and what it takes to put another in its place. -/
theorem ChunksD.pick : ∀ {l : List α} {i : Nat} {xs : List Value}, ChunksD r tag ok w i xs l → ∀ {k : Nat} {x : α}, l[k]? = some x →
    ∃ c, (∀ j, j < r.sz → xs[k * r.sz + j]? = c[j]?) ∧ r.rd (fun b => ok b ∧ tag b = i + k) w c x ∧
      ∀ (w' : World) (x' : α), (∀ b, ok b → tag b ≠ i + k → w'.heap[b]? = w.heap[b]?) → r.rd (fun b => ok b ∧ tag b = i + k) w' c x' → ChunksD r tag ok w' i xs (l.set k x')
  | [], _, _, _, k, x, hx => by simp at hx
  | y :: l, i, xs, ⟨c, rest, e, h1, h2⟩, 0, x, hx => by
    simp only [List.getElem?_cons_zero, Option.some.injEq] at hx
    subst hx
    refine ⟨c, fun j hj => by rw [e, Nat.zero_mul, Nat.zero_add, List.getElem?_append_left (by rw [r.len h1]; exact hj)], h1, fun w' x' hf hr => ?_⟩
    refine ⟨c, rest, e, hr, ?_⟩
    -- the tail's elements bear other tags
    have : ∀ {l : List α} {m : Nat} {xs : List Value}, i < m → ChunksD r tag ok w m xs l → ChunksD r tag ok w' m xs l := by
      intro l
      induction l with
      | nil => intro m xs _ h; exact h
      | cons z l ih =>
        intro m xs hm h
        obtain ⟨d, rs, e', h3, h4⟩ := h
        exact ⟨d, rs, e', r.frame (fun b hb => hf b hb.1 (by rw [hb.2]; omega)) h3, ih (by omega) h4⟩
    exact this (Nat.lt_succ_self _) h2
  | y :: l, i, xs, ⟨c, rest, e, h1, h2⟩, k + 1, x, hx => by
    obtain ⟨d, h3, h4, h5⟩ := h2.pick (k := k) (x := x) (by simpa using hx)
    have ei : i + 1 + k = i + (k + 1) := by omega
    refine ⟨d, fun j hj => ?_, by rw [← ei]; exact h4, fun w' x' hf hr => ?_⟩
    · rw [e, List.getElem?_append_right (by rw [r.len h1, Nat.add_mul]; omega), r.len h1, ← h3 j hj]
      congr 1
      rw [Nat.add_mul]; omega
    · refine ⟨c, rest, e, r.frame (fun b hb => hf b hb.1 (by rw [hb.2]; omega)) h1, ?_⟩
      exact h5 w' x' (fun b hb hne => hf b hb (by rw [← ei]; exact hne)) (by rw [ei]; exact hr)
end

/-- The call owns the slice, and each element's memory apart from the others'. -/
def OwnD {α : Type} (r : Rep α) (B F : Nat) (E : TypeId) (w : World) (v : Value) (l : List α) : Prop :=
  ∃ tag xs, w.ownsRow B E r.sz v l.length xs ∧ ChunksD r tag (fun b => B ≤ b ∧ b < F ∧ Option.some b ≠ v.ownBlock) w 0 xs l

section
variable {α : Type} {r : Rep α} {B F : Nat} {E : TypeId} {w w' : World} {v : Value} {l : List α}
theorem OwnD.nil (r : Rep α) (B F : Nat) (E : TypeId) (w : World) : OwnD r B F E w (.slice none 0 0) [] := ⟨fun _ => 0, [], World.ownsRow_nil _ _ _ _, rfl⟩
theorem OwnD.up {F' : Nat} (h : OwnD r B F E w v l) (hF : F ≤ F') : OwnD r B F' E w v l :=
  let ⟨tag, xs, h1, h2⟩ := h; ⟨tag, xs, h1, h2.mono fun _ hb => ⟨hb.1, Nat.lt_of_lt_of_le hb.2.1 hF, hb.2.2⟩⟩
theorem OwnD.live (h : OwnD r B F E w v l) : OwnD r B w.heap.size E w v l :=
  let ⟨tag, xs, h1, h2⟩ := h; ⟨tag, xs, h1, h2.live.mono fun _ hb => ⟨hb.1.1, hb.2, hb.1.2.2⟩⟩
theorem OwnD.lt (h : OwnD r B F E w v l) : ∀ k, v.ownBlock = some k → B ≤ k ∧ k < w.heap.size := let ⟨_, _, h1, _⟩ := h; h1.lt
theorem OwnD.below (h : OwnD r B F E w v l) (hb : Below w.heap.size w w') : OwnD r B F E w' v l := by
  obtain ⟨tag, xs, h1, h2⟩ := h
  exact ⟨tag, xs, h1.kept (below_grown hb) (by cases v.ownBlock <;> simp), (ChunksD.frame (fun b hb' => hb.block b hb'.2) h2.live).mono fun b hb => hb.1⟩
theorem OwnD.own (h : OwnD r B F E w v l) : Own r B E (B ≤ ·) w v l :=
  let ⟨_, xs, h1, h2⟩ := h; ⟨xs, h1, h2.chunks.mono fun _ hb => ⟨hb.1, hb.2.2⟩⟩
theorem OwnD.sl (h : OwnD r B F E w v l) : ∃ a n c, v = .slice a n c ∧ Sl r (B ≤ ·) w a n c l :=
  let ⟨a, n, c, e, h⟩ := h.own.sl; ⟨a, n, c, e, h.mono fun _ hb => hb.elim id id⟩

/-- 'append' of one element whose memory is new (from block F on). -/
theorem wpList_appD {P : Program} {ops : Array Oper} {rest : List Oper} {o : Oper} {a : Act} {Q : Exit → Act → World → Prop} {T bytes : Nat} {z : Value} (ht : SliceT P T E r.sz bytes z) (hgd : o.guard = none) (s x : Operand)
    (ho : o.op = .call { callee := .builtin .append, args := #[s, x], argTypes := #[T, T] }) (hs : a.eval s = v) (h : OwnD r B F E w v l) {ad : Addr} {c : Nat} (hx : a.eval x = .slice (some ad) 1 c)
    {y : α} {news : List Value} (hnews : ∀ j u, news[j]? = some u → w.cell? (ad.add j) = some u) (hrd : r.rd (F ≤ ·) w news y) (hown : ∀ k, v.ownBlock = some k → k < F)
    (h63 : l.length + 1 ≤ maxLen) (hby : (l.length + 1) * bytes ≤ 140737488355328) (hB : B ≤ F) (hF : F ≤ w.heap.size)
    (hk : ∀ v' w', OwnD r B w'.heap.size E w' v' (l ++ [y]) → w.grownBy w' v.ownBlock → (v'.ownBlock = v.ownBlock ∨ v'.ownBlock = some w.heap.size) → wpList P ops Q rest (a.put o.dst v') w') : wpList P ops Q (o :: rest) a w := by
  refine wpList_plain hgd fun K hK => ?_
  obtain ⟨i, hi, hz0, hz1, hz2⟩ := info_parts ht.i
  obtain ⟨tag, xs, h1, h2⟩ := h
  obtain ⟨v', w', hr, h3, h4, _, h6⟩ := run_append_own_at (P := P) w B T o.type E i z r.sz bytes ht.u hi hz0 hz1 hz2 ht.zs ht.pos v l.length xs h1 ad 1 c news (by rw [r.len hrd]; simp) hnews (r.one hrd) h63 hby (by omega)
  unfold Oper.wp execOp
  simp only [ho, resolve, invoke, builtin, Sem.run_bind, Sem.run_pure, Result.andThen_ok, List.map_toArray, List.map_cons, List.map_nil, hs, hx, hr]
  refine hK _ _ (hk v' w' ?_ h4 h6)
  refine ⟨fun b => if F ≤ b then l.length else tag b, xs ++ news, by rw [List.length_append]; exact h3, ?_⟩
  have hne : ∀ b, b < w.heap.size → Option.some b ≠ v.ownBlock → Option.some b ≠ v'.ownBlock := fun b hb hn => by
    rcases h6 with h6 | h6
    · rw [h6]; exact hn
    · rw [h6]; intro e; have := Option.some.inj e; omega
  refine ChunksD.snoc ?_ ?_
  · have e1 : ChunksD r (fun b => if F ≤ b then l.length else tag b) (fun b => B ≤ b ∧ b < F ∧ Option.some b ≠ v.ownBlock) w 0 xs l := h2.retag fun b hb => by
      show (if F ≤ b then l.length else tag b) = tag b
      rw [if_neg (by omega)]
    refine (ChunksD.frame (fun b hb => h4.block b (by omega) hb.2.2) e1).mono fun b hb => ⟨hb.1, Nat.lt_of_lt_of_le hb.2.1 (Nat.le_trans hF h4.size), hne b (by omega) hb.2.2⟩
  · have hno : ∀ b, F ≤ b → Option.some b ≠ v.ownBlock := fun b hb e => by have := hown b e.symm; omega
    refine r.mono (fun b hb => ⟨⟨by omega, Nat.lt_of_lt_of_le hb.2 h4.size, hne b hb.2 (hno b hb.1)⟩, ?_⟩) (r.frame (fun b hb => h4.block b hb.2 (hno b hb.1)) (r.live hrd))
    show (if F ≤ b then l.length else tag b) = 0 + l.length
    rw [if_pos hb.1, Nat.zero_add]

/-- It returns a slice that reads as l and an error; all that was there is as it was. -/
def RetSlE {α : Type} (r : Rep α) (ok : Nat → Prop) (w : World) (l : List α) (err : Int) : Ending → World → Prop := fun e w' =>
  ∃ a n c, e = .returned (.tuple #[.slice a n c, .int .i64 err]) ∧ Sl r ok w' a n c l ∧ Below w.heap.size w w'
theorem RetSlE.mk {α : Type} {r : Rep α} {ok : Nat → Prop} {w w' : World} {l : List α} {err err' : Int} {a : Option Addr} {n c : Nat} (he : err' = err) (h : Sl r ok w' a n c l) (hB : Below w.heap.size w w') :
    RetSlE r ok w l err (.returned (.tuple #[.slice a n c, .int .i64 err'])) w' := ⟨a, n, c, by rw [he], h, hB⟩
/-- The nil slice. -/
theorem Sl.nil0 {α : Type} (r : Rep α) (ok : Nat → Prop) (w : World) : Sl r ok w none 0 0 [] := ⟨rfl, Nat.le_refl _, Nat.zero_le _, fun _ => rfl, .inl rfl⟩

/-- What is read does not hang on memory. -/
def Flat {α : Type} (r : Rep α) : Prop := ∀ {ok ok' : Nat → Prop} {w w' : World} {cs : List Value} {x : α}, r.rd ok w cs x → r.rd ok' w' cs x
theorem Flat.int : Flat intR := fun h => h
theorem Flat.sec : Flat secR := fun h => h
theorem Flat.u8 : Flat u8R := fun h => h
theorem Flat.u64 : Flat u64R := fun h => h
theorem Flat.bool : Flat boolR := fun h => h
theorem Flat.pair {α β : Type} {r : Rep α} {s : Rep β} (hr : Flat r) (hs : Flat s) : Flat (pairR r s) := fun ⟨c1, c2, e, h1, h2⟩ => ⟨c1, c2, e, hr h1, hs h2⟩
theorem Chunks.flat {α : Type} {r : Rep α} (hf : Flat r) {ok ok' : Nat → Prop} {w w' : World} : ∀ {l : List α} {xs : List Value}, Chunks r ok w xs l → Chunks r ok' w' xs l
  | [], _, h => h
  | _ :: _, _, ⟨c, rest, e, h1, h2⟩ => ⟨c, rest, e, hf h1, h2.flat hf⟩
theorem Src.flat {α : Type} {r : Rep α} (hf : Flat r) {ok ok' : Nat → Prop} {w : World} {ao : Option Addr} {m c : Nat} {ys : List α} (h : Src r ok w ao m c ys) : Src r ok' w ao m c ys :=
  let ⟨h1, h2, news, h3, h4⟩ := h; ⟨h1, h2, news, h3, h4.flat hf⟩
theorem Own.lit0 {α : Type} (r : Rep α) {B : Nat} {E : TypeId} {ok : Nat → Prop} {w : World} (hB : B ≤ w.heap.size) : Own r B E ok (w.alloc (.cells #[] E)) (.slice (some ⟨w.heap.size, 0, none⟩) 0 0) [] :=
  ⟨[], World.ownsRow_lit w #[] 0 hB (Nat.zero_le _) (by simp), rfl⟩

/-- An element looked at; another put in its place, when its memory is written. -/
theorem OwnD.at (h : OwnD r B F E w v l) {k : Nat} {x : α} (hx : l[k]? = some x) :
    ∃ g cap c, ∃ okk : Nat → Prop, v = .slice (some ⟨g, 0, none⟩) l.length cap ∧ B ≤ g ∧ g < w.heap.size ∧ (∀ j, j < r.sz → w.cell? ⟨g, k * r.sz + j, none⟩ = c[j]?) ∧ r.rd okk w c x ∧ (∀ b, okk b → B ≤ b ∧ b < F ∧ b ≠ g) ∧
      ∀ (w' : World) (x' : α), (∀ b, b < w.heap.size → ¬ okk b → w'.heap[b]? = w.heap[b]?) → w'.os = w.os → w'.tape = w.tape → w'.output = w.output → w.heap.size ≤ w'.heap.size → r.rd okk w' c x' → OwnD r B F E w' v (l.set k x') := by
  obtain ⟨tag, xs, h1, h2⟩ := h
  have hk := (List.getElem?_eq_some_iff.1 hx).1
  obtain ⟨g, cap, rfl, hBg, hg⟩ : ∃ g cap, v = .slice (some ⟨g, 0, none⟩) l.length cap ∧ B ≤ g ∧ g < w.heap.size := by
    rcases h1.2 with ⟨_, h0⟩ | ⟨g, cap, cur, hv, hb, hg, _⟩
    · omega
    · exact ⟨g, cap, hv, hb, (Array.getElem?_eq_some_iff.1 hg).1⟩
  obtain ⟨c, h3, h4, h5⟩ := h2.live.pick hx
  refine ⟨g, cap, c, _, rfl, hBg, hg, fun j hj => ?_, h4, fun b hb => ⟨hb.1.1.1, hb.1.1.2.1, fun e => hb.1.1.2.2 (by rw [e]; rfl)⟩, fun w' x' hf hos htp hout hsz hr => ?_⟩
  · rw [← h3 j hj, h1.cellAt]
    calc k * r.sz + j < k * r.sz + r.sz := by omega
      _ = (k + 1) * r.sz := by rw [Nat.add_mul]; omega
      _ ≤ l.length * r.sz := Nat.mul_le_mul_right _ (by omega)
  · have h6 := h5 w' x' (fun b hb hne => hf b hb.2 fun e => hne (by simpa using e.2)) hr
    refine ⟨tag, xs, ?_, h6.mono fun b hb => hb.1⟩
    rw [List.length_set]
    have hgk : w'.heap[g]? = w.heap[g]? := hf g hg fun e => e.1.1.2.2 rfl
    obtain ⟨hl, ⟨hv, h0⟩ | ⟨g', cap', cur, hv, r1, r2, r3⟩⟩ := h1
    · cases hv
    · cases hv
      exact ⟨hl, .inr ⟨g, cap, cur, rfl, r1, by rw [hgk]; exact r2, r3⟩⟩
end

/-- A slice that owns its row whole. -/
def ownRowR {α : Type} (r : Rep α) (E : TypeId) : Rep (List α) where
  sz := 1
  rd ok w cs l := ∃ v, cs = [v] ∧ (∀ b, v.ownBlock = some b → ok b) ∧ Own r 0 E (fun _ => False) w v l ∧ (l = [] → v = .slice none 0 0 ∨ ∃ g c, v = .slice (some ⟨g, 0, none⟩) 0 c)
  len h := by obtain ⟨v, rfl, _⟩ := h; rfl
  mono hk h := let ⟨v, e, h1, h2⟩ := h; ⟨v, e, fun b hb => hk b (h1 b hb), h2⟩
  live h := let ⟨v, e, h1, h2, h3⟩ := h; ⟨v, e, fun b hb => ⟨h1 b hb, (h2.lt b hb).2⟩, h2, h3⟩
  frame hf h := by
    obtain ⟨v, e, h1, ⟨xs, h2, h3⟩, h4⟩ := h
    refine ⟨v, e, h1, ⟨xs, ⟨h2.1, ?_⟩, (Chunks.frame (fun b hb => hb.1.elim) h3)⟩, h4⟩
    rcases h2.2 with h0 | ⟨g, cap, cur, hv, hb, hg, rest⟩
    · exact .inl h0
    · refine .inr ⟨g, cap, cur, hv, hb, ?_, rest⟩
      rw [hf g (h1 g (by rw [hv]; rfl))]; exact hg
  one h := by
    obtain ⟨v, rfl, _, ⟨xs, h2, _⟩, _⟩ := h
    intro u hu
    cases List.mem_singleton.1 hu
    rcases h2.2 with ⟨rfl, _⟩ | ⟨g, cap, cur, rfl, _⟩ <;> rfl

theorem ownRowR.sl {α : Type} {r : Rep α} {E : TypeId} {ok : Nat → Prop} {w : World} {v : Value} {l : List α} (hf : Flat r) (h : (ownRowR r E).rd ok w [v] l) : ∃ a n c, v = .slice a n c ∧ Sl r ok w a n c l := by
  obtain ⟨_, e, h1, h2, _⟩ := h
  cases e
  obtain ⟨a, n, c, rfl, h3⟩ := h2.sl
  refine ⟨a, n, c, rfl, h3.len, h3.cap, h3.bnd, h3.nil, h3.cells.imp id fun ⟨b, off, e, _, hb, hc⟩ => ⟨b, off, e, h1 b (by rw [e]; rfl), hb, fun i x hx => let ⟨cs, g1, g2⟩ := hc i x hx; ⟨cs, g1, hf g2⟩⟩⟩
theorem ownRowR.mk {α : Type} {r : Rep α} {B : Nat} {E : TypeId} {w : World} {v : Value} {l : List α} (h : Own r B E (fun _ => False) w v l) (hv : l = [] → v = .slice none 0 0 ∨ ∃ g c, v = .slice (some ⟨g, 0, none⟩) 0 c) : (ownRowR r E).rd (B ≤ ·) w [v] l := by
  refine ⟨v, rfl, fun b hb => (h.lt b hb).1, ?_, hv⟩
  obtain ⟨xs, h1, h2⟩ := h
  refine ⟨xs, ⟨h1.1, h1.2.imp id fun ⟨g, cap, cur, a1, a2, a3⟩ => ⟨g, cap, cur, a1, Nat.zero_le _, a3⟩⟩, h2⟩

section
variable {P : Program} {ops : Array Oper} {rest : List Oper} {o : Oper} {a : Act} {Q : Exit → Act → World → Prop} {α : Type} {r : Rep α} {B : Nat} {E : TypeId} {w : World}

/-- 'make([]T, 0, n)'. -/
theorem wpList_make0 {T bytes : Nat} {z : Value} (ht : SliceT P T E r.sz bytes z) (hg : o.guard = none) (l c : Operand) (hop : o.op = Op.makeSlice T l c)
    {kl kc : IntKind} {n : Nat} (hl : a.eval l = .int kl 0) (hc : a.eval c = .int kc (n : Int)) (b2 : bytes * n ≤ 281474976710656) (b3 : n ≤ maxLen) (b4 : B ≤ w.heap.size)
    (hK : ∀ w', (∀ F, OwnD r B F E w' (.slice (some ⟨w.heap.size, 0, none⟩) 0 n) []) → Below w.heap.size w w' → wpList P ops Q rest (a.put o.dst (.slice (some ⟨w.heap.size, 0, none⟩) 0 n)) w') : wpList P ops Q (o :: rest) a w := by
  obtain ⟨i, hi, hz0, hz1, hz2⟩ := info_parts ht.i
  refine wpList_make_own w hg l c T hop B E i z r.sz ht.u hi hz0 hz1 kl kc (n : Int) n hl hc rfl (by rw [hz2]; exact b2) b3 b4 fun w' h1 h2 => hK w' (fun F => ⟨fun _ => 0, [], h1, rfl⟩) (grown_below h2 (Nat.le_refl _) (fun k e => by cases e))

theorem chunks_made {ok : Nat → Prop} {z0 : α} {z : Array Value} (hz : r.rd ok w z.toList z0) : ∀ n, Chunks r ok w (madeCells z (n * r.sz)).toList (List.replicate n z0) := by
  intro n
  have hsz : z.size = r.sz := by rw [← Array.length_toList]; exact r.len hz
  have := Chunks.of_at (r := r) (ok := ok) (w := w) (xs := (madeCells z (n * r.sz)).toList) (l := List.replicate n z0) 0 (by simp [size_madeCells]) (fun i x hx => by
    obtain ⟨h1, h2⟩ := List.getElem?_eq_some_iff.1 hx
    rw [List.getElem_replicate] at h2
    subst h2
    simp only [List.length_replicate] at h1
    refine ⟨z.toList, fun j hj => ?_, hz⟩
    have hlt : i * r.sz + j < n * r.sz := by
      have : (i + 1) * r.sz ≤ n * r.sz := Nat.mul_le_mul_right _ (by omega)
      rw [Nat.add_mul] at this; omega
    have hm : (i * r.sz + j) % r.sz = j := by rw [Nat.mul_comm, Nat.mul_add_mod, Nat.mod_eq_of_lt hj]
    have hj' : j < z.size := by omega
    rw [Nat.zero_add]
    simp [madeCells, hlt, hsz, hm, getElem!_pos z j hj', hj'])
  simpa using this

/-- 'make([]T, n)'. -/
theorem wpList_makeN {T bytes : Nat} {z : Value} (ht : SliceT P T E r.sz bytes z) (hg : o.guard = none) (l c : Operand) (hop : o.op = Op.makeSlice T l c) {z0 : α} (hz : ∀ w, r.rd (fun _ => False) w z.cells.toList z0)
    {kl kc : IntKind} {n : Nat} (hl : a.eval l = .int kl (n : Int)) (hc : a.eval c = .int kc (n : Int)) (b2 : bytes * n ≤ 281474976710656) (b3 : n ≤ maxLen) (b4 : B ≤ w.heap.size)
    (hK : ∀ w', Own r B E (fun _ => False) w' (.slice (some ⟨w.heap.size, 0, none⟩) n n) (List.replicate n z0) → Below w.heap.size w w' → wpList P ops Q rest (a.put o.dst (.slice (some ⟨w.heap.size, 0, none⟩) n n)) w') : wpList P ops Q (o :: rest) a w := by
  obtain ⟨i, hi, hz0, hz1, hz2⟩ := info_parts ht.i
  refine wpList_make_full w hg l c T hop B E i z r.sz ht.u hi hz0 hz1 kl kc (n : Int) (n : Int) n hl hc rfl rfl (by rw [hz2]; exact b2) b3 b4 fun w' h1 h2 => hK w' ⟨_, by rw [List.length_replicate]; exact h1, ?_⟩ (grown_below h2 (Nat.le_refl _) (fun k e => by cases e))
  exact (chunks_made (hz w') n).mono fun b hb => hb.elim
end


section
variable {P : Program} {α : Type} {r : Rep α} {B : Nat} {E : TypeId} {w : World} {g cap : Nat} {l : List α}
/-- 'storeCells' into an owned row: the cells of some elements in a row. -/
theorem run_storeOwn (h : Own r B E (fun _ => False) w (.slice (some ⟨g, 0, none⟩) l.length cap) l) {s : Nat} {ys : List α} {news : List Value} (hn : Chunks r (fun _ => False) w news ys) (hs : s + ys.length ≤ l.length) (hne : l ≠ [] ∨ ys ≠ []) :
    ∃ w', (storeCells ⟨g, s * r.sz, none⟩ news).run P w = .ok () w' ∧ Own r B E (fun _ => False) w' (.slice (some ⟨g, 0, none⟩) l.length cap) (l.take s ++ ys ++ l.drop (s + ys.length)) ∧ w.grownBy w' (some g) ∧ w'.heap.size = w.heap.size := by
  obtain ⟨xs, h1, h2⟩ := h
  obtain ⟨hx, ⟨hv, _⟩ | ⟨g', cap', cur, hv, hb, hg, hnc, hcm, hcs, ht⟩⟩ := h1
  · cases hv
  · cases hv
    have hnl := hn.length
    have hxl := h2.length
    have hfit : s * r.sz + 0 + news.length ≤ cur.size := by
      rw [hcs, hnl, Nat.add_zero, ← Nat.add_mul]
      exact Nat.mul_le_mul_right _ (by omega)
    have hrun := run_storeCells_at P g (s * r.sz) E news 0 cur w hg hfit hn.one
    rw [Nat.add_zero] at hrun
    refine ⟨_, hrun, ?_, ⟨rfl, rfl, rfl, by simp, fun k _ hk => setRow_other w g k _ (fun e => hk (by simp [e]))⟩, by simp⟩
    have hlen' : (l.take s ++ ys ++ l.drop (s + ys.length)).length = l.length := by simp; omega
    have hcell : ∀ i, (xs.take (s * r.sz) ++ news ++ xs.drop (s * r.sz + news.length))[i]? = if i < s * r.sz then xs[i]? else if i < s * r.sz + news.length then news[i - s * r.sz]? else xs[i]? := by
      intro i
      have hs1 : s * r.sz ≤ xs.length := by rw [hxl]; exact Nat.mul_le_mul_right _ (by omega)
      have e1 : (xs.take (s * r.sz)).length = s * r.sz := by rw [List.length_take]; omega
      by_cases hi : i < s * r.sz
      · rw [if_pos hi, List.append_assoc, List.getElem?_append_left (by rw [e1]; exact hi), List.getElem?_take, if_pos hi]
      · rw [if_neg hi]
        by_cases hi2 : i < s * r.sz + news.length
        · rw [if_pos hi2, List.getElem?_append_left (by rw [List.length_append, e1]; exact hi2), List.getElem?_append_right (by rw [e1]; omega), e1]
        · rw [if_neg hi2, List.getElem?_append_right (by rw [List.length_append, e1]; omega), List.length_append, e1, List.getElem?_drop]
          congr 1; omega
    refine ⟨xs.take (s * r.sz) ++ news ++ xs.drop (s * r.sz + news.length), ⟨?_, .inr ⟨g, cap, _, by rw [hlen'], hb, setRow_heap w g cur _ E _ hg, by rw [hlen']; exact hnc, hcm, ?_, ?_⟩⟩, ?_⟩
    · rw [hlen', List.length_append, List.length_append, List.length_take, List.length_drop, hxl, hnl]
      have : (s + ys.length) * r.sz ≤ l.length * r.sz := Nat.mul_le_mul_right _ hs
      rw [Nat.add_mul] at this
      omega
    · rw [List.size_toArray, List.length_append, List.length_append, List.length_take, List.length_drop, Array.length_toList]
      omega
    · rw [hlen', ← ht]
      have hA : s * r.sz + news.length ≤ l.length * r.sz := by rw [hnl, ← Nat.add_mul]; exact Nat.mul_le_mul_right _ hs
      have hB2 : l.length * r.sz ≤ cur.size := by rw [hcs]; exact Nat.mul_le_mul_right _ hnc
      apply List.ext_getElem?
      intro i
      have e1 : (cur.toList.take (s * r.sz)).length = s * r.sz := by rw [List.length_take, Array.length_toList]; omega
      have e2 : ((cur.toList.take (l.length * r.sz)).take (s * r.sz)).length = s * r.sz := by simp only [List.length_take, Array.length_toList]; omega
      by_cases hi : i < s * r.sz
      · rw [List.getElem?_take, if_pos (by omega), List.append_assoc, List.getElem?_append_left (by rw [e1]; exact hi), List.append_assoc, List.getElem?_append_left (by rw [e2]; exact hi), List.getElem?_take, if_pos hi, List.getElem?_take, if_pos hi, List.getElem?_take, if_pos (by omega)]
      · by_cases hi2 : i < s * r.sz + news.length
        · rw [List.getElem?_take, if_pos (by omega), List.getElem?_append_left (by rw [List.length_append, e1]; exact hi2), List.getElem?_append_right (by rw [e1]; omega), e1,
            List.getElem?_append_left (by rw [List.length_append, e2]; exact hi2), List.getElem?_append_right (by rw [e2]; omega), e2]
        · rw [List.getElem?_take, List.getElem?_append_right (by rw [List.length_append, e1]; omega), List.getElem?_append_right (by rw [List.length_append, e2]; omega), List.length_append, List.length_append, e1, e2, List.getElem?_drop, List.getElem?_drop, List.getElem?_take]
          have : s * r.sz + news.length + (i - (s * r.sz + news.length)) = i := by omega
          rw [this]
    · -- the elements
      have := Chunks.of_at (r := r) (ok := fun b => False ∧ Option.some b ≠ (Value.slice (some ⟨g, 0, none⟩) l.length cap).ownBlock) (w := w.setRow g (cur.toList.take (s * r.sz) ++ news ++ cur.toList.drop (s * r.sz + news.length)).toArray) (xs := xs.take (s * r.sz) ++ news ++ xs.drop (s * r.sz + news.length)) (l := l.take s ++ ys ++ l.drop (s + ys.length)) 0 (by
          rw [hlen', List.length_append, List.length_append, List.length_take, List.length_drop, hxl, hnl]
          have : (s + ys.length) * r.sz ≤ l.length * r.sz := Nat.mul_le_mul_right _ hs
          rw [Nat.add_mul] at this
          omega) (fun i x hx => by
          have key : ∃ c w0, (∀ j, j < r.sz → (xs.take (s * r.sz) ++ news ++ xs.drop (s * r.sz + news.length))[i * r.sz + j]? = c[j]?) ∧ r.rd (fun _ => False) w0 c x := by
            have es : (l.take s).length = s := by rw [List.length_take]; omega
            by_cases hi : i < s
            · rw [List.append_assoc, List.getElem?_append_left (by rw [es]; exact hi), List.getElem?_take, if_pos hi] at hx
              obtain ⟨c, h3, h4⟩ := h2.at hx
              refine ⟨c, w, fun j hj => ?_, r.mono (fun b hb => hb.1) h4⟩
              rw [hcell, if_pos, h3 j hj]
              calc i * r.sz + j < i * r.sz + r.sz := by omega
                _ = (i + 1) * r.sz := by rw [Nat.add_mul]; omega
                _ ≤ s * r.sz := Nat.mul_le_mul_right _ (by omega)
            · by_cases hi2 : i < s + ys.length
              · rw [List.getElem?_append_left (by rw [List.length_append, es]; exact hi2), List.getElem?_append_right (by rw [es]; omega), es] at hx
                obtain ⟨c, h3, h4⟩ := hn.at hx
                refine ⟨c, w, fun j hj => ?_, h4⟩
                have e3 : s * r.sz ≤ i * r.sz := Nat.mul_le_mul_right _ (by omega)
                have e4 : (i + 1) * r.sz ≤ (s + ys.length) * r.sz := Nat.mul_le_mul_right _ (by omega)
                rw [Nat.add_mul, Nat.add_mul] at e4
                rw [hcell, if_neg (by omega), if_pos (by rw [hnl]; omega), ← h3 j hj]
                congr 1
                rw [Nat.sub_mul]; omega
              · rw [List.getElem?_append_right (by rw [List.length_append, es]; omega), List.length_append, es, List.getElem?_drop, show s + ys.length + (i - (s + ys.length)) = i by omega] at hx
                obtain ⟨c, h3, h4⟩ := h2.at hx
                refine ⟨c, w, fun j hj => ?_, r.mono (fun b hb => hb.1) h4⟩
                have e3 : (s + ys.length) * r.sz ≤ i * r.sz := Nat.mul_le_mul_right _ (by omega)
                rw [Nat.add_mul] at e3
                rw [hcell, if_neg (by omega), if_neg (by rw [hnl]; omega), h3 j hj]
          obtain ⟨c, w0, h3, h4⟩ := key
          exact ⟨c, fun j hj => by rw [Nat.zero_add]; exact h3 j hj, r.mono (fun b hb => hb.elim) (r.frame (fun b hb => hb.elim) h4)⟩)
      simpa using this
end

/-- Where a part of a slice lies. -/
def subAddr (a : Option Addr) (c lo sz : Nat) : Option Addr := if c = lo then a else a.map (·.add (lo * sz))

theorem run_sub {P : Program} {T E sz : Nat} (hT : P.underlying T = some (.slice E)) (hi : (P.info? E).map (·.size) = some sz) (a : Option Addr) (n c s k : Nat) (h : s + k ≤ c) (w : World) :
    (Instr.sliceAt T (.slice a n c) (some (.int .i64 (s : Int))) (some (.int .i64 ((s : Int) + (k : Int)))) none).run P w = .ok (.slice (subAddr a c s sz) k (c - s)) w := by
  have he : P.elem T = E := by simp [Program.elem, hT]
  have hT' : P.underlying T = some (.slice (P.elem T)) := by rw [he]; exact hT
  have hz : (sizeOf (P.elem T)).run P w = .ok sz w := by
    obtain ⟨i, hi, hs⟩ := Option.map_eq_some_iff.1 hi
    rw [he]; simp [sizeOf, typeInfo, hi, hs]
  rw [run_sliceAt_slice w T _ _ _ _ hT', run_slice_lh w T a n c hT' .i64 .i64 s (s + k) (by omega) (by omega) (by omega), hz, Result.andThen_ok]
  simp only [sliced, subAddr, Int.toNat_natCast]
  rw [show ((s : Int) + (k : Int)).toNat - s = k by omega]
/-- 'x[s:]'. -/
theorem run_subFrom {P : Program} {T E sz : Nat} (hT : P.underlying T = some (.slice E)) (hi : (P.info? E).map (·.size) = some sz) (a : Option Addr) (n c s : Nat) (h : s ≤ n) (w : World) :
    (Instr.sliceAt T (.slice a n c) (some (.int .i64 (s : Int))) none none).run P w = .ok (.slice (subAddr a c s sz) (n - s) (c - s)) w := by
  have he : P.elem T = E := by simp [Program.elem, hT]
  have hT' : P.underlying T = some (.slice (P.elem T)) := by rw [he]; exact hT
  have hz : (sizeOf (P.elem T)).run P w = .ok sz w := by
    obtain ⟨i, hi, hs⟩ := Option.map_eq_some_iff.1 hi
    rw [he]; simp [sizeOf, typeInfo, hi, hs]
  rw [run_sliceAt_slice w T _ _ _ _ hT', run_slice_l w T a n c hT' .i64 s (by omega) (by omega), hz, Result.andThen_ok]
  simp only [sliced, subAddr, Int.toNat_natCast]
theorem Sl.sub {α : Type} {r : Rep α} {ok : Nat → Prop} {w : World} {a : Option Addr} {n c : Nat} {l : List α} (h : Sl r ok w a n c l) {s k : Nat} (hk : s + k ≤ n) : Sl r ok w (subAddr a c s r.sz) k (c - s) ((l.drop s).take k) := by
  have h1 := h.len
  have h2 := h.cap
  refine ⟨by simp; omega, by omega, Nat.le_trans (Nat.sub_le _ _) h.bnd, fun e => ?_, ?_⟩
  · unfold subAddr at e
    split at e
    · omega
    · have : a = none := by simpa using e
      have := h.nil this
      omega
  · rcases h.cells with h0 | ⟨b, off, rfl, hb, hlt, hc⟩
    · left; omega
    · by_cases hk0 : k = 0
      · exact .inl hk0
      · refine .inr ⟨b, off + s * r.sz, ?_, hb, hlt, fun i x hx => ?_⟩
        · unfold subAddr
          rw [if_neg (by omega)]
          simp [Addr.add_lit]
        · have hik : i < k := by have := (List.getElem?_eq_some_iff.1 hx).1; simp at this; omega
          rw [List.getElem?_take, if_pos hik, List.getElem?_drop] at hx
          obtain ⟨cs, g1, g2⟩ := hc (s + i) x hx
          refine ⟨cs, fun j hj => ?_, g2⟩
          rw [← g1 j hj, Nat.add_mul, Nat.add_assoc off]

section
variable {P : Program} {ops : Array Oper} {rest : List Oper} {o : Oper} {a : Act} {Q : Exit → Act → World → Prop} {α : Type} {r : Rep α} {B : Nat} {E : TypeId} {w : World} {g cap : Nat} {l : List α}

/-- 'copy' into an owned row. -/
theorem wpList_copyOwn {T bytes : Nat} {z : Value} (ht : SliceT P T E r.sz bytes z) (hfl : Flat r) (hgd : o.guard = none) (d x : Operand)
    (ho : o.op = .call { callee := .builtin .copy, args := #[d, x], argTypes := #[T, T] }) {s dl dc : Nat} (hd : a.eval d = .slice (some ⟨g, s * r.sz, none⟩) dl dc) {ao : Option Addr} {m c : Nat} (hx : a.eval x = .slice ao m c)
    (h : Own r B E (fun _ => False) w (.slice (some ⟨g, 0, none⟩) l.length cap) l) {ok : Nat → Prop} {ys : List α} (hs : Sl r ok w ao m c ys) (hle : s + m ≤ l.length) (hm : 0 < m) (hdl : m ≤ dl)
    (hk : ∀ w', Own r B E (fun _ => False) w' (.slice (some ⟨g, 0, none⟩) l.length cap) (l.take s ++ ys ++ l.drop (s + ys.length)) → w.grownBy w' (some g) → w'.heap.size = w.heap.size → wpList P ops Q rest (a.put o.dst (.int .i64 m)) w') : wpList P ops Q (o :: rest) a w := by
  refine wpList_plain hgd fun K hK => ?_
  obtain ⟨i, hi, _, hz1, _⟩ := info_parts ht.i
  obtain ⟨hlen, hnil, news, hnews, hch⟩ := Src.of_sl hs
  obtain ⟨ad, rfl⟩ : ∃ ad, ao = some ad := by
    cases ao with
    | some ad => exact ⟨ad, rfl⟩
    | none => have := (hnil rfl).1; omega
  have hnl := hch.length
  obtain ⟨w', hst, h1, h2, h3⟩ := run_storeOwn (P := P) h (s := s) (ys := ys) (hch.flat hfl) (by omega) (.inr (by intro e; rw [e] at hlen; simp at hlen; omega))
  have hld := run_loadCells_list (P := P) (w := w) ad news (hnews ad rfl)
  have hmin : Nat.min m dl = m := Nat.min_eq_left hdl
  rw [hnl, hlen] at hld
  unfold Oper.wp execOp
  have hrun : (Builtin.copy_ #[T, T] o.type #[.slice (some ⟨g, s * r.sz, none⟩) dl dc, .slice (some ad) m c]).run P w = .ok (goInt m) w' := by
    simp [Builtin.copy_, run_underlying ht.u, Builtin.lenOf, Builtin.firstCells, sizeOf, typeInfo, hi, hz1, hmin, hld, hst]
  simp only [ho, resolve, invoke, builtin, Sem.run_bind, Sem.run_pure, Result.andThen_ok, List.map_toArray, List.map_cons, List.map_nil, hd, hx, hrun]
  exact hK _ _ (hk w' h1 h2 h3)

/-- A store of a whole element into an owned row. -/
theorem wpList_storeOwn {T : TypeId} (hgd : o.guard = none) (p x : Operand) (ho : o.op = .store T p x) (hi : (P.info? T).map (·.size) = some r.sz) {s : Nat} (hp : a.eval p = .pointer (some ⟨g, s * r.sz, none⟩)) {v : Value} (hx : a.eval x = v)
    (h : Own r B E (fun _ => False) w (.slice (some ⟨g, 0, none⟩) l.length cap) l) {y : α} (hv : r.rd (fun _ => False) w v.cells.toList y) (hle : s < l.length)
    (hk : ∀ w', Own r B E (fun _ => False) w' (.slice (some ⟨g, 0, none⟩) l.length cap) (l.take s ++ [y] ++ l.drop (s + 1)) → w.grownBy w' (some g) → w'.heap.size = w.heap.size → wpList P ops Q rest (a.put o.dst undef) w') : wpList P ops Q (o :: rest) a w := by
  refine wpList_plain hgd fun K hK => ?_
  obtain ⟨i, hi, hz⟩ := Option.map_eq_some_iff.1 hi
  obtain ⟨w', hst, h1, h2, h3⟩ := run_storeOwn (P := P) h (s := s) (ys := [y]) (Chunks.single hv) (by simp; omega) (.inr (by simp))
  have hlen : v.cells.size = r.sz := by rw [← Array.length_toList]; exact r.len hv
  unfold Oper.wp execOp
  have hrun : (storeVar T ⟨g, s * r.sz, none⟩ v).run P w = .ok () w' := by
    simp [storeVar, sizeOf, typeInfo, hi, hz, hlen, hst]
  simp only [ho, hp, hx, Instr.storeAt, Instr.sureAddr, Sem.run_bind, Sem.run_pure, Result.andThen_ok, hrun]
  exact hK _ _ (hk w' (by simpa using h1) h2 h3)
end

section
variable {ok : Nat → Prop} {w : World} {n c : Nat}
/-- The cells of a write in a list. -/
theorem Sl.wr {b off : Nat} {l : List (Int × Int × List Sec)} (h : Sl (pairR intR (pairR intR (listR secR))) ok w (some ⟨b, off, none⟩) n c l) {k : Nat} {v s : Int} {d : List Sec} (hx : l[k]? = some (v, s, d)) :
    ∃ a' n' c', w.cell? ⟨b, off + k * 3, none⟩ = some (.int .i64 v) ∧ w.cell? ⟨b, off + k * 3 + 1, none⟩ = some (.int .i64 s) ∧ w.cell? ⟨b, off + k * 3 + 2, none⟩ = some (.slice a' n' c') ∧ i64ok v ∧ i64ok s ∧ Sl secR ok w a' n' c' d := by
  obtain ⟨cs, h1, c1, c2, rfl, ⟨rfl, hv⟩, c3, c4, rfl, ⟨rfl, hs⟩, a', n', c', rfl, hd⟩ := h.at hx
  refine ⟨a', n', c', ?_, ?_, ?_, hv, hs, hd⟩
  · exact h1 0 (by show 0 < 3; omega)
  · exact h1 1 (by show 1 < 3; omega)
  · exact h1 2 (by show 2 < 3; omega)
theorem Sl.ext {b off : Nat} {l : List (Int × Int)} (h : Sl (pairR intR intR) ok w (some ⟨b, off, none⟩) n c l) {k : Nat} {s m : Int} (hx : l[k]? = some (s, m)) :
    w.cell? ⟨b, off + k * 2, none⟩ = some (.int .i64 s) ∧ w.cell? ⟨b, off + k * 2 + 1, none⟩ = some (.int .i64 m) ∧ i64ok s ∧ i64ok m := by
  obtain ⟨cs, h1, c1, c2, rfl, ⟨rfl, hv⟩, ⟨rfl, hs⟩⟩ := h.at hx
  exact ⟨h1 0 (by show 0 < 2; omega), h1 1 (by show 1 < 2; omega), hv, hs⟩
end

end Go.Proofs.Ytldnpgbacakfeaa
