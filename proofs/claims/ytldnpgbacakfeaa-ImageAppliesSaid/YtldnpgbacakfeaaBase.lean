/-
  Readings of Go's data in memory, as plain Lean data. No program is named here.
-/
import Derived.WalkKit
import Derived.Lib.Hide
import Derived.BigQuiet
import Derived.Deep.QuietTactic
import Derived.Deep.LoopGhost
import Derived.Deep.Draws
import Derived.ChangeKeysEq
import Derived.Laws.StructEq
namespace Go.Proofs.Ytldnpgbacakfeaa
open Go.RowKit

/-- How data of type α lie in cells: so many cells; what it means that the cells 'cs' read as x, every block that is looked into being one of 'ok'. -/
structure Rep (α : Type) where
  sz : Nat
  rd : (Nat → Prop) → World → List Value → α → Prop
  len : ∀ {ok w cs x}, rd ok w cs x → cs.length = sz
  mono : ∀ {ok ok' : Nat → Prop} {w cs x}, (∀ b, ok b → ok' b) → rd ok w cs x → rd ok' w cs x
  live : ∀ {ok w cs x}, rd ok w cs x → rd (fun b => ok b ∧ b < w.heap.size) w cs x
  frame : ∀ {ok} {w w' : World} {cs x}, (∀ b, ok b → w'.heap[b]? = w.heap[b]?) → rd ok w cs x → rd ok w' cs x
  one : ∀ {ok w cs x}, rd ok w cs x → ∀ u ∈ cs, u.oneCell' = true

def i64ok (n : Int) : Prop := -9223372036854775808 ≤ n ∧ n ≤ 9223372036854775807

def intR : Rep Int where
  sz := 1
  rd _ _ cs n := cs = [.int .i64 n] ∧ i64ok n
  len h := by rw [h.1]; rfl
  mono _ h := h
  live h := h
  frame _ h := h
  one h := by rw [h.1]; intro u hu; cases List.mem_singleton.1 hu; rfl

def boolR : Rep Bool where
  sz := 1
  rd _ _ cs b := cs = [.bool b]
  len h := by rw [h]; rfl
  mono _ h := h
  live h := h
  frame _ h := h
  one h := by rw [h]; intro u hu; cases List.mem_singleton.1 hu; rfl

def u8R : Rep UInt8 where
  sz := 1
  rd _ _ cs b := cs = [.int .u8 (b.toNat : Int)]
  len h := by rw [h]; rfl
  mono _ h := h
  live h := h
  frame _ h := h
  one h := by rw [h]; intro u hu; cases List.mem_singleton.1 hu; rfl

def u64R : Rep UInt64 where
  sz := 1
  rd _ _ cs b := cs = [.int .u64 (b.toNat : Int)]
  len h := by rw [h]; rfl
  mono _ h := h
  live h := h
  frame _ h := h
  one h := by rw [h]; intro u hu; cases List.mem_singleton.1 hu; rfl

/-- The content of a sector: eight bytes. -/
abbrev Sec := Vector UInt8 8
def secCells (x : Sec) : List Value := x.toList.map fun b => .int .u8 (b.toNat : Int)
theorem secCells_length (x : Sec) : (secCells x).length = 8 := by simp [secCells]
theorem secCells_one (x : Sec) : ∀ u ∈ secCells x, u.oneCell' = true := by
  intro u hu; obtain ⟨_, _, rfl⟩ := List.mem_map.1 hu; rfl

def secR : Rep Sec where
  sz := 8
  rd _ _ cs x := cs = secCells x
  len h := by rw [h]; exact secCells_length _
  mono _ h := h
  live h := h
  frame _ h := h
  one h := by rw [h]; exact secCells_one _

/-- Two parts, one behind the other. -/
def pairR {α β : Type} (r : Rep α) (s : Rep β) : Rep (α × β) where
  sz := r.sz + s.sz
  rd ok w cs x := ∃ c1 c2, cs = c1 ++ c2 ∧ r.rd ok w c1 x.1 ∧ s.rd ok w c2 x.2
  len h := by obtain ⟨c1, c2, rfl, h1, h2⟩ := h; simp [r.len h1, s.len h2]
  mono hk h := by obtain ⟨c1, c2, rfl, h1, h2⟩ := h; exact ⟨c1, c2, rfl, r.mono hk h1, s.mono hk h2⟩
  live h := by obtain ⟨c1, c2, rfl, h1, h2⟩ := h; exact ⟨c1, c2, rfl, r.live h1, s.live h2⟩
  frame hf h := by obtain ⟨c1, c2, rfl, h1, h2⟩ := h; exact ⟨c1, c2, rfl, r.frame hf h1, s.frame hf h2⟩
  one h := by
    obtain ⟨c1, c2, rfl, h1, h2⟩ := h
    intro u hu
    rcases List.mem_append.1 hu with hu | hu
    · exact r.one h1 u hu
    · exact s.one h2 u hu

/-- The slice value with these three parts reads as the list l. -/
structure Sl {α : Type} (r : Rep α) (ok : Nat → Prop) (w : World) (a : Option Addr) (n c : Nat) (l : List α) : Prop where
  len : l.length = n
  cap : n ≤ c
  bnd : c ≤ maxLen
  nil : a = none → c = 0
  cells : n = 0 ∨ ∃ b off, a = some ⟨b, off, none⟩ ∧ ok b ∧ b < w.heap.size ∧
    ∀ i x, l[i]? = some x → ∃ cs, (∀ j, j < r.sz → w.cell? ⟨b, off + i * r.sz + j, none⟩ = cs[j]?) ∧ r.rd ok w cs x

theorem live_of_same {w w' : World} {b : Nat} (h : w'.heap[b]? = w.heap[b]?) (hb : b < w.heap.size) : b < w'.heap.size := by
  rcases Nat.lt_or_ge b w'.heap.size with g | g
  · exact g
  · rw [Array.getElem?_eq_none g, Array.getElem?_eq_getElem hb] at h; cases h

theorem Sl.mono {α : Type} {r : Rep α} {ok ok' : Nat → Prop} {w : World} {a : Option Addr} {n c : Nat} {l : List α} (hk : ∀ b, ok b → ok' b) (h : Sl r ok w a n c l) : Sl r ok' w a n c l :=
  ⟨h.len, h.cap, h.bnd, h.nil, h.cells.imp id fun ⟨b, off, h1, h2, h3, h4⟩ => ⟨b, off, h1, hk _ h2, h3, fun i x hx => let ⟨cs, h5, h6⟩ := h4 i x hx; ⟨cs, h5, r.mono hk h6⟩⟩⟩
theorem Sl.live {α : Type} {r : Rep α} {ok : Nat → Prop} {w : World} {a : Option Addr} {n c : Nat} {l : List α} (h : Sl r ok w a n c l) : Sl r (fun b => ok b ∧ b < w.heap.size) w a n c l :=
  ⟨h.len, h.cap, h.bnd, h.nil, h.cells.imp id fun ⟨b, off, h1, h2, h3, h4⟩ => ⟨b, off, h1, ⟨h2, h3⟩, h3, fun i x hx => let ⟨cs, h5, h6⟩ := h4 i x hx; ⟨cs, h5, r.live h6⟩⟩⟩
theorem Sl.frame {α : Type} {r : Rep α} {ok : Nat → Prop} {w w' : World} {a : Option Addr} {n c : Nat} {l : List α} (hf : ∀ b, ok b → w'.heap[b]? = w.heap[b]?) (h : Sl r ok w a n c l) : Sl r ok w' a n c l :=
  ⟨h.len, h.cap, h.bnd, h.nil, h.cells.imp id fun ⟨b, off, h1, h2, h3, h4⟩ => ⟨b, off, h1, h2, live_of_same (hf b h2) h3,
    fun i x hx => let ⟨cs, h5, h6⟩ := h4 i x hx; ⟨cs, fun j hj => (World.cell?_of_block (w := w) (a := ⟨b, _, none⟩) (hf b h2)).trans (h5 j hj), r.frame hf h6⟩⟩⟩
/-- What was there stays. -/
theorem Sl.below {α : Type} {r : Rep α} {ok : Nat → Prop} {w w' : World} {a : Option Addr} {n c : Nat} {l : List α} (hb : Below w.heap.size w w') (h : Sl r ok w a n c l) : Sl r ok w' a n c l :=
  (Sl.frame (fun b hb' => hb.block b hb'.2) h.live).mono fun _ h => h.1

def listR {α : Type} (r : Rep α) : Rep (List α) where
  sz := 1
  rd ok w cs l := ∃ a n c, cs = [.slice a n c] ∧ Sl r ok w a n c l
  len h := by obtain ⟨a, n, c, rfl, _⟩ := h; rfl
  mono hk h := let ⟨a, n, c, e, h⟩ := h; ⟨a, n, c, e, h.mono hk⟩
  live h := let ⟨a, n, c, e, h⟩ := h; ⟨a, n, c, e, h.live⟩
  frame hf h := let ⟨a, n, c, e, h⟩ := h; ⟨a, n, c, e, h.frame hf⟩
  one h := by obtain ⟨a, n, c, rfl, _⟩ := h; intro u hu; cases List.mem_singleton.1 hu; rfl

section
variable {ok : Nat → Prop} {w : World} {a : Option Addr} {n c : Nat}
/-- Where there is an element the slice lies somewhere. -/
theorem Sl.addr {α : Type} {r : Rep α} {l : List α} (h : Sl r ok w a n c l) {k : Nat} (hk : k < n) : ∃ b off, a = some ⟨b, off, none⟩ ∧ ok b ∧ b < w.heap.size := by
  rcases h.cells with h0 | ⟨b, off, h1, h2, h3, _⟩
  · omega
  · exact ⟨b, off, h1, h2, h3⟩
theorem Sl.at {α : Type} {r : Rep α} {b off : Nat} {l : List α} (h : Sl r ok w (some ⟨b, off, none⟩) n c l) {k : Nat} {x : α} (hx : l[k]? = some x) :
    ∃ cs, (∀ j, j < r.sz → w.cell? ⟨b, off + k * r.sz + j, none⟩ = cs[j]?) ∧ r.rd ok w cs x := by
  rcases h.cells with h0 | ⟨b', off', h1, _, _, h4⟩
  · have := (List.getElem?_eq_some_iff.1 hx).1
    have := h.len
    omega
  · cases h1
    exact h4 k x hx
theorem Sl.get {α : Type} {r : Rep α} {l : List α} (h : Sl r ok w a n c l) {k : Nat} (hk : k < n) : ∃ x, l[k]? = some x := by
  have := h.len
  exact ⟨l[k], List.getElem?_eq_getElem (by omega)⟩
theorem Sl.int {b off : Nat} {l : List Int} (h : Sl intR ok w (some ⟨b, off, none⟩) n c l) {k : Nat} {x : Int} (hx : l[k]? = some x) :
    w.cell? ⟨b, off + k, none⟩ = some (.int .i64 x) ∧ i64ok x := by
  obtain ⟨cs, h1, rfl, h2⟩ := h.at hx
  refine ⟨?_, h2⟩
  have := h1 0 Nat.zero_lt_one
  simpa [intR] using this
theorem Sl.slice {α : Type} {r : Rep α} {b off : Nat} {l : List (List α)} (h : Sl (listR r) ok w (some ⟨b, off, none⟩) n c l) {k : Nat} {x : List α} (hx : l[k]? = some x) :
    ∃ a' n' c', w.cell? ⟨b, off + k, none⟩ = some (.slice a' n' c') ∧ Sl r ok w a' n' c' x := by
  obtain ⟨cs, h1, a', n', c', rfl, h2⟩ := h.at hx
  refine ⟨a', n', c', ?_, h2⟩
  have := h1 0 Nat.zero_lt_one
  simpa [listR] using this
theorem Sl.sec {b off : Nat} {l : List Sec} (h : Sl secR ok w (some ⟨b, off, none⟩) n c l) {k : Nat} {x : Sec} (hx : l[k]? = some x) :
    ∀ j, j < 8 → w.cell? ⟨b, off + k * 8 + j, none⟩ = (secCells x)[j]? := by
  obtain ⟨cs, h1, rfl⟩ := h.at hx
  exact h1
end

/-- A load of a struct or an array, whatever its cells hold. -/
theorem run_loadAgg {P : Program} {w : World} {T : TypeId} {d : TypeDesc} {ad : Addr} {cs : List Value} (hu : P.underlying T = some d) (hd : (match d with | .struct _ | .array _ _ => true | _ => false) = true)
    (hi : (P.info? T).map (·.size) = some cs.length) (hc : ∀ j, j < cs.length → w.cell? (ad.add j) = cs[j]?) : (loadVar T ad).run P w = .ok (.agg cs.toArray) w := by
  have hl := run_loadCells_list (P := P) (w := w) ad cs (fun j v hv => by
    have h1 := (List.getElem?_eq_some_iff.1 hv).1
    rw [hc j h1]; exact hv)
  obtain ⟨i, hi, hi2⟩ := Option.map_eq_some_iff.1 hi
  have hag : (isAgg T).run P w = .ok true w := by
    unfold isAgg
    simp only [Sem.run_bind, run_underlying hu, Result.andThen_ok]
    cases d <;> first | rfl | (simp at hd)
  simp [loadVar, hag, sizeOf, typeInfo, hi, hi2, hl]

/-- An operation that loads, in a region that only reads: its run is given. -/
theorem quiet_load {P : Program} {C : World → Prop} {K : Act → Prop} {a : Act} {o : Oper} (T : TypeId) (x : Operand) (ho : o.op = .load T x) (ad : Addr) (hx : a.eval x = .pointer (some ad)) (v : Value)
    (hrun : ∀ w, C w → (loadVar T ad).run P w = .ok v w) (hk : K (a.put o.dst v)) : o.quiet P a C K :=
  ⟨v, fun w hw => by
    unfold Oper.quietAt execOp
    simp only [ho, hx, Instr.loadAt, Instr.sureAddr, Sem.run_bind, Sem.run_pure, Result.andThen_ok, hrun w hw]
    exact ⟨rfl, rfl⟩, hk⟩

theorem wpList_load {P : Program} {ops : Array Oper} {rest : List Oper} {o : Oper} {a : Act} {w : World} {Q : Exit → Act → World → Prop} (hgd : o.guard = none) (T : TypeId) (x : Operand) (ho : o.op = .load T x)
    (ad : Addr) (hx : a.eval x = .pointer (some ad)) (v : Value) (hrun : (loadVar T ad).run P w = .ok v w) (h : wpList P ops Q rest (a.put o.dst v) w) : wpList P ops Q (o :: rest) a w :=
  wpList_plain hgd fun _ hK => by
    unfold Oper.wp execOp
    simp only [ho, hx, Instr.loadAt, Instr.sureAddr, Sem.run_bind, Sem.run_pure, Result.andThen_ok, hrun]
    exact hK _ _ h

theorem run_eqItems_bytes {P : Program} {w : World} {d : Nat} {e : TypeId} {k : IntKind} (he : P.underlying e = some (.int k)) (f : UInt8 → Int) (hf : ∀ a b, f a = f b → a = b) (xs ys : List UInt8) (hl : xs.length = ys.length) :
    ∀ (m i : Nat), i + m = xs.length → (Op.eqItems (d + 1) e 1 ((xs.map fun b => Value.int k (f b)).toArray) ((ys.map fun b => Value.int k (f b)).toArray) (List.range' i m)).run P w = .ok (xs.drop i == ys.drop i) w := by
  have hag : (isAgg e).run P w = .ok false w := by unfold isAgg; simp only [Sem.run_bind, run_underlying he, Result.andThen_ok]; rfl
  intro m
  induction m with
  | zero =>
    intro i hi
    rw [List.drop_eq_nil_of_le (by omega), List.drop_eq_nil_of_le (by omega)]
    simp [Op.eqItems]
  | succ m ih =>
    intro i hi
    have h1 : i < xs.length := by omega
    have h2 : i < ys.length := by omega
    rw [List.range'_succ, List.drop_eq_getElem_cons h1, List.drop_eq_getElem_cons h2]
    simp only [Op.eqItems, part, Sem.run_bind, hag, Result.andThen_ok, Nat.mul_one, List.getElem?_toArray, List.getElem?_map, List.getElem?_eq_getElem h1, List.getElem?_eq_getElem h2, Option.map_some, Sem.run_pure, Bool.false_eq_true, if_false, run_equalIn_int w d e k k _ _ he]
    by_cases hab : f xs[i] = f ys[i]
    · have hxy := hf _ _ hab
      simp only [beq_self_eq_true, Bool.not_true, Bool.false_eq_true, if_false, ih (i + 1) (by omega), hxy, List.cons_beq_cons, Bool.true_and]
    · have hxy : ¬ xs[i] = ys[i] := fun h => hab (by rw [h])
      simp only [beq_eq_false_iff_ne.2 hab, Bool.not_false, if_true, List.cons_beq_cons, beq_eq_false_iff_ne.2 hxy, Bool.false_and, Sem.run_pure]

/-- '==' at two sectors. -/
theorem run_equalIn_sec {P : Program} {T e : TypeId} {i : TypeInfo} (hT : P.underlying T = some (.array 8 e)) (he : P.underlying e = some (.int .u8)) (hi : P.info? e = some i) (hc : P.cellsOf e = 1) (x y : Sec) (w : World) :
    (Op.equalIn 10000 T (.agg (secCells x).toArray) (.agg (secCells y).toArray)).run P w = .ok (x == y) w := by
  rw [run_equalIn_array w 9999 _ _ hT hi, hc, List.range_eq_range']
  have := run_eqItems_bytes (P := P) (w := w) (d := 9998) he (fun b => (b.toNat : Int)) (fun a b h => UInt8.toNat_inj.1 (by omega)) x.toList y.toList (by simp) 8 0 (by simp)
  rw [secCells, secCells, this]
  simp only [List.drop_zero]
  congr 1
  rw [Bool.eq_iff_iff, beq_iff_eq, beq_iff_eq]
  constructor
  · intro h; exact Vector.toList_inj.1 h
  · intro h; rw [h]


/-- The worlds in which all that stood in W is as it was. (A type of its own, so that the walk does not take it apart.) -/
structure Later (W : World) where
  w : World
  below : Below W.heap.size W w
instance (W : World) : Nonempty (Later W) := ⟨⟨W, Below.refl _ _⟩⟩
def LaterS (W : World) : World → Prop := fun w' => ∃ x : Later W, w' = x.w
theorem LaterS.of {W w : World} (h : Below W.heap.size W w) : LaterS W w := ⟨⟨w, h⟩, rfl⟩
theorem LaterS.drew (W : World) : LaterS W W.drew := .of ((Below.refl _ _).drew)

end Go.Proofs.Ytldnpgbacakfeaa
