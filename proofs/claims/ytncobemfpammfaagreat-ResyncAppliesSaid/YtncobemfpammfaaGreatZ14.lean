/-
  Part 14 of the texts that the statement stands on.
-/
import Derived.Test.YtncobemfpammfaaGreatZ13
import Derived.ProofKit
import Derived.SizedLaws
import Derived.OpenShut
import Derived.Deep.Strs
set_option linter.all false
namespace Go.Proofs.YtncobemfpammfaaGreat.V
theorem few7_b' {im : Img} (h : few7 im = true) : im.length ≤ 9 ∧ ∀ v ∈ im, v.length ≤ 24 := by
  unfold few7 at h
  simp only [Bool.and_eq_true, decide_eq_true_eq] at h
  exact ⟨h.1, fun v hv => by simpa using List.all_eq_true.1 h.2 v hv⟩
theorem wrN_len {im : Img} {l : List (List Exn)} {k : Nat} (hr : ∀ x ∈ l, x.length ≤ k) : ∀ n, n ≤ l.length → (wrN im l n).length ≤ k * n
  | 0, _ => by simp [wrN]
  | n + 1, h => by
    have ih := wrN_len (im := im) hr n (by omega)
    have h2 := hr _ (List.getElem_mem (show n < l.length by omega))
    rw [wrN_succ, List.length_append, show l.getD n [] = l[n] by simp [show n < l.length by omega], Nat.mul_add, Nat.mul_one]
    simp only [wrV, List.length_map]
    omega
end Go.Proofs.YtncobemfpammfaaGreat.V

namespace Go.Proofs.YtncobemfpammfaaGreat
open Go.RowKit Go.ChangeShapes Go.WideShapes Go.ChangeAt

theorem resrep_true {T : Tags} {w : World} {b : Bool} {v : Value} (h : ResRep T w [(.bool b, false)] v) : v = .bool b := by
  obtain ⟨arr, h1, h2, h3⟩ := h
  have ha : arr.size = 1 := h1
  have e0 : arr[0]? = some arr[0] := Array.getElem?_eq_getElem (by omega)
  have hv : v = arr[0] := by rw [h2, if_pos ha, Array.getD_eq_getD_getElem?, e0]; rfl
  have hr : PRep (fun b => T b = .ro) w (.bool b) arr[0] := h3 0 (.bool b, false) arr[0] rfl e0
  rw [hv]
  exact hr.bool_inv
def GlobIn (w : World) : Prop := GlobOk (fun b => if b < w.heap.size then .ro else .other) w
theorem GlobIn.none {w : World} : GlobIn w := fun p hp => by cases hp
theorem calls_true {P : Program} {env : Env} {f : Nat} {args : List PV} {vs : List Value} {w : World} (hE : EnvOk P env) (h : cal env f args = some [(.bool true, false)]) (hl : vs.length = args.length)
    (hr : ∀ (i : Nat) x v, args[i]? = some x → vs[i]? = some v → PRep (fun b => b < w.heap.size) w x v) (hG : GlobIn w) : Calls P f vs.toArray w (fun e w' => e = .returned (.bool true) ∧ Below w.heap.size w w') := by
  obtain ⟨n, hn⟩ := vmCall_of_cal h
  have hC := (vmCall_ok hE hn).2 (fun b => if b < w.heap.size then .ro else .other) w vs (fun b => by
    by_cases hb : b < w.heap.size
    · exact .inl (if_pos hb)
    · exact .inr (if_neg hb)) (fun b hb => if_neg (by omega)) hl (fun i x v hx hv => (hr i x v hx hv).frame fun b hb _ => ⟨if_pos hb, rfl⟩) hG
  refine hC.mono ?_
  rintro e w' ⟨v, T', rfl, h1, _, _, h2⟩
  exact ⟨by rw [resrep_true h2], h1⟩

def RepAll (w : World) : List PV → List Value → Prop
  | [], [] => True
  | x :: xs, v :: vs => PRep (fun b => b < w.heap.size) w x v ∧ RepAll w xs vs
  | _, _ => False
theorem RepAll.get {w : World} : ∀ {xs : List PV} {vs : List Value}, RepAll w xs vs → vs.length = xs.length ∧ ∀ (i : Nat) x v, xs[i]? = some x → vs[i]? = some v → PRep (fun b => b < w.heap.size) w x v
  | [], [], _ => ⟨rfl, fun i x v hx => by simp at hx⟩
  | x :: xs, v :: vs, h => by
    obtain ⟨h1, h2⟩ := h
    obtain ⟨k1, k2⟩ := h2.get
    refine ⟨by simp [k1], fun i y u hy hu => ?_⟩
    cases i with
    | zero => cases hy; cases hu; exact h1
    | succ i => exact k2 i y u hy hu
  | [], _ :: _, h => h.elim
  | _ :: _, [], h => h.elim
theorem calls_all {P : Program} {env : Env} {f : Nat} {args : List PV} {vs : List Value} {w : World} (hE : EnvOk P env) (h : cal env f args = some [(.bool true, false)]) (hr : RepAll w args vs) (hG : GlobIn w := by exact GlobIn.none) : Calls P f vs.toArray w (fun e w' => e = .returned (.bool true) ∧ Below w.heap.size w w') :=
  calls_true hE h hr.get.1 hr.get.2 hG
def CRep (w : World) (cs : List Value) (ps : List PV) : Prop :=
  cs.length = ps.length ∧ (∀ c ∈ cs, c.oneCell' = true) ∧ ∀ (j : Nat) x v, ps[j]? = some x → cs[j]? = some v → PRep (fun b => b < w.heap.size) w x v
def RdsC (P : Program) (t : TypeId) (n : Nat) (S : List PV → Prop) : Prop :=
  P.cellsOf t = n ∧ ∀ {H : Type} {enc : TypeId × Value → H} {w : World} {fuel : Nat} {cs : List Value} {x : DataW H × List MemPlace}, DataW.trod enc P w 0 (fun _ => true) true fuel t cs = some x → ∃ ps, S ps ∧ ps.length = n ∧ CRep w cs ps
def SInt (k : IntKind) (ps : List PV) : Prop := ∃ n, (Lit.int k n).wf = true ∧ ps = [.int k n]
def SBool (ps : List PV) : Prop := ∃ b, ps = [.bool b]
def SArr (n : Nat) (S : List PV → Prop) (ps : List PV) : Prop := ps.length = n ∧ ∀ p ∈ ps, S [p]
def wrS (ps : List PV) : PV := ps.headD .void
def SList (n : Nat) (S : List PV → Prop) (wr : List PV → PV) (ps : List PV) : Prop := ∃ es, ps = [.list n es] ∧ ∀ x ∈ es, ∃ q, S q ∧ x = wr q
def SCat : List (List PV → Prop) → List PV → Prop
  | [], ps => ps = []
  | S :: Ss, ps => ∃ p q, ps = p ++ q ∧ S p ∧ SCat Ss q

section
variable {P : Program} {t e : TypeId} {n m : Nat} {S : List PV → Prop} {k : IntKind}
theorem crep_one {w : World} {c : Value} {p : PV} (hc : c.oneCell' = true) (h : PRep (fun b => b < w.heap.size) w p c) : CRep w [c] [p] :=
  ⟨rfl, fun x hx => by rw [List.mem_singleton.1 hx]; exact hc, fun j x v hx hv => by
    cases j with
    | zero => cases hx; cases hv; exact h
    | succ j => simp at hx⟩
theorem RdsC.int (ht : P.underlying t = some (.int k)) (hc : P.cellsOf t = 1) : RdsC P t 1 (SInt k) := ⟨hc, fun h => by
  obtain ⟨n, rfl, _, hw⟩ := DataW.trod_int ht h
  exact ⟨[.int k n], ⟨n, hw, rfl⟩, rfl, crep_one rfl (.int k n)⟩⟩
theorem RdsC.bool (ht : P.underlying t = some .bool) (hc : P.cellsOf t = 1) : RdsC P t 1 SBool := ⟨hc, fun h => by
  obtain ⟨b, rfl, _⟩ := DataW.trod_bool ht h
  exact ⟨[.bool b], ⟨b, rfl⟩, rfl, crep_one rfl (.bool b)⟩⟩
theorem each_pick {α : Type} {p : Nat → α → Prop} : ∀ n : Nat, (∀ i, i < n → ∃ y, p i y) → ∃ l : List α, l.length = n ∧ ∀ i x, l[i]? = some x → p i x
  | 0, _ => ⟨[], rfl, fun i x h => by simp at h⟩
  | n + 1, h => by
    obtain ⟨l, h1, h2⟩ := each_pick n fun i hi => h i (by omega)
    obtain ⟨y, hy⟩ := h n (by omega)
    refine ⟨l ++ [y], by simp [h1], fun i x hx => ?_⟩
    by_cases hi : i < n
    · rw [List.getElem?_append_left (by omega)] at hx; exact h2 i x hx
    · have := (List.getElem?_eq_some_iff.1 hx).1
      obtain rfl : i = n := by simp at this; omega
      rw [List.getElem?_append_right (by omega), h1, Nat.sub_self] at hx
      cases hx
      exact hy
theorem RdsC.arr (ht : P.underlying t = some (.array n e)) (he : RdsC P e 1 S) (hc : P.cellsOf t = n) : RdsC P t n (SArr n S) := ⟨hc, fun {H enc w fuel cs x} h => by
  obtain ⟨xs, m, _, _, hl, hx, hE⟩ := DataW.trod_array ht h
  rw [hc] at hl
  obtain ⟨l, h1, h2⟩ := each_pick (p := fun i (b : PV) => S [b] ∧ ∃ c, cs[i]? = some c ∧ c.oneCell' = true ∧ PRep (fun b => b < w.heap.size) w b c) n fun i hi => by
    have := hE i hi
    rw [List.getElem?_eq_getElem (by omega), he.1] at this
    obtain ⟨ps, g1, g2, g3, g4, g5⟩ := he.2 this
    match ps, g2 with
    | [p], _ =>
      have hci : cs[i]? = some cs[i] := List.getElem?_eq_getElem (by omega)
      have h0 : ((cs.drop (i * 1)).take 1)[0]? = some cs[i] := by
        rw [List.getElem?_take, if_pos (by decide), List.getElem?_drop]
        simpa using hci
      exact ⟨p, g1, cs[i], hci, g4 _ (List.mem_of_getElem? h0), g5 0 p _ rfl h0⟩
  refine ⟨l, ⟨h1, fun p hp => ?_⟩, h1, by omega, fun c hc => ?_, fun j x v hx hv => ?_⟩
  · obtain ⟨i, hi⟩ := List.mem_iff_getElem?.1 hp
    exact (h2 i p hi).1
  · obtain ⟨i, hi⟩ := List.mem_iff_getElem?.1 hc
    have hil : i < l.length := by
      have := (List.getElem?_eq_some_iff.1 hi).1
      omega
    obtain ⟨_, c', e1, e2, _⟩ := h2 i l[i] (List.getElem?_eq_getElem hil)
    rw [hi] at e1; cases e1; exact e2
  · obtain ⟨_, c', e1, _, e3⟩ := h2 j x hx
    rw [hv] at e1; cases e1; exact e3⟩
theorem cellish_of {w : World} {b off : Nat} {v : Value} (h : w.cell? ⟨b, off, none⟩ = some v) : Cellish w b := by
  unfold World.cell? at h
  split at h
  · rename_i arr E q hb
    exact ⟨arr, E, q, hb⟩
  · cases h
theorem RdsC.list {wr : List PV → PV} (ht : P.underlying t = some (.slice e)) (hc : P.cellsOf t = 1) (hr : RdsC P e n S) (hpos : 0 < n) (hw : ∀ ps, S ps → ps.length = n → (wr ps).cells = ps) : RdsC P t 1 (SList n S wr) := ⟨hc, fun {H enc w fuel cs x} h => by
  rcases DataW.trod_slice ht h with ⟨rfl, _⟩ | ⟨a, len, cap, elems, rest, m, _, rfl, _, _, hl, hm, hel, hE, hR, _⟩
  · exact ⟨[.list n []], ⟨[], rfl, fun x hx => by cases hx⟩, rfl, crep_one rfl (.nil n none)⟩
  · obtain ⟨l, h1, h2⟩ := each_pick (p := fun i (y : List Value × List PV) => w.cells? 0 (a.add (i * n)) n = some y.1 ∧ S y.2 ∧ y.2.length = n ∧ CRep w y.1 y.2) len fun i hi => by
      have := hE i hi
      rw [List.getElem?_eq_getElem (by omega), hr.1, Option.bind_eq_some_iff] at this
      obtain ⟨c, h3, h4⟩ := this
      obtain ⟨ps, g1, g2, g3⟩ := hr.2 h4
      exact ⟨(c, ps), h3, g1, g2, g3⟩
    refine ⟨[.list n (l.map fun y => wr y.2)], ⟨_, rfl, fun x hx => ?_⟩, rfl, crep_one rfl ?_⟩
    · obtain ⟨y, hy, rfl⟩ := List.mem_map.1 hx
      obtain ⟨i, hi⟩ := List.mem_iff_getElem?.1 hy
      exact ⟨y.2, (h2 i y hi).2.1, rfl⟩
    · by_cases hcap : cap = 0
      · have : len = 0 := by omega
        subst hcap; subst this
        have : l = [] := List.eq_nil_of_length_eq_zero h1
        subst this
        exact .nil n (some a)
      · -- there are cells
        have hcell : ∃ off v, w.cell? ⟨a.block, off, none⟩ = some v ∧ a.spot = none := by
          have fromc : ∀ (i : Nat) (c : List Value), w.cells? 0 (a.add (i * n)) n = some c → ∃ off v, w.cell? ⟨a.block, off, none⟩ = some v ∧ a.spot = none := fun i c h3 => by
            obtain ⟨_, hc0, h4⟩ := World.cells?_some h3
            have h5 := h4 0 hpos
            rw [List.getElem?_eq_getElem (by omega)] at h5
            have hs : (a.add (i * n)).spot = none := by simpa [Addr.add] using World.cell?_spot h5
            have hs0 : a.spot = none := by
              unfold Addr.add at hs
              split at hs
              · exact hs
              · rename_i hne
                by_cases h0 : i * n = 0
                · rename_i q; exact absurd h0 (by simpa using hne)
                · rcases Nat.eq_zero_or_pos i with hi0 | hi0
                  · subst hi0; simp at h0
                  · -- the row begins at a: its first cell
                    have : 0 < len ∨ len = 0 := by omega
                    rcases this with hlen | hlen
                    · obtain ⟨y, hy⟩ : ∃ y, l[0]? = some y := ⟨l[0], List.getElem?_eq_getElem (by omega)⟩
                      obtain ⟨_, hc1, h6⟩ := World.cells?_some (h2 0 y hy).1
                      have h7 := h6 0 hpos
                      rw [List.getElem?_eq_getElem (by omega)] at h7
                      simpa [Addr.add] using World.cell?_spot h7
                    · have hrl : 0 < rest.length := by have := (hR rfl).1; omega
                      have := (hR rfl).2 0 (by omega)
                      have h8 : rest[0]? = some rest[0] := List.getElem?_eq_getElem hrl
                      rw [h8, hr.1, hlen, Option.bind_eq_some_iff] at this
                      obtain ⟨c1, h9, _⟩ := this
                      obtain ⟨_, hc1, h6⟩ := World.cells?_some h9
                      have h7 := h6 0 hpos
                      rw [List.getElem?_eq_getElem (by omega)] at h7
                      simpa [Addr.add] using World.cell?_spot h7
            obtain ⟨b, off, spot⟩ := a
            simp only at hs0
            subst hs0
            rw [Addr.add_lit, Addr.add_lit] at h5
            exact ⟨_, _, h5, rfl⟩
          rcases Nat.eq_zero_or_pos len with hlen | hlen
          · have hrl : 0 < rest.length := by have := (hR rfl).1; omega
            have := (hR rfl).2 0 (by omega)
            have h8 : rest[0]? = some rest[0] := List.getElem?_eq_getElem hrl
            rw [h8, hr.1, Option.bind_eq_some_iff] at this
            obtain ⟨c1, h9, _⟩ := this
            exact fromc _ c1 h9
          · obtain ⟨y, hy⟩ : ∃ y, l[0]? = some y := ⟨l[0], List.getElem?_eq_getElem (by omega)⟩
            exact fromc 0 _ (h2 0 y hy).1
        obtain ⟨off0, v0, hv0, hspot⟩ := hcell
        obtain ⟨b, off, spot⟩ := a
        simp only at hspot hv0
        subst hspot
        have hC : Cellish w b := cellish_of hv0
        have hget : ∀ (i : Nat) x, (l.map fun y => wr y.2)[i]? = some x → ∃ y, l[i]? = some y ∧ x = wr y.2 := fun i x hx => by
          rw [List.getElem?_map] at hx
          cases e : l[i]? with
          | none => rw [e] at hx; cases hx
          | some y => rw [e] at hx; exact ⟨y, rfl, (Option.some.inj hx).symm⟩
        have hlen : (l.map fun y => wr y.2).length = len := by simp [h1]
        have := PRep.list (ok := fun b => b < w.heap.size) (w := w) n (l.map fun y => wr y.2) b off cap (fun i j => (((l[i]?).map (·.1)).getD []).getD j default) hC.lt hC (by rw [hlen]; exact hl) hm
          (fun x hx => by
            obtain ⟨i, hi⟩ := List.mem_iff_getElem?.1 hx
            obtain ⟨y, hy, rfl⟩ := hget i x hi
            obtain ⟨_, g1, g2, _⟩ := h2 i y hy
            rw [hw _ g1 g2, g2])
          (fun i x j p hi hj => by
            obtain ⟨y, hy, rfl⟩ := hget i x hi
            obtain ⟨g0, g1, g2, g3, g4, g5⟩ := h2 i y hy
            rw [hw _ g1 g2] at hj
            have hjn : j < n := by have := (List.getElem?_eq_some_iff.1 hj).1; omega
            obtain ⟨_, hc1, h6⟩ := World.cells?_some g0
            have h7 := h6 j hjn
            have hcj : y.1[j]? = some y.1[j] := List.getElem?_eq_getElem (by omega)
            have hd : (((l[i]?).map (·.1)).getD []).getD j default = y.1[j] := by
              rw [hy]; simp [List.getD_eq_getElem?_getD, hcj]
            rw [hd]
            rw [hcj, Addr.add_lit, Addr.add_lit] at h7
            exact ⟨h7, g4 _ (List.mem_of_getElem? hcj)⟩)
          (fun i x j p hi hj => by
            obtain ⟨y, hy, rfl⟩ := hget i x hi
            obtain ⟨g0, g1, g2, g3, g4, g5⟩ := h2 i y hy
            rw [hw _ g1 g2] at hj
            have hjn : j < n := by have := (List.getElem?_eq_some_iff.1 hj).1; omega
            have hcj : y.1[j]? = some y.1[j] := List.getElem?_eq_getElem (by omega)
            have hd : (((l[i]?).map (·.1)).getD []).getD j default = y.1[j] := by
              rw [hy]; simp [List.getD_eq_getElem?_getD, hcj]
            rw [hd]
            exact g5 j p _ hj hcj)
        rw [hlen] at this
        exact this⟩
theorem CRep.append {w : World} {c1 c2 : List Value} {p1 p2 : List PV} (h1 : CRep w c1 p1) (h2 : CRep w c2 p2) : CRep w (c1 ++ c2) (p1 ++ p2) := by
  obtain ⟨a1, a2, a3⟩ := h1
  obtain ⟨b1, b2, b3⟩ := h2
  refine ⟨by simp [a1, b1], fun c hc => ?_, fun j x v hx hv => ?_⟩
  · rcases List.mem_append.1 hc with h | h
    · exact a2 c h
    · exact b2 c h
  · by_cases hj : j < p1.length
    · rw [List.getElem?_append_left hj] at hx
      rw [List.getElem?_append_left (by omega)] at hv
      exact a3 j x v hx hv
    · rw [List.getElem?_append_right (by omega)] at hx
      rw [List.getElem?_append_right (by omega), a1] at hv
      exact b3 _ x v hx hv
inductive Flds (P : Program) : Nat → List Field → List (List PV → Prop) → Nat → Prop
  | nil (o : Nat) : Flds P o [] [] 0
  | cons {o n m : Nat} {f : Field} {fs : List Field} {S : List PV → Prop} {Ss : List (List PV → Prop)} : f.offset = o → RdsC P f.type n S → Flds P (o + n) fs Ss m → Flds P o (f :: fs) (S :: Ss) (n + m)
theorem Flds.read {o : Nat} {fs : List Field} {Ss : List (List PV → Prop)} (h : Flds P o fs Ss m) {H : Type} {enc : TypeId × Value → H} {w : World} {fuel : Nat} {cs : List Value} {xs : List (DataW H × List MemPlace)} (hl : cs.length = o + m)
    (hx : ∀ (i : Nat) (f : Field), fs[i]? = some f → ∃ x, DataW.trod enc P w 0 (fun _ => true) true fuel f.type ((cs.drop f.offset).take (P.cellsOf f.type)) = some x) : ∃ ps, SCat Ss ps ∧ ps.length = m ∧ CRep w (cs.drop o) ps := by
  induction h with
  | nil o => exact ⟨[], rfl, rfl, by rw [List.drop_of_length_le (by omega)]; exact (⟨rfl, fun c hc => (by cases hc), fun j x v hx => (by simp at hx)⟩ : CRep w [] [])⟩
  | @cons o n m f fs S Ss h1 h2 h3 ih =>
    obtain ⟨x, h4⟩ := hx 0 f rfl
    rw [h2.1, h1] at h4
    obtain ⟨p, g1, g2, g3⟩ := h2.2 h4
    obtain ⟨q, k1, k2, k3⟩ := ih (by omega) (fun i f hf => hx (i + 1) f hf)
    refine ⟨p ++ q, ⟨p, q, rfl, g1, k1⟩, by simp [g2, k2], ?_⟩
    have : cs.drop o = (cs.drop o).take n ++ cs.drop (o + n) := by rw [← List.drop_drop, List.take_append_drop]
    rw [this]
    exact g3.append k3
theorem RdsC.struct {fs : Array Field} {Ss : List (List PV → Prop)} (ht : P.underlying t = some (.struct fs)) (hf : Flds P 0 fs.toList Ss n) (hc : P.cellsOf t = n) : RdsC P t n (SCat Ss) := ⟨hc, fun {H enc w fuel cs x} h => by
  obtain ⟨xs, m, _, _, hl, hx, hE⟩ := DataW.trod_struct ht h
  obtain ⟨ps, h1, h2, h3⟩ := hf.read (xs := xs) (enc := enc) (w := w) (fuel := m) (cs := cs) (by omega) (fun i f hi => by
    have hi' : fs[i]? = some f := by simpa using hi
    have := hE i f hi'
    have hil : i < xs.length := by rw [hx]; exact (Array.getElem?_eq_some_iff.1 hi').1
    exact ⟨xs[i], by rw [this, List.getElem?_eq_getElem hil]⟩)
  exact ⟨ps, h1, h2, by simpa using h3⟩⟩

theorem arg_one {H : Type} {enc : TypeId × Value → H} {w : World} {v : Value} {d : DataW H} {p : List MemPlace} (hr : RdsC P t 1 S) (hone : v.cells.toList = [v]) (h : DataW.Trod enc P w 0 (fun _ => true) true t v d p) :
    ∃ q, S [q] ∧ PRep (fun b => b < w.heap.size) w q v := by
  obtain ⟨fuel, hf⟩ := h
  obtain ⟨ps, h1, h2, h3, h4, h5⟩ := hr.2 hf
  match ps, h2 with
  | [q], _ => exact ⟨q, h1, h5 0 q v rfl (by rw [hone]; rfl)⟩
theorem arg_slice {H : Type} {enc : TypeId × Value → H} {w : World} {v : Value} {d : DataW H} {p : List MemPlace} {m : Reach} {base : Nat} (ht : P.underlying t = some (.slice e)) (hr : RdsC P t 1 S) (hv : Value.okWide P w m base t v) (h : DataW.Trod enc P w 0 (fun _ => true) true t v d p) :
    ∃ q, S [q] ∧ PRep (fun b => b < w.heap.size) w q v := by
  obtain ⟨a, l, c, rfl⟩ := okWide_slice ht hv
  exact arg_one hr rfl h
theorem arg_int {H : Type} {enc : TypeId × Value → H} {w : World} {v : Value} {d : DataW H} {p : List MemPlace} {m : Reach} {base : Nat} (ht : P.underlying t = some (.int k)) (hr : RdsC P t 1 S) (hv : Value.okWide P w m base t v) (h : DataW.Trod enc P w 0 (fun _ => true) true t v d p) :
    ∃ q, S [q] ∧ PRep (fun b => b < w.heap.size) w q v := by
  have : v.cells.toList = [v] := by
    simp only [Value.okWide, ht, Cell.okWide] at hv
    cases v <;> simp_all [Cell.ok, Value.cells]
  exact arg_one hr this h
end
end Go.Proofs.YtncobemfpammfaaGreat

namespace Go.Proofs.YtncobemfpammfaaGreat
open Go.RowKit V

theorem cellish_at {w : World} {b o : Nat} {u : Value} (h : w.cell? ⟨b, o, none⟩ = some u) : Cellish w b := by
  unfold World.cell? at h
  simp only at h
  split at h
  · rename_i e; exact ⟨_, _, _, e⟩
  · cases h
theorem sl_of_prep {α : Type} {r : Rep α} {enc : α → PV} {ok : Nat → Prop} {w : World} {l : List α} {sz : Nat} {v : Value} (hsz : sz = r.sz) (hc : ∀ x, (enc x).cells.length = r.sz)
    (hr : ∀ x ∈ l, ∀ (cs : List Value), cs.length = r.sz → (∀ (j : Nat) p u, (enc x).cells[j]? = some p → cs[j]? = some u → PRep ok w p u) → r.rd ok w cs x) (h : PRep ok w (.list sz (l.map enc)) v) : ∃ a n c, v = .slice a n c ∧ Sl r ok w a n c l := by
  generalize he : l.map enc = es at h
  cases h with
  | nil _ a =>
    have : l = [] := by simpa using he
    subst this
    exact ⟨a, 0, 0, rfl, ⟨rfl, Nat.le_refl _, Nat.zero_le _, fun _ => rfl, .inl rfl⟩⟩
  | list _ _ b off c cv h1 h2 h3 h4 h6 h7 h8 =>
    subst hsz he
    refine ⟨_, _, c, rfl, ⟨by simp, h3, h4, (fun e => by cases e), .inr ⟨b, off, rfl, h1, h2.lt, fun i x hx => ?_⟩⟩⟩
    have hi : (l.map enc)[i]? = some (enc x) := by simp [hx]
    refine ⟨(List.range r.sz).map (cv i), fun j hj => ?_, hr x (List.mem_of_getElem? hx) _ (by simp) fun j p u hp hu => ?_⟩
    · have hj' : j < (enc x).cells.length := by rw [hc]; exact hj
      rw [(h7 i _ j _ hi (List.getElem?_eq_getElem hj')).1]
      simp [hj]
    · have hj : j < r.sz := by have := (List.getElem?_eq_some_iff.1 hp).1; rw [hc] at this; exact this
      have : u = cv i j := by simp [hj] at hu; exact hu.symm
      rw [this]
      exact h8 i _ j _ hi hp
theorem prep_of_sl {α : Type} {r : Rep α} {enc : α → PV} {ok ok' : Nat → Prop} {w : World} {l : List α} {a : Option Addr} {n c : Nat} (hk : ∀ b, ok b → b < w.heap.size → ok' b) (hp0 : 0 < r.sz) (hc : ∀ x, (enc x).cells.length = r.sz)
    (hr : ∀ x ∈ l, ∀ (cs : List Value), cs.length = r.sz → r.rd ok w cs x → ∀ (j : Nat) p u, (enc x).cells[j]? = some p → cs[j]? = some u → u.oneCell' = true ∧ PRep ok' w p u) (hz : l = [] → c = 0) (h : Sl r ok w a n c l) : PRep ok' w (.list r.sz (l.map enc)) (.slice a n c) := by
  obtain ⟨h1, h2, h3, h4, h5⟩ := h
  by_cases hl : l = []
  · have := hz hl
    subst hl
    have : n = 0 := by simpa using h1.symm
    subst this
    have : c = 0 := by omega
    subst this
    exact .nil _ _
  · rcases h5 with h5 | ⟨b, off, rfl, hb, hlt, h6⟩
    · exact absurd (List.eq_nil_of_length_eq_zero (by omega)) hl
    · have hn : n = (l.map enc).length := by simp [h1]
      rw [hn]
      have key : ∀ (i : Nat) (x : α) (j : Nat) (p : PV), l[i]? = some x → (enc x).cells[j]? = some p → ∃ u, w.cell? ⟨b, off + i * r.sz + j, none⟩ = some u ∧ u.oneCell' = true ∧ PRep ok' w p u := by
        intro i x j p hx hp
        obtain ⟨cs, g1, g2⟩ := h6 i x hx
        have hj : j < r.sz := by have := (List.getElem?_eq_some_iff.1 hp).1; rw [hc] at this; exact this
        have hl2 := r.len g2
        have hu : cs[j]? = some (cs[j]'(by omega)) := List.getElem?_eq_getElem (by omega)
        obtain ⟨k1, k2⟩ := hr x (List.mem_of_getElem? hx) cs hl2 g2 j p _ hp hu
        exact ⟨_, by rw [g1 j hj, hu], k1, k2⟩
      have get : ∀ {i : Nat} {e : PV}, (l.map enc)[i]? = some e → ∃ x, l[i]? = some x ∧ e = enc x := by
        intro i e he
        rw [List.getElem?_map] at he
        cases hx : l[i]? with
        | none => rw [hx] at he; cases he
        | some x => rw [hx] at he; cases he; exact ⟨x, rfl, rfl⟩
      have hce : Cellish w b := by
        cases l with
        | nil => exact absurd rfl hl
        | cons x l =>
          have hj : 0 < (enc x).cells.length := by rw [hc]; exact hp0
          obtain ⟨u, k1, _⟩ := key 0 x 0 _ rfl (List.getElem?_eq_getElem hj)
          exact cellish_at k1
      refine .list _ _ b off c (fun i j => (w.cell? ⟨b, off + i * r.sz + j, none⟩).getD undef) (hk b hb hlt) hce (by simp; omega) h3 (fun e he => ?_) (fun i e j x hi hj => ?_) fun i e j x hi hj => ?_
      · obtain ⟨x, _, rfl⟩ := List.mem_map.1 he; exact hc x
      · obtain ⟨x', hx, rfl⟩ := get hi
        obtain ⟨u, k1, k2, k3⟩ := key i x' j x hx hj
        rw [k1]; exact ⟨rfl, k2⟩
      · obtain ⟨x', hx, rfl⟩ := get hi
        obtain ⟨u, k1, k2, k3⟩ := key i x' j x hx hj
        rw [k1]; exact k3
theorem secs_in {ok : Nat → Prop} {w : World} {l : List Sec} {v : Value} (h : PRep ok w (eSecs l) v) : ∃ a n c, v = .slice a n c ∧ Sl secR ok w a n c l := by
  refine sl_of_prep (r := secR) (enc := eSec) rfl (fun x => secPV_length x) (fun x _ cs hl hcs => ?_) h
  show cs = secCells x
  refine List.ext_getElem? fun j => ?_
  by_cases hj : j < 8
  · have h1 : cs[j]? = some (cs[j]'(by rw [hl]; exact hj)) := List.getElem?_eq_getElem _
    have h2 : (eSec x).cells[j]? = some (.int .u8 ((x.toList[j]'(by simpa using hj)).toNat : Int)) := by
      show (secPV x)[j]? = _
      have hj' : j < x.toList.length := by simpa using hj
      simp only [secPV, List.getElem?_map, List.getElem?_eq_getElem hj', Option.map_some]
    have := (hcs j _ _ h2 h1).int_inv
    have hj' : j < x.toList.length := by simpa using hj
    rw [h1, this]
    simp only [secCells, List.getElem?_map, List.getElem?_eq_getElem hj', Option.map_some]
  · have e1 : cs.length = 8 := hl
    rw [List.getElem?_eq_none (by omega), List.getElem?_eq_none (by rw [secCells_length]; omega)]
theorem img_in {ok : Nat → Prop} {w : World} {l : List (List Sec)} {v : Value} (h : PRep ok w (.list 1 (l.map eSecs)) v) : ∃ a n c, v = .slice a n c ∧ Sl secsR ok w a n c l := by
  refine sl_of_prep (r := secsR) (enc := eSecs) rfl (fun x => rfl) (fun x _ cs hl hcs => ?_) h
  match cs, hl with
  | [u], _ =>
    obtain ⟨a, n, c, rfl, hs⟩ := secs_in (hcs 0 _ u rfl rfl)
    exact ⟨a, n, c, rfl, hs⟩
theorem wrs_in {ok : Nat → Prop} {w : World} {l : List Wrt} {v : Value} (hok : ∀ x ∈ l, i64b x.volume = true ∧ i64b x.start = true) (h : PRep ok w (.list 3 (l.map eWr)) v) : ∃ a n c, v = .slice a n c ∧ Sl wrR ok w a n c (l.map fun x => (x.volume, x.start, x.data)) := by
  have : ∃ a n c, v = .slice a n c ∧ Sl (α := Wrt) ⟨3, fun ok w cs x => wrR.rd ok w cs (x.volume, x.start, x.data), fun h => wrR.len h, fun hk h => wrR.mono hk h, fun h => wrR.live h, fun hf h => wrR.frame hf h, fun h => wrR.one h⟩ ok w a n c l := by
    refine sl_of_prep rfl (fun x => rfl) (fun x hx cs hl hcs => ?_) h
    match cs, hl with
    | [u, u2, u3], _ =>
      have e1 := (hcs 0 _ u rfl rfl).int_inv
      have e2 := (hcs 1 _ u2 rfl rfl).int_inv
      obtain ⟨a, n, c, rfl, hs⟩ := secs_in (l := x.data) (hcs 2 _ u3 rfl rfl)
      obtain ⟨o1, o2⟩ := hok x hx
      simp only [i64b, Bool.and_eq_true, decide_eq_true_eq] at o1 o2
      exact ⟨[u], [u2, .slice a n c], rfl, ⟨by rw [e1], o1⟩, ⟨[u2], [.slice a n c], rfl, ⟨by rw [e2], o2⟩, a, n, c, rfl, hs⟩⟩
  obtain ⟨a, n, c, rfl, h1, h2, h3, h4, h5⟩ := this
  refine ⟨a, n, c, rfl, ⟨by simpa using h1, h2, h3, h4, h5.imp id fun ⟨b, off, g1, g2, g3, g4⟩ => ⟨b, off, g1, g2, g3, fun i x hx => ?_⟩⟩⟩
  rw [List.getElem?_map] at hx
  cases hx' : l[i]? with
  | none => rw [hx'] at hx; cases hx
  | some y => rw [hx'] at hx; cases hx; exact g4 i y hx'
theorem img_out {ok ok' : Nat → Prop} {w : World} {l : List (List Sec)} {a : Option Addr} {n c : Nat} (hk : ∀ b, ok b → b < w.heap.size → ok' b) (hz : l = [] → c = 0) (hne : ∀ x ∈ l, x ≠ []) (h : Sl secsR ok w a n c l) : PRep ok' w (.list 1 (l.map eSecs)) (.slice a n c) := by
  refine prep_of_sl (r := secsR) (enc := eSecs) hk (by decide) (fun x => rfl) (fun x hx cs hl hrd j p u hp hu => ?_) hz h
  obtain ⟨a, n, c, rfl, hs⟩ := hrd
  match j with
  | j + 1 => simp [eSecs, PV.cells] at hp
  | 0 =>
    cases hp
    cases hu
    refine ⟨rfl, prep_of_sl (r := secR) (enc := eSec) hk (by decide) (fun x => secPV_length x) (fun s _ cs hl hrd j p u hp hu => ?_) (fun e => absurd e (hne x hx)) hs⟩
    have hrd : cs = secCells s := hrd
    subst hrd
    simp only [secCells, List.getElem?_map, Option.map_eq_some_iff] at hu
    have hp : (secPV s)[j]? = some p := hp
    simp only [secPV, List.getElem?_map, Option.map_eq_some_iff] at hp
    obtain ⟨b, h1, rfl⟩ := hu
    obtain ⟨b', h2, rfl⟩ := hp
    rw [h1] at h2
    cases h2
    exact ⟨rfl, .int _ _⟩
theorem wrErr_fit (sz : List Int) (x : Wrt) : wrErr sz x = fitW sz (x.volume, x.start, x.data) := by
  simp only [fitW, fitErr, wrErr]
  repeat' split
  all_goals first | rfl | omega
theorem wrErrs_eq (sz : List Int) : ∀ (l : List Wrt) (i : Nat), wrErrs sz l i = applyErr sz (l.map fun x => (x.volume, x.start, x.data)) i
  | [], _ => rfl
  | x :: l, i => by rw [List.map_cons, wrErrs, applyErr, wrErr_fit, wrErrs_eq sz l (i + 1)]
theorem apE_eq (im : List (List Sec)) (l : List Wrt) : apE im l = applyE im (l.map fun x => (x.volume, x.start, x.data)) := by
  unfold apE applyE; rw [wrErrs_eq]; rfl
theorem apI_eq (im : List (List Sec)) (l : List Wrt) : apI im l = applyIdx im (l.map fun x => (x.volume, x.start, x.data)) := by
  unfold apI applyIdx; rw [wrErrs_eq]; rfl
theorem put1_eq (im : List (List Sec)) (x : Wrt) : put1 im x = putW im (x.volume, x.start, x.data) := rfl
theorem puts_eq : ∀ (l : List Wrt) (im : List (List Sec)), l.foldl put1 im = (l.map fun x => (x.volume, x.start, x.data)).foldl putW im
  | [], _ => rfl
  | x :: l, im => by rw [List.map_cons, List.foldl_cons, List.foldl_cons, put1_eq, puts_eq l]
theorem apO_eq (im : List (List Sec)) (l : List Wrt) : apO im l = applyImg im (l.map fun x => (x.volume, x.start, x.data)) := by
  unfold apO applyImg
  rw [apE_eq, puts_eq]
  unfold applyE orNil
  by_cases h : imgErr im = 0
  · simp [h]
  · simp [h]
theorem wrErr_ok {im : List (List Sec)} {x : Wrt} (h : wrErr (szsOf im) x = 0) : szsOf (put1 im x) = szsOf im := by
  rw [wrErr_fit] at h
  exact lens_put h
theorem puts_sizes : ∀ (l : List Wrt) (im : List (List Sec)) (i : Nat), (wrErrs (szsOf im) l i).2 = 0 → szsOf (l.foldl put1 im) = szsOf im
  | [], _, _, _ => rfl
  | x :: l, im, i, h => by
    unfold wrErrs at h
    split at h
    · rename_i h2; exact absurd h h2
    · rename_i h2
      have h2 : wrErr (szsOf im) x = 0 := by omega
      have e := wrErr_ok h2
      rw [List.foldl_cons, puts_sizes l (put1 im x) (i + 1) (by rw [e]; exact h), e]
theorem apO_sizes {im : List (List Sec)} {l : List Wrt} (h : apE im l = 0) : szsOf (apO im l) = szsOf im := by
  unfold apO
  rw [if_pos h]
  unfold apE at h
  split at h
  · rename_i h2; exact absurd h h2
  · exact puts_sizes l im 0 h
theorem szErr_ne {im : List (List Sec)} (h : szErr (szsOf im) = 0) : im ≠ [] ∧ ∀ v ∈ im, v ≠ [] := by
  unfold szErr at h
  split at h
  · cases h
  · rename_i h1
    split at h
    · cases h
    · rename_i h2
      refine ⟨fun e => by subst e; simp [szsOf] at h1, fun v hv e => ?_⟩
      subst e
      refine h2 (List.any_eq_true.2 ⟨0, ?_, by decide⟩)
      exact List.mem_map.2 ⟨[], hv, rfl⟩
theorem apO_ne {im : List (List Sec)} {l : List Wrt} : (apE im l = 0 → apO im l ≠ []) ∧ ∀ v ∈ apO im l, v ≠ [] := by
  by_cases h : apE im l = 0
  · have h0 : szErr (szsOf im) = 0 := by
      unfold apE at h
      split at h
      · rename_i h2; exact absurd h h2
      · omega
    have := szErr_ne (im := apO im l) (by rw [apO_sizes h]; exact h0)
    exact ⟨fun _ => this.1, this.2⟩
  · exact ⟨fun e => absurd e h, fun v hv => by unfold apO at hv; rw [if_neg h] at hv; cases hv⟩
theorem apply_ok {f : Nat} (hc : callable Tryz.prog f = true) (hA : ∀ {a : Option Addr} {n c : Nat} {im : List (List Sec)} {ok ok2 : Nat → Prop} {w : World}, Sl secsR ok w a n c im → n ≤ 1000000 → (∀ v ∈ im, v.length ≤ 1000000) →
    ∀ {la : Option Addr} {ln lc : Nat} {l : List Wr}, Sl wrR ok2 w la ln lc l → Calls Tryz.prog f #[.slice a n c, .slice la ln lc] w (RetApply w im l)) :
    ∀ args rs, applyX args = some rs → callable Tryz.prog f = true ∧ CallOk Tryz.prog f args rs := fun args rs h => by
  obtain ⟨im, l, rfl, hw, hn, hv, rfl⟩ := applyX_eq h
  refine ⟨hc, fun T0 w vs h1 h2 h3 h4 _ => ?_⟩
  match vs, h3 with
  | [v0, v1], _ =>
    obtain ⟨a, n, c, rfl, hs⟩ := img_in (h4 0 _ v0 rfl rfl)
    obtain ⟨la, ln, lc, rfl, hl⟩ := wrs_in hw (h4 1 _ v1 rfl rfl)
    refine (hA hs (by rw [← hs.len]; exact hn) hv hl).mono ?_
    rintro e w' ⟨a', n', c', rfl, hr, hz, hB⟩
    rw [← apI_eq, ← apE_eq]
    rw [← apO_eq] at hr
    rw [← apE_eq] at hz
    refine ⟨_, fun b => if w.heap.size ≤ b ∧ b < w'.heap.size then .ro else T0 b, rfl, hB, fun b hb => if_neg (by omega), fun b hb => ?_, #[_, _, _], rfl, rfl, fun i r u hr' hu => ?_⟩
    · show (if _ then _ else T0 b) = _
      rw [if_neg (by omega)]; exact h2 b (by have := hB.size; omega)
    · match i with
      | 0 =>
        cases hr'; cases hu
        refine img_out (ok := (w.heap.size ≤ ·)) (fun b hb hlt => if_pos ⟨hb, hlt⟩) (fun e => ?_) apO_ne.2 hr
        rcases hz with hz | hz
        · exact hr.nil hz
        · exact absurd e (apO_ne.1 hz)
      | 1 => cases hr'; cases hu; exact .int _ _
      | 2 => cases hr'; cases hu; exact .int _ _
      | i + 3 => simp at hr'
theorem applyI_ok : ∀ args rs, applyX args = some rs → callable Tryz.prog 16 = true ∧ CallOk Tryz.prog 16 args rs := apply_ok (by kernel_rfl) fun h hn hv _ _ _ _ hl => applyI_any h hn hv hl
end Go.Proofs.YtncobemfpammfaaGreat

namespace Go.Proofs.YtncobemfpammfaaGreat
open Go.RowKit V

def oneEnv (f : Nat) (fn : VFn) : Env := fun k => if k = f then some (.code fn) else none
theorem oneEnv_ok {P : Program} {f : Nat} {fn : VFn} (h : fnOk P f fn = true) : EnvOk P (oneEnv f fn) := fun k d hk => by
  unfold oneEnv at hk
  split at hk
  · rename_i e; subst e; cases hk; exact h
  · cases hk
def emR (n : Nat) : Rep Unit where
  sz := n
  rd _ _ cs _ := cs.length = n ∧ ∀ u ∈ cs, u.oneCell' = true
  len h := h.1
  mono _ h := h
  live h := h
  frame _ h := h
  one h := h.2
theorem Flat.em (n : Nat) : Flat (emR n) := fun h => h
theorem sl_nil {ok : Nat → Prop} {w : World} {sz : Nat} {v : Value} (h : PRep ok w (.list sz []) v) : ∃ a c, v = .slice a 0 c ∧ Sl (emR sz) (fun _ => True) w a 0 c [] := by
  obtain ⟨l, hl⟩ : ∃ l : List PV, l = [] := ⟨_, rfl⟩
  rw [← hl] at h
  cases h with
  | nil _ a => exact ⟨a, 0, rfl, ⟨rfl, Nat.le_refl _, Nat.zero_le _, fun _ => rfl, .inl rfl⟩⟩
  | list _ _ b off c cv h1 h2 h3 h4 h6 h7 h8 => subst hl; exact ⟨_, c, rfl, ⟨rfl, Nat.zero_le _, h4, (fun e => by cases e), .inl rfl⟩⟩
--+
theorem slt27 : SliceT Tryz.prog 56 59 8 8 (.agg #[.int .u8 0, .int .u8 0, .int .u8 0, .int .u8 0, .int .u8 0, .int .u8 0, .int .u8 0, .int .u8 0]) := ⟨Tryz.underlying56, by kernel_rfl, rfl, by decide⟩
set_option maxHeartbeats 1000000 in
theorem cempty27 {a : Option Addr} {n c : Nat} {l : List Unit} {ok : Nat → Prop} {w : World} (h : Sl (emR 8) ok w a n c l) (hn : n ≤ 1000000) :
    Calls Tryz.prog 27 #[.slice a n c] w fun e w' => ∃ a' n' c', e = .returned (.slice a' n' c') ∧ (ownRowR (emR 8) 59).rd (w.heap.size ≤ ·) w' [.slice a' n' c'] l ∧ Below w.heap.size w w' := by
  have heq := fun (a : Option Addr) (n c : Nat) (w : World) => Lib.run_eql_slice_nil (P := Tryz.prog) w 56 59 a n c 0 0 Tryz.underlying56
  cases a with
  | none =>
    have h0 : l = [] := List.eq_nil_of_length_eq_zero (by rw [h.len]; have := h.nil rfl; have := h.cap; omega)
    have H0 := Lib.hid h0; clear h0
    go_enter Tryz.func27, Tryz.ntmps27
    go_wp2
    go_ret
    refine ⟨_, _, _, rfl, ?_, Below.refl _ _⟩
    rw [H0.out]
    exact ownRowR.mk (Own.nil _ _ _ _ _) (fun _ => .inl rfl)
  | some ad =>
    have hs := h.small
    go_enter Tryz.func27, Tryz.ntmps27
    go_wp2_with (at_builtin; refine wpList_app slt27 rfl _ _ rfl rfl (Own.lit0 (emR 8) (ok := fun _ => False) (Nat.le_refl _)) rfl ((Src.of_sl (h.below ((Below.refl _ _).alloc (Nat.le_refl _) _))).flat (Flat.em 8)) ?c1 ?c2 ?c3 ?_)
    case c1 => simp; unfold maxLen; omega
    case c2 => simp; omega
    case c3 => simp
    intro v' w1 hown hgrow hat
    obtain ⟨a', n', c', rfl, _⟩ := hown.sl
    go_wp2
    go_ret
    refine ⟨_, _, _, rfl, ownRowR.mk (by simpa using hown) (fun e => ?_), ((Below.refl _ _).alloc (Nat.le_refl _) _).grown hgrow (by simp) (fun k hk => by cases hk; exact Nat.le_refl _)⟩
    subst e
    obtain ⟨xs, h1, _⟩ := hown
    rcases h1.2 with ⟨hv, _⟩ | ⟨g, cap, cur, hv, _⟩
    · exact .inl hv
    · exact .inr ⟨g, cap, by simpa using hv⟩
theorem clone27_fn : fnOk Tryz.prog 27 fn27 = true := by kernel_rfl
theorem clone27_some {en : Env} (hen : en 27 = some (.code fn27)) {e : PV} {es : List PV} (hl : (e :: es).length ≤ lim) : cal en 27 [.list 8 (e :: es)] = some [(.list 8 (e :: es), true)] := by
  have F1 : (es.length + 1 ≤ lim) = True := eq_true (by simpa using hl)
  rw [cal_code hen rfl]
  simp only [fn27]
  simp only [start, z_map_cons, z_map_nil, z_len_cons, z_len_nil, z_repl_zero, z_repl_succ, z_cons_app, z_nil_app, Nat.reduceAdd, Nat.reduceSub]
  simp only [F1, z_nil_app, List.isEmpty_nil, val_pvs, frozen_pvs, msnoc_len, msnoc_get, msnoc_set, msnoc_take, Int.le_refl, take_map_all, Nat.le_refl, St.freezeRows, BV.frozen, List.take_length, List.take_append_drop, z_repl_zero, Int.toNat_zero, true_and, and_true, and_self, eq_self, z_take_zero, List.drop_nil, List.take_nil, vAll, List.foldl_nil, List.foldl_cons, resultsOf, resultList, resultOf, zBV, splice, PV.remade, St.freezeAt, St.freezeBox, St.freezeCap, PV.single, plain, act, dstOf, if_true, if_false, reduceCtorEq, St.get, St.put, St.pvOf, St.putRow, St.consume, St.freeze, St.row, St.elems, St.grab, St.takeRow, St.setRow, St.place, St.optPv, St.setCell, St.setCellRow, binPV, intBin, unPV, BV.val, Nat.reduceEqDiff, bound, consumeAll, buildParts, capsOf, capOf, List.append_nil, Nat.reduceAdd, Nat.reduceLT, Nat.reduceLeDiff, beq_self_eq_true, List.length_map, Nat.beq, dcall, dcallP, List.mapM_cons, St.snapFn, St.snap, St.layAll, St.lay, St.freezeArg, St.freezeArg1]
theorem clone27_ok : ∀ args rs, cloneX 8 args = some rs → callable Tryz.prog 27 = true ∧ CallOk Tryz.prog 27 args rs := fun args rs h => by
  unfold cloneX at h
  split at h
  case h_2 => cases h
  rename_i sz es
  split at h
  case isFalse => cases h
  rename_i hc
  obtain ⟨rfl, hl⟩ := hc
  cases h
  cases es with
  | cons e es =>
    obtain ⟨n, hn⟩ := vmCall_of_cal (clone27_some (en := oneEnv 27 fn27) (if_pos rfl) hl)
    exact vmCall_ok (oneEnv_ok clone27_fn) hn
  | nil =>
    refine ⟨by kernel_rfl, fun T0 w vs h1 h2 h3 h4 _ => ?_⟩
    match vs, h3 with
    | [v], _ =>
      have hv := h4 0 _ v rfl rfl
      obtain ⟨a, c, rfl, hsl⟩ := sl_nil hv
      refine (cempty27 (ok := fun _ => True) hsl (by omega)).mono ?_
      rintro e w' ⟨a', n', c', rfl, hrd, hB⟩
      obtain ⟨v, hv, hb, ⟨xs, hown, _⟩, hnil⟩ := hrd
      obtain rfl : Value.slice a' n' c' = v := by simpa using hv
      rcases hown.2 with ⟨e1, _⟩ | ⟨g, cap, cur, e1, _, hg, _, hm, hs, _⟩
      · refine ⟨_, T0, rfl, hB, fun _ _ => rfl, fun b hb => h2 b (by have := hB.size; omega), #[_], rfl, rfl, fun i r u hr hu => ?_⟩
        cases i with
        | zero => cases hr; cases hu; exact .inl ⟨rfl, none, e1⟩
        | succ i => simp at hr
      · have hg0 : w.heap.size ≤ g := hb g (by rw [e1]; rfl)
        have hgl : g < w'.heap.size := (Array.getElem?_eq_some_iff.1 hg).1
        refine ⟨_, fun b => if b = g then .row (.part 0 0) else T0 b, rfl, hB, fun b hb => if_neg (by omega), fun b hb => ?_, #[_], rfl, rfl, fun i r u hr hu => ?_⟩
        · show (if b = g then _ else T0 b) = _
          rw [if_neg (by omega)]; exact h2 b (by have := hB.size; omega)
        · cases i with
          | zero =>
            cases hr; cases hu
            exact .inr ⟨g, cap, cur, _, e1, if_pos rfl, hg, hs, Nat.zero_le _, hm, (fun e he => by cases he), fun i e j x hi => by simp at hi⟩
          | succ i => simp at hr
--+
theorem slt30 : SliceT Tryz.prog 25 3 1 8 (.int .i64 0) := ⟨Tryz.underlying25, by kernel_rfl, rfl, by decide⟩
set_option maxHeartbeats 1000000 in
theorem cempty30 {a : Option Addr} {n c : Nat} {l : List Unit} {ok : Nat → Prop} {w : World} (h : Sl (emR 1) ok w a n c l) (hn : n ≤ 1000000) :
    Calls Tryz.prog 30 #[.slice a n c] w fun e w' => ∃ a' n' c', e = .returned (.slice a' n' c') ∧ (ownRowR (emR 1) 3).rd (w.heap.size ≤ ·) w' [.slice a' n' c'] l ∧ Below w.heap.size w w' := by
  have heq := fun (a : Option Addr) (n c : Nat) (w : World) => Lib.run_eql_slice_nil (P := Tryz.prog) w 25 3 a n c 0 0 Tryz.underlying25
  cases a with
  | none =>
    have h0 : l = [] := List.eq_nil_of_length_eq_zero (by rw [h.len]; have := h.nil rfl; have := h.cap; omega)
    have H0 := Lib.hid h0; clear h0
    go_enter Tryz.func30, Tryz.ntmps30
    go_wp2
    go_ret
    refine ⟨_, _, _, rfl, ?_, Below.refl _ _⟩
    rw [H0.out]
    exact ownRowR.mk (Own.nil _ _ _ _ _) (fun _ => .inl rfl)
  | some ad =>
    have hs := h.small
    go_enter Tryz.func30, Tryz.ntmps30
    go_wp2_with (at_builtin; refine wpList_app slt30 rfl _ _ rfl rfl (Own.lit0 (emR 1) (ok := fun _ => False) (Nat.le_refl _)) rfl ((Src.of_sl (h.below ((Below.refl _ _).alloc (Nat.le_refl _) _))).flat (Flat.em 1)) ?c1 ?c2 ?c3 ?_)
    case c1 => simp; unfold maxLen; omega
    case c2 => simp; omega
    case c3 => simp
    intro v' w1 hown hgrow hat
    obtain ⟨a', n', c', rfl, _⟩ := hown.sl
    go_wp2
    go_ret
    refine ⟨_, _, _, rfl, ownRowR.mk (by simpa using hown) (fun e => ?_), ((Below.refl _ _).alloc (Nat.le_refl _) _).grown hgrow (by simp) (fun k hk => by cases hk; exact Nat.le_refl _)⟩
    subst e
    obtain ⟨xs, h1, _⟩ := hown
    rcases h1.2 with ⟨hv, _⟩ | ⟨g, cap, cur, hv, _⟩
    · exact .inl hv
    · exact .inr ⟨g, cap, by simpa using hv⟩
theorem clone30_fn : fnOk Tryz.prog 30 fn30 = true := by kernel_rfl
theorem clone30_some {en : Env} (hen : en 30 = some (.code fn30)) {e : PV} {es : List PV} (hl : (e :: es).length ≤ lim) : cal en 30 [.list 1 (e :: es)] = some [(.list 1 (e :: es), true)] := by
  have F1 : (es.length + 1 ≤ lim) = True := eq_true (by simpa using hl)
  rw [cal_code hen rfl]
  simp only [fn30]
  simp only [start, z_map_cons, z_map_nil, z_len_cons, z_len_nil, z_repl_zero, z_repl_succ, z_cons_app, z_nil_app, Nat.reduceAdd, Nat.reduceSub]
  simp only [F1, z_nil_app, List.isEmpty_nil, val_pvs, frozen_pvs, msnoc_len, msnoc_get, msnoc_set, msnoc_take, Int.le_refl, take_map_all, Nat.le_refl, St.freezeRows, BV.frozen, List.take_length, List.take_append_drop, z_repl_zero, Int.toNat_zero, true_and, and_true, and_self, eq_self, z_take_zero, List.drop_nil, List.take_nil, vAll, List.foldl_nil, List.foldl_cons, resultsOf, resultList, resultOf, zBV, splice, PV.remade, St.freezeAt, St.freezeBox, St.freezeCap, PV.single, plain, act, dstOf, if_true, if_false, reduceCtorEq, St.get, St.put, St.pvOf, St.putRow, St.consume, St.freeze, St.row, St.elems, St.grab, St.takeRow, St.setRow, St.place, St.optPv, St.setCell, St.setCellRow, binPV, intBin, unPV, BV.val, Nat.reduceEqDiff, bound, consumeAll, buildParts, capsOf, capOf, List.append_nil, Nat.reduceAdd, Nat.reduceLT, Nat.reduceLeDiff, beq_self_eq_true, List.length_map, Nat.beq, dcall, dcallP, List.mapM_cons, St.snapFn, St.snap, St.layAll, St.lay, St.freezeArg, St.freezeArg1]
theorem clone30_ok : ∀ args rs, cloneX 1 args = some rs → callable Tryz.prog 30 = true ∧ CallOk Tryz.prog 30 args rs := fun args rs h => by
  unfold cloneX at h
  split at h
  case h_2 => cases h
  rename_i sz es
  split at h
  case isFalse => cases h
  rename_i hc
  obtain ⟨rfl, hl⟩ := hc
  cases h
  cases es with
  | cons e es =>
    obtain ⟨n, hn⟩ := vmCall_of_cal (clone30_some (en := oneEnv 30 fn30) (if_pos rfl) hl)
    exact vmCall_ok (oneEnv_ok clone30_fn) hn
  | nil =>
    refine ⟨by kernel_rfl, fun T0 w vs h1 h2 h3 h4 _ => ?_⟩
    match vs, h3 with
    | [v], _ =>
      have hv := h4 0 _ v rfl rfl
      obtain ⟨a, c, rfl, hsl⟩ := sl_nil hv
      refine (cempty30 (ok := fun _ => True) hsl (by omega)).mono ?_
      rintro e w' ⟨a', n', c', rfl, hrd, hB⟩
      obtain ⟨v, hv, hb, ⟨xs, hown, _⟩, hnil⟩ := hrd
      obtain rfl : Value.slice a' n' c' = v := by simpa using hv
      rcases hown.2 with ⟨e1, _⟩ | ⟨g, cap, cur, e1, _, hg, _, hm, hs, _⟩
      · refine ⟨_, T0, rfl, hB, fun _ _ => rfl, fun b hb => h2 b (by have := hB.size; omega), #[_], rfl, rfl, fun i r u hr hu => ?_⟩
        cases i with
        | zero => cases hr; cases hu; exact .inl ⟨rfl, none, e1⟩
        | succ i => simp at hr
      · have hg0 : w.heap.size ≤ g := hb g (by rw [e1]; rfl)
        have hgl : g < w'.heap.size := (Array.getElem?_eq_some_iff.1 hg).1
        refine ⟨_, fun b => if b = g then .row (.part 0 0) else T0 b, rfl, hB, fun b hb => if_neg (by omega), fun b hb => ?_, #[_], rfl, rfl, fun i r u hr hu => ?_⟩
        · show (if b = g then _ else T0 b) = _
          rw [if_neg (by omega)]; exact h2 b (by have := hB.size; omega)
        · cases i with
          | zero =>
            cases hr; cases hu
            exact .inr ⟨g, cap, cur, _, e1, if_pos rfl, hg, hs, Nat.zero_le _, hm, (fun e he => by cases he), fun i e j x hi => by simp at hi⟩
          | succ i => simp at hr
end Go.Proofs.YtncobemfpammfaaGreat

namespace Go.Proofs.YtncobemfpammfaaGreat.V

def patchV (i : Nat) (v : List Sec) (l : List Exn) : List Wrt := l.map fun x => ⟨i, x.start, (v.drop x.start.toNat).take x.count.toNat⟩
def patchN (a b : Img) (n : Nat) : List Wrt := (List.range n).flatMap fun i => patchV i (b.getD i []) (volDiff (a.getD i []) (b.getD i []))
def patchOf (a b : Img) : List Wrt := patchN a b a.length
theorem patchN_succ (a b : Img) (n : Nat) : patchN a b (n + 1) = patchN a b n ++ patchV n (b.getD n []) (volDiff (a.getD n []) (b.getD n [])) := by
  simp [patchN, List.range_succ, List.flatMap_append]
theorem exts_in : ∀ (n : Nat) (l : List Nat), l.length = n → ∀ N : Nat, (∀ i ∈ l, i < N) → ∀ x ∈ exts l, 0 ≤ x.start ∧ 1 ≤ x.count ∧ x.start + x.count ≤ (N : Int) := by
  intro n
  induction n with
  | zero =>
    intro l hl N _ x hx
    rw [List.eq_nil_of_length_eq_zero hl] at hx
    simp [exts] at hx
  | succ n ih =>
    intro l hl N hN x hx
    rcases snoc_cases l with rfl | ⟨p, j, rfl⟩
    · simp at hl
    · have hj := hN j (by simp)
      have ihp := ih p (by simpa using hl) N (fun i hi => hN i (by simp [hi]))
      rw [exts_snoc] at hx
      rcases snoc_cases (exts p) with e | ⟨pre, y, e⟩
      · rw [e] at hx
        simp only [addAt, List.getLast?_nil, List.mem_singleton] at hx
        subst hx
        exact ⟨by simp, by simp, by simp; omega⟩
      · rw [e, addAt_snoc] at hx
        have hy := ihp y (by rw [e]; simp)
        split at hx
        · rename_i h1
          rcases List.mem_append.1 hx with h | h
          · exact ihp x (by rw [e]; simp [h])
          · simp only [List.mem_singleton] at h
            subst h
            simp only
            omega
        · rcases List.mem_append.1 hx with h | h
          · exact ihp x (by rw [e]; exact h)
          · simp only [List.mem_singleton] at h
            subst h
            exact ⟨by simp, by simp, by simp; omega⟩
theorem volDiff_in {a b : List Sec} {x : Exn} (h : x ∈ volDiff a b) : 0 ≤ x.start ∧ 1 ≤ x.count ∧ x.start + x.count ≤ (a.length : Int) :=
  exts_in _ _ rfl a.length (fun i hi => difN_lt hi) x h
theorem zip_get {a b : Img} {i : Nat} (h1 : i < a.length) (h2 : i < b.length) : (differ a b)[i]? = some (volDiff a[i] b[i]) := by
  have hz : i < (a.zip b).length := by simp; omega
  simp only [differ, List.getElem?_map, List.getElem?_eq_getElem hz, Option.map_some, List.getElem_zip]
theorem getD_lt {α : Type} {l : List α} {i : Nat} {d : α} (h : i < l.length) : l.getD i d = l[i] := by simp [List.getD_eq_getElem?_getD, List.getElem?_eq_getElem h]
end Go.Proofs.YtncobemfpammfaaGreat.V

namespace Go.Proofs.YtncobemfpammfaaGreat.V
end Go.Proofs.YtncobemfpammfaaGreat.V

namespace Go.Proofs.YtncobemfpammfaaGreat.V
end Go.Proofs.YtncobemfpammfaaGreat.V

namespace Go.Proofs.YtncobemfpammfaaGreat.V

end Go.Proofs.YtncobemfpammfaaGreat.V

namespace Go.Proofs.YtncobemfpammfaaGreat.V

end Go.Proofs.YtncobemfpammfaaGreat.V

namespace Go.Proofs.YtncobemfpammfaaGreat.V

def okW (l : List Wrt) : Prop := ∀ w ∈ l, i64b w.volume = true ∧ i64b w.start = true
theorem cal16 {im : Img} {l : List Wrt} (hw : okW l) (hl : im.length ≤ 1000000) (hr : ∀ v ∈ im, v.length ≤ 1000000) : cal env 16 [.list 1 (im.map eSecs), .list 3 (l.map eWr)] = some [(.list 1 ((apO im l).map eSecs), false), (.int .i64 (apI im l), false), (.int .i64 (apE im l), false)] :=
  (cal_ext env16).trans (applyX_enc hw hl hr)
end Go.Proofs.YtncobemfpammfaaGreat.V

namespace Go.Proofs.YtncobemfpammfaaGreat.V

end Go.Proofs.YtncobemfpammfaaGreat.V

namespace Go.Proofs.YtncobemfpammfaaGreat.V

def getS (im : Img) (v s : Nat) : Sec := (im.getD v []).getD s zSec
def hit (w : Wrt) (v s : Nat) : Bool := decide (w.volume = (v : Int)) && (decide (w.start ≤ (s : Int)) && decide ((s : Int) - w.start < w.data.length))
def wantStep (v s : Nat) (x : Sec) (w : Wrt) : Sec := if hit w v s then w.data.getD ((s : Int) - w.start).toNat zSec else x
def wantOf (v s : Nat) (l : List Wrt) (x : Sec) : Sec := l.foldl (wantStep v s) x
theorem wrErr_facts {im : Img} {w : Wrt} (h : wrErr (szsOf im) w = 0) : 0 ≤ w.volume ∧ w.volume < (im.length : Int) ∧ 0 < w.data.length ∧ 0 ≤ w.start ∧ w.start + w.data.length ≤ ((im.getD w.volume.toNat []).length : Int) := by
  unfold wrErr at h
  have hl : (szsOf im).length = im.length := by simp [szsOf]
  rw [hl] at h
  split at h
  · omega
  · rename_i h1
    split at h
    · omega
    · rename_i h2
      split at h
      · omega
      · rename_i h3
        have h4 : w.volume.toNat < im.length := by omega
        have e : (szsOf im).getD w.volume.toNat 0 = ((im.getD w.volume.toNat []).length : Int) := by
          simp only [szsOf, List.getD_eq_getElem?_getD, List.getElem?_map, List.getElem?_eq_getElem h4, Option.map_some, Option.getD_some]
        rw [e] at h3
        exact ⟨by omega, by omega, by omega, by omega, by omega⟩
theorem putAt_get {l d : List Sec} {s k : Nat} (h : s + d.length ≤ l.length) (hk : k < l.length) : (putAt l s d).getD k zSec = if s ≤ k ∧ k < s + d.length then d.getD (k - s) zSec else l.getD k zSec := by
  have h1 : (l.take s).length = s := by rw [List.length_take]; omega
  simp only [putAt, List.getD_eq_getElem?_getD]
  by_cases c1 : k < s
  · rw [List.append_assoc, List.getElem?_append_left (by omega), if_neg (by omega), List.getElem?_take_of_lt c1]
  · by_cases c2 : k < s + d.length
    · rw [List.append_assoc, List.getElem?_append_right (by omega), h1, List.getElem?_append_left (by omega), if_pos (by omega)]
    · rw [List.getElem?_append_right (by simp; omega), if_neg (by omega)]
      simp only [List.length_append, h1, List.getElem?_drop]
      congr 2; omega
theorem put1_get {im : Img} {w : Wrt} {v s : Nat} (h : wrErr (szsOf im) w = 0) (hv : v < im.length) (hs : s < (im.getD v []).length) : getS (put1 im w) v s = wantStep v s (getS im v s) w := by
  obtain ⟨h1, h2, h3, h4, h5⟩ := wrErr_facts h
  unfold getS put1 wantStep hit
  by_cases e : w.volume.toNat = v
  · subst e
    have : (im.set w.volume.toNat (putAt (im.getD w.volume.toNat []) w.start.toNat w.data)).getD w.volume.toNat [] = putAt (im.getD w.volume.toNat []) w.start.toNat w.data := by
      simp [List.getD_eq_getElem?_getD, List.getElem?_set, hv]
    rw [this, putAt_get (by omega) hs]
    have ev : decide (w.volume = ((w.volume.toNat : Nat) : Int)) = true := by simp; omega
    rw [ev, Bool.true_and]
    by_cases c : w.start.toNat ≤ s ∧ s < w.start.toNat + w.data.length
    · rw [if_pos c, decide_eq_true (show w.start ≤ (s : Int) by omega), decide_eq_true (show (s : Int) - w.start < w.data.length by omega)]
      simp only [Bool.and_self, if_true]
      congr 1; omega
    · rw [if_neg c]
      by_cases c1 : w.start ≤ (s : Int)
      · rw [decide_eq_true c1, decide_eq_false (show ¬ (s : Int) - w.start < w.data.length by omega)]; rfl
      · rw [decide_eq_false c1]; rfl
  · have : (im.set w.volume.toNat (putAt (im.getD w.volume.toNat []) w.start.toNat w.data)).getD v [] = im.getD v [] := by
      simp [List.getD_eq_getElem?_getD, List.getElem?_set, e]
    rw [this, decide_eq_false (show ¬ w.volume = (v : Int) by omega)]
    rfl
theorem szs_getD {a b : Img} (h : szsOf a = szsOf b) (v : Nat) : (a.getD v []).length = (b.getD v []).length ∧ a.length = b.length := by
  obtain ⟨h1, h2⟩ := sizes_inj (a := a) (b := b) h
  refine ⟨?_, h1⟩
  by_cases hv : v < a.length
  · rw [getD_lt hv, getD_lt (show v < b.length by omega)]; exact h2 v hv (by omega)
  · simp [List.getD_eq_getElem?_getD, List.getElem?_eq_none (show a.length ≤ v by omega), List.getElem?_eq_none (show b.length ≤ v by omega)]
theorem puts_get : ∀ (l : List Wrt) (im : Img) (i : Nat), (wrErrs (szsOf im) l i).2 = 0 → ∀ {v s : Nat}, v < im.length → s < (im.getD v []).length → getS (l.foldl put1 im) v s = wantOf v s l (getS im v s)
  | [], _, _, _, _, _, _, _ => rfl
  | w :: l, im, i, h, v, s, hv, hs => by
    unfold wrErrs at h
    split at h
    · rename_i h2; exact absurd h h2
    · rename_i h2
      have h2 : wrErr (szsOf im) w = 0 := by omega
      have e := wrErr_ok h2
      obtain ⟨q1, q2⟩ := szs_getD e v
      rw [List.foldl_cons, puts_get l (put1 im w) (i + 1) (by rw [e]; exact h) (by omega) (by omega), put1_get h2 hv hs]
      rfl
end Go.Proofs.YtncobemfpammfaaGreat.V

namespace Go.Proofs.YtncobemfpammfaaGreat.V
end Go.Proofs.YtncobemfpammfaaGreat.V

namespace Go.Proofs.YtncobemfpammfaaGreat.V

theorem wrErrs_ok (sz : List Int) : ∀ (l : List Wrt) (i : Nat), (∀ w ∈ l, wrErr sz w = 0) → (wrErrs sz l i).2 = 0
  | [], _, _ => rfl
  | w :: l, i, h => by
    unfold wrErrs
    rw [if_neg (by rw [h w (by simp)]; simp)]
    exact wrErrs_ok sz l (i + 1) fun x hx => h x (by simp [hx])
theorem bound_list : ∀ l : List Nat, ∃ m : Nat, ∀ k ∈ l, k < m
  | [] => ⟨0, fun k hk => by cases hk⟩
  | x :: l => by
    obtain ⟨m, hm⟩ := bound_list l
    refine ⟨max m (x + 1), fun k hk => ?_⟩
    rcases List.mem_cons.1 hk with rfl | hk
    · omega
    · have := hm k hk; omega
theorem exts_cover : ∀ (n : Nat) (l : List Nat), l.length = n → ∀ i ∈ l, ∃ x ∈ exts l, x.start ≤ (i : Int) ∧ (i : Int) < x.start + x.count := by
  intro n
  induction n with
  | zero => intro l hl i hi; rw [List.eq_nil_of_length_eq_zero hl] at hi; cases hi
  | succ n ih =>
    intro l hl i hi
    rcases snoc_cases l with rfl | ⟨p, j, rfl⟩
    · simp at hl
    · have ihp := ih p (by simpa using hl)
      have hin := exts_in _ p rfl
      rw [exts_snoc]
      rcases snoc_cases (exts p) with e | ⟨pre, y, e⟩
      · rw [e] at ihp ⊢
        rcases List.mem_append.1 hi with h | h
        · obtain ⟨x, hx, _⟩ := ihp i h; cases hx
        · simp only [List.mem_singleton] at h; subst h
          exact ⟨⟨i, 1⟩, by simp [addAt], by simp, by simp only; omega⟩
      · rw [e] at ihp ⊢
        rw [addAt_snoc]
        have hc : 1 ≤ y.count := by
          obtain ⟨m, hm⟩ : ∃ m : Nat, ∀ k ∈ p, k < m := bound_list p
          exact (hin m hm y (by rw [e]; simp)).2.1
        split
        · rename_i hy
          rcases List.mem_append.1 hi with h | h
          · obtain ⟨x, hx, h1, h2⟩ := ihp i h
            rcases List.mem_append.1 hx with hx | hx
            · exact ⟨x, by simp [hx], h1, h2⟩
            · simp only [List.mem_singleton] at hx; subst hx
              exact ⟨⟨x.start, x.count + 1⟩, by simp, h1, by simp only; omega⟩
          · simp only [List.mem_singleton] at h; subst h
            exact ⟨⟨y.start, y.count + 1⟩, by simp, by simp only; omega, by simp only; omega⟩
        · rcases List.mem_append.1 hi with h | h
          · obtain ⟨x, hx, h1, h2⟩ := ihp i h
            exact ⟨x, List.mem_append_left _ hx, h1, h2⟩
          · simp only [List.mem_singleton] at h; subst h
            exact ⟨⟨i, 1⟩, by simp, by simp, by simp only; omega⟩
def cntX (l : List Exn) : Int := (l.map fun x => x.count).sum
theorem cntX_append (l m : List Exn) : cntX (l ++ m) = cntX l + cntX m := by simp [cntX]
theorem exts_sum : ∀ (n : Nat) (l : List Nat), l.length = n → cntX (exts l) = n := by
  intro n
  induction n with
  | zero => intro l hl; rw [List.eq_nil_of_length_eq_zero hl]; rfl
  | succ n ih =>
    intro l hl
    rcases snoc_cases l with rfl | ⟨p, j, rfl⟩
    · simp at hl
    · have ihp := ih p (by simpa using hl)
      rw [exts_snoc]
      rcases snoc_cases (exts p) with e | ⟨pre, y, e⟩
      · rw [e] at ihp ⊢
        simp [cntX] at ihp
        simp [addAt, cntX]; omega
      · rw [e] at ihp ⊢
        rw [cntX_append] at ihp
        rw [addAt_snoc]
        split
        · rw [cntX_append]; simp [cntX] at ihp ⊢; omega
        · rw [cntX_append, cntX_append]; simp [cntX] at ihp ⊢; omega
theorem mem_patch {a b : Img} (h1 : a.length = b.length) {w : Wrt} (hw : w ∈ patchOf a b) : ∃ (i : Nat) (ha : i < a.length) (hb : i < b.length), ∃ x ∈ volDiff a[i] b[i], w = ⟨i, x.start, (b[i].drop x.start.toNat).take x.count.toNat⟩ := by
  simp only [patchOf, patchN, List.mem_flatMap, List.mem_range, patchV, List.mem_map] at hw
  obtain ⟨i, hi, x, hx, rfl⟩ := hw
  rw [getD_lt hi, getD_lt (show i < b.length by omega)] at hx
  exact ⟨i, hi, by omega, x, hx, by rw [getD_lt (show i < b.length by omega)]⟩
theorem patch_mem {a b : Img} {i : Nat} (ha : i < a.length) (hb : i < b.length) {x : Exn} (hx : x ∈ volDiff a[i] b[i]) : (⟨i, x.start, (b[i].drop x.start.toNat).take x.count.toNat⟩ : Wrt) ∈ patchOf a b := by
  simp only [patchOf, patchN, List.mem_flatMap, List.mem_range, patchV, List.mem_map]
  exact ⟨i, ha, x, by rw [getD_lt ha, getD_lt hb]; exact hx, by rw [getD_lt hb]⟩
theorem patch_fits {a b : Img} (hs : imSizes a = imSizes b) {w : Wrt} (hw : w ∈ patchOf a b) : wrErr (szsOf a) w = 0 ∧ i64b w.volume = true ∧ i64b w.start = true ∨ ¬ (a.length ≤ lim ∧ ∀ v ∈ a, v.length ≤ lim) := by
  obtain ⟨z1, z2⟩ := sizes_inj hs
  by_cases hl : a.length ≤ lim ∧ ∀ v ∈ a, v.length ≤ lim
  rotate_left
  · exact .inr hl
  left
  obtain ⟨i, ha, hb, x, hx, rfl⟩ := mem_patch z1 hw
  obtain ⟨h1, h2, h3⟩ := volDiff_in hx
  have hla := hl.2 _ (List.getElem_mem ha)
  have hlen : ((b[i].drop x.start.toNat).take x.count.toNat).length = x.count.toNat := by simp; have := z2 i ha hb; omega
  have hlim : lim = 1073741824 := rfl
  refine ⟨?_, by simp [i64b]; omega, by simp [i64b]; omega⟩
  have hsz : (szsOf a).length = a.length := by simp [szsOf]
  have hgd : (szsOf a).getD i 0 = (a[i].length : Int) := by
    simp only [szsOf, List.getD_eq_getElem?_getD, List.getElem?_map, List.getElem?_eq_getElem ha, Option.map_some, Option.getD_some]
  unfold wrErr
  simp only [hsz, hlen]
  rw [if_neg (by omega), if_neg (by omega), if_neg (by rw [show ((i : Int)).toNat = i by simp, hgd]; omega)]
theorem want_all (v s : Nat) (B : Sec) : ∀ (l : List Wrt) (x : Sec), (∀ w ∈ l, hit w v s = true → w.data.getD ((s : Int) - w.start).toNat zSec = B) → (x = B ∨ ∃ w ∈ l, hit w v s = true) → wantOf v s l x = B
  | [], x, _, h => by
    rcases h with h | ⟨w, hw, _⟩
    · exact h
    · cases hw
  | w :: l, x, hh, h => by
    show wantOf v s l (wantStep v s x w) = B
    refine want_all v s B l _ (fun y hy => hh y (by simp [hy])) ?_
    by_cases c : hit w v s = true
    · left; unfold wantStep; rw [if_pos c]; exact hh w (by simp) c
    · rcases h with h | ⟨y, hy, hc⟩
      · left; unfold wantStep; rw [if_neg c]; exact h
      · rcases List.mem_cons.1 hy with rfl | hy
        · exact absurd hc c
        · exact .inr ⟨y, hy, hc⟩
theorem patch_makes {a b : Img} (hs : imSizes a = imSizes b) (h0 : szErr (szsOf a) = 0) (hl : a.length ≤ lim) (hr : ∀ v ∈ a, v.length ≤ lim) : apE a (patchOf a b) = 0 ∧ apO a (patchOf a b) = b := by
  obtain ⟨z1, z2⟩ := sizes_inj hs
  have hfit : ∀ w ∈ patchOf a b, wrErr (szsOf a) w = 0 := fun w hw => by
    rcases patch_fits hs hw with h | h
    · exact h.1
    · exact absurd ⟨hl, hr⟩ h
  have hE := wrErrs_ok (szsOf a) (patchOf a b) 0 hfit
  have he : apE a (patchOf a b) = 0 := by unfold apE; rw [if_neg (by rw [h0]; simp)]; exact hE
  refine ⟨he, ?_⟩
  have hO : apO a (patchOf a b) = (patchOf a b).foldl put1 a := by unfold apO; rw [if_pos he]
  have hsz := apO_sizes he
  obtain ⟨y1, y2⟩ := sizes_inj (a := apO a (patchOf a b)) (b := a) hsz
  apply List.ext_getElem (by omega)
  intro v h1 h2
  have hva : v < a.length := by omega
  apply List.ext_getElem (by rw [y2 v h1 hva, z2 v hva h2])
  intro s h3 h4
  have hsa : s < a[v].length := by rw [z2 v hva h2]; exact h4
  have := puts_get (patchOf a b) a 0 hE hva (s := s) (by rw [getD_lt hva]; exact hsa)
  rw [← hO] at this
  unfold getS at this
  rw [getD_lt h1, getD_lt h3, getD_lt hva, getD_lt hsa] at this
  rw [this]
  refine want_all v s b[v][s] _ _ (fun w hw hh => ?_) ?_
  · obtain ⟨i, ha, hb, x, hx, rfl⟩ := mem_patch z1 hw
    simp only [hit, Bool.and_eq_true, decide_eq_true_eq] at hh
    obtain ⟨e1, e2, e3⟩ := hh
    have : i = v := by omega
    subst this
    obtain ⟨q1, q2, q3⟩ := volDiff_in hx
    simp only [List.length_take, List.length_drop] at e3
    have hk : ((s : Int) - x.start).toNat < ((b[i].drop x.start.toNat).take x.count.toNat).length := by simp; omega
    rw [getD_lt hk, List.getElem_take, List.getElem_drop]
    congr 1; omega
  · by_cases hd : a[v][s] = b[v][s]
    · exact .inl hd
    · right
      have hmem : s ∈ difs a[v] b[v] := by
        simp only [difs, difN, List.mem_filter, List.mem_range]
        exact ⟨hsa, by simp [dif, List.getElem?_eq_getElem hsa, List.getElem?_eq_getElem h4, hd]⟩
      obtain ⟨x, hx, k1, k2⟩ := exts_cover _ _ rfl s hmem
      obtain ⟨q1, q2, q3⟩ := volDiff_in hx
      refine ⟨_, patch_mem hva h2 hx, ?_⟩
      have := z2 v hva h2
      simp only [hit, Bool.and_eq_true, decide_eq_true_eq, List.length_take, List.length_drop]
      exact ⟨trivial, k1, by omega⟩
def cntA (a b : Img) (n : Nat) : Nat := ((List.range n).map fun v => (difs (a.getD v []) (b.getD v [])).length).sum
theorem cntA_succ (a b : Img) (n : Nat) : cntA a b (n + 1) = cntA a b n + (difs (a.getD n []) (b.getD n [])).length := by simp [cntA, List.range_succ]
def datLen (l : List Wrt) : Nat := (l.map fun w => w.data.length).sum
theorem datLen_append (l m : List Wrt) : datLen (l ++ m) = datLen l + datLen m := by simp [datLen]
theorem patchV_len {i : Nat} {v : List Sec} : ∀ {l : List Exn}, (∀ x ∈ l, 0 ≤ x.start ∧ 1 ≤ x.count ∧ x.start + x.count ≤ (v.length : Int)) → (datLen (patchV i v l) : Int) = cntX l
  | [], _ => rfl
  | x :: l, h => by
    obtain ⟨h1, h2, h3⟩ := h x (by simp)
    have ih := patchV_len (i := i) (l := l) fun y hy => h y (by simp [hy])
    simp only [datLen, patchV, cntX, List.map_cons, List.sum_cons, List.length_take, List.length_drop] at ih ⊢
    omega
theorem patch_cnt {a b : Img} (hs : imSizes a = imSizes b) : ∀ n, n ≤ a.length → datLen (patchN a b n) = cntA a b n := by
  obtain ⟨z1, z2⟩ := sizes_inj hs
  intro n
  induction n with
  | zero => intro _; rfl
  | succ n ih =>
    intro h
    rw [patchN_succ, datLen_append, cntA_succ, ih (by omega)]
    congr 1
    have ha : n < a.length := by omega
    have hb : n < b.length := by omega
    rw [getD_lt ha, getD_lt hb]
    have e1 := patchV_len (i := n) (v := b[n]) (l := volDiff a[n] b[n]) fun x hx => by rw [← z2 n ha hb]; exact volDiff_in hx
    have e2 := exts_sum _ (difs a[n] b[n]) rfl
    unfold volDiff at e1
    rw [e2] at e1
    unfold volDiff
    omega
end Go.Proofs.YtncobemfpammfaaGreat.V

namespace Go.Proofs.YtncobemfpammfaaGreat.V
def misN (a b : List Sec) (l : List Exn) (n : Nat) : List Nat := (difN a b n).filter fun i => !hasX l (i : Int)
theorem misN_len (a b : List Sec) (l : List Exn) (n : Nat) : (misN a b l n).length ≤ n := Nat.le_trans (List.length_filter_le _ _) (difN_len a b n)
theorem misN_succ (a b : List Sec) (l : List Exn) (n : Nat) : misN a b l (n + 1) = if dif a b n then (if hasX l (n : Int) then misN a b l n else misN a b l n ++ [n]) else misN a b l n := by
  unfold misN
  rw [difN_succ]
  by_cases h : dif a b n = true
  · rw [if_pos h, if_pos h, List.filter_append]
    by_cases h2 : hasX l (n : Int) = true
    · rw [if_pos h2]; simp [h2]
    · rw [if_neg h2]; simp [h2]
  · rw [if_neg h, if_neg h]
def numD (a b : Img) (n : Nat) : Nat := ((List.range n).map fun v => (difs (a.getD v []) (b.getD v [])).length).sum
def numM (a b : Img) (l : List (List Exn)) (n : Nat) : Nat := ((List.range n).map fun v => (misN (a.getD v []) (b.getD v []) (l.getD v []) (a.getD v []).length).length).sum
theorem numD_succ (a b : Img) (n : Nat) : numD a b (n + 1) = numD a b n + (difs (a.getD n []) (b.getD n [])).length := by simp [numD, List.range_succ]
theorem numM_succ (a b : Img) (l : List (List Exn)) (n : Nat) : numM a b l (n + 1) = numM a b l n + (misN (a.getD n []) (b.getD n []) (l.getD n []) (a.getD n []).length).length := by simp [numM, List.range_succ]
theorem numD_lim {a b : Img} (hr : ∀ v ∈ a, v.length ≤ 1000) : ∀ n, n ≤ a.length → numD a b n ≤ 1000 * n
  | 0, _ => by simp [numD]
  | n + 1, h => by
    have ih := numD_lim (b := b) hr n (by omega)
    have e : a.getD n [] = a[n] := by simp [show n < a.length by omega]
    have h2 := hr _ (List.getElem_mem (show n < a.length by omega))
    have h3 := difN_len a[n] (b.getD n []) a[n].length
    rw [numD_succ, e]; unfold difs; omega
theorem numM_lim {a b : Img} {l : List (List Exn)} (hr : ∀ v ∈ a, v.length ≤ 1000) : ∀ n, n ≤ a.length → numM a b l n ≤ 1000 * n
  | 0, _ => by simp [numM]
  | n + 1, h => by
    have ih := numM_lim (b := b) (l := l) hr n (by omega)
    have e : a.getD n [] = a[n] := by simp [show n < a.length by omega]
    have h2 := hr _ (List.getElem_mem (show n < a.length by omega))
    have h3 := misN_len a[n] (b.getD n []) (l.getD n []) a[n].length
    rw [numM_succ, e]; omega
theorem nat_succ_i64 {n : Nat} (h : n ≤ lim) : IntKind.i64.wrap ((n : Int) + 1) = ((n + 1 : Nat) : Int) := by
  rw [Int.natCast_succ]; exact i64_fits (by unfold lim at h; omega)
theorem loop17 {a b : Img} {l : List (List Exn)} {v n0 m0 : Nat} (hv : v < a.length) (hb : v < b.length) (hv2 : v < l.length) (hab : a[v].length = b[v].length) (h1000 : a[v].length ≤ 1000) (hn : n0 ≤ 1000000) (hm : m0 ≤ 1000000) (ho : ∀ x ∈ l, okEs x) (hr : ∀ x ∈ l, x.length ≤ 10000) {st : St} (h : st.head [0, 1, 2, 8, 9, 10, 11] st.boxes.length = some ⟨[.pv (.list 1 (a.map eSecs)), .pv (.list 1 (b.map eSecs)), .pv (.list 1 (l.map eExts)), .any, .any, .any, .any, .any, .pv (.int .i64 ((n0 + (difN a[v] b[v] (0 : Nat)).length : Nat) : Int)), .pv (.int .i64 ((m0 + (misN a[v] b[v] l[v] (0 : Nat)).length : Nat) : Int)), .pv (.int .i64 v), .pv (.int .i64 (0 : Nat)), .any, .any, .any, .any, .any, .any, .any, .any, .any, .any, .any, .any, .any, .any, .any, .any, .any, .any, .any, .any, .any, .any, .any, .any, .any, .any, .any, .any, .any, .any, .any, .any, .any, .any, .any, .any, .any, .any, .any, .any, .any, .any, .any], [], [], none⟩) :
   den env fn17_l1 st = some (.normal, ⟨[.pv (.list 1 (a.map eSecs)), .pv (.list 1 (b.map eSecs)), .pv (.list 1 (l.map eExts)), .any, .any, .any, .any, .any, .pv (.int .i64 ((n0 + (difs a[v] b[v]).length : Nat) : Int)), .pv (.int .i64 ((m0 + (misN a[v] b[v] l[v] a[v].length).length : Nat) : Int)), .pv (.int .i64 v), .any, .any, .any, .any, .any, .any, .any, .any, .any, .any, .any, .any, .any, .any, .any, .any, .any, .any, .any, .any, .any, .any, .any, .any, .any, .any, .any, .any, .any, .any, .any, .any, .any, .any, .any, .any, .any, .any, .any, .any, .any, .any, .any, .any], [], [], none⟩) := by
  unfold fn17_l1
  refine clean_up (env := env) (a[v].length) (fun i => ⟨[.pv (.list 1 (a.map eSecs)), .pv (.list 1 (b.map eSecs)), .pv (.list 1 (l.map eExts)), .any, .any, .any, .any, .any, .pv (.int .i64 ((n0 + (difN a[v] b[v] i).length : Nat) : Int)), .pv (.int .i64 ((m0 + (misN a[v] b[v] l[v] i).length : Nat) : Int)), .pv (.int .i64 v), .pv (.int .i64 i), .any, .any, .any, .any, .any, .any, .any, .any, .any, .any, .any, .any, .any, .any, .any, .any, .any, .any, .any, .any, .any, .any, .any, .any, .any, .any, .any, .any, .any, .any, .any, .any, .any, .any, .any, .any, .any, .any, .any, .any, .any, .any, .any], [], [], none⟩) (fun i => some (.normal, ⟨[.pv (.list 1 (a.map eSecs)), .pv (.list 1 (b.map eSecs)), .pv (.list 1 (l.map eExts)), .any, .any, .any, .any, .any, .pv (.int .i64 ((n0 + (difs a[v] b[v]).length : Nat) : Int)), .pv (.int .i64 ((m0 + (misN a[v] b[v] l[v] a[v].length).length : Nat) : Int)), .pv (.int .i64 v), .any, .any, .any, .any, .any, .any, .any, .any, .any, .any, .any, .any, .any, .any, .any, .any, .any, .any, .any, .any, .any, .any, .any, .any, .any, .any, .any, .any, .any, .any, .any, .any, .any, .any, .any, .any, .any, .any, .any, .any, .any, .any, .any, .any], [], [], none⟩)) h (fun _ => rfl) (fun _ => rfl) ?_ ?_
  · intro i rb hi ih

    have hi1 := i64_next hi (Nat.le_trans h1000 (by decide))
    have hj : i < b[v].length := by omega
    have F1 : ((i : Int) < (a[v].length : Int)) = True := eq_true (by omega)
    have e1 := eqCells_sec a[v][i] b[v][i]
    have e2 := cal41 (s := (i : Int)) (ho _ (List.getElem_mem hv2)) (hr _ (List.getElem_mem hv2))
    have hd := difN_len a[v] b[v] i
    have hm2 := misN_len a[v] b[v] l[v] i
    have hlim : lim = 1073741824 := rfl
    have W1 := nat_succ_i64 (n := n0 + (difN a[v] b[v] i).length) (by omega)
    have W2 := nat_succ_i64 (n := m0 + (misN a[v] b[v] l[v] i).length) (by omega)
    have D : dif a[v] b[v] i = !decide (a[v][i] = b[v][i]) := by simp [dif, hi, hj]
    have PS : ∀ x : Sec, part (secPV x) 0 (some 8) = some (.agg (secPV x)) := part_sec
    have S1 := difN_succ a[v] b[v] i
    have S2 := misN_succ a[v] b[v] l[v] i
    rw [D] at S1 S2
    by_cases c : a[v][i] = b[v][i]
    · rw [decide_eq_true c] at e1 S1 S2
      simp only [Bool.not_true, Bool.false_eq_true, if_false] at S1 S2
      simp only [fn17_b0, F1, e1, PS, eSec, eSecs, secPV_length, index_nat hv, index_nat hb, index_nat hi, index_nat hj, List.getElem?_map, List.getElem?_eq_getElem hv, List.getElem?_eq_getElem hb, List.getElem?_eq_getElem hi, List.getElem?_eq_getElem hj, List.isEmpty_nil, val_pvs, frozen_pvs, msnoc_len, msnoc_get, msnoc_set, msnoc_take, Int.le_refl, take_map_all, Nat.le_refl, St.freezeRows, BV.frozen, List.take_length, List.take_append_drop, z_repl_zero, Int.toNat_zero, true_and, and_true, and_self, eq_self, z_take_zero, List.drop_nil, List.take_nil, vAll, List.foldl_nil, List.foldl_cons, resultsOf, resultList, resultOf, zBV, splice, PV.remade, St.freezeAt, St.freezeBox, St.freezeCap, PV.single, plain, act, dstOf, if_true, if_false, reduceCtorEq, St.get, St.put, St.pvOf, St.putRow, St.consume, St.freeze, St.row, St.elems, St.grab, St.takeRow, St.setRow, St.place, St.optPv, St.setCell, St.setCellRow, binPV, intBin, unPV, BV.val, Nat.reduceEqDiff, bound, consumeAll, buildParts, capsOf, capOf, List.append_nil, Nat.reduceAdd, Nat.reduceLT, Nat.reduceLeDiff, beq_self_eq_true, List.length_map, Nat.beq, dcall, dcallP, List.mapM_cons, St.snapFn, St.snap, St.layAll, St.lay, St.freezeArg, St.freezeArg1]
      rw [ih _ (by simp only [hi1, S1, S2]; rfl)]
    · rw [decide_eq_false c] at e1 S1 S2
      simp only [Bool.not_false, if_true] at S1 S2
      cases hh : hasX l[v] (i : Int) with
      | true =>
        rw [hh] at e2
        simp only [hh, if_true] at S2
        simp only [fn17_b0, F1, e1, e2, W1, PS, eSec, eSecs, eExts, secPV_length, index_nat hv, index_nat hb, index_nat hv2, index_nat hi, index_nat hj, List.getElem?_map, List.getElem?_eq_getElem hv, List.getElem?_eq_getElem hb, List.getElem?_eq_getElem hv2, List.getElem?_eq_getElem hi, List.getElem?_eq_getElem hj, List.isEmpty_nil, val_pvs, frozen_pvs, msnoc_len, msnoc_get, msnoc_set, msnoc_take, Int.le_refl, take_map_all, Nat.le_refl, St.freezeRows, BV.frozen, List.take_length, List.take_append_drop, z_repl_zero, Int.toNat_zero, true_and, and_true, and_self, eq_self, z_take_zero, List.drop_nil, List.take_nil, vAll, List.foldl_nil, List.foldl_cons, resultsOf, resultList, resultOf, zBV, splice, PV.remade, St.freezeAt, St.freezeBox, St.freezeCap, PV.single, plain, act, dstOf, if_true, if_false, reduceCtorEq, St.get, St.put, St.pvOf, St.putRow, St.consume, St.freeze, St.row, St.elems, St.grab, St.takeRow, St.setRow, St.place, St.optPv, St.setCell, St.setCellRow, binPV, intBin, unPV, BV.val, Nat.reduceEqDiff, bound, consumeAll, buildParts, capsOf, capOf, List.append_nil, Nat.reduceAdd, Nat.reduceLT, Nat.reduceLeDiff, beq_self_eq_true, List.length_map, Nat.beq, dcall, dcallP, List.mapM_cons, St.snapFn, St.snap, St.layAll, St.lay, St.freezeArg, St.freezeArg1]
        rw [ih _ (by simp only [hi1, S1, S2, List.length_append, List.length_cons, List.length_nil]; rfl)]
      | false =>
        rw [hh] at e2
        simp only [hh, Bool.false_eq_true, if_false] at S2
        simp only [fn17_b0, F1, e1, e2, W1, W2, PS, eSec, eSecs, eExts, secPV_length, index_nat hv, index_nat hb, index_nat hv2, index_nat hi, index_nat hj, List.getElem?_map, List.getElem?_eq_getElem hv, List.getElem?_eq_getElem hb, List.getElem?_eq_getElem hv2, List.getElem?_eq_getElem hi, List.getElem?_eq_getElem hj, List.isEmpty_nil, val_pvs, frozen_pvs, msnoc_len, msnoc_get, msnoc_set, msnoc_take, Int.le_refl, take_map_all, Nat.le_refl, St.freezeRows, BV.frozen, List.take_length, List.take_append_drop, z_repl_zero, Int.toNat_zero, true_and, and_true, and_self, eq_self, z_take_zero, List.drop_nil, List.take_nil, vAll, List.foldl_nil, List.foldl_cons, resultsOf, resultList, resultOf, zBV, splice, PV.remade, St.freezeAt, St.freezeBox, St.freezeCap, PV.single, plain, act, dstOf, if_true, if_false, reduceCtorEq, St.get, St.put, St.pvOf, St.putRow, St.consume, St.freeze, St.row, St.elems, St.grab, St.takeRow, St.setRow, St.place, St.optPv, St.setCell, St.setCellRow, binPV, intBin, unPV, BV.val, Nat.reduceEqDiff, bound, consumeAll, buildParts, capsOf, capOf, List.append_nil, Nat.reduceAdd, Nat.reduceLT, Nat.reduceLeDiff, beq_self_eq_true, List.length_map, Nat.beq, dcall, dcallP, List.mapM_cons, St.snapFn, St.snap, St.layAll, St.lay, St.freezeArg, St.freezeArg1]
        rw [ih _ (by simp only [hi1, S1, S2, List.length_append, List.length_cons, List.length_nil]; rfl)]
  · intro rb

    simp only [fn17_b0, Int.lt_irrefl, eSecs, index_nat hv, List.getElem?_map, List.getElem?_eq_getElem hv, List.isEmpty_nil, val_pvs, frozen_pvs, msnoc_len, msnoc_get, msnoc_set, msnoc_take, Int.le_refl, take_map_all, Nat.le_refl, St.freezeRows, BV.frozen, List.take_length, List.take_append_drop, z_repl_zero, Int.toNat_zero, true_and, and_true, and_self, eq_self, z_take_zero, List.drop_nil, List.take_nil, vAll, List.foldl_nil, List.foldl_cons, resultsOf, resultList, resultOf, zBV, splice, PV.remade, St.freezeAt, St.freezeBox, St.freezeCap, PV.single, plain, act, dstOf, if_true, if_false, reduceCtorEq, St.get, St.put, St.pvOf, St.putRow, St.consume, St.freeze, St.row, St.elems, St.grab, St.takeRow, St.setRow, St.place, St.optPv, St.setCell, St.setCellRow, binPV, intBin, unPV, BV.val, Nat.reduceEqDiff, bound, consumeAll, buildParts, capsOf, capOf, List.append_nil, Nat.reduceAdd, Nat.reduceLT, Nat.reduceLeDiff, beq_self_eq_true, List.length_map, Nat.beq, dcall, dcallP, List.mapM_cons, St.snapFn, St.snap, St.layAll, St.lay, St.freezeArg, St.freezeArg1]
    rfl

theorem loop17l3 {a b : Img} {l : List (List Exn)} (hab : a.length = b.length) (hz : ∀ i (h1 : i < a.length) (h2 : i < b.length), a[i].length = b[i].length) (hl : a.length ≤ l.length) (hal : a.length ≤ 1000) (hra : ∀ v ∈ a, v.length ≤ 1000) (ho : ∀ x ∈ l, okEs x) (hr : ∀ x ∈ l, x.length ≤ 10000) {st : St} (h : st.head [0, 1, 2, 8, 9, 10] st.boxes.length = some ⟨[.pv (.list 1 (a.map eSecs)), .pv (.list 1 (b.map eSecs)), .pv (.list 1 (l.map eExts)), .any, .any, .any, .any, .any, .pv (.int .i64 (numD a b (0 : Nat) : Int)), .pv (.int .i64 (numM a b l (0 : Nat) : Int)), .pv (.int .i64 (0 : Nat)), .any, .any, .any, .any, .any, .any, .any, .any, .any, .any, .any, .any, .any, .any, .any, .any, .any, .any, .any, .any, .any, .any, .any, .any, .any, .any, .any, .any, .any, .any, .any, .any, .any, .any, .any, .any, .any, .any, .any, .any, .any, .any, .any, .any], [], [], none⟩) :
   den env fn17_l3 st = some (.normal, ⟨[.any, .any, .any, .any, .any, .any, .any, .any, .pv (.int .i64 (numD a b a.length : Int)), .pv (.int .i64 (numM a b l a.length : Int)), .any, .any, .any, .any, .any, .any, .any, .any, .any, .any, .any, .any, .any, .any, .any, .any, .any, .any, .any, .any, .any, .any, .any, .any, .any, .any, .any, .any, .any, .any, .any, .any, .any, .any, .any, .any, .any, .any, .any, .any, .any, .any, .any, .any, .any], [], [], none⟩) := by
  unfold fn17_l3
  refine clean_up (env := env) (a.length) (fun i => ⟨[.pv (.list 1 (a.map eSecs)), .pv (.list 1 (b.map eSecs)), .pv (.list 1 (l.map eExts)), .any, .any, .any, .any, .any, .pv (.int .i64 (numD a b i : Int)), .pv (.int .i64 (numM a b l i : Int)), .pv (.int .i64 i), .any, .any, .any, .any, .any, .any, .any, .any, .any, .any, .any, .any, .any, .any, .any, .any, .any, .any, .any, .any, .any, .any, .any, .any, .any, .any, .any, .any, .any, .any, .any, .any, .any, .any, .any, .any, .any, .any, .any, .any, .any, .any, .any, .any], [], [], none⟩) (fun i => some (.normal, ⟨[.any, .any, .any, .any, .any, .any, .any, .any, .pv (.int .i64 (numD a b a.length : Int)), .pv (.int .i64 (numM a b l a.length : Int)), .any, .any, .any, .any, .any, .any, .any, .any, .any, .any, .any, .any, .any, .any, .any, .any, .any, .any, .any, .any, .any, .any, .any, .any, .any, .any, .any, .any, .any, .any, .any, .any, .any, .any, .any, .any, .any, .any, .any, .any, .any, .any, .any, .any, .any], [], [], none⟩)) h (fun _ => rfl) (fun _ => rfl) ?_ ?_
  · intro i rb hi ih

    have hi1 := i64_next hi (Nat.le_trans hal (by decide))
    have F1 : ((i : Int) < (a.length : Int)) = True := eq_true (by omega)
    have hjb : i < b.length := by omega
    have hjl : i < l.length := by omega
    have c1 := numD_lim (b := b) hra i (by omega)
    have c2 := numM_lim (b := b) (l := l) hra i (by omega)
    have c3 : 1000 * i ≤ 1000 * 1000 := Nat.mul_le_mul_left _ (by omega)
    have g1 : a.getD i [] = a[i] := by simp [hi]
    have g2 : b.getD i [] = b[i] := by simp [hjb]
    have g3 : l.getD i [] = l[i] := by simp [hjl]
    have s1 := numD_succ a b i
    have s2 := numM_succ a b l i
    rw [g1, g2] at s1
    rw [g1, g2, g3] at s2
    simp only [fn17_b2, F1, List.isEmpty_nil, val_pvs, frozen_pvs, msnoc_len, msnoc_get, msnoc_set, msnoc_take, Int.le_refl, take_map_all, Nat.le_refl, St.freezeRows, BV.frozen, List.take_length, List.take_append_drop, z_repl_zero, Int.toNat_zero, true_and, and_true, and_self, eq_self, z_take_zero, List.drop_nil, List.take_nil, vAll, List.foldl_nil, List.foldl_cons, resultsOf, resultList, resultOf, zBV, splice, PV.remade, St.freezeAt, St.freezeBox, St.freezeCap, PV.single, plain, act, dstOf, if_true, if_false, reduceCtorEq, St.get, St.put, St.pvOf, St.putRow, St.consume, St.freeze, St.row, St.elems, St.grab, St.takeRow, St.setRow, St.place, St.optPv, St.setCell, St.setCellRow, binPV, intBin, unPV, BV.val, Nat.reduceEqDiff, bound, consumeAll, buildParts, capsOf, capOf, List.append_nil, Nat.reduceAdd, Nat.reduceLT, Nat.reduceLeDiff, beq_self_eq_true, List.length_map, Nat.beq, dcall, dcallP, List.mapM_cons, St.snapFn, St.snap, St.layAll, St.lay, St.freezeArg, St.freezeArg1]
    rw [loop17 (a := a) (b := b) (l := l) (v := i) (n0 := numD a b i) (m0 := numM a b l i) hi hjb hjl (hz i hi hjb) (hra _ (List.getElem_mem hi)) (by omega) (by omega) ho hr]
    rotate_left
    · rfl
    rw [← s1, ← s2]
    simp only [List.isEmpty_nil, val_pvs, frozen_pvs, msnoc_len, msnoc_get, msnoc_set, msnoc_take, Int.le_refl, take_map_all, Nat.le_refl, St.freezeRows, BV.frozen, List.take_length, List.take_append_drop, z_repl_zero, Int.toNat_zero, true_and, and_true, and_self, eq_self, z_take_zero, List.drop_nil, List.take_nil, vAll, List.foldl_nil, List.foldl_cons, resultsOf, resultList, resultOf, zBV, splice, PV.remade, St.freezeAt, St.freezeBox, St.freezeCap, PV.single, plain, act, dstOf, if_true, if_false, reduceCtorEq, St.get, St.put, St.pvOf, St.putRow, St.consume, St.freeze, St.row, St.elems, St.grab, St.takeRow, St.setRow, St.place, St.optPv, St.setCell, St.setCellRow, binPV, intBin, unPV, BV.val, Nat.reduceEqDiff, bound, consumeAll, buildParts, capsOf, capOf, List.append_nil, Nat.reduceAdd, Nat.reduceLT, Nat.reduceLeDiff, beq_self_eq_true, List.length_map, Nat.beq, dcall, dcallP, List.mapM_cons, St.snapFn, St.snap, St.layAll, St.lay, St.freezeArg, St.freezeArg1]
    rw [ih _ (by simp only [hi1]; rfl)]
  · intro rb

    simp only [fn17_b2, Int.lt_irrefl, List.isEmpty_nil, val_pvs, frozen_pvs, msnoc_len, msnoc_get, msnoc_set, msnoc_take, Int.le_refl, take_map_all, Nat.le_refl, St.freezeRows, BV.frozen, List.take_length, List.take_append_drop, z_repl_zero, Int.toNat_zero, true_and, and_true, and_self, eq_self, z_take_zero, List.drop_nil, List.take_nil, vAll, List.foldl_nil, List.foldl_cons, resultsOf, resultList, resultOf, zBV, splice, PV.remade, St.freezeAt, St.freezeBox, St.freezeCap, PV.single, plain, act, dstOf, if_true, if_false, reduceCtorEq, St.get, St.put, St.pvOf, St.putRow, St.consume, St.freeze, St.row, St.elems, St.grab, St.takeRow, St.setRow, St.place, St.optPv, St.setCell, St.setCellRow, binPV, intBin, unPV, BV.val, Nat.reduceEqDiff, bound, consumeAll, buildParts, capsOf, capOf, List.append_nil, Nat.reduceAdd, Nat.reduceLT, Nat.reduceLeDiff, beq_self_eq_true, List.length_map, Nat.beq, dcall, dcallP, List.mapM_cons, St.snapFn, St.snap, St.layAll, St.lay, St.freezeArg, St.freezeArg1]
    rfl

theorem cal17 {a b : Img} {l : List (List Exn)} (hab : a.length = b.length) (hz : ∀ i (h1 : i < a.length) (h2 : i < b.length), a[i].length = b[i].length) (hl : a.length ≤ l.length) (hal : a.length ≤ 1000) (hra : ∀ v ∈ a, v.length ≤ 1000) (ho : ∀ x ∈ l, okEs x) (hr : ∀ x ∈ l, x.length ≤ 10000) :
    cal env 17 [.list 1 (a.map eSecs), .list 1 (b.map eSecs), .list 1 (l.map eExts)] = some [(.int .i64 (numD a b a.length : Int), false), (.int .i64 (numM a b l a.length : Int), false)] := by
  rw [cal_code env17 rfl]; simp only [fn17]; simp only [start, z_map_cons, z_map_nil, z_len_cons, z_len_nil, z_repl_zero, z_repl_succ, z_cons_app, z_nil_app, Nat.reduceAdd, Nat.reduceSub]
  simp only [List.isEmpty_nil, val_pvs, frozen_pvs, msnoc_len, msnoc_get, msnoc_set, msnoc_take, Int.le_refl, take_map_all, Nat.le_refl, St.freezeRows, BV.frozen, List.take_length, List.take_append_drop, z_repl_zero, Int.toNat_zero, true_and, and_true, and_self, eq_self, z_take_zero, List.drop_nil, List.take_nil, vAll, List.foldl_nil, List.foldl_cons, resultsOf, resultList, resultOf, zBV, splice, PV.remade, St.freezeAt, St.freezeBox, St.freezeCap, PV.single, plain, act, dstOf, if_true, if_false, reduceCtorEq, St.get, St.put, St.pvOf, St.putRow, St.consume, St.freeze, St.row, St.elems, St.grab, St.takeRow, St.setRow, St.place, St.optPv, St.setCell, St.setCellRow, binPV, intBin, unPV, BV.val, Nat.reduceEqDiff, bound, consumeAll, buildParts, capsOf, capOf, List.append_nil, Nat.reduceAdd, Nat.reduceLT, Nat.reduceLeDiff, beq_self_eq_true, List.length_map, Nat.beq, dcall, dcallP, List.mapM_cons, St.snapFn, St.snap, St.layAll, St.lay, St.freezeArg, St.freezeArg1]
  rw [loop17l3 hab hz hl hal hra ho hr]
  rotate_left
  · rfl
  · simp only [List.isEmpty_nil, val_pvs, frozen_pvs, msnoc_len, msnoc_get, msnoc_set, msnoc_take, Int.le_refl, take_map_all, Nat.le_refl, St.freezeRows, BV.frozen, List.take_length, List.take_append_drop, z_repl_zero, Int.toNat_zero, true_and, and_true, and_self, eq_self, z_take_zero, List.drop_nil, List.take_nil, vAll, List.foldl_nil, List.foldl_cons, resultsOf, resultList, resultOf, zBV, splice, PV.remade, St.freezeAt, St.freezeBox, St.freezeCap, PV.single, plain, act, dstOf, if_true, if_false, reduceCtorEq, St.get, St.put, St.pvOf, St.putRow, St.consume, St.freeze, St.row, St.elems, St.grab, St.takeRow, St.setRow, St.place, St.optPv, St.setCell, St.setCellRow, binPV, intBin, unPV, BV.val, Nat.reduceEqDiff, bound, consumeAll, buildParts, capsOf, capOf, List.append_nil, Nat.reduceAdd, Nat.reduceLT, Nat.reduceLeDiff, beq_self_eq_true, List.length_map, Nat.beq, dcall, dcallP, List.mapM_cons, St.snapFn, St.snap, St.layAll, St.lay, St.freezeArg, St.freezeArg1]
end Go.Proofs.YtncobemfpammfaaGreat.V

namespace Go.Proofs.YtncobemfpammfaaGreat.V
def can : Int → List Exn → Prop
  | _, [] => True
  | nx, x :: l => nx ≤ x.start ∧ 1 ≤ x.count ∧ can (x.start + x.count + 1) l
def endN : Int → List Exn → Int
  | nx, [] => nx
  | _, x :: l => endN (x.start + x.count + 1) l
theorem endN_snoc : ∀ (l : List Exn) (nx : Int) (x : Exn), endN nx (l ++ [x]) = x.start + x.count + 1
  | [], _, _ => rfl
  | y :: l, _, x => endN_snoc l (y.start + y.count + 1) x
theorem can_snoc : ∀ (l : List Exn) (nx : Int) (x : Exn), can nx (l ++ [x]) ↔ can nx l ∧ endN nx l ≤ x.start ∧ 1 ≤ x.count
  | [], nx, x => by simp [can, endN]
  | y :: l, nx, x => by
    have := can_snoc l (y.start + y.count + 1) x
    show nx ≤ y.start ∧ 1 ≤ y.count ∧ can _ (l ++ [x]) ↔ (nx ≤ y.start ∧ 1 ≤ y.count ∧ can _ l) ∧ endN _ l ≤ x.start ∧ 1 ≤ x.count
    rw [this]
    constructor
    · rintro ⟨a, b, c, d⟩; exact ⟨⟨a, b, c⟩, d⟩
    · rintro ⟨⟨a, b, c⟩, d⟩; exact ⟨a, b, c, d⟩
theorem can_ext (p : Nat → Bool) : ∀ n : Nat, can 0 (ext p n) ∧ endN 0 (ext p n) ≤ (n : Int) + 1
  | 0 => by rw [ext_zero]; exact ⟨trivial, by simp [endN]⟩
  | n + 1 => by
    obtain ⟨h1, h2⟩ := can_ext p n
    rw [ext_succ]
    split
    · rcases snoc_cases (ext p n) with e | ⟨pre, x, e⟩
      · rw [e]
        have : addAt [] n = [⟨(n : Int), 1⟩] := rfl
        rw [this]
        exact ⟨⟨by simp only; omega, by simp only; omega, trivial⟩, by simp only [endN]; omega⟩
      · rw [e] at h1 h2 ⊢
        have hx := ext_in p n x (by rw [e]; simp)
        rw [endN_snoc] at h2
        obtain ⟨c1, c2, c3⟩ := (can_snoc _ _ _).1 h1
        rw [addAt_snoc]
        split
        · exact ⟨(can_snoc _ _ _).2 ⟨c1, c2, by simp only; omega⟩, by rw [endN_snoc]; simp only; omega⟩
        · exact ⟨(can_snoc _ _ _).2 ⟨h1, by rw [endN_snoc]; simp only; omega, by simp⟩, by rw [endN_snoc]; simp only; omega⟩
    · exact ⟨h1, by omega⟩
theorem chk_can {size : Int} : ∀ (l : List Exn) (nx : Int), can nx l → (∀ x ∈ l, 0 ≤ x.start ∧ x.start + x.count ≤ size) → chkGo size nx l = 0
  | [], _, _, _ => rfl
  | x :: l, nx, h, hb => by
    obtain ⟨h1, h2, h3⟩ := h
    have hx := hb x (by simp)
    unfold chkGo
    rw [if_neg (by omega), if_neg (by omega), if_neg (by omega)]
    exact chk_can l _ h3 fun y hy => hb y (by simp [hy])
theorem chk_ext' (p : Nat → Bool) (n : Nat) : chkGo n 0 (ext p n) = 0 := chk_can _ 0 (can_ext p n).1 fun x hx => by have := ext_in p n x hx; omega
end Go.Proofs.YtncobemfpammfaaGreat.V
