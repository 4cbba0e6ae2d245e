/-
  Part 4 of the texts that the statement stands on.
-/
import Derived.Test.YtaaokejjmdbfaaaDoorZ3
import Derived.RangeFuncRecord
import Derived.IntWalk
import Derived.Shelf.Lays7
import Derived.Ground.Names7Prog
import Derived.Test.YtaaokejjmdbfaaaDoorProg
import Derived.Shelf.Spec.TrailingZeros
set_option linter.all false
namespace Go.Proofs.YtaaokejjmdbfaaaDoor
open Go.RowKit

section
variable {P : Program} {L K : Nat} {σ σ' : Nat → Nat} {T T' T1 T2 : Tags} {st st' st1 : St} {a a1 : Act} {w w1 : World} {r : Root}

theorem Sim.retagTo (h : Sim L σ T st a w) {i : Nat} (h1 : ∀ t s l, st.slots[t]? = some (.row s l) → r ≠ .slot t) (h2 : ∀ (t i : Nat), r ≠ .part t i) (h3 : ∀ p q bx s l, st.boxes[p]? = some bx → bx.cs[q]? = some (.row s l) → r ≠ .cell p q) (hK : st.slots.length ≤ K) :
    Sim L σ (moved T r (.part K i)) st a w := by
  have hw : ∀ b, T b = .ro → b < w.heap.size → moved T r (.part K i) b = .ro ∧ w.heap[b]? = w.heap[b]? := fun b e _ => ⟨moved_ro e, rfl⟩
  refine ⟨h.size, fun t x u hx hu => ?_, fun p bx ho => ?_, fun b hb => moved_other (h.fresh b hb)⟩
  · have ht : t < st.slots.length := (List.getElem?_eq_some_iff.1 hx).1
    refine (h.slots t x u hx hu).keep hw (fun s l e b hb _ => ⟨moved_row (fun e2 => h1 t s l (by rw [hx, e]) e2.symm) (by simp) hb, rfl⟩) (fun l e i' _ b hb _ => ⟨moved_row (fun e2 => h2 _ _ e2.symm) (fun e2 => ?_) hb, rfl⟩) (fun q hq _ s l e => ⟨⟨l, e⟩, rfl⟩) (Nat.le_refl _) (fun _ _ => rfl)
    cases e2; omega
  · obtain ⟨arr, E, g1, g2, g3, g4, g5⟩ := h.boxes p bx ho
    refine ⟨arr, E, g1, g2, ?_, g4, fun j bv u hj hu => ?_⟩
    · cases hf : bx.fz with
      | true => rw [hf] at g3; simpa using moved_ro g3
      | false => rw [hf] at g3; simpa using moved_box g3
    · obtain ⟨k1, k2⟩ := g5 j bv u hj hu
      refine ⟨k1, ?_⟩
      cases bv with
      | pv x => exact PRep.frame hw k2
      | row sz es => exact RowRep.frame (fun b e _ => ⟨moved_row (fun e2 => h3 p j bx sz es ho hj e2.symm) (by simp) e, rfl⟩) hw k2

theorem RowRep.takeTo {sz : Nat} {es : List PV} {xa : Option Addr} {c : Nat} (h : RowRep T w r sz es (.slice xa es.length c)) (k : Nat) : RowRep T w r sz (es.take k) (.slice xa (es.take k).length c) := by
  rcases h with ⟨rfl, a, e⟩ | ⟨b, c', arr, E, e, h2, h3, h4, h5, h6, h7, h8⟩
  · simp only [List.length_nil, Value.slice.injEq] at e
    obtain ⟨_, _, rfl⟩ := e
    exact .inl ⟨by simp, xa, by simp⟩
  · simp only [Value.slice.injEq] at e
    obtain ⟨rfl, _, rfl⟩ := e
    refine .inr ⟨b, c, arr, E, rfl, h2, h3, h4, ?_, h6, fun e he => h7 e (List.mem_of_mem_take he), fun i e j x hi hj => ?_⟩
    · simp; omega
    · rw [List.getElem?_take] at hi
      split at hi
      · exact h8 i e j x hi hj
      · cases hi

def RK (T : Tags) (w : World) (K i : Nat) : Res → Value → Prop
  | (.list sz es, true), u => RowRep T w (.part K i) sz es u
  | (.agg _, true), _ => False
  | (x, _), u => PRep (fun b => T b = .ro) w x u
theorem RK.pv {i : Nat} {x : PV} {u : Value} (h : PRep (fun b => T b = .ro) w x u) : RK T w K i (x, false) u := by
  cases x <;> exact h
def readOf (tmps : Array Value) : ResultVar → Sem Value
  | .tmp t => pure (tmps.getD t undef)
  | .cell a t => do loadVar t (← asAddr (tmps.getD a undef))
def mRes (P : Program) : ResultVar → VRes → Bool
  | .tmp t, .tmp s => t == s
  | .cell t T0, .cell s n => t == s && cellN P T0 == some n
  | .cell t T0, .own s n => t == s && cellN P T0 == some (some n)
  | _, _ => false

theorem result_one (h : Sim L σ T st a w) {g : ResultVar} {v : VRes} (hm : mRes P g v = true) {x : Res} (hp : resultOf st v = some (x, st1)) (hK : st.slots.length ≤ K) (i : Nat) :
    ∃ u T', (readOf a.tmps g).run P w = .ok u w ∧ Sim L σ T' st1 a w ∧ Still T T' ∧ RK T' w K i x u ∧ (∀ b k, k ≠ i → T b = .row (.part K k) → T' b = .row (.part K k)) ∧ st1.slots.length = st.slots.length ∧ (∀ b o, T b = .box o → T' b = .box o) := by
  cases g <;> cases v <;> simp only [mRes, Bool.false_eq_true] at hm
  case tmp.tmp t s =>
    simp only [beq_iff_eq] at hm
    subst hm
    have hev : a.tmps.getD t undef = a.eval (.tmp t) := rfl
    have hmo : mOpd (.tmp t) (.t t) = true := by simp [mOpd]
    simp only [resultOf] at hp
    split at hp
    · rename_i sz es st2 hg
      have hp := Option.some.inj hp
      cases hp
      obtain ⟨k1, k2, q, v, es0, c, xa, k3, k4, k5, k6, k7, k8, k9⟩ := h.grab hmo hg
      have hlen : st1.slots.length = st.slots.length := by rw [← k1.size, ← h.size]
      refine ⟨a.eval (.tmp t), moved T q (.part K i), by rw [readOf, hev]; rfl, k1.retagTo k7 k8 k9 (by omega), Still.moved _ _ _, ?_, fun b k hk e => moved_row (fun e2 => k8 _ _ e2.symm) (by simp [hk]) e, hlen, fun b o e => moved_box e⟩
      rw [k6]
      subst k5
      have := RowRep.takeTo k3 es.length
      rw [← k4] at this
      exact RowRep.frame (fun b e _ => ⟨moved_src e, rfl⟩) (fun b e _ => ⟨moved_ro e, rfl⟩) this
    · split at hp
      · rename_i v hv
        have hp := Option.some.inj hp
        cases hp
        have e2 : st.pvOf (.t t) = some v := by unfold St.pvOf; rw [show st.get (.t t) = .pv v from hv]
        exact ⟨a.eval (.tmp t), T, by rw [readOf, hev]; rfl, h, Still.refl T, RK.pv (h.pv hmo e2), fun _ _ _ e => e, rfl, fun _ _ e => e⟩
      · rename_i r off len hv
        split at hp
        case h_2 => cases hp
        rename_i sz es hr
        split at hp
        case isFalse => cases hp
        rename_i hl
        have hp := Option.some.inj hp
        cases hp
        obtain ⟨T1, k1, k2, k3, k4, k5⟩ := h.freeze r
        refine ⟨a.eval (.tmp t), T1, by rw [readOf, hev]; rfl, k1, k2, RK.pv (h.refList hr (h.refR hmo hv sz es hr) hl (k4 sz es hr) k2.ro), fun b k _ e => k3 b _ (fun e2 => by subst e2; simp [St.row] at hr) e, by rw [← k1.size, ← h.size], k5⟩
      · cases hp
  case cell.cell t T0 s n =>
    simp only [Bool.and_eq_true, beq_iff_eq] at hm
    obtain ⟨rfl, hc⟩ := hm
    simp only [resultOf] at hp
    split at hp
    case h_2 => cases hp
    rename_i p j hv
    split at hp
    case h_2 => cases hp
    rename_i bx h1
    have hs : st.slots[t]? = some (.pbox p j) := slots_get (st := st) hv (by simp)
    have hlt : t < a.tmps.size := by rw [h.size]; exact (List.getElem?_eq_some_iff.1 hs).1
    have hgp : a.tmps.getD t undef = .pointer (some ⟨σ p, j, none⟩) := by
      have := (h.slots t _ _ hs (Array.getElem?_eq_getElem hlt)).2
      rw [Array.getD_eq_getD_getElem?, Array.getElem?_eq_getElem hlt, Option.getD_some, this]
    have hread : ∀ {u : Value}, (loadVar T0 ⟨σ p, j, none⟩).run P w = .ok u w → (readOf a.tmps (.cell t T0)).run P w = .ok u w := fun hu => by
      simp only [readOf, hgp, asAddr, Sem.run_bind, Sem.run_pure, Result.andThen_ok]
      exact hu
    have hbox := h.boxes p bx h1
    cases n with
    | none =>
      obtain ⟨arr, E, g1, g2, g3, g4, g5⟩ := hbox
      have hld : ∀ (bv : BV), bx.cs[j]? = some bv → ∃ u, (loadVar T0 ⟨σ p, j, none⟩).run P w = .ok u w ∧ BRep T w p j bv u := fun bv hbv => by
        have hj : j < arr.size := by rw [g2]; exact (List.getElem?_eq_some_iff.1 hbv).1
        obtain ⟨k1, k2⟩ := g5 j _ arr[j] hbv (Array.getElem?_eq_getElem hj)
        refine ⟨arr[j], ?_, k2⟩
        unfold loadVar
        simp only [Sem.run_bind, run_isAgg_no hc, Result.andThen_ok, Bool.false_eq_true, if_false]
        unfold load
        simp only [Sem.run, cell_of_row w _ _ arr E (0, 0) g1, Array.getElem?_eq_getElem hj]
      simp only at hp
      split at hp
      · rename_i sz es hbv
        split at hp
        · cases hp
        · rename_i hfz
          have hp := Option.some.inj hp
          cases hp
          obtain ⟨u, q1, q2⟩ := hld _ hbv
          have hr : st.row (.cell p j) = some (sz, es) := by simp [St.row, h1, hfz, hbv]
          obtain ⟨T1, k1, k2, k3, k4, k5⟩ := h.freeze (.cell p j)
          exact ⟨u, T1, hread q1, k1, k2, RK.pv (RowRep.list (k4 sz es hr) k2.ro q2), fun b k _ e => k3 b _ (by simp) e, by rw [← k1.size, ← h.size], k5⟩
      · rename_i v hbv
        have hp := Option.some.inj hp
        cases hp
        obtain ⟨u, q1, q2⟩ := hld _ hbv
        exact ⟨u, T, hread q1, h, Still.refl T, RK.pv q2, fun _ _ _ e => e, rfl, fun _ _ e => e⟩
      · cases hp
    | some n =>
      simp only at hp
      obtain ⟨v, h2, hp⟩ := map_some' hp
      cases hp
      obtain ⟨T1, k1, k2, k3, k4, k5⟩ := h.freezeRowsB p
      have hmem := hbox.mem (T' := T1) (fun j b e => k4 (by rw [h1]; rfl) b j e) k2.ro
      obtain ⟨u, h7, h8, _⟩ := part_mem (P := P) hmem hc h2
      rw [Nat.zero_add] at h7
      exact ⟨u, T1, hread (h7 w rfl), k1, k2, RK.pv h8, fun b k _ e => k3 b _ (by simp) e, by rw [← k1.size, ← h.size], k5⟩
  case cell.own t T0 s n => simp only [resultOf] at hp; cases hp

def RKo (T : Tags) (w : World) (K i : Nat) (x : Res) (u : Value) : Prop :=
  RK T w K i x u ∨ (i = 0 ∧ ∃ cs, x = (.agg cs, true) ∧ ∃ arr : Array Value, u = .agg arr ∧ arr.size = cs.length ∧ ∀ (k : Nat) x v, cs[k]? = some x → arr[k]? = some v → PartRep T w K k (ownP x) v)
def outO (T : Tags) (p j K : Nat) : Tags := fun b => match T b with
  | .ro => .ro
  | .row (.cell o q) => if o = p ∧ j ≤ q then .row (.part K (q - j)) else .other
  | _ => .other
theorem ownCells_get : ∀ {l : List BV} {cs : List PV}, ownCells l = some cs → l.length = cs.length ∧ ∀ (k : Nat) x, cs[k]? = some x → (∃ sz es, l[k]? = some (.row sz es) ∧ x = .list sz es) ∨ (l[k]? = some (.pv x) ∧ ∀ s es, x ≠ .list s es)
  | [], cs, h => by cases h; exact ⟨rfl, fun k x hk => by simp at hk⟩
  | .row sz es :: l, cs, h => by
    obtain ⟨c, h1, rfl⟩ := map_some' h
    obtain ⟨q1, q2⟩ := ownCells_get h1
    refine ⟨by simp [q1], fun k x hk => ?_⟩
    cases k with
    | zero => cases hk; exact .inl ⟨sz, es, rfl, rfl⟩
    | succ k => exact q2 k x hk
  | .pv v :: l, cs, h => by
    have hv : (∀ s es, v ≠ .list s es) ∧ ∃ c, ownCells l = some c ∧ cs = v :: c := by
      cases v <;> first | (simp [ownCells] at h; done) | (obtain ⟨c, h1, rfl⟩ := map_some' h; exact ⟨(fun _ _ e => by cases e), c, h1, rfl⟩)
    obtain ⟨hv, c, h1, rfl⟩ := hv
    obtain ⟨q1, q2⟩ := ownCells_get h1
    refine ⟨by simp [q1], fun k x hk => ?_⟩
    cases k with
    | zero => cases hk; exact .inr ⟨rfl, hv⟩
    | succ k => exact q2 k x hk
theorem load_cells {b j n T0 : Nat} {arr : Array Value} {E q} (hc : cellN P T0 = some (some n)) (hb : w.heap[b]? = some (.cells arr E (0, q))) (hn : j + n ≤ arr.size) :
    ∃ us : Array Value, (loadVar T0 ⟨b, j, none⟩).run P w = .ok (.agg us) w ∧ us.size = n ∧ ∀ k v, us[k]? = some v → arr[j + k]? = some v := by
  have hs := (run_isAgg_yes (w := w) hc).2
  let us : List Value := (List.range n).map fun k => arr.getD (j + k) undef
  have hus : ∀ k v, us[k]? = some v → arr[j + k]? = some v := fun k v hv => by
    have hk : k < n := by have := (List.getElem?_eq_some_iff.1 hv).1; simpa [us] using this
    simp only [us, List.getElem?_map, List.getElem?_range hk, Option.map_some, Option.some.injEq] at hv
    rw [Array.getElem?_eq_getElem (by omega : j + k < arr.size)]
    rw [Array.getD_eq_getD_getElem?, Array.getElem?_eq_getElem (by omega : j + k < arr.size)] at hv
    rw [← hv]; rfl
  have hlen : us.length = n := by simp [us]
  refine ⟨us.toArray, ?_, by simpa using hlen, fun k v hv => hus k v (by simpa using hv)⟩
  have hl2 := run_loadCells_list (P := P) (w := w) ⟨b, j, none⟩ us (fun k v hv => by
    rw [Addr.add_lit, cell_of_row w b _ arr E (0, q) hb]; exact hus k v hv)
  rw [hlen] at hl2
  unfold loadVar
  simp only [Sem.run_bind, (run_isAgg_yes (w := w) hc).1, Result.andThen_ok, if_true, run_szOf hs, hl2]
  rfl
theorem result_own (h : Sim L σ T st a w) {t T0 n p j : Nat} {bx : Box} {cs : List PV} (hc : cellN P T0 = some (some n)) (hv : st.slots.getD t .any = .pbox p j) (h1 : st.boxes[p]? = some bx) (hf : bx.fz = false) (hn : j + n ≤ bx.cs.length) (ho : ownCells ((bx.cs.drop j).take n) = some cs) :
    ∃ u T', (readOf a.tmps (.cell t T0)).run P w = .ok u w ∧ Still T T' ∧ (∀ b, w.heap.size ≤ b → T' b = .other) ∧ RKo T' w K 0 (.agg cs, true) u := by
  have hs : st.slots[t]? = some (.pbox p j) := slots_get (st := st) hv (by simp)
  have hlt : t < a.tmps.size := by rw [h.size]; exact (List.getElem?_eq_some_iff.1 hs).1
  have hgp : a.tmps.getD t undef = .pointer (some ⟨σ p, j, none⟩) := by
    have := (h.slots t _ _ hs (Array.getElem?_eq_getElem hlt)).2
    rw [Array.getD_eq_getD_getElem?, Array.getElem?_eq_getElem hlt, Option.getD_some, this]
  obtain ⟨arr, E, g1, g2, g3, g4, g5⟩ := h.boxes p bx h1
  obtain ⟨us, r1, r2, r3⟩ := load_cells (P := P) hc g1 (by omega : j + n ≤ arr.size)
  obtain ⟨q1, q2⟩ := ownCells_get ho
  have hro : ∀ b, T b = .ro → outO T p j K b = .ro := fun b e => by simp [outO, e]
  refine ⟨.agg us, outO T p j K, ?_, ⟨hro, fun b e => by simp [outO, e]⟩, fun b hb => by simp [outO, h.fresh b hb], .inr ⟨rfl, cs, rfl, us, rfl, ?_, fun k x v hx hu => ?_⟩⟩
  · simp only [readOf, hgp, asAddr, Sem.run_bind, Sem.run_pure, Result.andThen_ok]
    exact r1
  · rw [r2, ← q1]; simp; omega
  · have hk : k < n := by rw [← r2]; exact (Array.getElem?_eq_some_iff.1 hu).1
    have hget : ∀ bv, ((bx.cs.drop j).take n)[k]? = some bv → bx.cs[j + k]? = some bv := fun bv e => by
      rw [List.getElem?_take_of_lt hk, List.getElem?_drop] at e; exact e
    rcases q2 k x hx with ⟨sz, es, e1, rfl⟩ | ⟨e1, e2⟩
    · obtain ⟨_, k2⟩ := g5 (j + k) _ v (hget _ e1) (r3 k v hu)
      exact RowRep.frame (fun b e _ => ⟨by simp [outO, e], rfl⟩) (fun b e _ => ⟨hro b e, rfl⟩) k2
    · obtain ⟨_, k2⟩ := g5 (j + k) _ v (hget _ e1) (r3 k v hu)
      have : ownP x = .pv x := by cases x <;> first | rfl | exact absurd rfl (e2 _ _)
      rw [this]
      exact PRep.frame (fun b e _ => ⟨hro b e, rfl⟩) k2
end
end Go.Proofs.YtaaokejjmdbfaaaDoor

namespace Go.Proofs.YtaaokejjmdbfaaaDoor
open Go.RowKit

def mResL (P : Program) : List ResultVar → List VRes → Bool
  | [], [] => true
  | g :: gs, v :: vs => mRes P g v && mResL P gs vs
  | _, _ => false

section
variable {P : Program} {L K : Nat} {σ σ' : Nat → Nat} {T T' T1 T2 : Tags} {st st' st1 : St} {a a1 : Act} {w w1 : World} {r : Root}

theorem RK.frame {i : Nat} {x : Res} {u : Value} (hr : ∀ b, T b = .row (.part K i) → T' b = .row (.part K i)) (hw : ∀ b, T b = .ro → T' b = .ro) (h : RK T w K i x u) : RK T' w K i x u := by
  obtain ⟨v, own⟩ := x
  cases v <;> cases own <;> first | exact PRep.frame (fun b e _ => ⟨hw b e, rfl⟩) h | exact RowRep.frame (fun b e _ => ⟨hr b e, rfl⟩) (fun b e _ => ⟨hw b e, rfl⟩) h | exact False.elim h

theorem result_list : ∀ {gs : List ResultVar} {vs : List VRes} {st : St} {T : Tags} {xs : List Res} (i : Nat), Sim L σ T st a w → mResL P gs vs = true → resultList st vs = some xs → st.slots.length ≤ K →
    ∃ (us : List Value) (T' : Tags), (gs.mapM (readOf a.tmps)).run P w = .ok us w ∧ us.length = xs.length ∧ Still T T' ∧ (∀ b, w.heap.size ≤ b → T' b = .other) ∧ (∀ (j : Nat) x u, xs[j]? = some x → us[j]? = some u → RK T' w K (i + j) x u) ∧ (∀ b k, k < i → T b = .row (.part K k) → T' b = .row (.part K k)) ∧ ∀ b o, T b = .box o → T' b = .box o
  | [], [], st, T, xs, i, h, _, hp, hK => by
    simp only [resultList, Option.some.injEq] at hp
    subst hp
    exact ⟨[], T, by simp, rfl, Still.refl T, h.fresh, fun j x u hx => by simp at hx, (fun _ _ _ e => e), fun _ _ e => e⟩
  | [], _ :: _, _, _, _, _, _, hm, _, _ => by simp [mResL] at hm
  | _ :: _, [], _, _, _, _, _, hm, _, _ => by simp [mResL] at hm
  | g :: gs, v :: vs, st, T, xs, i, h, hm, hp, hK => by
    simp only [mResL, Bool.and_eq_true] at hm
    simp only [resultList] at hp
    replace hp := bind_some hp
    obtain ⟨⟨x, st1⟩, h1, hp⟩ := hp
    replace hp := bind_some hp
    obtain ⟨l, h2, hp⟩ := hp
    have hp := Option.some.inj hp
    subst hp
    obtain ⟨u, T1, k1, k2, k3, k4, k5, k6, k7⟩ := result_one h hm.1 h1 hK i
    obtain ⟨us, T2, q1, q2, q3, q4, q5, q6, q7⟩ := result_list (i + 1) k2 hm.2 h2 (by omega)
    refine ⟨u :: us, T2, ?_, by simp [q2], k3.trans q3, q4, fun j x' u' hx hu => ?_, fun b k hk e => q6 b k (by omega) (k5 b k (by omega) e), fun b o e => q7 b o (k7 b o e)⟩
    · rw [List.mapM_cons]
      simp only [Sem.run_bind, k1, Result.andThen_ok, q1, Sem.run_pure]
    · cases j with
      | zero =>
        simp only [List.getElem?_cons_zero, Option.some.injEq] at hx hu
        subst hx; subst hu
        exact RK.frame (fun b e => q6 b i (by omega) e) q3.ro k4
      | succ j =>
        have := q5 j x' u' (by simpa using hx) (by simpa using hu)
        rwa [show i + 1 + j = i + (j + 1) by omega] at this

theorem results_run {fn : Func} {us : List Value} (h : (fn.results.toList.mapM (readOf a.tmps)).run P w = .ok us w) : (results fn a.tmps).run P w = .ok (if us.toArray.size = 1 then us.toArray.getD 0 undef else .tuple us.toArray) w := by
  have e : results fn a.tmps = (do let vs ← fn.results.mapM (readOf a.tmps); pure (if h : vs.size = 1 then vs[0] else .tuple vs)) := by
    unfold results
    congr 1
  rw [e, Array.mapM_eq_mapM_toList]
  simp only [Sem.run_bind, Sem.run_map, h, Result.andThen_ok, Sem.run_pure]
  by_cases hs : us.toArray.size = 1
  · rw [dif_pos hs, if_pos hs, Array.getD_eq_getD_getElem?, Array.getElem?_eq_getElem (by omega), Option.getD_some]
  · rw [dif_neg hs, if_neg hs]

theorem leavesM_marks {fn : Func} {R : Ending → World → Prop} {B : Nat} : ∀ {ms : List Nat} {w : World}, ms.Nodup → (∀ r ∈ ms, B ≤ r ∧ w.heap[r]? = some (.deferred (some []))) →
    (∀ w', w'.os = w.os → w'.tape = w.tape → w'.output = w.output → w'.heap.size = w.heap.size → (∀ b, b ∉ ms → w'.heap[b]? = w.heap[b]?) → ∃ v, (results fn a.tmps).run P w' = .ok v w' ∧ R (.returned v) w') →
    LeavesInM Fence.wide 0 P fn a.tmps R (ms.map markOf) .returning w
  | [], w, _, _, h => by
    simp only [List.map_nil, LeavesInM, LeavesIn]
    exact h w rfl rfl rfl rfl fun _ _ => rfl
  | r :: ms, w, hnd, hms, h => by
    simp only [List.map_cons, LeavesInM]
    obtain ⟨hn1, hn2⟩ := List.nodup_cons.1 hnd
    obtain ⟨k1, k2⟩ := hms r (by simp)
    have hr : r < w.heap.size := (Array.getElem?_eq_some_iff.1 k2).1
    have hput : ∀ b, b ≠ r → (w.putObj r (.deferred none)).heap[b]? = w.heap[b]? := fun b hb => by simp [World.putObj, Array.getElem?_setIfInBounds, Ne.symm hb]
    refine ⟨by simp, .inl ⟨r, _, rfl, run_takeDeferred k2, leavesM_marks (B := B) hn2 (fun r' hr' => ?_) fun w' e1 e2 e3 e4 e5 => h w' e1 e2 e3 (by rw [e4]; simp [World.putObj]) fun b hb => ?_⟩⟩
    · obtain ⟨q1, q2⟩ := hms r' (by simp [hr'])
      exact ⟨q1, by rw [hput r' (fun e => hn1 (e ▸ hr'))]; exact q2⟩
    · simp only [List.mem_cons, not_or] at hb
      rw [e5 b hb.2, hput b hb.1]
end
end Go.Proofs.YtaaokejjmdbfaaaDoor

namespace Go.Proofs.YtaaokejjmdbfaaaDoor
open Go.RowKit

section
variable {P : Program} {L K : Nat} {σ σ' : Nat → Nat} {T T' T1 T2 : Tags} {st st' st1 : St} {a a1 : Act} {w w1 : World} {r : Root}
  {rec : VCode → St → Option (Ex × St)} {env : Env}

theorem results_ok {gs : List ResultVar} {vs : List VRes} {xs : List Res} (h : Sim L σ T st a w) (hm : mResL P gs vs = true) (hp : resultsOf st vs = some xs) :
    ∃ (us : List Value) (T' : Tags), (gs.mapM (readOf a.tmps)).run P w = .ok us w ∧ us.length = xs.length ∧ Still T T' ∧ (∀ b, w.heap.size ≤ b → T' b = .other) ∧ ∀ (j : Nat) x u, xs[j]? = some x → us[j]? = some u → RKo T' w st.slots.length j x u := by
  have gen : resultList st vs = some xs → ∃ (us : List Value) (T' : Tags), (gs.mapM (readOf a.tmps)).run P w = .ok us w ∧ us.length = xs.length ∧ Still T T' ∧ (∀ b, w.heap.size ≤ b → T' b = .other) ∧ ∀ (j : Nat) x u, xs[j]? = some x → us[j]? = some u → RKo T' w st.slots.length j x u := fun hl => by
    obtain ⟨us, T', k1, k2, k3, k4, k5, _⟩ := result_list 0 h hm hl (Nat.le_refl _)
    exact ⟨us, T', k1, k2, k3, k4, fun j x u hx hu => .inl (by simpa using k5 j x u hx hu)⟩
  unfold resultsOf at hp
  split at hp
  case h_3 => exact gen hp
  case h_2 =>
    rename_i t n
    split at hp
    case h_2 => cases hp
    rename_i p j hs
    split at hp
    case h_2 => cases hp
    rename_i bx h1
    split at hp
    · cases hp
    · rename_i hf
      simp only [Bool.or_eq_true, Bool.not_eq_true', decide_eq_false_iff_not, not_or, Bool.not_eq_true, Classical.not_not] at hf
      obtain ⟨cs, h2, rfl⟩ := map_some' hp
      obtain ⟨T0, hgs, hc⟩ : ∃ T0, gs = [.cell t T0] ∧ cellN P T0 = some (some n) := by
        match gs, hm with
        | [.tmp s], hm => simp [mResL, mRes] at hm
        | [.cell s T0], hm => simp [mResL, mRes] at hm; exact ⟨T0, by rw [hm.1], hm.2⟩
        | [], hm => simp [mResL] at hm
        | _ :: _ :: _, hm => simp [mResL] at hm
      subst hgs
      obtain ⟨u, T', r1, r2, r3, r4⟩ := result_own (P := P) (K := st.slots.length) h hc hs h1 hf.1 hf.2 h2
      refine ⟨[u], T', ?_, rfl, r2, r3, fun j x u' hx hu => ?_⟩
      · simp only [List.mapM_cons, List.mapM_nil, Sem.run_bind, r1, Result.andThen_ok, Sem.run_pure]
      · cases j with
        | zero =>
          simp only [List.getElem?_cons_zero, Option.some.injEq] at hx hu
          subst hx; subst hu; exact r4
        | succ j => simp at hx
  rename_i t
  split at hp
  case h_2 => exact gen hp
  rename_i f caps hs
  obtain ⟨⟨p, fl⟩, h1, h2⟩ := map_some' hp
  subst h2
  have hmo : mOpd (.tmp t) (.t t) = true := by simp [mOpd]
  have hg : st.get (.t t) = .fn f caps := hs
  have hsn : st.snapFn (st.get (.t t)) = some (p, fl) := by rw [hg]; exact h1
  obtain ⟨k1, _, k3⟩ := h.snapF hmo hsn
  obtain ⟨T1, q1, q2, q3, q4⟩ := Froz.args [.t t] (Froz.refl T st) h (fun x hx => by simp only [List.mem_singleton] at hx; subst hx; exact k1)
  have hgs : gs = [.tmp t] := by
    match gs, hm with
    | [.tmp s], hm => simp [mResL, mRes] at hm; rw [hm]
    | [.cell s T0], hm => simp [mResL, mRes] at hm
    | [], hm => simp [mResL] at hm
    | _ :: _ :: _, hm => simp [mResL] at hm
  subst hgs
  refine ⟨[a.eval (.tmp t)], T1, by simp [readOf, Act.eval], rfl, q3, q2.fresh, fun j x u hx hu => ?_⟩
  cases j with
  | zero =>
    simp only [List.getElem?_cons_zero, Option.some.injEq] at hx hu
    subst hx; subst hu
    exact .inl (RK.pv (k3 T1 q3 (q4 _ (by simp))))
  | succ j => simp at hx

theorem prep_avoid {ok good : Nat → Prop} (hg : ∀ b, Cellish w b → good b) {x : PV} {v : Value} (h : PRep ok w x v) : PRep (fun b => ok b ∧ good b) w x v := by
  induction h with
  | int k n => exact .int k n
  | bool b => exact .bool b
  | str s => exact .str s
  | nilf => exact .nilf
  | void v h => exact .void v h
  | nil sz a => exact .nil sz a
  | nils sz a => exact .nils sz a
  | list sz es b off c cv h1 h2 h3 h4 h6 h7 h8 ih => exact .list sz es b off c cv ⟨h1, hg b h2⟩ h2 h3 h4 h6 h7 ih
  | agg cs arr h1 h2 h3 ih => exact .agg cs arr h1 h2 ih
  | func f caps arr h1 h2 ih => exact .func f caps arr h1 ih
  | iptr cs j b off cv h1 h2 h3 h4 ih => exact .iptr cs j b off cv ⟨h1, hg b h2⟩ h2 h3 ih

def drop (T : Tags) (ms : List Nat) : Tags := fun b => if b ∈ ms then .other else T b
theorem Sim.drop (h : Sim L σ T st a w) {ms : List Nat} (hms : ∀ r ∈ ms, ¬ Cellish w r) (hw : ∀ b, b ∉ ms → w1.heap[b]? = w.heap[b]?) (hsz : w1.heap.size = w.heap.size) : Sim L σ (drop T ms) st a w1 := by
  have hg : ∀ b, Cellish w b → b ∉ ms := fun b hc hb => hms b hb hc
  have hp : ∀ {x v}, PRep (fun b => T b = .ro) w x v → PRep (fun b => Go.Proofs.YtaaokejjmdbfaaaDoor.drop T ms b = .ro) w1 x v := fun h =>
    (prep_avoid hg h).frame fun b hb _ => ⟨by simp [Go.Proofs.YtaaokejjmdbfaaaDoor.drop, hb.1, hb.2], hw b hb.2⟩
  have hrow : ∀ {r sz es v}, RowRep T w r sz es v → RowRep (Go.Proofs.YtaaokejjmdbfaaaDoor.drop T ms) w1 r sz es v := fun {r sz es v} h => by
    rcases h with h | ⟨b, c, arr, E, h1, h2, h3, h4, h5, h6, h7, h8⟩
    · exact .inl h
    · have hb : b ∉ ms := hg b ⟨_, _, _, h3⟩
      refine .inr ⟨b, c, arr, E, h1, by simp [Go.Proofs.YtaaokejjmdbfaaaDoor.drop, hb, h2], (hw b hb).trans h3, h4, h5, h6, h7, fun i e j x hi hj => ?_⟩
      obtain ⟨u, k1, k2, k3⟩ := h8 i e j x hi hj
      exact ⟨u, k1, k2, hp k3⟩
  have hbox : ∀ o, o < st.boxes.length → σ o ∉ ms := fun o ho => hg _ (h.boxes o _ (List.getElem?_eq_getElem ho)).cellish
  have hhdr : ∀ r : Root, r.low st.boxes.length → hdr σ a w1 r = hdr σ a w r := fun r hr => by
    cases r with
    | slot t => rfl
    | part t i => rfl
    | cell o j => exact World.cell?_of_block (w := w) (a := ⟨σ o, j, none⟩) (hw _ (hbox o hr))
  refine ⟨h.size, fun t av v ht hv => ?_, fun o bx ho => ?_, fun b hb => ?_⟩
  · have hA := h.slots t av v ht hv
    cases av with
    | pv x => exact hp hA
    | row sz es => exact hrow hA
    | ref r off len => exact ⟨hA.1, fun sz es hr => by rw [hhdr r hA.1]; exact hA.2 sz es hr⟩
    | pbox o j => exact hA
    | pel r i j => exact ⟨hA.1, fun sz es hr => by rw [hhdr r hA.1]; exact hA.2 sz es hr⟩
    | fn f caps =>
      obtain ⟨arr, e1, e2, e3⟩ := hA
      refine ⟨arr, e1, e2, fun k x u hx hu => ?_⟩
      have := e3 k x u hx hu
      cases x with
      | pv p => exact hp this
      | _ => exact this
    | tup k l =>
      obtain ⟨arr, e1, e2, e3⟩ := hA
      refine ⟨arr, e1, e2, fun k x u hx hu => ?_⟩
      have := e3 k x u hx hu
      cases x with
      | pv p => exact hp this
      | row sz es => exact hrow this
      | _ => exact this
    | yld => exact hA
    | any => trivial
  · have hb := hbox o (List.getElem?_eq_some_iff.1 ho).1
    obtain ⟨arr, E, g1, g2, g3, g4, g5⟩ := h.boxes o bx ho
    refine ⟨arr, E, (hw _ hb).trans g1, g2, by simp only [Go.Proofs.YtaaokejjmdbfaaaDoor.drop, if_neg hb]; exact g3, g4, fun j bv u hj hu => ?_⟩
    obtain ⟨k1, k2⟩ := g5 j bv u hj hu
    refine ⟨k1, ?_⟩
    cases bv with
    | pv x => exact hp k2
    | row sz es => exact hrow k2
  · unfold Go.Proofs.YtaaokejjmdbfaaaDoor.drop
    split
    · rfl
    · exact h.fresh b (by omega)

def outT (T : Tags) (K : Nat) : Tags := fun b => match T b with
  | .ro => .ro
  | .row (.part k i) => if k = K then .row (.part 0 i) else .other
  | _ => .other
theorem PartRep.frameTo {k : Nat} {x : AV} {v : Value} (h : PartRep T w K k x v) : PartRep (outT T K) w 0 k x v := by
  cases x with
  | pv p => exact PRep.frame (fun b e _ => ⟨by simp [outT, e], rfl⟩) h
  | row sz es => exact RowRep.frame (fun b e _ => ⟨by simp [outT, e], rfl⟩) (fun b e _ => ⟨by simp [outT, e], rfl⟩) h
  | any => trivial
  | _ => exact h
theorem RK.out0 {i : Nat} {x : Res} {u : Value} (h : RK T w K i x u) : R1 (outT T K) w i x u := by
  have hp : ∀ {x v}, PRep (fun b => T b = .ro) w x v → PRep (fun b => outT T K b = .ro) w x v := fun h => h.frame fun b hb _ => ⟨by simp [outT, hb], rfl⟩
  have hrow : ∀ {sz es}, RowRep T w (.part K i) sz es u → RowRep (outT T K) w (.part 0 i) sz es u := fun h => RowRep.frame (fun b e _ => ⟨by simp [outT, e], rfl⟩) (fun b e _ => ⟨by simp [outT, e], rfl⟩) h
  obtain ⟨v, own⟩ := x
  cases v <;> cases own <;> first | exact hrow h | exact hp h | exact False.elim h

theorem RK.out {i : Nat} {x : Res} {u : Value} (h : RKo T w K i x u) : R1 (outT T K) w i x u := by
  rcases h with h | ⟨_, cs, rfl, arr, rfl, h1, h2⟩
  · exact RK.out0 h
  · exact ⟨arr, rfl, h1, fun k x v hx hv => PartRep.frameTo (h2 k x v hx hv)⟩

def fnOk (P : Program) (f : Nat) (fn : VFn) : Bool :=
  match P.funcs[f]? with
  | some g => (match g.body with
    | some c => mC P c fn.body
    | none => false) && g.name != "runtime.NumGoroutine" && g.ntmps == fn.ntmps && decide (fn.nargs ≤ fn.ntmps) && mResL P g.results.toList fn.results
  | none => false
theorem fnOk_eq {f : Nat} {fn : VFn} (h : fnOk P f fn = true) : callable P f = true ∧ ∃ g c, P.funcs[f]? = some g ∧ g.body = some c ∧ mC P c fn.body = true ∧ g.ntmps = fn.ntmps ∧ fn.nargs ≤ fn.ntmps ∧ mResL P g.results.toList fn.results = true := by
  unfold fnOk at h
  split at h
  case h_2 => cases h
  rename_i g hf
  simp only [Bool.and_eq_true, beq_iff_eq, bne_iff_ne, decide_eq_true_eq] at h
  obtain ⟨⟨⟨⟨h1, h2⟩, h3⟩, h4⟩, h5⟩ := h
  split at h1
  case h_2 => cases h1
  rename_i c hb
  exact ⟨by simp [callable, hf, h2, hb], g, c, hf, hb, h1, h3, h4, h5⟩
def EnvOk (P : Program) (env : Env) : Prop := ∀ f d, env f = some d → match d with
  | .code fn => fnOk P f fn = true
  | .ext g => ∀ args rs, g args = some rs → callable P f = true ∧ CallOk P f args rs
  | .srt h => callable P f = true ∧ SortOk P f h

def plainJ (T0 : Tags) (w : World) : Nat → Tags → World → Prop := fun _ T w' => Below w.heap.size w w' ∧ ∀ b, b < w.heap.size → T b = T0 b
theorem plainJ_keep {T0 : Tags} (h0 : ∀ b, T0 b = .ro ∨ T0 b = .other) {k : Nat} {w w1 w2 : World} (hc : Chg T T' w1 w2) (h : plainJ T0 w k T w1) : plainJ T0 w k T' w2 := by
  obtain ⟨h1, h2⟩ := h
  refine ⟨h1.trans ⟨hc.os, hc.tape, hc.output, hc.size, fun b hb => hc.same b (Nat.lt_of_lt_of_le hb h1.size) ?_⟩, fun b hb => ?_⟩
  · rw [h2 b hb]; exact h0 b
  · rcases h0 b with e | e
    · rw [e]; exact hc.ro b (by rw [h2 b hb, e])
    · rw [e]; exact hc.other b (Nat.lt_of_lt_of_le hb h1.size) (by rw [h2 b hb, e])

theorem init_sim {T0 : Tags} {args : List PV} {vs : List Value} {n : Nat} (hf : ∀ b, w.heap.size ≤ b → T0 b = .other) (hl : vs.length = args.length) (hr : ∀ (i : Nat) x v, args[i]? = some x → vs[i]? = some v → PRep (fun b => T0 b = .ro) w x v) (ys : List (List PV)) (stop : Option (Option Nat)) :
    Sim L σ T0 ⟨args.map .pv ++ List.replicate (n - args.length) .any, [], ys, stop⟩ { tmps := vs.toArray ++ Array.replicate (n - vs.toArray.size) undef, defers := [] } w := by
  refine ⟨by simp [hl], fun t av v ht hv => ?_, fun o bx ho => by simp at ho, hf⟩
  simp only at ht hv
  rcases Nat.lt_or_ge t args.length with h | h
  · rw [List.getElem?_append_left (by simpa using h), List.getElem?_map, List.getElem?_eq_getElem h] at ht
    rw [Array.getElem?_append_left (by simpa [hl] using h)] at hv
    cases ht
    exact hr t _ v (List.getElem?_eq_getElem h) (by simpa using hv)
  · rw [List.getElem?_append_right (by simpa using h), List.getElem?_replicate] at ht
    split at ht
    · cases ht; trivial
    · cases ht

theorem code_call (hR : RecOk P rec) {f : Nat} {fn : VFn} {args : List PV} {rs : List Res} (hfn : fnOk P f fn = true) (hl : args.length = fn.nargs) {e : Ex} (he : ∀ i, e ≠ .exit i)
    (hb : rec fn.body ⟨args.map .pv ++ List.replicate (fn.ntmps - args.length) .any, [], [], none⟩ = some (e, st)) (hrs : resultsOf st fn.results = some rs) : CallOk P f args rs := by
  intro T0 w vs h0 hf hlen hr hG
  obtain ⟨_, g, c, k1, k2, k3, k4, k5, k6⟩ := fnOk_eq hfn
  refine (callsIn_wide (n := 0)).1 (callsIn_of_wp_marks k1 k2 trivial ?_)
  rw [k4]
  have hsim : Sim 0 (fun _ => 0) T0 ⟨args.map .pv ++ List.replicate (fn.ntmps - args.length) .any, [], [], none⟩ { tmps := vs.toArray ++ Array.replicate (fn.ntmps - vs.toArray.size) undef, defers := [] } w := init_sim hf hlen hr [] none
  have hC : Ctx.Ok ⟨st.ys, none, plainJ T0 w⟩ P 0 := ⟨fun k T T' w1 w2 hc h => plainJ_keep (k := k) h0 hc h, fun k T w1 h => hG.frame fun b e hb => ⟨(h.2 b hb).trans e, h.1.block b hb⟩, fun s k T w ps vs hs => by cases hs⟩
  have hJ : plainJ T0 w 0 T0 w := ⟨Below.refl _ _, fun _ _ => rfl⟩
  refine wpIn_mono (hR.wp (F := Fence.wide) (L := 0) (C := ⟨st.ys, none, plainJ T0 w⟩) (n := 0) (.inl rfl) (Ctx.rec_wide _) hC c fn.body _ e st k3 hb rfl (List.prefix_refl _) _ T0 _ w hsim hJ) ?_
  rintro x a' w' ⟨rfl, σ', T', ms, q1, q2, q3, q4, q5, q6⟩
  obtain ⟨p1, p2⟩ := q2
  have key : LeavesInM Fence.wide 0 P g a'.tmps (fun e w' => ∃ v T', e = .returned v ∧ Below w.heap.size w w' ∧ (∀ b, b < w.heap.size → T' b = T0 b) ∧ (∀ b, w'.heap.size ≤ b → T' b = .other) ∧ ResRep T' w' rs v) a'.defers .returning w' := by
    rw [q5, List.append_nil]
    refine leavesM_marks (B := w.heap.size) q6.2 (fun r hr => ⟨(q6.1 r hr).1, (q6.1 r hr).2.2⟩) fun w2 e1 e2 e3 e4 e5 => ?_
    have q1' := q1.drop (fun r hr ⟨arr, E, q, e⟩ => by rw [(q6.1 r hr).2.2] at e; cases e) e5 e4
    obtain ⟨us, T2, r1, r2, r3, r4, r5⟩ := results_ok q1' k6 hrs
    have hms : ∀ b, b < w.heap.size → b ∉ ms := fun b hb hm => by have := (q6.1 b hm).1; omega
    have hT2 : ∀ b, b < w.heap.size → T2 b = T0 b := fun b hb => by
      have e : drop T' ms b = T0 b := by simp only [drop, if_neg (hms b hb)]; exact p2 b hb
      rcases h0 b with e0 | e0
      · rw [e0]; exact r3.ro b (by rw [e, e0])
      · rw [e0]; exact r3.other b (by rw [e, e0])
    refine ⟨_, results_run r1, _, outT T2 st.slots.length, rfl, p1.trans ⟨e1, e2, e3, by omega, fun b hb => e5 b (hms b hb)⟩, fun b hb => ?_, fun b hb => ?_, us.toArray, by simpa using r2, rfl, fun i x u hx hu => RK.out (r5 i x u hx (by simpa using hu))⟩
    · simp only [outT, hT2 b hb]
      rcases h0 b with e0 | e0 <;> rw [e0]
    · simp only [outT, r4 b hb]
  cases e with
  | normal => exact key
  | ret => exact key
  | exit i => exact absurd rfl (he i)

theorem init_simL {T0 : Tags} {x : LArg} {v : Value} {args : List PV} {vs : List Value} {n : Nat} (hf : ∀ b, w.heap.size ≤ b → T0 b = .other) (hx : LRep T0 w v x) (hl : vs.length = args.length) (hr : ∀ (i : Nat) x v, args[i]? = some x → vs[i]? = some v → PRep (fun b => T0 b = .ro) w x v) :
    ∃ σ : Nat → Nat, Sim 0 σ T0 ⟨x.av :: (args.map .pv ++ List.replicate (n - (args.length + 1)) .any), x.boxes, [], none⟩ { tmps := (v :: vs).toArray ++ Array.replicate (n - (v :: vs).toArray.size) undef, defers := [] } w ∧ ∀ b, v = .pointer (some ⟨b, 0, none⟩) → (∃ cs, x = .box cs) → σ 0 = b := by
  obtain ⟨b0, hb0⟩ : ∃ b0, ∀ cs, x = .box cs → v = .pointer (some ⟨b0, 0, none⟩) ∧ BoxRep T0 w b0 0 ⟨false, cs.map .pv⟩ := by
    cases x with
    | box cs => obtain ⟨b, h1, h2⟩ := hx; exact ⟨b, fun cs' e => by cases e; exact ⟨h1, h2⟩⟩
    | row sz es => exact ⟨0, fun _ e => by cases e⟩
    | own l => exact ⟨0, fun _ e => by cases e⟩
  refine ⟨fun _ => b0, ⟨by simp [hl]; omega, fun t av u ht hu => ?_, fun o bx ho => ?_, hf⟩, fun b hb ⟨cs, hcs⟩ => ?_⟩
  · cases t with
    | zero =>
      simp only [List.getElem?_cons_zero, Option.some.injEq] at ht
      have hu' : u = v := by
        have : ((v :: vs).toArray ++ Array.replicate (n - (v :: vs).toArray.size) undef)[0]? = some v := by rw [Array.getElem?_append_left (by simp)]; rfl
        rw [this] at hu; exact (Option.some.inj hu).symm
      subst hu'
      subst ht
      cases x with
      | row sz es => exact hx
      | own l => obtain ⟨arr, h1, h2, h3⟩ := hx; exact ⟨arr, h1, h2, h3⟩
      | box cs => exact ⟨by simp [LArg.boxes], (hb0 cs rfl).1⟩
    | succ t =>
      rw [List.getElem?_cons_succ] at ht
      rcases Nat.lt_or_ge t args.length with h | h
      · rw [List.getElem?_append_left (by simpa using h), List.getElem?_map, List.getElem?_eq_getElem h] at ht
        simp only at hu
        rw [Array.getElem?_append_left (by simp [hl]; omega)] at hu
        cases ht
        exact hr t _ u (List.getElem?_eq_getElem h) (by simpa using hu)
      · rw [List.getElem?_append_right (by simpa using h), List.getElem?_replicate] at ht
        split at ht
        · cases ht; trivial
        · cases ht
  · cases x with
    | box cs =>
      cases o with
      | zero =>
        simp only [LArg.boxes, List.getElem?_cons_zero, Option.some.injEq] at ho
        subst ho
        exact (hb0 cs rfl).2
      | succ o => simp [LArg.boxes] at ho
    | row sz es => simp [LArg.boxes] at ho
    | own l => simp [LArg.boxes] at ho
  · have := (hb0 cs hcs).1
    rw [this] at hb
    injection hb with hb
    injection hb with hb
    injection hb with hb

def linJ (T0 : Tags) (w : World) : Nat → Tags → World → Prop := fun _ T w' => w.heap.size ≤ w'.heap.size ∧ w'.os = w.os ∧ w'.tape = w.tape ∧ w'.output = w.output ∧ ∀ b, b < w.heap.size → (T0 b = .ro ∨ T0 b = .other) → w'.heap[b]? = w.heap[b]? ∧ T b = T0 b
theorem linJ_keep {T0 : Tags} {k : Nat} {w w1 w2 : World} (hc : Chg T T' w1 w2) (h : linJ T0 w k T w1) : linJ T0 w k T' w2 := by
  obtain ⟨h1, h2, h3, h4, h5⟩ := h
  refine ⟨Nat.le_trans h1 hc.size, hc.os.trans h2, hc.tape.trans h3, hc.output.trans h4, fun b hb e => ?_⟩
  obtain ⟨k1, k2⟩ := h5 b hb e
  have hl := Nat.lt_of_lt_of_le hb h1
  refine ⟨(hc.same b hl (by rw [k2]; exact e)).trans k1, ?_⟩
  rcases e with e | e
  · rw [e]; exact hc.ro b (by rw [k2, e])
  · rw [e]; exact hc.other b hl (by rw [k2, e])

theorem code_callL (hR : RecOk P rec) {f : Nat} {fn : VFn} {x : LArg} {args : List PV} {rs : List Res} {out : Option (List PV)} (hfn : fnOk P f fn = true) {e : Ex} (he : ∀ i, e ≠ .exit i)
    (hb : rec fn.body ⟨x.av :: (args.map .pv ++ List.replicate (fn.ntmps - (args.length + 1)) .any), x.boxes, [], none⟩ = some (e, st)) (hrs : linRes x st fn.results = some (rs, out)) : CallOkL P f x args rs out := by
  intro T0 w v vs hf hx hlen hr hG
  obtain ⟨_, g, c, k1, k2, k3, k4, k5, k6⟩ := fnOk_eq hfn
  refine (callsIn_wide (n := 0)).1 (callsIn_of_wp_marks k1 k2 trivial ?_)
  rw [k4]
  obtain ⟨σ0, hsim, hσ0⟩ := init_simL (n := fn.ntmps) hf hx hlen hr
  have hC : Ctx.Ok ⟨st.ys, none, linJ T0 w⟩ P 0 := ⟨fun k T T' w1 w2 hc h => linJ_keep (k := k) hc h, fun k T w1 h => hG.frame fun b e hb => ⟨by rw [(h.2.2.2.2 b hb (.inl e)).2, e], (h.2.2.2.2 b hb (.inl e)).1⟩, fun s k T w ps vs hs => by cases hs⟩
  have hJ : linJ T0 w 0 T0 w := ⟨Nat.le_refl _, rfl, rfl, rfl, fun _ _ _ => ⟨rfl, rfl⟩⟩
  refine wpIn_mono (hR.wp (F := Fence.wide) (L := 0) (C := ⟨st.ys, none, linJ T0 w⟩) (n := 0) (.inl rfl) (Ctx.rec_wide _) hC c fn.body _ e st k3 hb rfl (List.prefix_refl _) _ T0 _ w hsim hJ) ?_
  rintro x' a' w' ⟨rfl, σ', T', ms, q1, q2, q3, q4, q5, q6⟩
  obtain ⟨p1, p2, p3, p4, p5⟩ := q2
  have key : LeavesInM Fence.wide 0 P g a'.tmps (fun e w' => ∃ u T', e = .returned u ∧ w.heap.size ≤ w'.heap.size ∧ w'.os = w.os ∧ w'.tape = w.tape ∧ w'.output = w.output ∧ (∀ b, b < w.heap.size → (T0 b = .ro ∨ T0 b = .other) → w'.heap[b]? = w.heap[b]? ∧ T' b = T0 b) ∧ (∀ b, w'.heap.size ≤ b → T' b = .other) ∧ ResRep T' w' rs u ∧ LOut T' w' v out) a'.defers .returning w' := by
    rw [q5, List.append_nil]
    refine leavesM_marks (B := w.heap.size) q6.2 (fun r hr => ⟨(q6.1 r hr).1, (q6.1 r hr).2.2⟩) fun w2 e1 e2 e3 e4 e5 => ?_
    have q1' := q1.drop (fun r hr ⟨arr, E, q, e⟩ => by rw [(q6.1 r hr).2.2] at e; cases e) e5 e4
    have hms : ∀ b, b < w.heap.size → b ∉ ms := fun b hb hm => by have := (q6.1 b hm).1; omega
    -- what the results leave of the tags
    have fin : ∀ (T1 T2 : Tags) (K : Nat), Still (Go.Proofs.YtaaokejjmdbfaaaDoor.drop T' ms) T1 → Still T1 T2 → ∀ b, b < w.heap.size → (T0 b = .ro ∨ T0 b = .other) → w2.heap[b]? = w.heap[b]? ∧ outT T2 K b = T0 b := fun T1 T2 K s1 s2 b hb e => by
      obtain ⟨y1, y2⟩ := p5 b hb e
      refine ⟨(e5 b (hms b hb)).trans y1, ?_⟩
      have ed : Go.Proofs.YtaaokejjmdbfaaaDoor.drop T' ms b = T0 b := by simp only [Go.Proofs.YtaaokejjmdbfaaaDoor.drop, if_neg (hms b hb)]; exact y2
      rcases e with e | e
      · simp only [outT, s2.ro b (s1.ro b (by rw [ed, e])), e]
      · simp only [outT, s2.other b (s1.other b (by rw [ed, e])), e]
    have plain : (∀ cs, x ≠ .box cs) → resultsOf st fn.results = some rs → out = none → ∃ u T', (results g a'.tmps).run P w2 = .ok u w2 ∧ (∀ b, b < w.heap.size → (T0 b = .ro ∨ T0 b = .other) → w2.heap[b]? = w.heap[b]? ∧ T' b = T0 b) ∧ (∀ b, w2.heap.size ≤ b → T' b = .other) ∧ ResRep T' w2 rs u ∧ LOut T' w2 v out := fun _ h1 h2 => by
      obtain ⟨us, T2, r1, r2, r3, r4, r5⟩ := results_ok q1' k6 h1
      refine ⟨_, outT T2 st.slots.length, results_run r1, fin _ T2 _ (Still.refl _) r3, fun b hb => by simp only [outT, r4 b hb], ⟨us.toArray, by simpa using r2, rfl, fun i x u hx hu => RK.out (r5 i x u hx (by simpa using hu))⟩, by rw [h2]; trivial⟩
    have pack : ∀ (u : Value) (T2 : Tags), (∀ b, b < w.heap.size → (T0 b = .ro ∨ T0 b = .other) → w2.heap[b]? = w.heap[b]? ∧ T2 b = T0 b) → (∀ b, w2.heap.size ≤ b → T2 b = .other) → ResRep T2 w2 rs u → LOut T2 w2 v out → ∃ u' T', Ending.returned u = .returned u' ∧ w.heap.size ≤ w2.heap.size ∧ w2.os = w.os ∧ w2.tape = w.tape ∧ w2.output = w.output ∧ (∀ b, b < w.heap.size → (T0 b = .ro ∨ T0 b = .other) → w2.heap[b]? = w.heap[b]? ∧ T' b = T0 b) ∧ (∀ b, w2.heap.size ≤ b → T' b = .other) ∧ ResRep T' w2 rs u' ∧ LOut T' w2 v out := fun u T2 s1 s2 s3 s4 =>
      ⟨u, T2, rfl, by omega, e1.trans p2, e2.trans p3, e3.trans p4, s1, s2, s3, s4⟩
    unfold linRes at hrs
    cases x with
    | row sz es =>
      obtain ⟨l, h1, h2⟩ := map_some' hrs
      cases h2
      obtain ⟨u, T2, s0, s1, s2, s3, s4⟩ := plain (fun _ e => by cases e) h1 rfl
      exact ⟨u, s0, pack u T2 s1 s2 s3 s4⟩
    | own lo =>
      obtain ⟨l, h1, h2⟩ := map_some' hrs
      cases h2
      obtain ⟨u, T2, s0, s1, s2, s3, s4⟩ := plain (fun _ e => by cases e) h1 rfl
      exact ⟨u, s0, pack u T2 s1 s2 s3 s4⟩
    | box cs =>
      simp only at hrs
      split at hrs
      case h_2 => cases hrs
      rename_i bx hbx
      split at hrs
      · cases hrs
      rename_i hfz
      have hfz : bx.fz = false := by simpa using hfz
      obtain ⟨l, h1, h2⟩ := map_some' hrs
      cases h2
      obtain ⟨T1, t1, t2, _, _, _⟩ := q1'.freezeRowsB 0
      obtain ⟨us, T2, r1, r2, r3, r4, r5, _, r7⟩ := result_list 0 t1 k6 h1 (Nat.le_refl _)
      have hσ : σ' 0 = σ0 0 := q3 0 (by simp [LArg.boxes])
      obtain ⟨arr, E, g1, g2, g3, g4, g5⟩ := t1.boxes 0 bx hbx
      have hT1 : T1 (σ' 0) = .box 0 := by rw [g3]; simp [hfz]
      have hrow : ∀ (j s : Nat) (l : List PV), bx.cs[j]? ≠ some (BV.row s l) := fun j s l e => by
        unfold St.freezeRows at hbx
        cases h0 : st.boxes[0]? with
        | none => rw [h0] at hbx; simp only at hbx; rw [h0] at hbx; cases hbx
        | some b0 =>
          rw [h0] at hbx
          have hl0 : 0 < st.boxes.length := (List.getElem?_eq_some_iff.1 h0).1
          simp only [List.getElem?_set_self hl0, Option.some.injEq] at hbx
          rw [← hbx] at e
          obtain ⟨x, _, hx⟩ := frozen_get e
          cases hx
      refine ⟨_, results_run r1, pack _ (outT T2 (st.freezeRows 0).slots.length) (fin T1 T2 _ t2 r3) (fun b hb => by simp only [outT, r4 b hb]) ⟨us.toArray, by simpa using r2, rfl, fun i x u hx hu => RK.out (.inl (by simpa using r5 i x u hx (by simpa using hu)))⟩ fun b hv => ?_⟩
      have hb0 : σ' 0 = b := hσ.trans (hσ0 b hv ⟨cs, rfl⟩)
      rw [hb0] at g1 hT1
      refine ⟨by simp only [outT, r7 b 0 hT1], arr, E, g1, by simpa using g2, fun j x u hx hu => ?_⟩
      rw [List.getElem?_map] at hx
      cases hc : bx.cs[j]? with
      | none => rw [hc] at hx; cases hx
      | some bv =>
        rw [hc] at hx
        have hx := Option.some.inj hx
        subst hx
        obtain ⟨y1, y2⟩ := g5 j bv u hc hu
        refine ⟨y1, ?_⟩
        cases bv with
        | pv p => exact PRep.frame (fun b hb _ => ⟨by simp only [outT, r3.ro b hb], rfl⟩) y2
        | row s l => exact absurd hc (hrow j s l)
  cases e with
  | normal => exact key
  | ret => exact key
  | exit i => exact absurd rfl (he i)

theorem calls_ok (hR : RecOk P rec) (hE : EnvOk P env) : CallsOk P rec env := by
  refine ⟨?_, (fun f h e => hE f _ e), ?_⟩
  rotate_left
  · intro f x args rs out h
    unfold callLin at h
    split at h
    · rename_i fn hfn
      have hok : fnOk P f fn = true := hE f _ hfn
      split at h
      case isFalse => cases h
      replace h := bind_some h
      obtain ⟨⟨e, st⟩, h1, h⟩ := h
      simp only at h
      refine ⟨(fnOk_eq hok).1, ?_⟩
      split at h
      · cases h
      · rename_i hne
        exact code_callL hR hok (fun i e => hne i e) h1 h
    · cases h
  intro f args rs h
  unfold callRes at h
  split at h
  · rename_i g hg
    exact hE f _ hg args rs h
  · rename_i fn hfn
    have hok : fnOk P f fn = true := hE f _ hfn
    split at h
    case isFalse => cases h
    rename_i hl
    replace h := bind_some h
    obtain ⟨⟨e, st⟩, h1, h⟩ := h
    simp only at h
    refine ⟨(fnOk_eq hok).1, ?_⟩
    split at h
    · cases h
    · rename_i hne
      exact code_call hR hok hl (fun i e => hne i e) h1 h
  · cases h
  · cases h
theorem iters_ok (hE : EnvOk P env) : ItersOk P env := fun f fn hfn => by
  have hok : fnOk P f fn = true := hE f _ hfn
  obtain ⟨k0, g, c, k1, k2, k3, k4, k5, k6⟩ := fnOk_eq hok
  refine ⟨k0, g, c, k1, k2, k3, k4, k5, fun he => ?_⟩
  have : fn.results = [] := by simpa using he
  rw [this] at k6
  have : g.results.toList = [] := by
    match h : g.results.toList, k6 with
    | [], _ => rfl
    | _ :: _, k6 => simp [mResL] at k6
  exact Array.toList_eq_nil_iff.1 this
theorem vm_ok (hE : EnvOk P env) : ∀ n, RecOk P (vm env n)
  | 0 => ⟨(fun _ _ _ _ _ _ h => by simp [vm] at h), (fun _ _ _ _ _ _ _ _ h => by simp [vm] at h), (fun _ _ _ _ _ _ _ _ _ h => by simp [vm] at h), (fun _ _ _ _ _ _ _ _ _ _ _ h => by simp [vm] at h)⟩
  | n + 1 => step_ok (vm_ok hE n) (iters_ok hE) (calls_ok (vm_ok hE n) hE)
theorem vmCall_ok (hE : EnvOk P env) {n f : Nat} {args : List PV} {rs : List Res} (h : vmCall env n f args = some rs) : callable P f = true ∧ CallOk P f args rs := (calls_ok (vm_ok hE n) hE).1 f args rs h
end
end Go.Proofs.YtaaokejjmdbfaaaDoor

namespace Go.Proofs.YtaaokejjmdbfaaaDoor

abbrev Rec := VCode → St → Option (Ex × St)
def RLe (f g : Rec) : Prop := ∀ c st r, f c st = some r → g c st = some r
open Classical in
noncomputable def den (env : Env) (c : VCode) (st : St) : Option (Ex × St) :=
  if h : ∃ n r, vm env n c st = some r then some (Classical.choose (Classical.choose_spec h)) else none

structure Good {α : Type} (env : Env) (F : Rec → Option α) : Prop where
  mono : ∀ f g, RLe f g → ∀ r, F f = some r → F g = some r
  cont : (∀ m n, m ≤ n → RLe (vm env m) (vm env n)) → ∀ r, F (den env) = some r → ∃ n, F (vm env n) = some r

section
variable {α β : Type} {env : Env}
theorem Good.const (x : Option α) : Good env (fun _ => x) := ⟨fun _ _ _ _ h => h, fun _ _ h => ⟨0, h⟩⟩
theorem Good.app (c : VCode) (st : St) : Good env (fun rec => rec c st) := ⟨fun _ _ h r => h c st r, fun _ r h => by
  unfold den at h
  split at h
  case isFalse => cases h
  rename_i hx
  cases h
  exact ⟨_, Classical.choose_spec (Classical.choose_spec hx)⟩⟩
theorem Good.bind {F : Rec → Option α} {G : α → Rec → Option β} (hF : Good env F) (hG : ∀ a, Good env (G a)) : Good env (fun rec => (F rec).bind fun a => G a rec) := ⟨fun f g h r e => by
  obtain ⟨a, h1, h2⟩ := Option.bind_eq_some_iff.1 e
  exact Option.bind_eq_some_iff.2 ⟨a, hF.mono f g h a h1, (hG a).mono f g h r h2⟩, fun hm r e => by
  obtain ⟨a, h1, h2⟩ := Option.bind_eq_some_iff.1 e
  obtain ⟨m, h3⟩ := hF.cont hm a h1
  obtain ⟨n, h4⟩ := (hG a).cont hm r h2
  exact ⟨max m n, Option.bind_eq_some_iff.2 ⟨a, hF.mono _ _ (hm m _ (Nat.le_max_left m n)) a h3, (hG a).mono _ _ (hm n _ (Nat.le_max_right m n)) r h4⟩⟩⟩
theorem Good.map {F : Rec → Option α} {g : α → β} (hF : Good env F) : Good env (fun rec => (F rec).map g) := by
  have := hF.bind (G := fun a _ => some (g a)) fun a => Good.const _
  refine ⟨fun f g' h r e => ?_, fun hm r e => ?_⟩
  · have := this.mono f g' h r (by simpa [Option.map_eq_bind, Function.comp_def] using e)
    simpa [Option.map_eq_bind, Function.comp_def] using this
  · obtain ⟨n, hn⟩ := this.cont hm r (by simpa [Option.map_eq_bind, Function.comp_def] using e)
    exact ⟨n, by simpa [Option.map_eq_bind, Function.comp_def] using hn⟩
theorem Good.callRes (f : Nat) (args : List PV) : Good env (fun rec => callRes rec env f args) := by
  unfold Go.Proofs.YtaaokejjmdbfaaaDoor.callRes
  split
  · exact Good.const _
  · split
    · refine (Good.app _ _).bind fun a => ?_
      obtain ⟨e, st⟩ := a
      cases e <;> exact Good.const _
    · exact Good.const _
  · exact Good.const _
  · exact Good.const _
theorem Good.iterRes (f : Nat) (args : List PV) (s : Option Nat) : Good env (fun rec => iterRes rec env f args s) := by
  unfold Go.Proofs.YtaaokejjmdbfaaaDoor.iterRes
  split
  · split
    · refine (Good.app _ _).bind fun a => ?_
      obtain ⟨e, st⟩ := a
      cases e <;> exact Good.const _
    · exact Good.const _
  · exact Good.const _
theorem Good.callOn (d f : Nat) (args : List Opd) (caps : List AV) (st : St) : Good env (fun rec => callOn rec env d f args caps st) := by
  unfold Go.Proofs.YtaaokejjmdbfaaaDoor.callOn
  exact (Good.const _).bind fun l => (Good.const _).bind fun k => (Good.callRes f _).bind fun rs => Good.const _
theorem Good.callLin (f : Nat) (x : LArg) (args : List PV) : Good env (fun rec => callLin rec env f x args) := by
  unfold Go.Proofs.YtaaokejjmdbfaaaDoor.callLin
  split
  · split
    · refine (Good.app _ _).bind fun a => ?_
      obtain ⟨e, st⟩ := a
      cases e <;> exact Good.const _
    · exact Good.const _
  · exact Good.const _
theorem Good.callOnL (d f : Nat) (x : Opd) (args : List Opd) (caps : List AV) (st : St) : Good env (fun rec => callOnL rec env d f x args caps st) := by
  unfold Go.Proofs.YtaaokejjmdbfaaaDoor.callOnL
  exact (Good.const _).bind fun l => (Good.const _).bind fun k => (Good.const _).bind fun q => (Good.callLin f _ _).bind fun r => Good.const _
theorem Good.act (o : VOp) (st : St) : Good env (fun rec => act rec env o st) := by
  cases o
  case call d f args => exact Good.callOn d f args [] st
  case callv d x args =>
    unfold Go.Proofs.YtaaokejjmdbfaaaDoor.act
    simp only
    split
    · exact Good.callOn _ _ _ _ _
    · exact Good.callOn _ _ _ _ _
    · exact Good.const _
  case lin d f x args => exact Good.callOnL d f x args [] st
  case linv d g x args =>
    unfold Go.Proofs.YtaaokejjmdbfaaaDoor.act
    simp only
    split
    · exact Good.callOnL _ _ _ _ _ _
    · exact Good.callOnL _ _ _ _ _ _
    · exact Good.const _
  all_goals exact Good.const _
theorem Good.op1 (o : VOp) (st : St) : Good env (fun rec => op1 rec env o st) := by
  unfold Go.Proofs.YtaaokejjmdbfaaaDoor.op1
  split
  · exact Good.act o st
  · exact Good.const _
theorem Good.op (o : VOp) (st : St) : Good env (fun rec => op rec env o st) := by
  unfold Go.Proofs.YtaaokejjmdbfaaaDoor.op
  split
  · split
    · split
      · exact Good.op1 _ _
      · exact Good.const _
    · exact Good.const _
    · exact Good.const _
  · exact Good.op1 _ _
theorem Good.ops : ∀ (l : List VOp) (st : St), Good env (fun rec => ops rec env l st)
  | [], st => Good.const _
  | o :: l, st => (Good.op o st).bind fun st => Good.ops l st
theorem Good.rounds (slots : List AV) (ps : List Nat) (assign body : VCode) (nb : Nat) : ∀ (xs : List (List PV)) (k : Nat) (st : St), Good env (fun rec => rounds rec slots ps assign body nb k xs st)
  | [], k, st => by unfold Go.Proofs.YtaaokejjmdbfaaaDoor.rounds; exact Good.const _
  | x :: xs, k, st => by
    unfold Go.Proofs.YtaaokejjmdbfaaaDoor.rounds
    refine (Good.const _).bind fun sl => (Good.app _ _).bind fun a => ?_
    obtain ⟨e, st⟩ := a
    cases e
    case normal =>
      refine (Good.app _ _).bind fun a => ?_
      obtain ⟨e, st⟩ := a
      cases e
      case normal =>
        simp only
        split
        · exact Good.rounds slots ps assign body nb xs (k + 1) _
        · exact Good.const _
      all_goals exact Good.const _
    all_goals exact Good.const _
theorem Good.ranged (g : Opd) (ps : List Nat) (assign body : VCode) (st : St) : Good env (fun rec => ranged rec env g ps assign body st) := by
  unfold Go.Proofs.YtaaokejjmdbfaaaDoor.ranged
  refine (Good.const _).bind fun v => ?_
  cases v <;> try exact Good.const _
  simp only
  refine (Good.iterRes _ _ _).bind fun xs => (Good.rounds _ _ _ _ _ _ _ _).bind fun r => ?_
  obtain ⟨r, st1⟩ := r
  cases r with
  | none => exact Good.const _
  | some p =>
    obtain ⟨e, k⟩ := p
    refine (Good.iterRes _ _ _).bind fun xs => (Good.rounds _ _ _ _ _ _ _ _).bind fun r => ?_
    obtain ⟨r, st1⟩ := r
    cases r <;> exact Good.const _
theorem Good.altRun (keep : List Nat) (vo : List VOp) (st : St) (x : DAlt) : Good env (fun rec => altRun rec env keep vo st x) := by
  unfold Go.Proofs.YtaaokejjmdbfaaaDoor.altRun
  exact (Good.ops _ _).bind fun s => Good.const _
theorem Good.agree (keep : List Nat) (vo : List VOp) (st s : St) : ∀ l : List DAlt, Good env (fun rec => agree s (l.map (Go.Proofs.YtaaokejjmdbfaaaDoor.altRun rec env keep vo st)))
  | [] => Good.const _
  | x :: xs => by
    simp only [List.map_cons, Go.Proofs.YtaaokejjmdbfaaaDoor.agree]
    refine (Good.altRun keep vo st x).bind fun s' => ?_
    split
    · exact Good.agree keep vo st s xs
    · exact Good.const _
theorem Good.runAlts (keep : List Nat) (vo : List VOp) (st : St) (l : List DAlt) : Good env (fun rec => runAlts rec env keep vo st l) := by
  cases l with
  | nil => exact Good.const _
  | cons x xs =>
    simp only [Go.Proofs.YtaaokejjmdbfaaaDoor.runAlts]
    exact (Good.altRun keep vo st x).bind fun s => Good.agree keep vo st s xs
theorem Good.step (c : VCode) (st : St) : Good env (fun rec => step rec env c st) := by
  cases c
  case ops l => exact (Good.ops l st).map
  case drw fz _ _ _ l => exact (Good.ops l (fz.foldl St.freezeAt st)).map
  case drs fz keep vo alts => exact (Good.runAlts keep vo (fz.foldl St.freezeAt st) alts).map
  case lend d ks l =>
    simp only [Go.Proofs.YtaaokejjmdbfaaaDoor.step]
    split
    · split
      · exact ((Good.ops l _).bind fun s => Good.const _).map
      · exact Good.const _
    · exact Good.const _
  case seq a b =>
    refine (Good.app _ _).bind fun x => ?_
    obtain ⟨e, st⟩ := x
    cases e
    case normal => exact Good.app _ _
    all_goals exact Good.const _
  case cond c a b =>
    refine (Good.const _).bind fun v => ?_
    cases v <;> try exact Good.const _
    simp only
    split
    · exact Good.app _ _
    · exact Good.app _ _
  case block i a =>
    refine (Good.app _ _).bind fun x => ?_
    obtain ⟨e, st⟩ := x
    exact Good.const _
  case loop => exact Good.app _ _
  case round keep nb a =>
    refine (Good.const _).bind fun s => (Good.app _ _).bind fun x => ?_
    obtain ⟨e, st⟩ := x
    cases e
    case normal => exact Good.app _ _
    all_goals exact Good.const _
  case rng g ps assign body => exact Good.ranged g ps assign body st
  case clean pre post a =>
    refine (Good.const _).bind fun s => (Good.app _ _).bind fun x => ?_
    obtain ⟨e, st⟩ := x
    exact Good.const _
  all_goals exact Good.const _

theorem vm_succ (env : Env) : ∀ n, RLe (vm env n) (vm env (n + 1))
  | 0, c, st, r, h => by simp [vm] at h
  | n + 1, c, st, r, h => (Good.step (env := env) c st).mono _ _ (vm_succ env n) r h
theorem vm_le (env : Env) (m n : Nat) (h : m ≤ n) : RLe (vm env m) (vm env n) := by
  induction h with
  | refl => exact fun _ _ _ h => h
  | step _ ih => exact fun c st r h => vm_succ env _ c st r (ih c st r h)
theorem den_of_vm {n : Nat} {c : VCode} {st : St} {r : Ex × St} (h : vm env n c st = some r) : den env c st = some r := by
  have hx : ∃ n r, vm env n c st = some r := ⟨n, r, h⟩
  unfold den
  rw [dif_pos hx]
  have h2 := Classical.choose_spec (Classical.choose_spec hx)
  have h3 := vm_le env _ _ (Nat.le_max_left n (Classical.choose hx)) c st r h
  have h4 := vm_le env _ _ (Nat.le_max_right n (Classical.choose hx)) c st _ h2
  rw [h3] at h4
  exact h4.symm
theorem vm_of_den {c : VCode} {st : St} {r : Ex × St} (h : den env c st = some r) : ∃ n, vm env n c st = some r :=
  (Good.app c st).cont (vm_le env) r h
theorem vm_den (env : Env) (n : Nat) : RLe (vm env n) (den env) := fun _ _ _ h => den_of_vm h
theorem den_eq (env : Env) (c : VCode) (st : St) : den env c st = step (den env) env c st := by
  apply Option.ext
  intro r
  constructor
  · intro h
    obtain ⟨n, hn⟩ := vm_of_den h
    cases n with
    | zero => simp [vm] at hn
    | succ n => exact (Good.step c st).mono _ _ (vm_den env n) r hn
  · intro h
    obtain ⟨n, hn⟩ := (Good.step c st).cont (vm_le env) r h
    exact den_of_vm (n := n + 1) hn
noncomputable def cal (env : Env) (f : Nat) (args : List PV) : Option (List Res) := callRes (den env) env f args
noncomputable def calL (env : Env) (f : Nat) (x : LArg) (args : List PV) : Option (List Res × Option (List PV)) := callLin (den env) env f x args
theorem vmCall_of_cal {f : Nat} {args : List PV} {rs : List Res} (h : cal env f args = some rs) : ∃ n, vmCall env n f args = some rs :=
  (Good.callRes (env := env) f args).cont (vm_le env) rs h
theorem cal_of_vmCall {n f : Nat} {args : List PV} {rs : List Res} (h : vmCall env n f args = some rs) : cal env f args = some rs :=
  (Good.callRes (env := env) f args).mono _ _ (vm_den env n) rs h
end
end Go.Proofs.YtaaokejjmdbfaaaDoor

namespace Go.Proofs.YtaaokejjmdbfaaaDoor

def bcase {α : Type} (b : Bool) (x y : α) : α := match b with
  | true => x
  | false => y
section
variable {env : Env} {α β : Type}
theorem bcase_true (x y : α) : bcase true x y = x := (rfl)
theorem bcase_false (x y : α) : bcase false x y = y := (rfl)
theorem bcase_bind (b : Bool) (x y : Option α) (f : α → Option β) : (bcase b x y).bind f = bcase b (x.bind f) (y.bind f) := by cases b <;> rfl
theorem bcase_map (b : Bool) (x y : Option α) (f : α → β) : (bcase b x y).map f = bcase b (x.map f) (y.map f) := by cases b <;> rfl
theorem bcase_not (b : Bool) (x y : α) : bcase (!b) x y = bcase b y x := by cases b <;> rfl
theorem bcase_bne {γ : Type} [BEq γ] (a b : γ) (x y : α) : bcase (a != b) x y = bcase (a == b) y x := by unfold bne; rw [bcase_not]
theorem beq_t (b : Bool) : (b == true) = b := by cases b <;> rfl
theorem beq_f (b : Bool) : (b == false) = !b := by cases b <;> rfl
theorem bcase_split {b : Bool} {x y r : α} (h1 : b = true → x = r) (h0 : b = false → y = r) : bcase b x y = r := by
  cases b
  · exact h0 rfl
  · exact h1 rfl

noncomputable def dops (env : Env) (l : List VOp) (st : St) : Option St := ops (den env) env l st
noncomputable def dop (env : Env) (o : VOp) (st : St) : Option St := op (den env) env o st
noncomputable def next (env : Env) (b : VCode) : Ex × St → Option (Ex × St)
  | (.normal, st) => den env b st
  | r => some r
def endBlock (id : Nat) : Ex × St → Ex × St
  | (.normal, st) => (.normal, st)
  | (.exit j, st) => (bcase (Nat.beq j id) .normal (.exit j), st)
  | (.ret, st) => (.ret, st)
def cleanEnd (post : List Nat) (nb : Nat) (p : Ex × St) : Option (Ex × St) := (p.2.head post nb).map fun st => (p.1, st)
def fin (rs : List VRes) : Ex × St → Option (List Res)
  | (.exit _, _) => none
  | (_, st) => resultsOf st rs
def start (n : Nat) (args : List PV) : St := ⟨args.map .pv ++ List.replicate (n - args.length) .any, [], [], none⟩

theorem den_skip (st : St) : den env .skip st = some (.normal, st) := by rw [den_eq]; rfl
theorem den_ops (l : List VOp) (st : St) : den env (.ops l) st = (dops env l st).map fun st => (.normal, st) := by rw [den_eq]; rfl
theorem den_drw (z a f q) (l : List VOp) (st : St) : den env (.drw z a f q l) st = (dops env l (z.foldl St.freezeAt st)).map fun st => (.normal, st) := by rw [den_eq]; rfl
noncomputable def dalts (env : Env) (keep : List Nat) (vo : List VOp) (st : St) (l : List DAlt) : Option St := runAlts (den env) env keep vo st l
noncomputable def dalt (env : Env) (keep : List Nat) (vo : List VOp) (st : St) (x : DAlt) : Option St := altRun (den env) env keep vo st x
noncomputable def dagree (env : Env) (keep : List Nat) (vo : List VOp) (st s : St) (l : List DAlt) : Option St := agree s (l.map (altRun (den env) env keep vo st))
def sameAs (s s' : St) (r : Option St) : Option St := if s'.same s then r else none
theorem den_drs (z k vo l) (st : St) : den env (.drs z k vo l) st = (dalts env k vo (z.foldl St.freezeAt st) l).map fun st => (.normal, st) := by rw [den_eq]; rfl
theorem dalts_cons (k vo) (st : St) (x : DAlt) (l : List DAlt) : dalts env k vo st (x :: l) = (dalt env k vo st x).bind fun s => dagree env k vo st s l := (rfl)
theorem dagree_nil (k vo) (st s : St) : dagree env k vo st s [] = some s := (rfl)
theorem dagree_cons (k vo) (st s : St) (x : DAlt) (l : List DAlt) : dagree env k vo st s (x :: l) = (dalt env k vo st x).bind fun s' => sameAs s s' (dagree env k vo st s l) := by
  show (altRun (den env) env k vo st x).bind _ = _
  unfold dalt dagree sameAs
  congr 1
theorem sameAs_same (s : St) (r : Option St) : sameAs s s r = r := by
  show (if s.same s then r else none) = r
  rw [St.same_refl]; rfl
theorem dalt_eq (k vo) (st : St) (a f q o w) : dalt env k vo st ⟨a, f, q, o, w⟩ = (dops env (pickV vo o) st).bind (altEnd k st.boxes.length w) := (rfl)
theorem altEnd_false (k : List Nat) (nb : Nat) (s : St) : altEnd k nb false s = s.head k s.boxes.length := by
  unfold altEnd
  cases s.head k s.boxes.length <;> rfl
theorem altEnd_true (k : List Nat) (nb : Nat) (s : St) : altEnd k nb true s = (s.head k s.boxes.length).bind fun s => s.swap2 nb := (rfl)
theorem pickV_nil (vo : List VOp) : pickV vo [] = [] := (rfl)
theorem pickV_one (vo : List VOp) (i : Nat) (l : List Nat) : pickV vo (i :: l) = vo.getD i default :: pickV vo l := (rfl)
theorem den_seq (a b : VCode) (st : St) : den env (.seq a b) st = (den env a st).bind (next env b) := by
  rw [den_eq]
  show (den env a st).bind _ = _
  congr 1
  funext ⟨e, st⟩
  cases e <;> rfl
theorem den_cond (c : Opd) (a b : VCode) (st : St) : den env (.cond c a b) st = (match st.pvOf c with
    | some (.bool t) => bcase t (den env a st) (den env b st)
    | _ => none) := by
  rw [den_eq]
  show (st.pvOf c).bind _ = _
  cases st.pvOf c with
  | none => rfl
  | some v =>
    cases v <;> try rfl
    rename_i t
    cases t <;> rfl
theorem den_block (i : Nat) (a : VCode) (st : St) : den env (.block i a) st = (den env a st).map (endBlock i) := by
  rw [den_eq]
  show (den env a st).bind _ = _
  cases den env a st with
  | none => rfl
  | some r =>
    obtain ⟨e, st⟩ := r
    cases e with
    | normal => rfl
    | ret => rfl
    | exit j =>
      show some (_, _) = some (_, _)
      by_cases h : j = i
      · subst h; simp [bcase]
      · have : Nat.beq j i = false := by cases e : Nat.beq j i with
        | false => rfl
        | true => exact absurd (Nat.eq_of_beq_eq_true e) h
        simp [bcase, h, this]
theorem den_loop (keep : List Nat) (a : VCode) (st : St) : den env (.loop keep a) st = den env (.round keep st.boxes.length a) st := by rw [den_eq]; rfl
theorem den_round (keep : List Nat) (nb : Nat) (a : VCode) (st : St) : den env (.round keep nb a) st = (st.head keep nb).bind fun st => (den env a st).bind (next env (.round keep nb a)) := by
  rw [den_eq]
  show (st.head keep nb).bind _ = _
  congr 1
  funext st
  show (den env a st).bind _ = _
  congr 1
  funext ⟨e, st⟩
  cases e <;> rfl
theorem den_clean (pre post : List Nat) (a : VCode) (st : St) : den env (.clean pre post a) st = (st.head pre st.boxes.length).bind fun s => (den env a s).bind (cleanEnd post st.boxes.length) := by
  rw [den_eq]
  show (st.head pre _).bind _ = _
  congr 1
  funext s
  show (den env a s).bind _ = _
  congr 1
  funext ⟨e, s⟩
  show (s.head post _).bind _ = (s.head post _).map _
  cases s.head post st.boxes.length <;> rfl
theorem den_exit (i : Nat) (st : St) : den env (.exit i) st = some (.exit i, st) := by rw [den_eq]; rfl
theorem den_ret (st : St) : den env .ret st = some (.ret, st) := by rw [den_eq]; rfl
theorem next_normal (b : VCode) (st : St) : next env b (.normal, st) = den env b st := (rfl)
theorem next_exit (b : VCode) (i : Nat) (st : St) : next env b (.exit i, st) = some (.exit i, st) := (rfl)
theorem next_ret (b : VCode) (st : St) : next env b (.ret, st) = some (.ret, st) := (rfl)
theorem endBlock_normal (i : Nat) (st : St) : endBlock i (.normal, st) = (.normal, st) := (rfl)
theorem endBlock_ret (i : Nat) (st : St) : endBlock i (.ret, st) = (.ret, st) := (rfl)
theorem endBlock_exit (i j : Nat) (st : St) : endBlock i (.exit j, st) = (bcase (Nat.beq j i) .normal (.exit j), st) := (rfl)
theorem fin_normal (rs : List VRes) (st : St) : fin rs (.normal, st) = resultsOf st rs := (rfl)
theorem fin_ret (rs : List VRes) (st : St) : fin rs (.ret, st) = resultsOf st rs := (rfl)
theorem cal_code {f : Nat} {fn : VFn} {args : List PV} (h : env f = some (.code fn)) (hl : args.length = fn.nargs) : cal env f args = (den env fn.body (start fn.ntmps args)).bind (Go.Proofs.YtaaokejjmdbfaaaDoor.fin fn.results) := by
  unfold cal callRes
  rw [h]
  simp only [if_pos hl]
  show (den env fn.body _).bind _ = _
  congr 1
  funext ⟨e, st⟩
  cases e <;> rfl
def startL (n : Nat) (x : LArg) (args : List PV) : St := ⟨x.av :: (args.map .pv ++ List.replicate (n - (args.length + 1)) .any), x.boxes, [], none⟩
def finL (x : LArg) (rs : List VRes) : Ex × St → Option (List Res × Option (List PV))
  | (.exit _, _) => none
  | (_, st) => linRes x st rs
theorem finL_normal (x : LArg) (rs : List VRes) (st : St) : finL x rs (.normal, st) = linRes x st rs := (rfl)
theorem finL_ret (x : LArg) (rs : List VRes) (st : St) : finL x rs (.ret, st) = linRes x st rs := (rfl)
theorem linRes_row (sz : Nat) (es : List PV) (st : St) (rs : List VRes) : linRes (.row sz es) st rs = (resultsOf st rs).map fun l => (l, none) := (rfl)
theorem linRes_own (l : List AV) (st : St) (rs : List VRes) : linRes (.own l) st rs = (resultsOf st rs).map fun l => (l, none) := (rfl)
theorem linRes_box (cs : List PV) (st : St) (rs : List VRes) : linRes (.box cs) st rs = (match (st.freezeRows 0).boxes[0]? with
    | some b => bcase b.fz none ((resultList (st.freezeRows 0) rs).map fun l => (l, some (b.cs.map BV.val)))
    | none => none) := by
  show (match (st.freezeRows 0).boxes[0]? with
    | some b => if b.fz then none else (resultList (st.freezeRows 0) rs).map fun l => (l, some (b.cs.map BV.val))
    | none => none) = _
  split
  · rename_i b _
    cases b.fz <;> rfl
  · rfl
theorem lav_row (sz : Nat) (es : List PV) : (LArg.row sz es).av = .row sz es := (rfl)
theorem lav_own (l : List AV) : (LArg.own l).av = .tup true l := (rfl)
theorem lav_box (cs : List PV) : (LArg.box cs).av = .pbox 0 0 := (rfl)
theorem lbx_row (sz : Nat) (es : List PV) : (LArg.row sz es).boxes = [] := (rfl)
theorem lbx_own (l : List AV) : (LArg.own l).boxes = [] := (rfl)
theorem lbx_box (cs : List PV) : (LArg.box cs).boxes = [⟨false, cs.map .pv⟩] := (rfl)
theorem cal_ext {f : Nat} {g : List PV → Option (List Res)} {args : List PV} (h : env f = some (.ext g)) : cal env f args = g args := by
  unfold cal callRes
  rw [h]
theorem clean_loop' {keep post : List Nat} {id : Nat} {b : VCode} {st S0 : St} {R : Option (Ex × St)} (h : st.head keep st.boxes.length = some S0) (h2 : S0.head keep S0.boxes.length = some S0)
    (key : ∀ rb, rb = VCode.round keep S0.boxes.length b → (((den env b S0).bind (next env rb)).map (endBlock id)).bind (cleanEnd post st.boxes.length) = R) : den env (.clean keep post (.block id (.loop keep b))) st = R := by
  rw [den_clean, h, Option.bind_some, den_block, den_loop, den_round, h2, Option.bind_some]
  exact key _ rfl
theorem round_on {keep : List Nat} {nb : Nat} {b rb : VCode} {st S1 : St} (hrb : rb = .round keep nb b) (h : st.head keep nb = some S1) : den env rb st = (den env b S1).bind (next env rb) := by
  rw [hrb, den_round, h, Option.bind_some]
noncomputable def tailOf (env : Env) (id : Nat) (post : List Nat) (nb : Nat) (x : Option (Ex × St)) : Option (Ex × St) := (x.map (endBlock id)).bind (cleanEnd post nb)
theorem clean_rec {β : Type} {keep post : List Nat} {id nb : Nat} {b : VCode} (S : β → St) (R : β → Option (Ex × St)) (P : β → Prop) (μ : β → Nat) (x0 : β) {st : St} (h : st.head keep st.boxes.length = some (S x0)) (hP : P x0)
    (hS : ∀ x, (S x).boxes.length = nb) (hh : ∀ x, (S x).head keep nb = some (S x))
    (step : ∀ x rb, P x → (∀ y, μ y < μ x → P y → ∀ s, s.head keep nb = some (S y) → tailOf env id post nb (den env rb s) = R y) → tailOf env id post nb ((den env b (S x)).bind (next env rb)) = R x) :
    den env (.clean keep post (.block id (.loop keep b))) st = R x0 := by
  have hb : st.boxes.length = nb := by rw [← (head_same h).1]; exact hS x0
  refine clean_loop' h (by rw [hS]; exact hh x0) ?_
  intro rb hrb
  rw [hS] at hrb
  rw [hb]
  have key : ∀ (k : Nat) (x : β), μ x < k → P x → tailOf env id post nb ((den env b (S x)).bind (next env rb)) = R x := by
    intro k
    induction k with
    | zero => intro x hx; omega
    | succ k ih =>
      intro x hx hPx
      refine step x rb hPx fun y hy hPy s hs => ?_
      rw [round_on hrb hs]
      exact ih y (by omega) hPy
  exact key (μ x0 + 1) x0 (by omega) hP
theorem clean_up {keep post : List Nat} {id nb : Nat} {b : VCode} (n : Nat) (S : Nat → St) (R : Nat → Option (Ex × St)) {st : St} (h : st.head keep st.boxes.length = some (S 0)) (hS : ∀ i, (S i).boxes.length = nb) (hh : ∀ i, (S i).head keep nb = some (S i))
    (step : ∀ i rb, i < n → (∀ s, s.head keep nb = some (S (i + 1)) → tailOf env id post nb (den env rb s) = R (i + 1)) → tailOf env id post nb ((den env b (S i)).bind (next env rb)) = R i)
    (last : ∀ rb, tailOf env id post nb ((den env b (S n)).bind (next env rb)) = R n) :
    den env (.clean keep post (.block id (.loop keep b))) st = R 0 := by
  refine clean_rec S R (fun i => i ≤ n) (fun i => n - i) 0 h (Nat.zero_le _) hS hh fun i rb hi ih => ?_
  by_cases hn : i = n
  · subst hn; exact last rb
  · exact step i rb (by omega) fun s hs => ih (i + 1) (by omega) (by omega) s hs
theorem tail_normal {id nb : Nat} {post : List Nat} (st : St) : tailOf env id post nb (some (.normal, st)) = cleanEnd post nb (.normal, st) := (rfl)
theorem tail_ret {id nb : Nat} {post : List Nat} (st : St) : tailOf env id post nb (some (.ret, st)) = cleanEnd post nb (.ret, st) := (rfl)
theorem tail_exit {id j nb : Nat} {post : List Nat} (st : St) : tailOf env id post nb (some (.exit j, st)) = cleanEnd post nb (bcase (Nat.beq j id) .normal (.exit j), st) := (rfl)
theorem tail_bcase {id nb : Nat} {post : List Nat} (b : Bool) (x y : Option (Ex × St)) : tailOf env id post nb (bcase b x y) = bcase b (tailOf env id post nb x) (tailOf env id post nb y) := by cases b <;> rfl
theorem z_bind_some (a : α) (f : α → Option β) : (some a).bind f = f a := (rfl)
theorem z_bind_none (f : α → Option β) : (none : Option α).bind f = none := (rfl)
theorem z_map_some (a : α) (f : α → β) : (some a).map f = some (f a) := (rfl)
theorem z_map_none (f : α → β) : (none : Option α).map f = none := (rfl)
theorem z_ite_true (x y : α) : (if True then x else y) = x := (rfl)
theorem z_ite_false (x y : α) : (if False then x else y) = y := (rfl)
theorem z_bind_eq {γ δ : Type} (x : Option γ) (f : γ → Option δ) : (x >>= f) = x.bind f := (rfl)
theorem z_pure {γ : Type} (x : γ) : (pure x : Option γ) = some x := (rfl)
theorem z_len_cons {γ : Type} (a : γ) (l : List γ) : (a :: l).length = l.length + 1 := (rfl)
theorem z_len_nil {γ : Type} : ([] : List γ).length = 0 := (rfl)
theorem z_nil_app {γ : Type} (l : List γ) : [] ++ l = l := (rfl)
theorem z_cons_app {γ : Type} (a : γ) (l m : List γ) : (a :: l) ++ m = a :: (l ++ m) := (rfl)
theorem z_take_succ {γ : Type} (a : γ) (l : List γ) (n : Nat) : (a :: l).take (n + 1) = a :: l.take n := (rfl)
theorem z_take_zero {γ : Type} (l : List γ) : l.take 0 = [] := (rfl)
theorem z_drop_succ {γ : Type} (a : γ) (l : List γ) (n : Nat) : (a :: l).drop (n + 1) = l.drop n := (rfl)
theorem z_drop_zero {γ : Type} (l : List γ) : l.drop 0 = l := (rfl)
theorem z_get_zero {γ : Type} (a : γ) (l : List γ) : (a :: l)[0]? = some a := (rfl)
theorem z_get_succ {γ : Type} (a : γ) (l : List γ) (n : Nat) : (a :: l)[n + 1]? = l[n]? := (rfl)
theorem z_get_8 {γ : Type} (a0 a1 a2 a3 a4 a5 a6 a7 : γ) (l : List γ) (n : Nat) : (a0 :: a1 :: a2 :: a3 :: a4 :: a5 :: a6 :: a7 :: l)[n + 8]? = l[n]? := (rfl)
theorem z_getD_zero {γ : Type} (a : γ) (l : List γ) (d : γ) : (a :: l).getD 0 d = a := (rfl)
theorem z_getD_succ {γ : Type} (a : γ) (l : List γ) (n : Nat) (d : γ) : (a :: l).getD (n + 1) d = l.getD n d := (rfl)
theorem z_getD_8 {γ : Type} (a0 a1 a2 a3 a4 a5 a6 a7 : γ) (l : List γ) (n : Nat) (d : γ) : (a0 :: a1 :: a2 :: a3 :: a4 :: a5 :: a6 :: a7 :: l).getD (n + 8) d = l.getD n d := (rfl)
theorem z_set_zero {γ : Type} (a x : γ) (l : List γ) : (a :: l).set 0 x = x :: l := (rfl)
theorem z_set_succ {γ : Type} (a x : γ) (l : List γ) (n : Nat) : (a :: l).set (n + 1) x = a :: l.set n x := (rfl)
theorem z_set_8 {γ : Type} (a0 a1 a2 a3 a4 a5 a6 a7 x : γ) (l : List γ) (n : Nat) : (a0 :: a1 :: a2 :: a3 :: a4 :: a5 :: a6 :: a7 :: l).set (n + 8) x = a0 :: a1 :: a2 :: a3 :: a4 :: a5 :: a6 :: a7 :: l.set n x := (rfl)
theorem z_mapM_nil {γ δ : Type} (f : γ → Option δ) : ([] : List γ).mapM f = some [] := (rfl)
theorem z_any_cons {γ : Type} (a : γ) (l : List γ) (p : γ → Bool) : (a :: l).any p = (p a || l.any p) := (rfl)
theorem z_any_nil {γ : Type} (p : γ → Bool) : ([] : List γ).any p = false := (rfl)
theorem z_all_cons {γ : Type} (a : γ) (l : List γ) (p : γ → Bool) : (a :: l).all p = (p a && l.all p) := (rfl)
theorem z_all_nil {γ : Type} (p : γ → Bool) : ([] : List γ).all p = true := (rfl)
theorem z_foldl_cons {γ δ : Type} (f : δ → γ → δ) (b : δ) (a : γ) (l : List γ) : (a :: l).foldl f b = l.foldl f (f b a) := (rfl)
theorem z_foldl_nil {γ δ : Type} (f : δ → γ → δ) (b : δ) : ([] : List γ).foldl f b = b := (rfl)
theorem z_map_cons {γ δ : Type} (f : γ → δ) (a : γ) (l : List γ) : (a :: l).map f = f a :: l.map f := (rfl)
theorem z_map_nil {γ δ : Type} (f : γ → δ) : ([] : List γ).map f = [] := (rfl)
theorem z_repl_zero {γ : Type} (a : γ) : List.replicate 0 a = [] := (rfl)
theorem z_repl_succ {γ : Type} (a : γ) (n : Nat) : List.replicate (n + 1) a = a :: List.replicate n a := (rfl)

theorem dops_nil (st : St) : dops env [] st = some st := (rfl)
theorem dops_cons (o : VOp) (l : List VOp) (st : St) : dops env (o :: l) st = (dop env o st).bind (dops env l) := (rfl)
theorem dop_grd {g : Nat} {w : Bool} {o : VOp} (st : St) : dop env (.grd g w o) st = (match st.slots.getD g .any with
    | .pv (.bool b) => bcase (b == w) (op1 (den env) env o st) (match dstOf o with
      | some d => some (st.put d (.tup false []))
      | none => some st)
    | .tup _ l => bcase l.isEmpty (match dstOf o with
      | some d => some (st.put d (.tup false []))
      | none => some st) none
    | _ => none) := by
  unfold dop op
  simp only
  generalize st.slots.getD g .any = v
  cases v with
  | pv p =>
    cases p with
    | bool b => cases b <;> cases w <;> rfl
    | _ => rfl
  | tup k l => cases l <;> rfl
  | _ => rfl
theorem dop_pick {d c x y} (st : St) : dop env (.pick d c x y) st = (match st.pvOf c with
    | some (.bool b) => bcase b ((st.pvOf x).map fun v => st.put d (.pv v)) ((st.pvOf y).map fun v => st.put d (.pv v))
    | _ => none) := by
  show (st.pvOf c).bind _ = _
  cases st.pvOf c with
  | none => rfl
  | some v =>
    cases v <;> try rfl
    rename_i t
    cases t
    · show (st.pvOf y).bind _ = Option.map _ (st.pvOf y)
      cases st.pvOf y <;> rfl
    · show (st.pvOf x).bind _ = Option.map _ (st.pvOf x)
      cases st.pvOf x <;> rfl
def afterCall (d : Nat) (args : List Opd) (caps : List AV) (st : St) (fl : Bool) (rs : List Res) : Option St :=
  some ((bcase (fl && !(rs.all (·.1.scalar))) (caps.foldl (fun s v => s.freezeArg1 (.c .void) v) (args.foldl St.freezeArg st)) st).layAll d rs)
theorem afterCall_false (d : Nat) (args : List Opd) (caps : List AV) (st : St) (rs : List Res) : afterCall d args caps st false rs = some (st.layAll d rs) := by
  simp only [afterCall, Bool.false_and, bcase_false]
theorem afterCall_true (d : Nat) (args : List Opd) (caps : List AV) (st : St) (r : Res) (rs : List Res) : afterCall d args caps st true (r :: rs) = bcase ((r :: rs).all (·.1.scalar)) (some (st.layAll d (r :: rs))) (some ((caps.foldl (fun s v => s.freezeArg1 (.c .void) v) (args.foldl St.freezeArg st)).layAll d (r :: rs))) := by
  unfold afterCall
  rw [Bool.true_and]
  cases h : (r :: rs).all (·.1.scalar) <;> rfl
noncomputable def dcall (env : Env) (d f : Nat) (args : List Opd) (caps : List AV) (st : St) : Option St :=
  (args.mapM fun x => st.snapFn (st.get x)).bind fun l => (caps.mapM st.snap).bind fun k => (cal env f (l.map (·.1) ++ k.map (·.1))).bind (afterCall d args caps st (l.any (·.2) || k.any (·.2)))
noncomputable def dcallP (env : Env) (d f : Nat) (args : List Opd) (caps : List PV) (st : St) : Option St :=
  (args.mapM fun x => st.snapFn (st.get x)).bind fun l => (cal env f (l.map (·.1) ++ caps)).bind (afterCall d args [] st (l.any (·.2)))
theorem snaps_pv (st : St) : ∀ caps : List PV, (caps.map AV.pv).mapM st.snap = some (caps.map fun v => (v, false))
  | [] => rfl
  | c :: l => by
    rw [List.map_cons, List.mapM_cons, snaps_pv st l]
    rfl
theorem freeze_pv (st : St) : ∀ caps : List PV, (caps.map AV.pv).foldl (fun s v => s.freezeArg1 (.c .void) v) st = st
  | [] => rfl
  | c :: l => freeze_pv st l
theorem dcall_eq (d f : Nat) (args : List Opd) (caps : List AV) (st : St) : callOn (den env) env d f args caps st = dcall env d f args caps st := by
  unfold callOn dcall
  show Option.bind _ _ = Option.bind _ _
  congr 1; funext l
  show Option.bind _ _ = Option.bind _ _
  congr 1; funext k
  show Option.bind _ _ = Option.bind _ _
  congr 1; funext rs
  show some _ = some _
  congr 2
  cases h : (l.any (·.2) || k.any (·.2)) && !(rs.all (·.1.scalar)) <;> rfl
theorem dcallP_eq (d f : Nat) (args : List Opd) (caps : List PV) (st : St) : dcall env d f args (caps.map .pv) st = dcallP env d f args caps st := by
  unfold dcallP dcall
  congr 1; funext l
  rw [snaps_pv, Option.bind_some, List.map_map, List.any_map]
  have h1 : (Prod.fst ∘ fun v : PV => (v, false)) = id := rfl
  have h2 : caps.any (Prod.snd ∘ fun v : PV => (v, false)) = false := by
    induction caps with
    | nil => rfl
    | cons c cs ih => simp [List.any_cons, ih]
  rw [h1, List.map_id, h2, Bool.or_false]
  congr 1; funext rs
  unfold afterCall
  rw [freeze_pv]
  rfl
theorem dop_call {d f args} (st : St) : dop env (.call d f args) st = dcallP env d f args [] st := (dcall_eq ..).trans (dcallP_eq (caps := []) ..)
theorem op1_call {d f args} (st : St) : op1 (den env) env (.call d f args) st = dcallP env d f args [] st := (dcall_eq ..).trans (dcallP_eq (caps := []) ..)
noncomputable def dlin (env : Env) (d f : Nat) (x : Opd) (args : List Opd) (caps : List AV) (st : St) : Option St :=
  (args.mapM fun x => st.snapFn (st.get x)).bind fun l => (caps.mapM st.snap).bind fun k => (bcase (l.any (·.2) || k.any (·.2)) none (takeLin st x)).bind fun q => (calL env f q.1 (l.map (·.1) ++ k.map (·.1))).bind fun r => (backLin q.2.2 q.2.1 r.2).bind fun st2 => some (st2.layAll d r.1)
noncomputable def dlinP (env : Env) (d f : Nat) (x : Opd) (args : List Opd) (caps : List PV) (st : St) : Option St :=
  (args.mapM fun x => st.snapFn (st.get x)).bind fun l => (bcase (l.any (·.2)) none (takeLin st x)).bind fun q => (calL env f q.1 (l.map (·.1) ++ caps)).bind fun r => (backLin q.2.2 q.2.1 r.2).bind fun st2 => some (st2.layAll d r.1)
theorem dlin_eq (d f : Nat) (x : Opd) (args : List Opd) (caps : List AV) (st : St) : callOnL (den env) env d f x args caps st = dlin env d f x args caps st := by
  unfold callOnL dlin
  congr 1; funext l
  congr 1; funext k
  congr 1
  cases h : (l.any (·.2) || k.any (·.2)) <;> rfl
theorem dlinP_eq (d f : Nat) (x : Opd) (args : List Opd) (caps : List PV) (st : St) : dlin env d f x args (caps.map .pv) st = dlinP env d f x args caps st := by
  unfold dlinP dlin
  congr 1; funext l
  rw [snaps_pv, Option.bind_some, List.map_map, List.any_map]
  have h1 : (Prod.fst ∘ fun v : PV => (v, false)) = id := rfl
  have h2 : caps.any (Prod.snd ∘ fun v : PV => (v, false)) = false := by
    induction caps with
    | nil => rfl
    | cons c cs ih => simp [List.any_cons, ih]
  rw [h1, List.map_id, h2, Bool.or_false]
theorem dop_lin {d f x args} (st : St) : dop env (.lin d f x args) st = dlinP env d f x args [] st := (dlin_eq ..).trans (dlinP_eq (caps := []) ..)
theorem op1_lin {d f x args} (st : St) : op1 (den env) env (.lin d f x args) st = dlinP env d f x args [] st := (dlin_eq ..).trans (dlinP_eq (caps := []) ..)
theorem dop_linv {d g x args} (st : St) : dop env (.linv d g x args) st = (match st.get g with
    | .pv (.func f caps) => dlinP env d f x args caps st
    | .fn f caps => dlin env d f x args caps st
    | _ => none) := by
  show (match st.get g with
    | .pv (.func f caps) => callOnL (den env) env d f x args (caps.map .pv) st
    | .fn f caps => callOnL (den env) env d f x args caps st
    | _ => none) = _
  split <;> simp only [dlin_eq, dlinP_eq]
theorem op1_linv {d g x args} (st : St) : op1 (den env) env (.linv d g x args) st = dop env (.linv d g x args) st := (rfl)
theorem dop_callv {d x args} (st : St) : dop env (.callv d x args) st = (match st.get x with
    | .pv (.func f caps) => dcallP env d f args caps st
    | .fn f caps => dcall env d f args caps st
    | _ => none) := by
  show (match st.get x with
    | .pv (.func f caps) => callOn (den env) env d f args (caps.map .pv) st
    | .fn f caps => callOn (den env) env d f args caps st
    | _ => none) = _
  split <;> simp only [dcall_eq, dcallP_eq]
theorem op1_callv {d x args} (st : St) : op1 (den env) env (.callv d x args) st = dop env (.callv d x args) st := (rfl)
theorem op1_pick {d c x y} (st : St) : op1 (den env) env (.pick d c x y) st = dop env (.pick d c x y) st := (rfl)
theorem dop_mov {d x} (st : St) : dop env (.mov d x) st = plain (.mov d x) st := (rfl)
theorem dop_asg {d x} (st : St) : dop env (.asg d x) st = plain (.asg d x) st := (rfl)
theorem dop_bin {d o x y} (st : St) : dop env (.bin d o x y) st = plain (.bin d o x y) st := (rfl)
theorem dop_eqa {d neg n x y} (st : St) : dop env (.eqa d neg n x y) st = plain (.eqa d neg n x y) st := (rfl)
theorem dop_eqb {d neg x y} (st : St) : dop env (.eqb d neg x y) st = plain (.eqb d neg x y) st := (rfl)
theorem dop_isn {d neg x} (st : St) : dop env (.isn d neg x) st = plain (.isn d neg x) st := (rfl)
theorem dop_cut {d sz x} (st : St) : dop env (.cut d sz x) st = plain (.cut d sz x) st := (rfl)
theorem dop_asl {d n x} (st : St) : dop env (.asl d n x) st = plain (.asl d n x) st := (rfl)
theorem dop_asz {d n sz x} (st : St) : dop env (.asz d n sz x) st = plain (.asz d n sz x) st := (rfl)
theorem dop_bldo {d z l q m} (st : St) : dop env (.bldo d z l q m) st = plain (.bldo d z l q m) st := (rfl)
theorem op1_bldo {d z l q m} (st : St) : op1 (den env) env (.bldo d z l q m) st = plain (.bldo d z l q m) st := (rfl)
theorem dop_stw {n p x} (st : St) : dop env (.stw n p x) st = act (den env) env (.stw n p x) st := (rfl)
theorem op1_stw {n p x} (st : St) : op1 (den env) env (.stw n p x) st = act (den env) env (.stw n p x) st := (rfl)
theorem dop_srt {d f x g} (st : St) : dop env (.srt d f x g) st = act (den env) env (.srt d f x g) st := (rfl)
theorem op1_srt {d f x g} (st : St) : op1 (den env) env (.srt d f x g) st = act (den env) env (.srt d f x g) st := (rfl)
theorem dop_mvz {d x} (st : St) : dop env (.mvz d x) st = plain (.mvz d x) st := (rfl)
theorem op1_mvz {d x} (st : St) : op1 (den env) env (.mvz d x) st = plain (.mvz d x) st := (rfl)
theorem dop_ldz {d n x} (st : St) : dop env (.ldz d n x) st = plain (.ldz d n x) st := (rfl)
theorem op1_asl {d n x} (st : St) : op1 (den env) env (.asl d n x) st = plain (.asl d n x) st := (rfl)
theorem op1_asz {d n sz x} (st : St) : op1 (den env) env (.asz d n sz x) st = plain (.asz d n sz x) st := (rfl)
theorem op1_ldz {d n x} (st : St) : op1 (den env) env (.ldz d n x) st = plain (.ldz d n x) st := (rfl)
theorem op1_isn {d neg x} (st : St) : op1 (den env) env (.isn d neg x) st = plain (.isn d neg x) st := (rfl)
theorem op1_cut {d sz x} (st : St) : op1 (den env) env (.cut d sz x) st = plain (.cut d sz x) st := (rfl)
theorem dop_un {d o x} (st : St) : dop env (.un d o x) st = plain (.un d o x) st := (rfl)
theorem dop_conv {d k x} (st : St) : dop env (.conv d k x) st = plain (.conv d k x) st := (rfl)
theorem dop_load {d n p} (st : St) : dop env (.load d n p) st = plain (.load d n p) st := (rfl)
theorem dop_fadr {d p off} (st : St) : dop env (.fadr d p off) st = plain (.fadr d p off) st := (rfl)
theorem dop_aadr {d p i len sz} (st : St) : dop env (.aadr d p i len sz) st = plain (.aadr d p i len sz) st := (rfl)
theorem dop_iadr {d sz x i} (st : St) : dop env (.iadr d sz x i) st = plain (.iadr d sz x i) st := (rfl)
theorem dop_fld {d x off n} (st : St) : dop env (.fld d x off n) st = plain (.fld d x off n) st := (rfl)
theorem dop_idx {d x i len sz n} (st : St) : dop env (.idx d x i len sz n) st = plain (.idx d x i len sz n) st := (rfl)
theorem dop_sli {d sz x lo hi} (st : St) : dop env (.sli d sz x lo hi) st = plain (.sli d sz x lo hi) st := (rfl)
theorem dop_len {d x} (st : St) : dop env (.len d x) st = plain (.len d x) st := (rfl)
theorem dop_lens {d x} (st : St) : dop env (.lens d x) st = plain (.lens d x) st := (rfl)
theorem dop_ext {d x i} (st : St) : dop env (.ext d x i) st = plain (.ext d x i) st := (rfl)
theorem dop_build {d z parts} (st : St) : dop env (.build d z parts) st = plain (.build d z parts) st := (rfl)
theorem dop_mn {d mx x y} (st : St) : dop env (.mn d mx x y) st = plain (.mn d mx x y) st := (rfl)
theorem dop_mkf {d f caps} (st : St) : dop env (.mkf d f caps) st = plain (.mkf d f caps) st := (rfl)
theorem dop_alloc {d z} (st : St) : dop env (.alloc d z) st = act (den env) env (.alloc d z) st := (rfl)
theorem dop_box {d x} (st : St) : dop env (.box d x) st = act (den env) env (.box d x) st := (rfl)
theorem dop_store {d n p x} (st : St) : dop env (.store d n p x) st = act (den env) env (.store d n p x) st := (rfl)
theorem dop_mksl {d sz parts} (st : St) : dop env (.mksl d sz parts) st = act (den env) env (.mksl d sz parts) st := (rfl)
theorem dop_make {d z n c} (st : St) : dop env (.make d z n c) st = act (den env) env (.make d z n c) st := (rfl)
theorem dop_app {d sz x y} (st : St) : dop env (.app d sz x y) st = act (den env) env (.app d sz x y) st := (rfl)
theorem dop_cpy {d sz x y} (st : St) : dop env (.cpy d sz x y) st = act (den env) env (.cpy d sz x y) st := (rfl)
theorem dop_yield {d x args} (st : St) : dop env (.yield d x args) st = act (den env) env (.yield d x args) st := (rfl)
theorem op1_mov {d x} (st : St) : op1 (den env) env (.mov d x) st = plain (.mov d x) st := (rfl)
theorem op1_asg {d x} (st : St) : op1 (den env) env (.asg d x) st = plain (.asg d x) st := (rfl)
theorem op1_bin {d o x y} (st : St) : op1 (den env) env (.bin d o x y) st = plain (.bin d o x y) st := (rfl)
theorem op1_eqa {d neg n x y} (st : St) : op1 (den env) env (.eqa d neg n x y) st = plain (.eqa d neg n x y) st := (rfl)
theorem op1_eqb {d neg x y} (st : St) : op1 (den env) env (.eqb d neg x y) st = plain (.eqb d neg x y) st := (rfl)
theorem op1_un {d o x} (st : St) : op1 (den env) env (.un d o x) st = plain (.un d o x) st := (rfl)
theorem op1_conv {d k x} (st : St) : op1 (den env) env (.conv d k x) st = plain (.conv d k x) st := (rfl)
theorem op1_load {d n p} (st : St) : op1 (den env) env (.load d n p) st = plain (.load d n p) st := (rfl)
theorem op1_fadr {d p off} (st : St) : op1 (den env) env (.fadr d p off) st = plain (.fadr d p off) st := (rfl)
theorem op1_aadr {d p i len sz} (st : St) : op1 (den env) env (.aadr d p i len sz) st = plain (.aadr d p i len sz) st := (rfl)
theorem op1_iadr {d sz x i} (st : St) : op1 (den env) env (.iadr d sz x i) st = plain (.iadr d sz x i) st := (rfl)
theorem op1_fld {d x off n} (st : St) : op1 (den env) env (.fld d x off n) st = plain (.fld d x off n) st := (rfl)
theorem op1_idx {d x i len sz n} (st : St) : op1 (den env) env (.idx d x i len sz n) st = plain (.idx d x i len sz n) st := (rfl)
theorem op1_sli {d sz x lo hi} (st : St) : op1 (den env) env (.sli d sz x lo hi) st = plain (.sli d sz x lo hi) st := (rfl)
theorem op1_len {d x} (st : St) : op1 (den env) env (.len d x) st = plain (.len d x) st := (rfl)
theorem op1_lens {d x} (st : St) : op1 (den env) env (.lens d x) st = plain (.lens d x) st := (rfl)
theorem op1_ext {d x i} (st : St) : op1 (den env) env (.ext d x i) st = plain (.ext d x i) st := (rfl)
theorem op1_build {d z parts} (st : St) : op1 (den env) env (.build d z parts) st = plain (.build d z parts) st := (rfl)
theorem op1_mn {d mx x y} (st : St) : op1 (den env) env (.mn d mx x y) st = plain (.mn d mx x y) st := (rfl)
theorem op1_mkf {d f caps} (st : St) : op1 (den env) env (.mkf d f caps) st = plain (.mkf d f caps) st := (rfl)
theorem op1_alloc {d z} (st : St) : op1 (den env) env (.alloc d z) st = act (den env) env (.alloc d z) st := (rfl)
theorem op1_box {d x} (st : St) : op1 (den env) env (.box d x) st = act (den env) env (.box d x) st := (rfl)
theorem op1_store {d n p x} (st : St) : op1 (den env) env (.store d n p x) st = act (den env) env (.store d n p x) st := (rfl)
theorem op1_mksl {d sz parts} (st : St) : op1 (den env) env (.mksl d sz parts) st = act (den env) env (.mksl d sz parts) st := (rfl)
theorem op1_make {d z n c} (st : St) : op1 (den env) env (.make d z n c) st = act (den env) env (.make d z n c) st := (rfl)
theorem op1_app {d sz x y} (st : St) : op1 (den env) env (.app d sz x y) st = act (den env) env (.app d sz x y) st := (rfl)
theorem op1_cpy {d sz x y} (st : St) : op1 (den env) env (.cpy d sz x y) st = act (den env) env (.cpy d sz x y) st := (rfl)
theorem op1_yield {d x args} (st : St) : op1 (den env) env (.yield d x args) st = act (den env) env (.yield d x args) st := (rfl)
theorem killS_pv (d : Nat) (v : PV) : AV.kill d (.pv v) = .pv v := (rfl)
theorem killS_any (d : Nat) : AV.kill d .any = .any := (rfl)
theorem killS_row (d sz : Nat) (es : List PV) : AV.kill d (.row sz es) = .row sz es := (rfl)
theorem killS_pbox (d o j : Nat) : AV.kill d (.pbox o j) = .pbox o j := (rfl)
theorem killS_fn (d f : Nat) (l : List AV) : AV.kill d (.fn f l) = .fn f l := (rfl)
theorem killS_tup (d : Nat) (k : Bool) (l : List AV) : AV.kill d (.tup k l) = .tup k l := (rfl)
theorem killS_yld (d : Nat) : AV.kill d .yld = .yld := (rfl)
theorem killS_refs (d t off len : Nat) : AV.kill d (.ref (.slot t) off len) = bcase (decide (t = d)) .any (.ref (.slot t) off len) := by
  by_cases h : t = d <;> simp [AV.kill, AV.roots, h, bcase]
theorem killS_refc (d o j off len : Nat) : AV.kill d (.ref (.cell o j) off len) = .ref (.cell o j) off len := (rfl)
theorem killS_pels (d t i j : Nat) : AV.kill d (.pel (.slot t) i j) = bcase (decide (t = d)) .any (.pel (.slot t) i j) := by
  by_cases h : t = d <;> simp [AV.kill, AV.roots, h, bcase]
theorem killS_pelc (d o q i j : Nat) : AV.kill d (.pel (.cell o q) i j) = .pel (.cell o q) i j := (rfl)
theorem killc_pv (d : Nat) (v : PV) : AV.killCell d (.pv v) = .pv v := (rfl)
theorem killc_any (d : Nat) : AV.killCell d .any = .any := (rfl)
theorem killc_row (d sz : Nat) (es : List PV) : AV.killCell d (.row sz es) = .row sz es := (rfl)
theorem killc_pbox (d o j : Nat) : AV.killCell d (.pbox o j) = .pbox o j := (rfl)
theorem killc_fn (d f : Nat) (l : List AV) : AV.killCell d (.fn f l) = .fn f l := (rfl)
theorem killc_tup (d : Nat) (k : Bool) (l : List AV) : AV.killCell d (.tup k l) = .tup k l := (rfl)
theorem killc_yld (d : Nat) : AV.killCell d .yld = .yld := (rfl)
theorem killc_refc (d t j off len : Nat) : AV.killCell d (.ref (.cell t j) off len) = bcase (decide (t = d)) .any (.ref (.cell t j) off len) := by
  by_cases h : t = d <;> simp [AV.killCell, AV.rootsCell, h, bcase]
theorem killc_refs (d t off len : Nat) : AV.killCell d (.ref (.slot t) off len) = .ref (.slot t) off len := (rfl)
theorem killc_pelc (d t q i j : Nat) : AV.killCell d (.pel (.cell t q) i j) = bcase (decide (t = d)) .any (.pel (.cell t q) i j) := by
  by_cases h : t = d <;> simp [AV.killCell, AV.rootsCell, h, bcase]
theorem killc_pels (d t i j : Nat) : AV.killCell d (.pel (.slot t) i j) = .pel (.slot t) i j := (rfl)
theorem take_map_all {γ δ : Type} (f : γ → δ) (l : List γ) : (l.map f).take l.length = l.map f := List.take_of_length_le (by simp)
theorem scal_int (k : IntKind) (n : Int) : (PV.int k n).scalar = true := (rfl)
theorem scal_bool (b : Bool) : (PV.bool b).scalar = true := (rfl)
theorem scal_str (b : ByteArray) : (PV.str b).scalar = true := (rfl)
theorem scal_list (sz : Nat) (es : List PV) : (PV.list sz es).scalar = false := (rfl)
theorem scal_func (f : Nat) (es : List PV) : (PV.func f es).scalar = false := (rfl)
theorem cells_int (k : IntKind) (n : Int) : (PV.int k n).cells = [.int k n] := (rfl)
theorem cells_bool (b : Bool) : (PV.bool b).cells = [.bool b] := (rfl)
theorem cells_str (b : ByteArray) : (PV.str b).cells = [.str b] := (rfl)
theorem cells_list (sz : Nat) (es : List PV) : (PV.list sz es).cells = [.list sz es] := (rfl)
theorem cells_func (f : Nat) (es : List PV) : (PV.func f es).cells = [.func f es] := (rfl)
theorem cells_agg (cs : List PV) : (PV.agg cs).cells = cs := (rfl)
theorem part_one (c : PV) (cs : List PV) : part (c :: cs) 0 none = some c := (rfl)
theorem part_succ (c : PV) (cs : List PV) (n : Nat) (m : Option Nat) : part (c :: cs) (n + 1) m = part cs n m := by
  cases m with
  | none => rfl
  | some m =>
    simp only [part, List.length_cons, List.drop_succ_cons]
    by_cases h : n + m ≤ cs.length
    · rw [if_pos h, if_pos (by omega)]
    · rw [if_neg h, if_neg (by omega)]
theorem part_more (c : PV) (cs : List PV) (m : Nat) : part (c :: cs) 0 (some m) = if m ≤ (c :: cs).length then some (.agg ((c :: cs).take m)) else none := by
  simp only [part, Nat.zero_add, List.drop_zero]
theorem i64_fits {n : Int} (h : -9223372036854775808 ≤ n ∧ n ≤ 9223372036854775807) : IntKind.i64.wrap n = n := Go.IntWalk.i64_in n h
theorem i64_next {i n : Nat} (h : i < n) (hn : n ≤ lim) : IntKind.i64.wrap ((i : Int) + 1) = ((i + 1 : Nat) : Int) := by
  unfold lim at hn
  rw [Go.IntWalk.i64_in _ (by omega)]
  omega
theorem index_nat {k : IntKind} {i n : Nat} (h : i < n) : index (.int k (i : Int)) n = some i := by
  simp only [index]
  rw [if_pos (by omega)]
  simp
end
end Go.Proofs.YtaaokejjmdbfaaaDoor

namespace Go.Proofs.YtaaokejjmdbfaaaDoor
open V
def secP (a : Int) : PV := .agg [.int .u8 a, .int .u8 0, .int .u8 0, .int .u8 0, .int .u8 0, .int .u8 0, .int .u8 0, .int .u8 0]
def ptP (a b c d m : Int) : PV := .agg [.int .i64 0, .list 3 [], .list 2 [.agg [.int .i64 4, .list 1 [.int .u64 m]]], .list 1 [.list 8 [secP a, secP b, secP c, secP d]]]
def pointX : List PV → Option (List Res)
  | [.agg [.int .u8 a, .int .u8 b, .int .u8 c, .int .u8 d], .list 1 [.int .i64 m, .int .i64 n]] =>
    if a = 1 ∧ b = 5 ∧ c = 0 ∧ d = 0 ∧ m = 0 ∧ n = 1 then some [(ptP 1 5 0 0 3, false)]
    else if a = 0 ∧ b = 5 ∧ c = 6 ∧ d = 0 ∧ m = 1 ∧ n = 2 then some [(ptP 0 5 6 0 6, false)] else none
  | _ => none
end Go.Proofs.YtaaokejjmdbfaaaDoor

namespace Go.Proofs
open Go.Shelf
def Tryd.tz_ren : Go.Shelf.Ren := ⟨fun | 29 => 111 | n => n, fun | 22 => 133 | 3 => 3 | 4 => 4 | 25 => 160 | 54 => 167 | 0 => 0 | 5 => 5 | n => n, fun | 1 => 0 | n => n⟩
theorem Tryd.tz : Go.Proofs.Lays7.n29 Tryd.prog Tryd.tz_ren := {
  mixed := by kernel_rfl
  f29 := Tryd.func111.trans (congrArg some (by kernel_rfl))
  t0 := Tryd.underlying0
  a0 := Tryd.isAgg0
  z0 := Tryd.sizeOf0
  v0 := Tryd.zeroValue0
  i0 := by kernel_rfl
  t3 := Tryd.underlying3
  a3 := Tryd.isAgg3
  z3 := Tryd.sizeOf3
  v3 := Tryd.zeroValue3
  i3 := by kernel_rfl
  t4 := Tryd.underlying4
  a4 := Tryd.isAgg4
  z4 := Tryd.sizeOf4
  v4 := Tryd.zeroValue4
  i4 := by kernel_rfl
  t5 := Tryd.underlying5
  a5 := Tryd.isAgg5
  z5 := Tryd.sizeOf5
  v5 := Tryd.zeroValue5
  i5 := by kernel_rfl
  t22 := Tryd.underlying133
  a22 := Tryd.isAgg133
  z22 := Tryd.sizeOf133
  v22 := Tryd.zeroValue133
  i22 := by kernel_rfl
  t25 := Tryd.underlying160
  a25 := Tryd.isAgg160
  z25 := Tryd.sizeOf160
  v25 := Tryd.zeroValue160
  i25 := by kernel_rfl
  t54 := Tryd.underlying167
  a54 := Tryd.isAgg167
  z54 := Tryd.sizeOf167
  g1 := by kernel_rfl }
end Go.Proofs

namespace Go.Proofs.YtaaokejjmdbfaaaDoor
open Go.RowKit Go.Shelf
def tzX : List PV → Option (List Res)
  | [.int .u64 n] => if 0 ≤ n ∧ n < 18446744073709551616 then some [(.int .i64 (Lib.ctz 64 n.toNat : Nat), false)] else none
  | _ => none
theorem tab_at {T : Tags} {w : World} (h : GlobOk T w) : TabAt 0 Lib.deBruijn64tab w := fun j hj => by
  have hp := h _ (List.mem_singleton.2 rfl)
  obtain ⟨b, off, e1, _, _, h3⟩ := hp.iptr_inv
  obtain ⟨eb, eo⟩ : 0 = b ∧ 0 = off + 0 := by
    injection e1 with e1
    injection e1 with e1
    injection e1 with e2 e3
    exact ⟨e2, e3⟩
  have eo : off = 0 := by omega
  subst eb; subst eo
  obtain ⟨u, c1, _, c2⟩ := h3 j (PV.int .u8 ((Lib.deBruijn64tab[j] : Nat) : Int)) (by simp [List.getElem?_eq_getElem hj])
  rw [c2.int_inv] at c1
  rw [show Lib.deBruijn64tab.getD j 0 = Lib.deBruijn64tab[j] by simp [List.getD_eq_getElem?_getD, List.getElem?_eq_getElem hj]]
  simpa using c1
theorem tz_ok : ∀ args rs, tzX args = some rs → callable Tryd.prog 111 = true ∧ CallOk Tryd.prog 111 args rs := fun args rs h => by
  unfold tzX at h
  split at h
  case h_2 => cases h
  rename_i n
  split at h
  case isFalse => cases h
  rename_i hn
  cases h
  refine ⟨by kernel_rfl, fun T0 w vs h1 h2 h3 h4 hG => ?_⟩
  match vs, h3 with
  | [v], _ =>
    have hv := (h4 0 _ v rfl rfl).int_inv
    subst hv
    have hc := Any7.bits_TrailingZeros64 Tryd.tz n.toNat (by omega) w (fun _ => tab_at hG)
    rw [Int.toNat_of_nonneg hn.1] at hc
    refine Calls.mono hc ?_
    rintro e w' ⟨rfl, rfl⟩
    refine ⟨_, T0, rfl, Below.refl _ _, fun _ _ => rfl, h2, #[_], rfl, rfl, fun i r u hr hu => ?_⟩
    match i with
    | 0 => cases hr; cases hu; exact .int _ _
    | i + 1 => simp at hr
end Go.Proofs.YtaaokejjmdbfaaaDoor

namespace Go.Proofs.YtaaokejjmdbfaaaDoor

def fn3 : VFn := ⟨1, 47, [.tmp 2], (.seq (.ops [.box 1 (.t 0), .asg 2 (.c (.bool false))]) (.seq (.seq (.ops [.asz 7 2 4 (.t 1), .call 8 11 [(.t 7)], .un 9 .not (.t 8)]) (.cond (.t 9) (.seq (.ops [.call 10 12 [], .asg 2 (.t 10)]) .ret) .skip)) (.seq (.ops [.aadr 12 (.t 1) (.c (.int .i64 0)) 2 4, .load 13 (some 4) (.t 12), .aadr 14 (.t 1) (.c (.int .i64 1)) 2 4, .load 15 (some 4) (.t 14), .call 16 13 [(.t 13), (.t 15)], .mov 11 (.t 16), .ext 17 (.t 11) 0, .ext 18 (.t 11) 1, .asg 3 (.t 17), .asg 4 (.t 18)]) (.seq (.ops [.aadr 20 (.t 1) (.c (.int .i64 0)) 2 4, .load 21 (some 4) (.t 20), .aadr 22 (.t 1) (.c (.int .i64 1)) 2 4, .load 23 (some 4) (.t 22), .call 24 14 [(.t 21), (.t 23)], .mov 19 (.t 24), .ext 25 (.t 19) 0, .ext 26 (.t 19) 1, .asg 5 (.t 25), .asg 6 (.t 26)]) (.seq (.drw [] [([0, 1, 3, 4], 2), ([], 5), ([6, 7, 8, 9], 10), ([11, 12, 13, 14, 15, 16, 17], 18)] none [19, 20] [.aadr 27 (.t 1) (.c (.int .i64 0)) 2 4, .load 28 (some 4) (.t 27), .aadr 30 (.t 1) (.c (.int .i64 0)) 2 4, .load 31 (some 4) (.t 30), .call 29 15 [(.t 28)], .call 32 16 [(.t 31)], .bin 33 .eql (.t 29) (.t 32), .mov 34 (.t 33), .grd 34 true (.mov 35 (.t 3)), .grd 34 true (.mov 36 (.t 5)), .grd 34 true (.call 37 17 [(.t 35), (.t 36)]), .pick 38 (.t 34) (.t 37) (.c (.bool false)), .mov 39 (.t 38), .grd 39 true (.mov 40 (.t 4)), .grd 39 true (.mov 41 (.t 6)), .grd 39 true (.bin 42 .eql (.t 40) (.t 41)), .pick 43 (.t 39) (.t 42) (.c (.bool false)), .mov 44 (.t 43), .grd 44 true (.call 45 12 []), .pick 46 (.t 44) (.t 45) (.c (.bool false)), .asg 2 (.t 46)]) .ret)))))⟩
def fn11_b0 : VCode := (.seq (.seq (.ops [.mov 5 (.t 3), .mov 6 (.t 0), .len 7 (.t 6), .bin 8 .lss (.t 5) (.t 7), .mov 9 (.t 8), .grd 9 true (.mov 10 (.t 3)), .grd 9 true (.bin 11 .lss (.t 10) (.c (.int .i64 8))), .pick 12 (.t 9) (.t 11) (.c (.bool false))]) (.cond (.t 12) .skip (.exit 0))) (.seq (.block 1 (.seq (.ops [.mov 15 (.t 0), .mov 16 (.t 3), .iadr 17 4 (.t 15) (.t 16), .load 18 (some 4) (.t 17), .alloc 4 [(.int .i64 0), (.list 0 []), (.list 0 []), (.list 0 [])], .store none 4 (.t 4) (.t 18)]) (.seq (.ops [.fadr 19 (.t 4) 1, .load 20 none (.t 19), .len 21 (.t 20), .bin 22 .gtr (.t 21) (.c (.int .i64 20)), .mov 23 (.t 22), .grd 23 false (.fadr 24 (.t 4) 3), .grd 23 false (.load 25 none (.t 24)), .grd 23 false (.call 26 41 [(.t 25)]), .grd 23 false (.un 27 .not (.t 26)), .pick 28 (.t 23) (.c (.bool true)) (.t 27), .mov 29 (.t 28), .grd 29 false (.fadr 30 (.t 4) 2), .grd 29 false (.load 31 none (.t 30)), .grd 29 false (.len 32 (.t 31)), .grd 29 false (.bin 33 .gtr (.t 32) (.c (.int .i64 9))), .pick 34 (.t 29) (.c (.bool true)) (.t 33)]) (.cond (.t 34) (.seq (.ops [.asg 2 (.c (.bool false))]) .ret) .skip)))) (.ops [.mov 13 (.t 3), .bin 14 .add (.t 13) (.c (.int .i64 1)), .asg 3 (.t 14)])))
def fn11_l1 : VCode :=
(.clean [0, 3] [0, 2] (.block 0 (.loop [0, 3] fn11_b0)))
def fn11 : VFn := ⟨1, 38, [.tmp 2], (.seq (.ops [.asg 2 (.c (.bool false))]) (.seq (.seq (.ops [.asg 3 (.c (.int .i64 0))])
    fn11_l1) (.seq (.ops [.mov 35 (.t 0), .len 36 (.t 35), .bin 37 .leq (.t 36) (.c (.int .i64 6)), .asg 2 (.t 37)]) .ret)))⟩
def fn12 : VFn := ⟨0, 123, [.tmp 0], (.seq (.ops [.asg 0 (.c (.bool false))]) (.seq (.ops [.build 14 [(.int .u8 0), (.int .u8 0), (.int .u8 0), (.int .u8 0)] [(0, 1, (.c (.int .u8 1))), (1, 1, (.c (.int .u8 5))), (2, 1, (.c (.int .u8 0))), (3, 1, (.c (.int .u8 0)))], .mksl 15 1 [(.c (.int .i64 0)), (.c (.int .i64 1))], .call 16 42 [(.t 14), (.t 15)], .build 17 [(.int .u8 0), (.int .u8 0), (.int .u8 0), (.int .u8 0)] [(0, 1, (.c (.int .u8 0))), (1, 1, (.c (.int .u8 5))), (2, 1, (.c (.int .u8 6))), (3, 1, (.c (.int .u8 0)))], .mksl 18 1 [(.c (.int .i64 1)), (.c (.int .i64 2))], .call 19 42 [(.t 17), (.t 18)], .alloc 1 [(.int .i64 0), (.list 0 []), (.list 0 []), (.list 0 [])], .alloc 2 [(.int .i64 0), (.list 0 []), (.list 0 []), (.list 0 [])], .store none 4 (.t 1) (.t 16), .store none 4 (.t 2) (.t 19)]) (.seq (.ops [.build 20 [(.int .i64 0), (.int .i64 0), (.int .i64 0)] [(0, 1, (.c (.int .i64 1))), (1, 1, (.c (.int .i64 1))), (2, 1, (.c (.int .i64 5)))], .build 21 [(.int .i64 0), (.int .i64 0), (.int .i64 0)] [(0, 1, (.c (.int .i64 3))), (1, 1, (.c (.int .i64 6))), (2, 1, (.c (.int .i64 9)))], .mksl 22 3 [(.t 20), (.t 21)], .fadr 23 (.t 1) 1, .store none 1 (.t 23) (.t 22)]) (.seq (.ops [.build 24 [(.int .i64 0), (.int .i64 0), (.int .i64 0)] [(0, 1, (.c (.int .i64 1))), (1, 1, (.c (.int .i64 1))), (2, 1, (.c (.int .i64 7)))], .mksl 25 3 [(.t 24)], .fadr 26 (.t 2) 1, .store none 1 (.t 26) (.t 25)]) (.seq (.ops [.fadr 28 (.t 1) 1, .load 29 none (.t 28), .fadr 30 (.t 2) 1, .load 31 none (.t 30), .call 32 18 [(.t 29), (.t 31)], .mov 27 (.t 32), .ext 33 (.t 27) 0, .ext 34 (.t 27) 1, .asg 3 (.t 33), .asg 4 (.t 34)]) (.seq (.drs [] [1, 2, 3, 4, 5, 6] [.load 36 (some 4) (.t 2), .load 37 (some 4) (.t 1), .mksl 38 4 [(.t 36), (.t 37)], .make 39 (.bool false) (.c (.int .i64 2)) (.c (.int .i64 2)), .call 40 20 [(.t 38), (.t 39)], .mov 35 (.t 40), .ext 41 (.t 35) 0, .ext 42 (.t 35) 1, .asg 5 (.t 41), .asg 6 (.t 42)]
        [⟨[([0, 1], 2), ([], 3), ([], 4)], none, [5, 6, 7, 8, 9], [0, 1, 2, 3, 4, 5, 6, 7, 8, 9], false⟩, ⟨[([0, 1], 3), ([], 2), ([], 4)], none, [5, 6, 7, 8, 9], [0, 1, 3, 2, 4, 5, 6, 7, 8, 9], false⟩]) (.seq (.ops [.load 44 (some 4) (.t 1), .load 45 (some 4) (.t 2), .call 46 13 [(.t 44), (.t 45)], .mov 43 (.t 46), .ext 47 (.t 43) 0, .ext 48 (.t 43) 1, .asg 7 (.t 47), .asg 8 (.t 48)]) (.seq (.ops [.load 50 (some 4) (.t 1), .load 51 (some 4) (.t 2), .mksl 52 4 [(.t 50), (.t 51)], .call 53 22 [(.t 52), (.c (.int .i64 0)), (.c (.int .i64 1))], .mov 49 (.t 53), .ext 54 (.t 49) 0, .ext 55 (.t 49) 1, .asg 9 (.t 54), .asg 10 (.t 55)]) (.seq (.ops [.load 57 (some 4) (.t 1), .load 58 (some 4) (.t 2), .mksl 59 4 [(.t 57), (.t 58)], .call 60 24 [(.t 59), (.c (.int .i64 1))], .mov 56 (.t 60), .ext 61 (.t 56) 0, .ext 62 (.t 56) 1, .ext 63 (.t 56) 2, .asg 11 (.t 61), .asg 12 (.t 62), .asg 13 (.t 63)]) (.seq (.seq (.ops [.mov 64 (.t 3), .bin 65 .neq (.t 64) (.c (.int .i64 5)), .mov 66 (.t 65), .grd 66 false (.mov 67 (.t 4)), .grd 66 false (.bin 68 .neq (.t 67) (.c (.int .i64 1))), .pick 69 (.t 66) (.c (.bool true)) (.t 68), .mov 70 (.t 69), .grd 70 false (.mov 71 (.t 6)), .grd 70 false (.bin 72 .neq (.t 71) (.c (.int .i64 0))), .pick 73 (.t 70) (.c (.bool true)) (.t 72), .mov 74 (.t 73), .grd 74 false (.mov 75 (.t 5)), .grd 74 false (.bin 76 .neq (.t 75) (.c (.int .i64 1))), .pick 77 (.t 74) (.c (.bool true)) (.t 76), .mov 78 (.t 77), .grd 78 false (.mov 79 (.t 8)), .grd 78 false (.bin 80 .neq (.t 79) (.c (.int .i64 0))), .pick 81 (.t 78) (.c (.bool true)) (.t 80), .mov 82 (.t 81), .grd 82 false (.mov 83 (.t 7)), .grd 82 false (.len 84 (.t 83)), .grd 82 false (.bin 85 .neq (.t 84) (.c (.int .i64 1))), .pick 86 (.t 82) (.c (.bool true)) (.t 85), .mov 87 (.t 86), .grd 87 false (.mov 88 (.t 7)), .grd 87 false (.iadr 89 1 (.t 88) (.c (.int .i64 0))), .grd 87 false (.load 90 none (.t 89)), .grd 87 false (.build 91 [(.int .i64 0), (.int .i64 0)] [(0, 1, (.c (.int .i64 0))), (1, 1, (.c (.int .i64 3)))]), .grd 87 false (.mksl 92 2 [(.t 91)]), .grd 87 false (.call 93 43 [(.t 90), (.t 92)]), .grd 87 false (.un 94 .not (.t 93)), .pick 95 (.t 87) (.c (.bool true)) (.t 94), .mov 96 (.t 95), .grd 96 false (.mov 97 (.t 13)), .grd 96 false (.bin 98 .neq (.t 97) (.c (.int .i64 0))), .pick 99 (.t 96) (.c (.bool true)) (.t 98), .mov 100 (.t 99), .grd 100 false (.mov 101 (.t 11)), .grd 100 false (.mksl 102 1 [(.c (.int .i64 1)), (.c (.int .i64 (-1)))]), .grd 100 false (.call 103 27 [(.t 101), (.t 102)]), .grd 100 false (.un 104 .not (.t 103)), .pick 105 (.t 100) (.c (.bool true)) (.t 104), .mov 106 (.t 105), .grd 106 false (.mov 107 (.t 12)), .grd 106 false (.bin 108 .neq (.t 107) (.c (.int .i64 3))), .pick 109 (.t 106) (.c (.bool true)) (.t 108)]) (.cond (.t 109) (.seq (.ops [.asg 0 (.c (.bool false))]) .ret) .skip)) (.seq (.ops [.mov 110 (.t 10), .bin 111 .eql (.t 110) (.c (.int .i64 0)), .mov 112 (.t 111), .grd 112 true (.mov 113 (.t 9)), .grd 112 true (.build 114 [(.int .u8 0), (.int .u8 0), (.int .u8 0), (.int .u8 0), (.int .u8 0), (.int .u8 0), (.int .u8 0), (.int .u8 0)] [(0, 1, (.c (.int .u8 1)))]), .grd 112 true (.mksl 115 8 [(.t 114)]), .grd 112 true (.build 116 [(.int .i64 0), (.int .i64 0), (.list 0 [])] [(1, 1, (.c (.int .i64 0))), (2, 1, (.t 115))]), .grd 112 true (.build 117 [(.int .u8 0), (.int .u8 0), (.int .u8 0), (.int .u8 0), (.int .u8 0), (.int .u8 0), (.int .u8 0), (.int .u8 0)] []), .grd 112 true (.mksl 118 8 [(.t 117)]), .grd 112 true (.build 119 [(.int .i64 0), (.int .i64 0), (.list 0 [])] [(1, 1, (.c (.int .i64 2))), (2, 1, (.t 118))]), .grd 112 true (.mksl 120 3 [(.t 116), (.t 119)]), .grd 112 true (.call 121 26 [(.t 113), (.t 120)]), .pick 122 (.t 112) (.t 121) (.c (.bool false)), .asg 0 (.t 122)]) .ret)))))))))))⟩
def fn13_b0 : VCode := (.seq (.ops [.bin 14 .lss (.t 13) (.t 12)]) (.seq (.cond (.t 14) .skip (.exit 0)) (.seq (.block 1 (.seq (.ops [.iadr 15 4 (.t 11) (.t 13), .load 16 (some 4) (.t 15), .alloc 7 [(.int .i64 0), (.list 0 []), (.list 0 []), (.list 0 [])], .store none 4 (.t 7) (.t 16)]) (.seq (.ops [.load 17 (some 4) (.t 7), .call 18 15 [(.t 17)], .asg 8 (.t 18)]) (.seq (.ops [.mov 19 (.t 8), .bin 20 .neq (.t 19) (.c (.int .i64 0))]) (.cond (.t 20) (.seq (.ops [.mov 21 (.t 8), .asg 4 (.nil 1), .asg 5 (.t 21)]) .ret) .skip))))) (.ops [.bin 22 .add (.t 13) (.c (.int .i64 1)), .mov 13 (.t 22)]))))
def fn13_l1 : VCode :=
(.clean [2, 3, 11, 12, 13] [2, 3, 4, 5] (.block 0 (.loop [2, 3, 11, 12, 13] fn13_b0)))
def fn13 : VFn := ⟨2, 32, [.tmp 4, .tmp 5], (.seq (.ops [.box 2 (.t 0), .box 3 (.t 1), .asg 4 (.nil 1), .asg 5 (.c (.int .i64 0))]) (.seq (.seq (.ops [.load 9 (some 4) (.t 2), .load 10 (some 4) (.t 3), .mksl 11 4 [(.t 9), (.t 10)], .len 12 (.t 11), .mov 13 (.c (.int .i64 0))])
    fn13_l1) (.seq (.seq (.ops [.fadr 23 (.t 2) 3, .load 24 none (.t 23), .fadr 25 (.t 3) 3, .load 26 none (.t 25), .call 27 44 [(.t 24), (.t 26)], .un 28 .not (.t 27)]) (.cond (.t 28) (.seq (.ops [.asg 4 (.nil 1), .asg 5 (.c (.int .i64 22))]) .ret) .skip)) (.seq (.ops [.load 29 (some 4) (.t 2), .load 30 (some 4) (.t 3), .call 31 45 [(.t 29), (.t 30)], .asg 4 (.t 31), .asg 5 (.c (.int .i64 0))]) .ret))))⟩
def fn14 : VFn := ⟨2, 31, [.tmp 4, .tmp 5], (.seq (.ops [.box 2 (.t 0), .box 3 (.t 1), .asg 4 (.nil 1), .asg 5 (.c (.int .i64 0))]) (.seq (.seq (.ops [.load 10 (some 4) (.t 2), .call 11 16 [(.t 10)], .asg 6 (.t 11)]) (.seq (.ops [.mov 12 (.t 6), .bin 13 .neq (.t 12) (.c (.int .i64 0))]) (.cond (.t 13) (.seq (.ops [.mov 14 (.t 6), .asg 4 (.nil 1), .asg 5 (.t 14)]) .ret) .skip))) (.seq (.seq (.ops [.load 15 (some 4) (.t 3), .call 16 16 [(.t 15)], .asg 7 (.t 16)]) (.seq (.ops [.mov 17 (.t 7), .bin 18 .neq (.t 17) (.c (.int .i64 0))]) (.cond (.t 18) (.seq (.ops [.mov 19 (.t 7), .asg 4 (.nil 1), .asg 5 (.t 19)]) .ret) .skip))) (.seq (.seq (.ops [.load 20 (some 4) (.t 2), .load 21 (some 4) (.t 3), .call 22 46 [(.t 20), (.t 21)], .un 23 .not (.t 22)]) (.cond (.t 23) (.seq (.ops [.asg 4 (.nil 1), .asg 5 (.c (.int .i64 22))]) .ret) .skip)) (.seq (.ops [.load 25 (some 4) (.t 2), .load 26 (some 4) (.t 3), .call 27 47 [(.t 25), (.t 26)], .mov 24 (.t 27), .ext 28 (.t 24) 0, .ext 29 (.t 24) 1, .asg 8 (.t 28), .asg 9 (.t 29)]) (.seq (.ops [.mov 30 (.t 8), .asg 4 (.t 30), .asg 5 (.c (.int .i64 0))]) .ret))))))⟩
def fn15_b0 : VCode := (.seq (.ops [.bin 34 .lss (.t 33) (.t 32)]) (.seq (.cond (.t 34) .skip (.exit 1)) (.seq (.block 2 (.seq (.ops [.mov 35 (.t 33), .iadr 36 2 (.t 31) (.t 33), .load 37 (some 2) (.t 36), .alloc 5 [(.int .i64 0), (.list 1 [])], .asg 4 (.t 35), .store none 2 (.t 5) (.t 37)]) (.seq (.seq (.ops [.load 38 (some 2) (.t 5), .call 39 51 [(.t 38)], .asg 6 (.t 39)]) (.seq (.ops [.mov 40 (.t 6), .bin 41 .neq (.t 40) (.c (.int .i64 0))]) (.cond (.t 41) (.seq (.ops [.mov 42 (.t 6), .asg 2 (.t 42)]) .ret) .skip))) (.seq (.drw [] [] none [0, 1, 2, 3, 4, 5, 6, 7, 8] [.fadr 43 (.t 5) 0, .load 44 none (.t 43), .fadr 45 (.t 1) 3, .load 46 none (.t 45), .mov 47 (.t 4), .iadr 48 1 (.t 46) (.t 47), .load 49 none (.t 48), .len 50 (.t 49), .bin 51 .neq (.t 44) (.t 50)]) (.cond (.t 51) (.seq (.ops [.asg 2 (.c (.int .i64 22))]) .ret) .skip))))) (.ops [.bin 52 .add (.t 33) (.c (.int .i64 1)), .mov 33 (.t 52)]))))
def fn15_l1 : VCode :=
(.clean [1, 31, 32, 33] [2] (.block 1 (.loop [1, 31, 32, 33] fn15_b0)))
def fn15 : VFn := ⟨1, 53, [.tmp 2], (.seq (.ops [.box 1 (.t 0), .asg 2 (.c (.int .i64 0))]) (.seq (.block 0 (.seq (.ops [.fadr 8 (.t 1) 0, .load 9 none (.t 8), .call 10 48 [(.t 9), (.c (.int .i64 0))], .un 11 .not (.t 10), .asg 7 (.t 11)]) (.cond (.t 7) (.seq (.ops [.asg 2 (.c (.int .i64 2))]) .ret) (.seq (.ops [.fadr 13 (.t 1) 1, .load 14 none (.t 13), .call 15 49 [(.t 14)], .un 16 .not (.t 15), .asg 12 (.t 16)]) (.cond (.t 12) (.seq (.ops [.asg 2 (.c (.int .i64 3))]) .ret) .skip))))) (.seq (.seq (.ops [.fadr 17 (.t 1) 3, .load 18 none (.t 17), .call 19 50 [(.t 18)], .asg 3 (.t 19)]) (.seq (.ops [.mov 20 (.t 3), .bin 21 .neq (.t 20) (.c (.int .i64 0))]) (.cond (.t 21) (.seq (.ops [.mov 22 (.t 3), .asg 2 (.t 22)]) .ret) .skip))) (.seq (.seq (.ops [.fadr 23 (.t 1) 2, .load 24 none (.t 23), .len 25 (.t 24), .fadr 26 (.t 1) 3, .load 27 none (.t 26), .len 28 (.t 27), .bin 29 .neq (.t 25) (.t 28)]) (.cond (.t 29) (.seq (.ops [.asg 2 (.c (.int .i64 6))]) .ret) .skip)) (.seq (.seq (.ops [.fadr 30 (.t 1) 2, .load 31 none (.t 30), .len 32 (.t 31), .mov 33 (.c (.int .i64 0))])
       fn15_l1) (.seq (.ops [.asg 2 (.c (.int .i64 0))]) .ret))))))⟩
def fn16_b0 : VCode := (.seq (.seq (.ops [.mov 31 (.t 4), .fadr 32 (.t 1) 2, .load 33 none (.t 32), .len 34 (.t 33), .bin 35 .lss (.t 31) (.t 34)]) (.cond (.t 35) .skip (.exit 0))) (.seq (.block 1 (.seq (.seq (.ops [.fadr 38 (.t 1) 2, .load 39 none (.t 38), .mov 40 (.t 4), .iadr 41 2 (.t 39) (.t 40), .load 42 (some 2) (.t 41), .call 43 53 [(.t 42)], .asg 5 (.t 43)]) (.seq (.ops [.mov 44 (.t 5), .bin 45 .neq (.t 44) (.c (.int .i64 0))]) (.cond (.t 45) (.seq (.ops [.mov 46 (.t 5), .asg 2 (.t 46)]) .ret) .skip))) (.seq (.drw [] [] none [0, 1, 2, 3, 4, 5, 6, 7, 8, 9, 10, 11, 12] [.fadr 47 (.t 1) 2, .load 48 none (.t 47), .mov 49 (.t 4), .iadr 50 2 (.t 48) (.t 49), .fadr 51 (.t 50) 0, .load 52 none (.t 51), .fadr 53 (.t 1) 3, .load 54 none (.t 53), .mov 55 (.t 4), .iadr 56 1 (.t 54) (.t 55), .load 57 none (.t 56), .len 58 (.t 57), .bin 59 .neq (.t 52) (.t 58)]) (.cond (.t 59) (.seq (.ops [.asg 2 (.c (.int .i64 22))]) .ret) .skip)))) (.ops [.mov 36 (.t 4), .bin 37 .add (.t 36) (.c (.int .i64 1)), .asg 4 (.t 37)])))
def fn16_l1 : VCode :=
(.clean [1, 4] [2] (.block 0 (.loop [1, 4] fn16_b0)))
def fn16 : VFn := ⟨1, 60, [.tmp 2], (.seq (.ops [.box 1 (.t 0), .asg 2 (.c (.int .i64 0))]) (.seq (.seq (.ops [.fadr 6 (.t 1) 0, .load 7 none (.t 6), .bin 8 .lss (.t 7) (.c (.int .i64 0)), .mov 9 (.t 8), .grd 9 false (.fadr 10 (.t 1) 0), .grd 9 false (.load 11 none (.t 10)), .grd 9 false (.bin 12 .gtr (.t 11) (.c (.int .i64 1073741824))), .pick 13 (.t 9) (.c (.bool true)) (.t 12)]) (.cond (.t 13) (.seq (.ops [.asg 2 (.c (.int .i64 2))]) .ret) .skip)) (.seq (.seq (.ops [.fadr 14 (.t 1) 1, .load 15 none (.t 14), .call 16 29 [(.t 15)], .un 17 .not (.t 16)]) (.cond (.t 17) (.seq (.ops [.asg 2 (.c (.int .i64 3))]) .ret) .skip)) (.seq (.seq (.ops [.fadr 18 (.t 1) 3, .load 19 none (.t 18), .call 20 52 [(.t 19)], .asg 3 (.t 20)]) (.seq (.ops [.mov 21 (.t 3), .bin 22 .neq (.t 21) (.c (.int .i64 0))]) (.cond (.t 22) (.seq (.ops [.mov 23 (.t 3), .asg 2 (.t 23)]) .ret) .skip))) (.seq (.seq (.ops [.fadr 24 (.t 1) 2, .load 25 none (.t 24), .len 26 (.t 25), .fadr 27 (.t 1) 3, .load 28 none (.t 27), .len 29 (.t 28), .bin 30 .neq (.t 26) (.t 29)]) (.cond (.t 30) (.seq (.ops [.asg 2 (.c (.int .i64 6))]) .ret) .skip)) (.seq (.seq (.ops [.asg 4 (.c (.int .i64 0))])
        fn16_l1) (.seq (.ops [.asg 2 (.c (.int .i64 0))]) .ret)))))))⟩
def fn17 : VFn := ⟨2, 8, [.tmp 4], (.seq (.ops [.asg 4 (.c (.bool false))]) (.seq (.ops [.mov 5 (.t 0), .mov 6 (.t 1), .call 7 54 [(.t 5), (.t 6), (.c (.func 55 []))], .asg 4 (.t 7)]) .ret))⟩
def fn18_b0 : VCode := (.seq (.seq (.drw [] [] none [0, 1, 2, 3, 4, 5, 6, 7, 8, 9, 10, 11, 12, 13, 14, 15, 16, 17, 18, 19] [.mov 17 (.t 8), .mov 18 (.t 0), .len 19 (.t 18), .mov 20 (.t 1), .len 21 (.t 20), .mn 22 false (.t 19) (.t 21), .bin 23 .lss (.t 17) (.t 22), .mov 24 (.t 23), .grd 24 true (.mov 25 (.t 0)), .grd 24 true (.mov 26 (.t 8)), .grd 24 true (.iadr 27 3 (.t 25) (.t 26)), .grd 24 true (.fadr 28 (.t 27) 0), .grd 24 true (.load 29 none (.t 28)), .grd 24 true (.mov 30 (.t 1)), .grd 24 true (.mov 31 (.t 8)), .grd 24 true (.iadr 32 3 (.t 30) (.t 31)), .grd 24 true (.fadr 33 (.t 32) 0), .grd 24 true (.load 34 none (.t 33)), .grd 24 true (.bin 35 .eql (.t 29) (.t 34)), .pick 36 (.t 24) (.t 35) (.c (.bool false))]) (.cond (.t 36) .skip (.exit 0))) (.seq (.block 1 (.seq (.drw [] [] none [0, 1, 2, 3, 4, 5, 6, 7, 8, 9, 10, 11, 12, 13, 14, 15, 16, 17] [.mov 39 (.t 0), .mov 40 (.t 8), .iadr 41 3 (.t 39) (.t 40), .fadr 42 (.t 41) 2, .load 43 none (.t 42), .mov 44 (.t 1), .mov 45 (.t 8), .iadr 46 3 (.t 44) (.t 45), .fadr 47 (.t 46) 2, .load 48 none (.t 47), .mn 49 false (.t 43) (.t 48), .mov 50 (.t 0), .mov 51 (.t 8), .iadr 52 3 (.t 50) (.t 51), .fadr 53 (.t 52) 0, .load 54 none (.t 53), .asg 6 (.t 49), .asg 7 (.t 54)]) (.seq (.drw [] [] none [0, 1, 2, 3, 4, 5, 6, 7, 8, 9, 10] [.mov 55 (.t 0), .mov 56 (.t 8), .iadr 57 3 (.t 55) (.t 56), .fadr 58 (.t 57) 2, .load 59 none (.t 58), .mov 60 (.t 1), .mov 61 (.t 8), .iadr 62 3 (.t 60) (.t 61), .fadr 63 (.t 62) 2, .load 64 none (.t 63), .bin 65 .neq (.t 59) (.t 64)]) (.cond (.t 65) (.exit 0) .skip)))) (.ops [.mov 37 (.t 8), .bin 38 .add (.t 37) (.c (.int .i64 1)), .asg 8 (.t 38)])))
def fn18_l1 : VCode :=
(.clean [0, 1, 6, 7, 8] [4, 5, 6, 7] (.block 0 (.loop [0, 1, 6, 7, 8] fn18_b0)))
def fn18 : VFn := ⟨2, 68, [.tmp 4, .tmp 5], (.seq (.ops [.asg 4 (.c (.int .i64 0)), .asg 5 (.c (.int .i64 0))]) (.seq (.seq (.ops [.mov 9 (.t 0), .call 10 49 [(.t 9)], .un 11 .not (.t 10), .mov 12 (.t 11), .grd 12 false (.mov 13 (.t 1)), .grd 12 false (.call 14 49 [(.t 13)]), .grd 12 false (.un 15 .not (.t 14)), .pick 16 (.t 12) (.c (.bool true)) (.t 15)]) (.cond (.t 16) (.seq (.ops [.asg 4 (.c (.int .i64 0)), .asg 5 (.c (.int .i64 0))]) .ret) .skip)) (.seq (.ops [.asg 6 (.c (.int .i64 0)), .asg 7 (.c (.int .i64 0))]) (.seq (.seq (.ops [.asg 8 (.c (.int .i64 0))])
      fn18_l1) (.seq (.ops [.mov 66 (.t 6), .mov 67 (.t 7), .asg 4 (.t 66), .asg 5 (.t 67)]) .ret)))))⟩
def fn20 : VFn := ⟨2, 24, [.tmp 4, .tmp 5], (.seq (.ops [.box 3 (.t 1), .asg 4 (.c (.int .i64 0)), .asg 5 (.c (.int .i64 0))]) (.seq (.seq (.ops [.mov 8 (.t 0), .call 9 56 [(.t 8)], .asg 6 (.t 9)]) (.seq (.ops [.mov 10 (.t 6), .bin 11 .neq (.t 10) (.c (.int .i64 0))]) (.cond (.t 11) (.seq (.ops [.mov 12 (.t 6), .asg 4 (.c (.int .i64 0)), .asg 5 (.t 12)]) .ret) .skip))) (.seq (.seq (.ops [.load 13 none (.t 3), .len 14 (.t 13), .mov 15 (.t 0), .len 16 (.t 15), .bin 17 .neq (.t 14) (.t 16)]) (.cond (.t 17) (.seq (.ops [.asg 4 (.c (.int .i64 0)), .asg 5 (.c (.int .i64 6))]) .ret) .skip)) (.seq (.ops [.mov 18 (.t 0), .mkf 19 58 [(.t 3)], .call 20 57 [(.t 18), (.t 19), (.c (.func 59 []))], .asg 7 (.t 20)]) (.seq (.seq (.ops [.mov 21 (.t 7), .bin 22 .lss (.t 21) (.c (.int .i64 0))]) (.cond (.t 22) (.seq (.ops [.asg 4 (.c (.int .i64 0)), .asg 5 (.c (.int .i64 17))]) .ret) .skip)) (.seq (.ops [.mov 23 (.t 7), .asg 4 (.t 23), .asg 5 (.c (.int .i64 0))]) .ret))))))⟩
def fn22_b0 : VCode := (.seq (.ops [.bin 53 .lss (.t 52) (.t 51)]) (.seq (.cond (.t 53) .skip (.exit 2)) (.seq (.block 3 (.seq (.ops [.iadr 54 2 (.t 50) (.t 52), .load 55 (some 2) (.t 54), .alloc 15 [(.int .i64 0), (.int .i64 0)], .store none 2 (.t 15) (.t 55)]) (.drw [] [([0, 1, 2, 3, 4, 5, 6, 7, 8, 9, 10, 11, 12], 13)] (some ([], [], 14, [])) [15] [.mov 56 (.t 11), .mov 57 (.t 12), .fadr 58 (.t 9) 3, .load 59 none (.t 58), .mov 60 (.t 12), .iadr 61 1 (.t 59) (.t 60), .load 62 none (.t 61), .fadr 63 (.t 10) 3, .load 64 none (.t 63), .mov 65 (.t 12), .iadr 66 1 (.t 64) (.t 65), .load 67 none (.t 66), .load 68 (some 2) (.t 15), .call 69 64 [(.t 57), (.t 62), (.t 67), (.t 68)], .app 70 3 (.t 56) (.t 69), .asg 11 (.t 70)]))) (.ops [.bin 71 .add (.t 52) (.c (.int .i64 1)), .mov 52 (.t 71)]))))
def fn22_l1 : VCode :=
(.clean [9, 10, 11, 12, 13, 43, 44, 45, 49, 50, 51, 52, 70] [6, 7, 9, 10, 11, 43, 44, 45, 70] (.block 2 (.loop [9, 10, 11, 12, 13, 43, 44, 45, 49, 50, 51, 52, 70] fn22_b0)))
def fn22_b2 : VCode := (.seq (.ops [.bin 46 .lss (.t 45) (.t 44)]) (.seq (.cond (.t 46) .skip (.exit 0)) (.seq (.block 1 (.seq (.ops [.mov 47 (.t 45), .iadr 48 1 (.t 43) (.t 45), .load 49 none (.t 48), .asg 12 (.t 47), .asg 13 (.t 49)]) (.seq (.ops [.mov 50 (.t 13), .len 51 (.t 50), .mov 52 (.c (.int .i64 0))])
       fn22_l1))) (.ops [.bin 72 .add (.t 45) (.c (.int .i64 1)), .mov 45 (.t 72)]))))
def fn22_l3 : VCode :=
(.clean [9, 10, 11, 43, 44, 45, 70] [6, 7, 11] (.block 0 (.loop [9, 10, 11, 43, 44, 45, 70] fn22_b2)))
def fn22 : VFn := ⟨3, 74, [.tmp 6, .tmp 7], (.seq (.ops [.asg 6 (.nil 3), .asg 7 (.c (.int .i64 0))]) (.seq (.seq (.ops [.mov 16 (.t 0), .call 17 56 [(.t 16)], .asg 8 (.t 17)]) (.seq (.ops [.mov 18 (.t 8), .bin 19 .neq (.t 18) (.c (.int .i64 0))]) (.cond (.t 19) (.seq (.ops [.mov 20 (.t 8), .asg 6 (.nil 3), .asg 7 (.t 20)]) .ret) .skip))) (.seq (.seq (.ops [.mov 21 (.t 1), .mov 22 (.t 2), .mn 23 false (.t 21) (.t 22), .bin 24 .lss (.t 23) (.c (.int .i64 0)), .mov 25 (.t 24), .grd 25 false (.mov 26 (.t 1)), .grd 25 false (.mov 27 (.t 2)), .grd 25 false (.mn 28 true (.t 26) (.t 27)), .grd 25 false (.mov 29 (.t 0)), .grd 25 false (.len 30 (.t 29)), .grd 25 false (.bin 31 .geq (.t 28) (.t 30)), .pick 32 (.t 25) (.c (.bool true)) (.t 31)]) (.cond (.t 32) (.seq (.ops [.asg 6 (.nil 3), .asg 7 (.c (.int .i64 7))]) .ret) .skip)) (.seq (.drs [(.t 39)] [9, 10, 70] [.mov 33 (.t 0), .mov 34 (.t 1), .iadr 35 4 (.t 33) (.t 34), .load 36 (some 4) (.t 35), .mov 37 (.t 0), .mov 38 (.t 2), .iadr 39 4 (.t 37) (.t 38), .ldz 40 (some 4) (.t 39), .alloc 9 [(.int .i64 0), (.list 0 []), (.list 0 []), (.list 0 [])], .alloc 10 [(.int .i64 0), (.list 0 []), (.list 0 []), (.list 0 [])], .store none 4 (.t 9) (.t 36), .store none 4 (.t 10) (.t 40)]
      [⟨[([0, 1, 2, 3, 4, 5, 6, 7], 8), ([], 9)], (some ([], [], 10, [([], 11)])), [], [0, 1, 2, 3, 4, 5, 6, 7, 8, 9, 10, 11], false⟩, ⟨[([0, 1, 2, 3, 4, 5, 6, 7], 9), ([], 8)], (some ([], [], 10, [([], 11)])), [], [0, 1, 2, 3, 4, 5, 6, 7, 9, 8, 10, 11], true⟩]) (.seq (.ops [.asg 11 (.nil 3)]) (.seq (.seq (.ops [.load 41 (some 4) (.t 9), .load 42 (some 4) (.t 10), .call 43 45 [(.t 41), (.t 42)], .len 44 (.t 43), .mov 45 (.c (.int .i64 0))])
        fn22_l3) (.seq (.ops [.mov 73 (.t 11), .asg 6 (.t 73), .asg 7 (.c (.int .i64 0))]) .ret)))))))⟩
def fn24_b0 : VCode := (.seq (.ops [.bin 41 .lss (.t 40) (.t 39)]) (.seq (.cond (.t 41) .skip (.exit 0)) (.seq (.block 1 (.seq (.lend 9 [0] [.mov 42 (.t 0), .mov 43 (.t 9), .call 44 68 [(.t 42), (.t 43)], .call 45 67 [(.t 44)], .call 46 66 [(.t 45), (.c (.func 69 []))], .alloc 11 [(.int .i64 0), (.int .i64 0), (.int .i64 0)], .store none 3 (.t 11) (.t 46)]) (.seq (.drw [(.t 11)] [] (some ([0, 1, 2, 6, 7, 8], [3, 4, 5], 9, [([10], 11)])) [] [.mov 47 (.t 8), .fadr 48 (.t 11) 1, .load 49 none (.t 48), .fadr 53 (.t 11) 2, .load 54 none (.t 53), .iadr 55 1 (.t 47) (.t 49), .mov 50 (.t 9), .fadr 51 (.t 11) 1, .ldz 52 none (.t 51), .store none 1 (.t 55) (.t 54), .iadr 56 1 (.t 50) (.t 52), .store none 1 (.t 56) (.c (.bool true))]) (.ops [.mov 57 (.t 10), .fadr 58 (.t 11) 0, .load 59 none (.t 58), .bin 60 .add (.t 57) (.t 59), .asg 10 (.t 60)])))) (.ops [.bin 61 .add (.t 40) (.c (.int .i64 1)), .mov 40 (.t 61)]))))
def fn24_l1 : VCode :=
(.clean [0, 8, 9, 10, 27, 30, 39, 40] [4, 5, 6, 8, 10] (.block 0 (.loop [0, 8, 9, 10, 27, 30, 39, 40] fn24_b0)))
def fn24 : VFn := ⟨2, 64, [.tmp 4, .tmp 5, .tmp 6], (.seq (.ops [.asg 4 (.nil 1), .asg 5 (.c (.int .i64 0)), .asg 6 (.c (.int .i64 0))]) (.seq (.seq (.ops [.mov 12 (.t 0), .call 13 56 [(.t 12)], .asg 7 (.t 13)]) (.seq (.ops [.mov 14 (.t 7), .bin 15 .neq (.t 14) (.c (.int .i64 0))]) (.cond (.t 15) (.seq (.ops [.mov 16 (.t 7), .asg 4 (.nil 1), .asg 5 (.c (.int .i64 0)), .asg 6 (.t 16)]) .ret) .skip))) (.seq (.seq (.ops [.mov 17 (.t 1), .bin 18 .lss (.t 17) (.c (.int .i64 0)), .mov 19 (.t 18), .grd 19 false (.mov 20 (.t 1)), .grd 19 false (.mov 21 (.t 0)), .grd 19 false (.len 22 (.t 21)), .grd 19 false (.bin 23 .geq (.t 20) (.t 22)), .pick 24 (.t 19) (.c (.bool true)) (.t 23)]) (.cond (.t 24) (.seq (.ops [.asg 4 (.nil 1), .asg 5 (.c (.int .i64 0)), .asg 6 (.c (.int .i64 7))]) .ret) .skip)) (.seq (.drs [] [0, 1, 8, 9, 27, 30] [.mov 25 (.t 0), .len 26 (.t 25), .make 27 (.int .i64 0) (.t 26) (.t 26), .mov 28 (.t 0), .len 29 (.t 28), .make 30 (.bool false) (.t 29) (.t 29), .asg 8 (.t 27), .asg 9 (.t 30)]
      [⟨[([0, 1, 3, 4], 2), ([6], 5)], none, [7], [0, 1, 3, 4, 2, 6, 5, 7], false⟩, ⟨[([0, 1, 3, 4], 5), ([], 2)], none, [6, 7], [0, 1, 3, 4, 5, 2, 6, 7], false⟩]) (.seq (.ops [.mov 31 (.t 8), .mov 32 (.t 1), .mov 33 (.t 9), .mov 34 (.t 1), .iadr 35 1 (.t 31) (.t 32), .store none 1 (.t 35) (.c (.int .i64 (-1))), .iadr 36 1 (.t 33) (.t 34), .store none 1 (.t 36) (.c (.bool true))]) (.seq (.ops [.asg 10 (.c (.int .i64 0))]) (.seq (.seq (.ops [.mov 37 (.t 0), .len 38 (.t 37), .bin 39 .sub (.t 38) (.c (.int .i64 1)), .mov 40 (.c (.int .i64 0))])
         fn24_l1) (.seq (.ops [.mov 62 (.t 8), .mov 63 (.t 10), .asg 4 (.t 62), .asg 5 (.t 63), .asg 6 (.c (.int .i64 0))]) .ret))))))))⟩
def fn26_b0 : VCode := (.seq (.seq (.ops [.mov 11 (.t 5), .mov 12 (.t 0), .len 13 (.t 12), .bin 14 .lss (.t 11) (.t 13)]) (.cond (.t 14) .skip (.exit 0))) (.seq (.block 1 (.seq (.drw [] [([0, 1, 2, 3, 4, 5, 6, 7, 8, 9, 10, 11, 12, 13, 14, 15, 16, 17, 18, 19, 20, 21, 22, 23, 24, 25, 26, 27, 28, 29, 30, 31, 32, 33, 34], 35)] none [36, 37] [.mov 17 (.t 0), .mov 18 (.t 5), .iadr 19 3 (.t 17) (.t 18), .fadr 20 (.t 19) 0, .load 21 none (.t 20), .mov 22 (.t 1), .mov 23 (.t 5), .iadr 24 3 (.t 22) (.t 23), .fadr 25 (.t 24) 0, .load 26 none (.t 25), .bin 27 .neq (.t 21) (.t 26), .mov 28 (.t 27), .grd 28 false (.mov 29 (.t 0)), .grd 28 false (.mov 30 (.t 5)), .grd 28 false (.iadr 31 3 (.t 29) (.t 30)), .grd 28 false (.fadr 32 (.t 31) 1), .grd 28 false (.load 33 none (.t 32)), .grd 28 false (.mov 34 (.t 1)), .grd 28 false (.mov 35 (.t 5)), .grd 28 false (.iadr 36 3 (.t 34) (.t 35)), .grd 28 false (.fadr 37 (.t 36) 1), .grd 28 false (.load 38 none (.t 37)), .grd 28 false (.bin 39 .neq (.t 33) (.t 38)), .pick 40 (.t 28) (.c (.bool true)) (.t 39), .mov 41 (.t 40), .grd 41 false (.mov 42 (.t 0)), .grd 41 false (.mov 43 (.t 5)), .grd 41 false (.iadr 44 3 (.t 42) (.t 43)), .grd 41 false (.fadr 45 (.t 44) 2), .grd 41 false (.load 46 none (.t 45)), .grd 41 false (.mov 47 (.t 1)), .grd 41 false (.mov 48 (.t 5)), .grd 41 false (.iadr 49 3 (.t 47) (.t 48)), .grd 41 false (.fadr 50 (.t 49) 2), .grd 41 false (.load 51 none (.t 50)), .grd 41 false (.call 52 70 [(.t 46), (.t 51)]), .grd 41 false (.un 53 .not (.t 52)), .pick 54 (.t 41) (.c (.bool true)) (.t 53)]) (.cond (.t 54) (.seq (.ops [.asg 4 (.c (.bool false))]) .ret) .skip))) (.ops [.mov 15 (.t 5), .bin 16 .add (.t 15) (.c (.int .i64 1)), .asg 5 (.t 16)])))
def fn26_l1 : VCode :=
(.clean [0, 1, 5] [4] (.block 0 (.loop [0, 1, 5] fn26_b0)))
def fn26 : VFn := ⟨2, 55, [.tmp 4], (.seq (.ops [.asg 4 (.c (.bool false))]) (.seq (.seq (.ops [.mov 6 (.t 0), .len 7 (.t 6), .mov 8 (.t 1), .len 9 (.t 8), .bin 10 .neq (.t 7) (.t 9)]) (.cond (.t 10) (.seq (.ops [.asg 4 (.c (.bool false))]) .ret) .skip)) (.seq (.seq (.ops [.asg 5 (.c (.int .i64 0))])
     fn26_l1) (.seq (.ops [.asg 4 (.c (.bool true))]) .ret))))⟩
def fn27_b0 : VCode := (.seq (.ops [.bin 14 .lss (.t 13) (.t 12)]) (.seq (.cond (.t 14) .skip (.exit 0)) (.seq (.block 1 (.seq (.ops [.mov 15 (.t 13), .asg 5 (.t 15)]) (.seq (.drw [] [] none [0, 1, 2, 3, 4, 5, 6, 7, 8] [.mov 16 (.t 0), .mov 17 (.t 5), .iadr 18 1 (.t 16) (.t 17), .load 19 none (.t 18), .mov 20 (.t 1), .mov 21 (.t 5), .iadr 22 1 (.t 20) (.t 21), .load 23 none (.t 22), .bin 24 .neq (.t 19) (.t 23)]) (.cond (.t 24) (.seq (.ops [.asg 4 (.c (.bool false))]) .ret) .skip)))) (.ops [.bin 25 .add (.t 13) (.c (.int .i64 1)), .mov 13 (.t 25)]))))
def fn27_l1 : VCode :=
(.clean [0, 1, 12, 13] [4] (.block 0 (.loop [0, 1, 12, 13] fn27_b0)))
def fn27 : VFn := ⟨2, 26, [.tmp 4], (.seq (.ops [.asg 4 (.c (.bool false))]) (.seq (.seq (.ops [.mov 6 (.t 0), .len 7 (.t 6), .mov 8 (.t 1), .len 9 (.t 8), .bin 10 .neq (.t 7) (.t 9)]) (.cond (.t 10) (.seq (.ops [.asg 4 (.c (.bool false))]) .ret) .skip)) (.seq (.seq (.ops [.mov 11 (.t 0), .len 12 (.t 11), .mov 13 (.c (.int .i64 0))])
     fn27_l1) (.seq (.ops [.asg 4 (.c (.bool true))]) .ret))))⟩
def fn29_b0 : VCode := (.seq (.seq (.ops [.mov 6 (.t 3), .mov 7 (.t 0), .len 8 (.t 7), .bin 9 .lss (.t 6) (.t 8)]) (.cond (.t 9) .skip (.exit 0))) (.seq (.block 1 (.seq (.ops [.asg 4 (.c (.int .i64 1)), .asg 5 (.c (.int .i64 1))]) (.seq (.seq (.ops [.mov 12 (.t 3), .bin 13 .gtr (.t 12) (.c (.int .i64 0))]) (.cond (.t 13) (.drw [] [] none [0, 1, 2, 3, 4, 5, 6, 7, 8, 9, 10, 11, 12, 13, 14, 15] [.mov 14 (.t 0), .mov 15 (.t 3), .bin 16 .sub (.t 15) (.c (.int .i64 1)), .iadr 17 3 (.t 14) (.t 16), .fadr 18 (.t 17) 2, .load 19 none (.t 18), .bin 20 .add (.t 19) (.c (.int .i64 1)), .mov 21 (.t 0), .mov 22 (.t 3), .bin 23 .sub (.t 22) (.c (.int .i64 1)), .iadr 24 3 (.t 21) (.t 23), .fadr 25 (.t 24) 0, .load 26 none (.t 25), .bin 27 .add (.t 26) (.c (.int .i64 1)), .asg 4 (.t 20), .asg 5 (.t 27)]) .skip)) (.seq (.drw [] [] none [0, 1, 2, 3, 4, 5, 6, 7, 8, 9, 10, 11, 12, 13, 14, 15, 16, 17, 18, 19, 20, 21, 22, 23, 24, 25, 26, 27, 28, 29, 30, 31, 32, 33, 34, 35, 36, 37, 38, 39, 40, 41, 42, 43, 44] [.mov 28 (.t 0), .mov 29 (.t 3), .iadr 30 3 (.t 28) (.t 29), .fadr 31 (.t 30) 1, .load 32 none (.t 31), .mov 33 (.t 4), .bin 34 .neq (.t 32) (.t 33), .mov 35 (.t 34), .grd 35 false (.mov 36 (.t 0)), .grd 35 false (.mov 37 (.t 3)), .grd 35 false (.iadr 38 3 (.t 36) (.t 37)), .grd 35 false (.fadr 39 (.t 38) 2), .grd 35 false (.load 40 none (.t 39)), .grd 35 false (.mov 41 (.t 0)), .grd 35 false (.mov 42 (.t 3)), .grd 35 false (.iadr 43 3 (.t 41) (.t 42)), .grd 35 false (.fadr 44 (.t 43) 1), .grd 35 false (.load 45 none (.t 44)), .grd 35 false (.bin 46 .lss (.t 40) (.t 45)), .pick 47 (.t 35) (.c (.bool true)) (.t 46), .mov 48 (.t 47), .grd 48 false (.mov 49 (.t 0)), .grd 48 false (.mov 50 (.t 3)), .grd 48 false (.iadr 51 3 (.t 49) (.t 50)), .grd 48 false (.fadr 52 (.t 51) 2), .grd 48 false (.load 53 none (.t 52)), .grd 48 false (.bin 54 .gtr (.t 53) (.c (.int .i64 1073741824))), .pick 55 (.t 48) (.c (.bool true)) (.t 54), .mov 56 (.t 55), .grd 56 false (.mov 57 (.t 0)), .grd 56 false (.mov 58 (.t 3)), .grd 56 false (.iadr 59 3 (.t 57) (.t 58)), .grd 56 false (.fadr 60 (.t 59) 0), .grd 56 false (.load 61 none (.t 60)), .grd 56 false (.mov 62 (.t 5)), .grd 56 false (.bin 63 .lss (.t 61) (.t 62)), .pick 64 (.t 56) (.c (.bool true)) (.t 63), .mov 65 (.t 64), .grd 65 false (.mov 66 (.t 0)), .grd 65 false (.mov 67 (.t 3)), .grd 65 false (.iadr 68 3 (.t 66) (.t 67)), .grd 65 false (.fadr 69 (.t 68) 0), .grd 65 false (.load 70 none (.t 69)), .grd 65 false (.bin 71 .gtr (.t 70) (.c (.int .i64 1073741824))), .pick 72 (.t 65) (.c (.bool true)) (.t 71)]) (.cond (.t 72) (.seq (.ops [.asg 2 (.c (.bool false))]) .ret) .skip))))) (.ops [.mov 10 (.t 3), .bin 11 .add (.t 10) (.c (.int .i64 1)), .asg 3 (.t 11)])))
def fn29_l1 : VCode :=
(.clean [0, 3] [2] (.block 0 (.loop [0, 3] fn29_b0)))
def fn29 : VFn := ⟨1, 73, [.tmp 2], (.seq (.ops [.asg 2 (.c (.bool false))]) (.seq (.seq (.ops [.asg 3 (.c (.int .i64 0))])
    fn29_l1) (.seq (.ops [.asg 2 (.c (.bool true))]) .ret)))⟩
def fn41_b0 : VCode := (.seq (.seq (.ops [.mov 7 (.t 3), .mov 8 (.t 0), .len 9 (.t 8), .bin 10 .lss (.t 7) (.t 9)]) (.cond (.t 10) .skip (.exit 0))) (.seq (.block 1 (.seq (.ops [.mov 13 (.t 0), .mov 14 (.t 3), .iadr 15 1 (.t 13) (.t 14), .load 16 none (.t 15), .len 17 (.t 16), .bin 18 .gtr (.t 17) (.c (.int .i64 24))]) (.cond (.t 18) (.seq (.ops [.asg 2 (.c (.bool false))]) .ret) .skip))) (.ops [.mov 11 (.t 3), .bin 12 .add (.t 11) (.c (.int .i64 1)), .asg 3 (.t 12)])))
def fn41_l1 : VCode :=
(.clean [0, 3] [2] (.block 0 (.loop [0, 3] fn41_b0)))
def fn41 : VFn := ⟨1, 19, [.tmp 2], (.seq (.ops [.asg 2 (.c (.bool false))]) (.seq (.seq (.ops [.mov 4 (.t 0), .len 5 (.t 4), .bin 6 .gtr (.t 5) (.c (.int .i64 9))]) (.cond (.t 6) (.seq (.ops [.asg 2 (.c (.bool false))]) .ret) .skip)) (.seq (.seq (.ops [.asg 3 (.c (.int .i64 0))])
     fn41_l1) (.seq (.ops [.asg 2 (.c (.bool true))]) .ret))))⟩
def fn43_b0 : VCode := (.seq (.ops [.bin 14 .lss (.t 13) (.t 12)]) (.seq (.cond (.t 14) .skip (.exit 0)) (.seq (.block 1 (.seq (.ops [.mov 15 (.t 13), .asg 5 (.t 15)]) (.seq (.drw [] [] none [0, 1, 2, 3, 4, 5, 6, 7, 8] [.mov 16 (.t 0), .mov 17 (.t 5), .iadr 18 2 (.t 16) (.t 17), .load 19 (some 2) (.t 18), .mov 20 (.t 1), .mov 21 (.t 5), .iadr 22 2 (.t 20) (.t 21), .load 23 (some 2) (.t 22), .eqa 24 true 2 (.t 19) (.t 23)]) (.cond (.t 24) (.seq (.ops [.asg 4 (.c (.bool false))]) .ret) .skip)))) (.ops [.bin 25 .add (.t 13) (.c (.int .i64 1)), .mov 13 (.t 25)]))))
def fn43_l1 : VCode :=
(.clean [0, 1, 12, 13] [4] (.block 0 (.loop [0, 1, 12, 13] fn43_b0)))
def fn43 : VFn := ⟨2, 26, [.tmp 4], (.seq (.ops [.asg 4 (.c (.bool false))]) (.seq (.seq (.ops [.mov 6 (.t 0), .len 7 (.t 6), .mov 8 (.t 1), .len 9 (.t 8), .bin 10 .neq (.t 7) (.t 9)]) (.cond (.t 10) (.seq (.ops [.asg 4 (.c (.bool false))]) .ret) .skip)) (.seq (.seq (.ops [.mov 11 (.t 0), .len 12 (.t 11), .mov 13 (.c (.int .i64 0))])
     fn43_l1) (.seq (.ops [.asg 4 (.c (.bool true))]) .ret))))⟩
def fn44 : VFn := ⟨2, 8, [.tmp 4], (.seq (.ops [.asg 4 (.c (.bool false))]) (.seq (.ops [.mov 5 (.t 0), .mov 6 (.t 1), .call 7 77 [(.t 5), (.t 6), (.c (.func 79 []))], .asg 4 (.t 7)]) .ret))⟩
def fn45_b0 : VCode := (.seq (.ops [.bin 16 .lss (.t 15) (.t 14)]) (.seq (.cond (.t 16) .skip (.exit 0)) (.seq (.block 1 (.seq (.ops [.mov 17 (.t 15), .asg 6 (.t 17)]) (.seq (.drs [] [2, 3, 5, 6, 7, 12, 14, 15] [.fadr 19 (.t 2) 2, .load 20 none (.t 19), .mov 21 (.t 6), .iadr 22 2 (.t 20) (.t 21), .load 23 (some 2) (.t 22), .fadr 24 (.t 3) 2, .load 25 none (.t 24), .mov 26 (.t 6), .iadr 27 2 (.t 25) (.t 26), .load 28 (some 2) (.t 27), .call 29 80 [(.t 23), (.t 28)], .mov 18 (.t 29), .ext 30 (.t 18) 0, .ext 31 (.t 18) 1, .alloc 7 [(.int .i64 0), (.list 1 [])], .store none 2 (.t 7) (.t 30), .asg 8 (.t 31)]
        [⟨[([0, 1, 2, 3, 4, 5, 6, 7, 8, 9], 10), ([11, 12, 13], 14)], (some ([], [], 15, [])), [16], [0, 1, 2, 3, 4, 5, 6, 7, 8, 9, 10, 11, 12, 13, 14, 15, 16], false⟩, ⟨[([0, 1, 2, 3, 4, 5, 6, 7, 8, 9], 14), ([], 10)], (some ([11, 12], [13], 15, [])), [16], [0, 1, 2, 3, 4, 5, 6, 7, 8, 9, 14, 10, 11, 12, 13, 15, 16], false⟩]) (.ops [.mov 32 (.t 5), .mov 33 (.t 6), .load 34 (some 2) (.t 7), .call 35 81 [(.t 34)], .iadr 36 1 (.t 32) (.t 33), .store none 1 (.t 36) (.t 35)])))) (.ops [.bin 37 .add (.t 15) (.c (.int .i64 1)), .mov 15 (.t 37)]))))
def fn45_l1 : VCode :=
(.clean [2, 3, 5, 12, 14, 15] [4, 5] (.block 0 (.loop [2, 3, 5, 12, 14, 15] fn45_b0)))
def fn45 : VFn := ⟨2, 39, [.tmp 4], (.seq (.ops [.box 2 (.t 0), .box 3 (.t 1), .asg 4 (.nil 1)]) (.seq (.ops [.fadr 9 (.t 2) 2, .load 10 none (.t 9), .len 11 (.t 10), .make 12 (.list 0 []) (.t 11) (.t 11), .asg 5 (.t 12)]) (.seq (.seq (.ops [.mov 13 (.t 5), .len 14 (.t 13), .mov 15 (.c (.int .i64 0))])
     fn45_l1) (.seq (.ops [.mov 38 (.t 5), .asg 4 (.t 38)]) .ret))))⟩
def fn46_b0 : VCode := (.seq (.seq (.ops [.mov 13 (.t 5), .fadr 14 (.t 2) 3, .load 15 none (.t 14), .len 16 (.t 15), .bin 17 .lss (.t 13) (.t 16)]) (.cond (.t 17) .skip (.exit 0))) (.seq (.block 1 (.seq (.drw [] [] none [0, 1, 2, 3, 4, 5, 6, 7, 8, 9, 10, 11, 12] [.fadr 20 (.t 2) 3, .load 21 none (.t 20), .mov 22 (.t 5), .iadr 23 1 (.t 21) (.t 22), .load 24 none (.t 23), .len 25 (.t 24), .fadr 26 (.t 3) 3, .load 27 none (.t 26), .mov 28 (.t 5), .iadr 29 1 (.t 27) (.t 28), .load 30 none (.t 29), .len 31 (.t 30), .bin 32 .neq (.t 25) (.t 31)]) (.cond (.t 32) (.seq (.ops [.asg 4 (.c (.bool false))]) .ret) .skip))) (.ops [.mov 18 (.t 5), .bin 19 .add (.t 18) (.c (.int .i64 1)), .asg 5 (.t 19)])))
def fn46_l1 : VCode :=
(.clean [2, 3, 5] [4] (.block 0 (.loop [2, 3, 5] fn46_b0)))
def fn46 : VFn := ⟨2, 33, [.tmp 4], (.seq (.ops [.box 2 (.t 0), .box 3 (.t 1), .asg 4 (.c (.bool false))]) (.seq (.seq (.ops [.fadr 6 (.t 2) 3, .load 7 none (.t 6), .len 8 (.t 7), .fadr 9 (.t 3) 3, .load 10 none (.t 9), .len 11 (.t 10), .bin 12 .neq (.t 8) (.t 11)]) (.cond (.t 12) (.seq (.ops [.asg 4 (.c (.bool false))]) .ret) .skip)) (.seq (.seq (.ops [.asg 5 (.c (.int .i64 0))])
     fn46_l1) (.seq (.ops [.asg 4 (.c (.bool true))]) .ret))))⟩
def fn47_b0 : VCode := (.seq (.seq (.ops [.mov 19 (.t 10), .fadr 20 (.t 2) 3, .load 21 none (.t 20), .mov 22 (.t 8), .iadr 23 1 (.t 21) (.t 22), .load 24 none (.t 23), .len 25 (.t 24), .bin 26 .lss (.t 19) (.t 25)]) (.cond (.t 26) .skip (.exit 2))) (.seq (.block 3 (.seq (.seq (.ops [.load 29 (some 4) (.t 2), .load 30 (some 4) (.t 3), .mov 31 (.t 8), .mov 32 (.t 10), .call 33 65 [(.t 29), (.t 30), (.t 31), (.t 32)], .un 34 .not (.t 33)]) (.cond (.t 34) (.exit 3) .skip)) (.seq (.ops [.mov 35 (.t 7), .bin 36 .add (.t 35) (.c (.int .i64 1)), .asg 7 (.t 36)]) (.seq (.ops [.mov 37 (.t 9), .len 38 (.t 37), .asg 11 (.t 38)]) (.seq (.drw [] [] none [0, 1, 2, 3, 4, 5, 6, 7, 8, 9, 10, 11, 12, 13, 14, 15, 16, 17, 18] [.mov 39 (.t 11), .bin 40 .gtr (.t 39) (.c (.int .i64 0)), .mov 41 (.t 40), .grd 41 true (.mov 42 (.t 9)), .grd 41 true (.mov 43 (.t 11)), .grd 41 true (.bin 44 .sub (.t 43) (.c (.int .i64 1))), .grd 41 true (.iadr 45 2 (.t 42) (.t 44)), .grd 41 true (.fadr 46 (.t 45) 0), .grd 41 true (.load 47 none (.t 46)), .grd 41 true (.mov 48 (.t 9)), .grd 41 true (.mov 49 (.t 11)), .grd 41 true (.bin 50 .sub (.t 49) (.c (.int .i64 1))), .grd 41 true (.iadr 51 2 (.t 48) (.t 50)), .grd 41 true (.fadr 52 (.t 51) 1), .grd 41 true (.load 53 none (.t 52)), .grd 41 true (.bin 54 .add (.t 47) (.t 53)), .grd 41 true (.mov 55 (.t 10)), .grd 41 true (.bin 56 .eql (.t 54) (.t 55)), .pick 57 (.t 41) (.t 56) (.c (.bool false))]) (.cond (.t 57) (.ops [.mov 58 (.t 9), .mov 59 (.t 11), .bin 60 .sub (.t 59) (.c (.int .i64 1)), .iadr 61 2 (.t 58) (.t 60), .fadr 62 (.t 61) 1, .load 63 none (.t 62), .bin 64 .add (.t 63) (.c (.int .i64 1)), .iadr 65 2 (.t 58) (.t 60), .fadr 66 (.t 65) 1, .store none 1 (.t 66) (.t 64)]) (.ops [.mov 67 (.t 9), .mov 68 (.t 10), .build 69 [(.int .i64 0), (.int .i64 0)] [(0, 1, (.t 68)), (1, 1, (.c (.int .i64 1)))], .mksl 70 2 [(.t 69)], .app 71 2 (.t 67) (.t 70), .asg 9 (.t 71)]))))))) (.ops [.mov 27 (.t 10), .bin 28 .add (.t 27) (.c (.int .i64 1)), .asg 10 (.t 28)])))
def fn47_l1 : VCode :=
(.clean [2, 3, 6, 7, 8, 9, 10, 71, 75] [2, 3, 4, 5, 6, 7, 8, 9, 71, 75] (.block 2 (.loop [2, 3, 6, 7, 8, 9, 10, 71, 75] fn47_b0)))
def fn47_b2 : VCode := (.seq (.seq (.ops [.mov 12 (.t 8), .fadr 13 (.t 2) 3, .load 14 none (.t 13), .len 15 (.t 14), .bin 16 .lss (.t 12) (.t 15)]) (.cond (.t 16) .skip (.exit 0))) (.seq (.block 1 (.seq (.ops [.asg 9 (.nil 2)]) (.seq (.seq (.ops [.asg 10 (.c (.int .i64 0))])
       fn47_l1) (.ops [.mov 72 (.t 6), .mov 73 (.t 9), .mksl 74 1 [(.t 73)], .app 75 1 (.t 72) (.t 74), .asg 6 (.t 75)])))) (.ops [.mov 17 (.t 8), .bin 18 .add (.t 17) (.c (.int .i64 1)), .asg 8 (.t 18)])))
def fn47_l3 : VCode :=
(.clean [2, 3, 6, 7, 8, 71, 75] [4, 5, 6, 7] (.block 0 (.loop [2, 3, 6, 7, 8, 71, 75] fn47_b2)))
def fn47 : VFn := ⟨2, 78, [.tmp 4, .tmp 5], (.seq (.ops [.box 2 (.t 0), .box 3 (.t 1), .asg 4 (.nil 1), .asg 5 (.c (.int .i64 0))]) (.seq (.ops [.asg 6 (.nil 1)]) (.seq (.ops [.asg 7 (.c (.int .i64 0))]) (.seq (.seq (.ops [.asg 8 (.c (.int .i64 0))])
      fn47_l3) (.seq (.ops [.mov 76 (.t 6), .mov 77 (.t 7), .asg 4 (.t 76), .asg 5 (.t 77)]) .ret)))))⟩
def fn48 : VFn := ⟨2, 12, [.tmp 4], (.seq (.ops [.asg 4 (.c (.bool false))]) (.seq (.ops [.mov 5 (.t 0), .mov 6 (.t 1), .bin 7 .geq (.t 5) (.t 6), .mov 8 (.t 7), .grd 8 true (.mov 9 (.t 0)), .grd 8 true (.bin 10 .leq (.t 9) (.c (.int .i64 1073741824))), .pick 11 (.t 8) (.t 10) (.c (.bool false)), .asg 4 (.t 11)]) .ret))⟩
def fn49_b0 : VCode := (.seq (.ops [.bin 10 .lss (.t 9) (.t 8)]) (.seq (.cond (.t 10) .skip (.exit 0)) (.seq (.block 1 (.seq (.ops [.iadr 11 3 (.t 7) (.t 9), .load 12 (some 3) (.t 11), .alloc 5 [(.int .i64 0), (.int .i64 0), (.int .i64 0)], .store none 3 (.t 5) (.t 12)]) (.seq (.seq (.ops [.fadr 13 (.t 5) 1, .load 14 none (.t 13), .fadr 15 (.t 3) 2, .load 16 none (.t 15), .bin 17 .add (.t 16) (.c (.int .i64 1)), .bin 18 .neq (.t 14) (.t 17), .mov 19 (.t 18), .grd 19 false (.fadr 20 (.t 5) 2), .grd 19 false (.load 21 none (.t 20)), .grd 19 false (.fadr 22 (.t 5) 1), .grd 19 false (.load 23 none (.t 22)), .grd 19 false (.bin 24 .lss (.t 21) (.t 23)), .pick 25 (.t 19) (.c (.bool true)) (.t 24), .mov 26 (.t 25), .grd 26 false (.fadr 27 (.t 5) 2), .grd 26 false (.load 28 none (.t 27)), .grd 26 false (.bin 29 .gtr (.t 28) (.c (.int .i64 1073741824))), .pick 30 (.t 26) (.c (.bool true)) (.t 29), .mov 31 (.t 30), .grd 31 false (.fadr 32 (.t 5) 0), .grd 31 false (.load 33 none (.t 32)), .grd 31 false (.call 34 48 [(.t 33), (.c (.int .i64 1))]), .grd 31 false (.un 35 .not (.t 34)), .pick 36 (.t 31) (.c (.bool true)) (.t 35), .mov 37 (.t 36), .grd 37 false (.fadr 38 (.t 5) 0), .grd 37 false (.load 39 none (.t 38)), .grd 37 false (.fadr 40 (.t 3) 0), .grd 37 false (.load 41 none (.t 40)), .grd 37 false (.bin 42 .leq (.t 39) (.t 41)), .pick 43 (.t 37) (.c (.bool true)) (.t 42)]) (.cond (.t 43) (.seq (.ops [.asg 2 (.c (.bool false))]) .ret) .skip)) (.ops [.load 44 (some 3) (.t 5), .store none 3 (.t 3) (.t 44)])))) (.ops [.bin 45 .add (.t 9) (.c (.int .i64 1)), .mov 9 (.t 45)]))))
def fn49_l1 : VCode :=
(.clean [0, 3, 7, 8, 9] [2] (.block 0 (.loop [0, 3, 7, 8, 9] fn49_b0)))
def fn49 : VFn := ⟨1, 46, [.tmp 2], (.seq (.ops [.asg 2 (.c (.bool false))]) (.seq (.ops [.build 6 [(.int .i64 0), (.int .i64 0), (.int .i64 0)] [], .alloc 3 [(.int .i64 0), (.int .i64 0), (.int .i64 0)], .store none 3 (.t 3) (.t 6)]) (.seq (.seq (.ops [.mov 7 (.t 0), .len 8 (.t 7), .mov 9 (.c (.int .i64 0))])
     fn49_l1) (.seq (.ops [.asg 2 (.c (.bool true))]) .ret))))⟩
def fn50 : VFn := ⟨1, 6, [.tmp 2], (.seq (.ops [.asg 2 (.c (.int .i64 0))]) (.seq (.ops [.mov 3 (.t 0), .call 4 83 [(.t 3)], .call 5 82 [(.t 4)], .asg 2 (.t 5)]) .ret))⟩
def fn51 : VFn := ⟨1, 39, [.tmp 2], (.seq (.ops [.box 1 (.t 0), .asg 2 (.c (.int .i64 0))]) (.seq (.seq (.drw [] [([0, 1, 2, 3, 4, 5, 6, 7, 8, 9, 10, 11, 12, 13], 14)] none [15, 16] [.fadr 4 (.t 1) 0, .load 5 none (.t 4), .bin 6 .lss (.t 5) (.c (.int .i64 0)), .mov 7 (.t 6), .grd 7 false (.fadr 8 (.t 1) 0), .grd 7 false (.load 9 none (.t 8)), .grd 7 false (.bin 10 .gtr (.t 9) (.c (.int .i64 4096))), .pick 11 (.t 7) (.c (.bool true)) (.t 10), .mov 12 (.t 11), .grd 12 false (.fadr 13 (.t 1) 1), .grd 12 false (.load 14 none (.t 13)), .grd 12 false (.len 15 (.t 14)), .grd 12 false (.fadr 16 (.t 1) 0), .grd 12 false (.load 17 none (.t 16)), .grd 12 false (.call 18 84 [(.t 17)]), .grd 12 false (.bin 19 .neq (.t 15) (.t 18)), .pick 20 (.t 12) (.c (.bool true)) (.t 19)]) (.cond (.t 20) (.seq (.ops [.asg 2 (.c (.int .i64 3))]) .ret) .skip)) (.seq (.seq (.ops [.fadr 21 (.t 1) 0, .load 22 none (.t 21), .bin 23 .rem (.t 22) (.c (.int .i64 64)), .asg 3 (.t 23)]) (.seq (.ops [.mov 24 (.t 3), .bin 25 .gtr (.t 24) (.c (.int .i64 0)), .mov 26 (.t 25), .grd 26 true (.fadr 27 (.t 1) 1), .grd 26 true (.load 28 none (.t 27)), .grd 26 true (.fadr 29 (.t 1) 1), .grd 26 true (.load 30 none (.t 29)), .grd 26 true (.len 31 (.t 30)), .grd 26 true (.bin 32 .sub (.t 31) (.c (.int .i64 1))), .grd 26 true (.iadr 33 1 (.t 28) (.t 32)), .grd 26 true (.load 34 none (.t 33)), .grd 26 true (.mov 35 (.t 3)), .grd 26 true (.bin 36 .shr (.t 34) (.t 35)), .grd 26 true (.bin 37 .neq (.t 36) (.c (.int .u64 0))), .pick 38 (.t 26) (.t 37) (.c (.bool false))]) (.cond (.t 38) (.seq (.ops [.asg 2 (.c (.int .i64 3))]) .ret) .skip))) (.seq (.ops [.asg 2 (.c (.int .i64 0))]) .ret))))⟩
def fn52 : VFn := ⟨1, 6, [.tmp 2], (.seq (.ops [.asg 2 (.c (.int .i64 0))]) (.seq (.ops [.mov 3 (.t 0), .call 4 86 [(.t 3)], .call 5 85 [(.t 4)], .asg 2 (.t 5)]) .ret))⟩
def fn53_b0 : VCode := (.seq (.seq (.ops [.mov 24 (.t 3), .fadr 25 (.t 1) 1, .load 26 none (.t 25), .len 27 (.t 26), .bin 28 .mul (.c (.int .i64 64)) (.t 27), .bin 29 .lss (.t 24) (.t 28)]) (.cond (.t 29) .skip (.exit 0))) (.seq (.block 1 (.seq (.ops [.load 32 (some 2) (.t 1), .mov 33 (.t 3), .call 34 87 [(.t 32), (.t 33)]]) (.cond (.t 34) (.seq (.ops [.asg 2 (.c (.int .i64 3))]) .ret) .skip))) (.ops [.mov 30 (.t 3), .bin 31 .add (.t 30) (.c (.int .i64 1)), .asg 3 (.t 31)])))
def fn53_l1 : VCode :=
(.clean [1, 3] [2] (.block 0 (.loop [1, 3] fn53_b0)))
def fn53 : VFn := ⟨1, 35, [.tmp 2], (.seq (.ops [.box 1 (.t 0), .asg 2 (.c (.int .i64 0))]) (.seq (.seq (.ops [.fadr 4 (.t 1) 0, .load 5 none (.t 4), .bin 6 .lss (.t 5) (.c (.int .i64 0)), .mov 7 (.t 6), .grd 7 false (.fadr 8 (.t 1) 0), .grd 7 false (.load 9 none (.t 8)), .grd 7 false (.bin 10 .gtr (.t 9) (.c (.int .i64 4096))), .pick 11 (.t 7) (.c (.bool true)) (.t 10), .mov 12 (.t 11), .grd 12 false (.fadr 13 (.t 1) 1), .grd 12 false (.load 14 none (.t 13)), .grd 12 false (.len 15 (.t 14)), .grd 12 false (.fadr 16 (.t 1) 0), .grd 12 false (.load 17 none (.t 16)), .grd 12 false (.bin 18 .add (.t 17) (.c (.int .i64 63))), .grd 12 false (.bin 19 .quo (.t 18) (.c (.int .i64 64))), .grd 12 false (.bin 20 .neq (.t 15) (.t 19)), .pick 21 (.t 12) (.c (.bool true)) (.t 20)]) (.cond (.t 21) (.seq (.ops [.asg 2 (.c (.int .i64 3))]) .ret) .skip)) (.seq (.seq (.ops [.fadr 22 (.t 1) 0, .load 23 none (.t 22), .asg 3 (.t 23)])
     fn53_l1) (.seq (.ops [.asg 2 (.c (.int .i64 0))]) .ret))))⟩
def fn54_b0 : VCode := (.seq (.ops [.bin 18 .lss (.t 17) (.t 16)]) (.seq (.cond (.t 18) .skip (.exit 0)) (.seq (.block 1 (.seq (.ops [.mov 19 (.t 17), .iadr 20 1 (.t 15) (.t 17), .load 21 none (.t 20), .asg 7 (.t 19), .asg 8 (.t 21)]) (.seq (.ops [.mov 22 (.t 1), .mov 23 (.t 7), .iadr 24 1 (.t 22) (.t 23), .load 25 none (.t 24), .asg 9 (.t 25)]) (.seq (.ops [.mov 26 (.t 2), .mov 27 (.t 8), .mov 28 (.t 9), .callv 29 (.t 26) [(.t 27), (.t 28)], .un 30 .not (.t 29)]) (.cond (.t 30) (.seq (.ops [.asg 6 (.c (.bool false))]) .ret) .skip))))) (.ops [.bin 31 .add (.t 17) (.c (.int .i64 1)), .mov 17 (.t 31)]))))
def fn54_l1 : VCode :=
(.clean [0, 1, 2, 15, 16, 17] [6] (.block 0 (.loop [0, 1, 2, 15, 16, 17] fn54_b0)))
def fn54 : VFn := ⟨3, 32, [.tmp 6], (.seq (.ops [.asg 6 (.c (.bool false))]) (.seq (.seq (.ops [.mov 10 (.t 0), .len 11 (.t 10), .mov 12 (.t 1), .len 13 (.t 12), .bin 14 .neq (.t 11) (.t 13)]) (.cond (.t 14) (.seq (.ops [.asg 6 (.c (.bool false))]) .ret) .skip)) (.seq (.seq (.ops [.mov 15 (.t 0), .len 16 (.t 15), .mov 17 (.c (.int .i64 0))])
     fn54_l1) (.seq (.ops [.asg 6 (.c (.bool true))]) .ret))))⟩
def fn55 : VFn := ⟨2, 8, [.tmp 4], (.seq (.ops [.asg 4 (.c (.bool false))]) (.seq (.ops [.mov 5 (.t 0), .mov 6 (.t 1), .call 7 43 [(.t 5), (.t 6)], .asg 4 (.t 7)]) .ret))⟩
def fn56_b0 : VCode := (.seq (.ops [.bin 11 .lss (.t 10) (.t 9)]) (.seq (.cond (.t 11) .skip (.exit 0)) (.seq (.block 1 (.seq (.ops [.iadr 12 4 (.t 8) (.t 10), .load 13 (some 4) (.t 12), .alloc 4 [(.int .i64 0), (.list 0 []), (.list 0 []), (.list 0 [])], .store none 4 (.t 4) (.t 13)]) (.seq (.ops [.load 14 (some 4) (.t 4), .call 15 15 [(.t 14)], .asg 5 (.t 15)]) (.seq (.ops [.mov 16 (.t 5), .bin 17 .neq (.t 16) (.c (.int .i64 0))]) (.cond (.t 17) (.seq (.ops [.mov 18 (.t 5), .asg 2 (.t 18)]) .ret) .skip))))) (.ops [.bin 19 .add (.t 10) (.c (.int .i64 1)), .mov 10 (.t 19)]))))
def fn56_l1 : VCode :=
(.clean [0, 8, 9, 10] [0, 2] (.block 0 (.loop [0, 8, 9, 10] fn56_b0)))
def fn56_b2 : VCode := (.seq (.ops [.bin 31 .lss (.t 30) (.t 29)]) (.seq (.cond (.t 31) .skip (.exit 2)) (.seq (.block 3 (.seq (.ops [.iadr 32 4 (.t 28) (.t 30), .load 33 (some 4) (.t 32), .alloc 7 [(.int .i64 0), (.list 0 []), (.list 0 []), (.list 0 [])], .store none 4 (.t 7) (.t 33)]) (.seq (.drw [] [([0, 1, 2, 3, 4, 5], 6)] none [7] [.fadr 34 (.t 7) 3, .load 35 none (.t 34), .mov 36 (.t 0), .iadr 37 4 (.t 36) (.c (.int .i64 0)), .fadr 38 (.t 37) 3, .load 39 none (.t 38), .call 40 44 [(.t 35), (.t 39)], .un 41 .not (.t 40)]) (.cond (.t 41) (.seq (.ops [.asg 2 (.c (.int .i64 22))]) .ret) .skip)))) (.ops [.bin 42 .add (.t 30) (.c (.int .i64 1)), .mov 30 (.t 42)]))))
def fn56_l3 : VCode :=
(.clean [0, 28, 29, 30] [2] (.block 2 (.loop [0, 28, 29, 30] fn56_b2)))
def fn56 : VFn := ⟨1, 43, [.tmp 2], (.seq (.ops [.asg 2 (.c (.int .i64 0))]) (.seq (.seq (.ops [.mov 8 (.t 0), .len 9 (.t 8), .mov 10 (.c (.int .i64 0))])
    fn56_l1) (.seq (.seq (.ops [.mov 20 (.t 0), .len 21 (.t 20), .bin 22 .lss (.t 21) (.c (.int .i64 1)), .mov 23 (.t 22), .grd 23 false (.mov 24 (.t 0)), .grd 23 false (.len 25 (.t 24)), .grd 23 false (.bin 26 .gtr (.t 25) (.c (.int .i64 4))), .pick 27 (.t 23) (.c (.bool true)) (.t 26)]) (.cond (.t 27) (.seq (.ops [.asg 2 (.c (.int .i64 6))]) .ret) .skip)) (.seq (.seq (.ops [.mov 28 (.t 0), .len 29 (.t 28), .mov 30 (.c (.int .i64 0))])
      fn56_l3) (.seq (.ops [.asg 2 (.c (.int .i64 0))]) .ret)))))⟩
def fn57_b0 : VCode := (.seq (.ops [.bin 13 .lss (.t 12) (.t 11)]) (.seq (.cond (.t 13) .skip (.exit 0)) (.seq (.block 1 (.seq (.ops [.mov 14 (.t 12), .iadr 15 4 (.t 10) (.t 12), .load 16 (some 4) (.t 15), .alloc 9 [(.int .i64 0), (.list 0 []), (.list 0 []), (.list 0 [])], .asg 8 (.t 14), .store none 4 (.t 9) (.t 16)]) (.seq (.drw [] [([0, 1], 2), ([3, 4, 5, 6, 7, 8, 9, 10, 11, 12], 13)] none [14, 15, 16] [.mov 17 (.t 1), .mov 18 (.t 8), .callv 19 (.t 17) [(.t 18)], .mov 20 (.t 19), .grd 20 true (.mov 21 (.t 7)), .grd 20 true (.bin 22 .lss (.t 21) (.c (.int .i64 0))), .grd 20 true (.mov 23 (.t 22)), .grd 23 false (.mov 24 (.t 2)), .grd 23 false (.load 25 (some 4) (.t 9)), .grd 23 false (.mov 26 (.t 0)), .grd 23 false (.mov 27 (.t 7)), .grd 23 false (.iadr 28 4 (.t 26) (.t 27)), .grd 23 false (.load 29 (some 4) (.t 28)), .grd 23 false (.callv 30 (.t 24) [(.t 25), (.t 29)]), .grd 23 false (.bin 31 .gtr (.t 30) (.c (.int .i64 0))), .grd 20 true (.pick 32 (.t 23) (.c (.bool true)) (.t 31)), .pick 33 (.t 20) (.t 32) (.c (.bool false))]) (.cond (.t 33) (.ops [.mov 34 (.t 8), .asg 7 (.t 34)]) .skip)))) (.ops [.bin 35 .add (.t 12) (.c (.int .i64 1)), .mov 12 (.t 35)]))))
def fn57_l1 : VCode :=
(.clean [0, 1, 2, 7, 10, 11, 12] [6, 7] (.block 0 (.loop [0, 1, 2, 7, 10, 11, 12] fn57_b0)))
def fn57 : VFn := ⟨3, 37, [.tmp 6], (.seq (.ops [.asg 6 (.c (.int .i64 0))]) (.seq (.ops [.asg 7 (.c (.int .i64 (-1)))]) (.seq (.seq (.ops [.mov 10 (.t 0), .len 11 (.t 10), .mov 12 (.c (.int .i64 0))])
     fn57_l1) (.seq (.ops [.mov 36 (.t 7), .asg 6 (.t 36)]) .ret))))⟩
def fn58 : VFn := ⟨2, 9, [.tmp 3], (.seq (.ops [.asg 3 (.c (.bool false))]) (.seq (.ops [.load 4 none (.t 1), .mov 5 (.t 0), .iadr 6 1 (.t 4) (.t 5), .load 7 none (.t 6), .un 8 .not (.t 7), .asg 3 (.t 8)]) .ret))⟩
def fn59 : VFn := ⟨2, 16, [.tmp 4], (.seq (.ops [.box 2 (.t 0), .box 3 (.t 1), .asg 4 (.c (.int .i64 0))]) (.seq (.drs [] [5, 6] [.fadr 7 (.t 2) 1, .load 8 none (.t 7), .call 9 60 [(.t 8)], .fadr 10 (.t 3) 1, .load 11 none (.t 10), .call 12 60 [(.t 11)], .alloc 5 [(.int .i64 0), (.int .i64 0)], .alloc 6 [(.int .i64 0), (.int .i64 0)], .store none 2 (.t 5) (.t 9), .store none 2 (.t 6) (.t 12)]
    [⟨[([0, 1, 3, 4], 2), ([], 5), ([], 6), ([], 7)], (some ([], [], 8, [([], 9)])), [], [0, 1, 3, 4, 2, 5, 6, 7, 8, 9], false⟩, ⟨[([0, 1, 3, 4], 2), ([], 5), ([], 7), ([], 6)], (some ([], [], 8, [([], 9)])), [], [0, 1, 3, 4, 2, 5, 7, 6, 8, 9], true⟩, ⟨[([0, 1, 3, 4], 2), ([], 6), ([], 5), ([], 7)], (some ([], [], 8, [([], 9)])), [], [0, 1, 3, 4, 2, 6, 5, 7, 8, 9], false⟩, ⟨[([0, 1, 3, 4], 2), ([], 6), ([], 7), ([], 5)], (some ([], [], 8, [([], 9)])), [], [0, 1, 3, 4, 2, 6, 7, 5, 8, 9], false⟩, ⟨[([0, 1, 3, 4], 2), ([], 7), ([], 5), ([], 6)], (some ([], [], 8, [([], 9)])), [], [0, 1, 3, 4, 2, 7, 5, 6, 8, 9], true⟩, ⟨[([0, 1, 3, 4], 2), ([], 7), ([], 6), ([], 5)], (some ([], [], 8, [([], 9)])), [], [0, 1, 3, 4, 2, 7, 6, 5, 8, 9], true⟩, ⟨[([0, 1, 3, 4], 6), ([], 2), ([], 5), ([], 7)], (some ([], [], 8, [([], 9)])), [], [0, 1, 3, 4, 6, 2, 5, 7, 8, 9], false⟩, ⟨[([0, 1, 3, 4], 6), ([], 2), ([], 7), ([], 5)], (some ([], [], 8, [([], 9)])), [], [0, 1, 3, 4, 6, 2, 7, 5, 8, 9], false⟩, ⟨[([0, 1, 3, 4], 6), ([], 7), ([], 2), ([], 5)], (some ([], [], 8, [([], 9)])), [], [0, 1, 3, 4, 6, 7, 2, 5, 8, 9], false⟩, ⟨[([0, 1, 3, 4], 7), ([], 2), ([], 5), ([], 6)], (some ([], [], 8, [([], 9)])), [], [0, 1, 3, 4, 7, 2, 5, 6, 8, 9], true⟩, ⟨[([0, 1, 3, 4], 7), ([], 2), ([], 6), ([], 5)], (some ([], [], 8, [([], 9)])), [], [0, 1, 3, 4, 7, 2, 6, 5, 8, 9], true⟩, ⟨[([0, 1, 3, 4], 7), ([], 6), ([], 2), ([], 5)], (some ([], [], 8, [([], 9)])), [], [0, 1, 3, 4, 7, 6, 2, 5, 8, 9], true⟩]) (.seq (.drw [] [([0, 1], 2)] none [3] [.asl 13 2 (.t 5), .asl 14 2 (.t 6), .call 15 61 [(.t 13), (.t 14)], .asg 4 (.t 15)]) .ret)))⟩
def fn60 : VFn := ⟨1, 19, [.cell 2 (some 2)], (.seq (.ops [.alloc 2 [(.int .i64 0), (.int .i64 0)]]) (.seq (.seq (.ops [.mov 4 (.t 0), .len 5 (.t 4), .bin 6 .eql (.t 5) (.c (.int .i64 0))]) (.cond (.t 6) (.seq (.ops [.build 7 [(.int .i64 0), (.int .i64 0)] [], .store none 2 (.t 2) (.t 7)]) .ret) .skip)) (.seq (.ops [.mov 8 (.t 0), .mov 9 (.t 0), .len 10 (.t 9), .bin 11 .sub (.t 10) (.c (.int .i64 1)), .iadr 12 3 (.t 8) (.t 11), .load 13 (some 3) (.t 12), .alloc 3 [(.int .i64 0), (.int .i64 0), (.int .i64 0)], .store none 3 (.t 3) (.t 13)]) (.seq (.ops [.fadr 14 (.t 3) 0, .load 15 none (.t 14), .fadr 16 (.t 3) 2, .load 17 none (.t 16), .build 18 [(.int .i64 0), (.int .i64 0)] [(0, 1, (.t 15)), (1, 1, (.t 17))], .store none 2 (.t 2) (.t 18)]) .ret))))⟩
def fn61_b0 : VCode := (.seq (.ops [.bin 12 .lss (.t 11) (.t 10)]) (.seq (.cond (.t 12) .skip (.exit 0)) (.seq (.block 1 (.seq (.ops [.mov 13 (.t 11), .iadr 14 1 (.t 9) (.t 11), .load 15 none (.t 14), .asg 5 (.t 13), .asg 6 (.t 15)]) (.seq (.seq (.ops [.mov 16 (.t 5), .mov 17 (.t 1), .len 18 (.t 17), .bin 19 .geq (.t 16) (.t 18)]) (.cond (.t 19) (.seq (.ops [.asg 4 (.c (.int .i64 1))]) .ret) .skip)) (.seq (.ops [.mov 20 (.t 1), .mov 21 (.t 5), .iadr 22 1 (.t 20) (.t 21), .load 23 none (.t 22), .asg 7 (.t 23)]) (.seq (.ops [.mov 24 (.t 6), .mov 25 (.t 7), .call 26 88 [(.t 24), (.t 25)], .asg 8 (.t 26)]) (.seq (.ops [.mov 27 (.t 8), .bin 28 .neq (.t 27) (.c (.int .i64 0))]) (.cond (.t 28) (.seq (.ops [.mov 29 (.t 8), .asg 4 (.t 29)]) .ret) .skip))))))) (.ops [.bin 30 .add (.t 11) (.c (.int .i64 1)), .mov 11 (.t 30)]))))
def fn61_l1 : VCode :=
(.clean [0, 1, 9, 10, 11] [0, 1, 4] (.block 0 (.loop [0, 1, 9, 10, 11] fn61_b0)))
def fn61 : VFn := ⟨2, 36, [.tmp 4], (.seq (.ops [.asg 4 (.c (.int .i64 0))]) (.seq (.seq (.ops [.mov 9 (.t 0), .len 10 (.t 9), .mov 11 (.c (.int .i64 0))])
    fn61_l1) (.seq (.seq (.ops [.mov 31 (.t 0), .len 32 (.t 31), .mov 33 (.t 1), .len 34 (.t 33), .bin 35 .lss (.t 32) (.t 34)]) (.cond (.t 35) (.seq (.ops [.asg 4 (.c (.int .i64 (-1)))]) .ret) .skip)) (.seq (.ops [.asg 4 (.c (.int .i64 0))]) .ret))))⟩
def fn64_b0 : VCode := (.seq (.seq (.ops [.mov 14 (.t 10), .fadr 15 (.t 7) 0, .load 16 none (.t 15), .fadr 17 (.t 7) 1, .load 18 none (.t 17), .bin 19 .add (.t 16) (.t 18), .bin 20 .lss (.t 14) (.t 19)]) (.cond (.t 20) .skip (.exit 0))) (.seq (.block 1 (.seq (.seq (.drw [] [] none [0, 1, 2, 3, 4, 5, 6, 7, 8] [.mov 23 (.t 1), .mov 24 (.t 10), .iadr 25 8 (.t 23) (.t 24), .load 26 (some 8) (.t 25), .mov 27 (.t 2), .mov 28 (.t 10), .iadr 29 8 (.t 27) (.t 28), .load 30 (some 8) (.t 29), .eqa 31 false 8 (.t 26) (.t 30)]) (.cond (.t 31) (.exit 1) .skip)) (.seq (.ops [.mov 32 (.t 9), .len 33 (.t 32), .asg 11 (.t 33)]) (.seq (.drw [] [] none [0, 1, 2, 3, 4, 5, 6, 7, 8, 9, 10, 11, 12, 13, 14, 15, 16, 17, 18, 19] [.mov 34 (.t 11), .bin 35 .gtr (.t 34) (.c (.int .i64 0)), .mov 36 (.t 35), .grd 36 true (.mov 37 (.t 9)), .grd 36 true (.mov 38 (.t 11)), .grd 36 true (.bin 39 .sub (.t 38) (.c (.int .i64 1))), .grd 36 true (.iadr 40 3 (.t 37) (.t 39)), .grd 36 true (.fadr 41 (.t 40) 1), .grd 36 true (.load 42 none (.t 41)), .grd 36 true (.mov 43 (.t 9)), .grd 36 true (.mov 44 (.t 11)), .grd 36 true (.bin 45 .sub (.t 44) (.c (.int .i64 1))), .grd 36 true (.iadr 46 3 (.t 43) (.t 45)), .grd 36 true (.fadr 47 (.t 46) 2), .grd 36 true (.load 48 none (.t 47)), .grd 36 true (.len 49 (.t 48)), .grd 36 true (.bin 50 .add (.t 42) (.t 49)), .grd 36 true (.mov 51 (.t 10)), .grd 36 true (.bin 52 .eql (.t 50) (.t 51)), .pick 53 (.t 36) (.t 52) (.c (.bool false))]) (.cond (.t 53) (.drw [] [([3, 4, 5, 6, 7, 8, 9, 10, 11, 12, 0, 1, 2], 13)] (some ([], [], 14, [([15, 16], 17)])) [] [.mov 57 (.t 9), .mov 58 (.t 11), .bin 59 .sub (.t 58) (.c (.int .i64 1)), .iadr 60 3 (.t 57) (.t 59), .fadr 61 (.t 60) 2, .load 62 none (.t 61), .mov 63 (.t 1), .mov 64 (.t 10), .iadr 65 8 (.t 63) (.t 64), .load 66 (some 8) (.t 65), .mov 54 (.t 9), .mov 55 (.t 11), .bin 56 .sub (.t 55) (.c (.int .i64 1)), .mksl 67 8 [(.t 66)], .app 68 8 (.t 62) (.t 67), .iadr 69 3 (.t 54) (.t 56), .fadr 70 (.t 69) 2, .store none 1 (.t 70) (.t 68)]) (.ops [.mov 71 (.t 9), .mov 72 (.t 0), .mov 73 (.t 10), .mov 74 (.t 1), .mov 75 (.t 10), .iadr 76 8 (.t 74) (.t 75), .load 77 (some 8) (.t 76), .mksl 78 8 [(.t 77)], .build 79 [(.int .i64 0), (.int .i64 0), (.list 0 [])] [(0, 1, (.t 72)), (1, 1, (.t 73)), (2, 1, (.t 78))], .mksl 80 3 [(.t 79)], .app 81 3 (.t 71) (.t 80), .asg 9 (.t 81)])))))) (.ops [.mov 21 (.t 10), .bin 22 .add (.t 21) (.c (.int .i64 1)), .asg 10 (.t 22)])))
def fn64_l1 : VCode :=
(.clean [0, 1, 2, 7, 9, 10, 81] [8, 9] (.block 0 (.loop [0, 1, 2, 7, 9, 10, 81] fn64_b0)))
def fn64 : VFn := ⟨4, 83, [.tmp 8], (.seq (.ops [.box 7 (.t 3), .asg 8 (.nil 3)]) (.seq (.ops [.asg 9 (.nil 3)]) (.seq (.seq (.ops [.fadr 12 (.t 7) 0, .load 13 none (.t 12), .asg 10 (.t 13)])
     fn64_l1) (.seq (.ops [.mov 82 (.t 9), .asg 8 (.t 82)]) .ret))))⟩
def fn65 : VFn := ⟨4, 25, [.tmp 8], (.seq (.ops [.box 4 (.t 0), .box 5 (.t 1), .asg 8 (.c (.bool false))]) (.seq (.ops [.fadr 9 (.t 4) 2, .load 10 none (.t 9), .mov 11 (.t 2), .iadr 12 2 (.t 10) (.t 11), .load 13 (some 2) (.t 12), .mov 14 (.t 3), .call 15 89 [(.t 13), (.t 14)], .mov 16 (.t 15), .grd 16 false (.fadr 17 (.t 5) 2), .grd 16 false (.load 18 none (.t 17)), .grd 16 false (.mov 19 (.t 2)), .grd 16 false (.iadr 20 2 (.t 18) (.t 19)), .grd 16 false (.load 21 (some 2) (.t 20)), .grd 16 false (.mov 22 (.t 3)), .grd 16 false (.call 23 89 [(.t 21), (.t 22)]), .pick 24 (.t 16) (.c (.bool true)) (.t 23), .asg 8 (.t 24)]) .ret))⟩
def fn66_b0 : VCode := (.seq (.seq (.ops [.mov 14 (.t 6), .mov 15 (.t 0), .len 16 (.t 15), .bin 17 .lss (.t 14) (.t 16)]) (.cond (.t 17) .skip (.exit 0))) (.seq (.block 1 (.seq (.drw [] [([0, 1, 2, 3, 4, 5], 6)] none [7] [.mov 20 (.t 1), .mov 21 (.t 0), .mov 22 (.t 6), .iadr 23 3 (.t 21) (.t 22), .load 24 (some 3) (.t 23), .load 25 (some 3) (.t 5), .callv 26 (.t 20) [(.t 24), (.t 25)], .bin 27 .lss (.t 26) (.c (.int .i64 0))]) (.cond (.t 27) (.ops [.mov 28 (.t 0), .mov 29 (.t 6), .iadr 30 3 (.t 28) (.t 29), .load 31 (some 3) (.t 30), .store none 3 (.t 5) (.t 31)]) .skip))) (.ops [.mov 18 (.t 6), .bin 19 .add (.t 18) (.c (.int .i64 1)), .asg 6 (.t 19)])))
def fn66_l1 : VCode :=
(.clean [0, 1, 4, 5, 6] [4, 5] (.block 0 (.loop [0, 1, 4, 5, 6] fn66_b0)))
def fn66 : VFn := ⟨2, 33, [.cell 4 (some 3)], (.seq (.ops [.alloc 4 [(.int .i64 0), (.int .i64 0), (.int .i64 0)]]) (.seq (.seq (.ops [.mov 7 (.t 0), .len 8 (.t 7), .bin 9 .lss (.t 8) (.c (.int .i64 1))]) (.cond (.t 9) (.drs [] [] []
      []) .skip)) (.seq (.ops [.mov 11 (.t 0), .iadr 12 3 (.t 11) (.c (.int .i64 0)), .load 13 (some 3) (.t 12), .alloc 5 [(.int .i64 0), (.int .i64 0), (.int .i64 0)], .store none 3 (.t 5) (.t 13)]) (.seq (.seq (.ops [.asg 6 (.c (.int .i64 1))])
      fn66_l1) (.seq (.ops [.load 32 (some 3) (.t 5), .store none 3 (.t 4) (.t 32)]) .ret)))))⟩
def fn67 : VFn := ⟨1, 5, [.tmp 2], (.seq (.ops [.asg 2 (.nil 3)]) (.seq (.ops [.mov 3 (.t 0), .call 4 90 [(.c (.nils 3)), (.t 3)], .asg 2 (.t 4)]) .ret))⟩
def fn68 : VFn := ⟨2, 6, [.tmp 4], (.seq (.ops [.box 2 (.t 0), .box 3 (.t 1), .asg 4 (.c .nilf)]) (.seq (.ops [.mkf 5 91 [(.t 2), (.t 3)], .asg 4 (.t 5)]) .ret))⟩
def fn69 : VFn := ⟨2, 22, [.tmp 4], (.seq (.ops [.box 2 (.t 0), .box 3 (.t 1), .asg 4 (.c (.int .i64 0))]) (.seq (.drw [] [([0, 1, 2, 3, 5, 6, 7, 8, 10, 11, 12, 13], 4), ([], 9), ([], 14), ([], 15), ([], 16)] none [17] [.fadr 5 (.t 2) 0, .load 6 none (.t 5), .fadr 7 (.t 3) 0, .load 8 none (.t 7), .fadr 10 (.t 2) 1, .load 11 none (.t 10), .fadr 12 (.t 3) 1, .load 13 none (.t 12), .fadr 15 (.t 2) 2, .load 16 none (.t 15), .fadr 17 (.t 3) 2, .load 18 none (.t 17), .call 9 88 [(.t 6), (.t 8)], .call 14 88 [(.t 11), (.t 13)], .call 19 88 [(.t 16), (.t 18)], .mksl 20 1 [(.t 9), (.t 14), (.t 19)], .call 21 93 [(.t 20)], .asg 4 (.t 21)]) .ret))⟩
def fn70_b0 : VCode := (.seq (.seq (.ops [.mov 11 (.t 5), .mov 12 (.t 0), .len 13 (.t 12), .bin 14 .lss (.t 11) (.t 13)]) (.cond (.t 14) .skip (.exit 0))) (.seq (.block 1 (.seq (.drw [] [] none [0, 1, 2, 3, 4, 5, 6, 7, 8] [.mov 17 (.t 0), .mov 18 (.t 5), .iadr 19 8 (.t 17) (.t 18), .load 20 (some 8) (.t 19), .mov 21 (.t 1), .mov 22 (.t 5), .iadr 23 8 (.t 21) (.t 22), .load 24 (some 8) (.t 23), .eqa 25 true 8 (.t 20) (.t 24)]) (.cond (.t 25) (.seq (.ops [.asg 4 (.c (.bool false))]) .ret) .skip))) (.ops [.mov 15 (.t 5), .bin 16 .add (.t 15) (.c (.int .i64 1)), .asg 5 (.t 16)])))
def fn70_l1 : VCode :=
(.clean [0, 1, 5] [4] (.block 0 (.loop [0, 1, 5] fn70_b0)))
def fn70 : VFn := ⟨2, 26, [.tmp 4], (.seq (.ops [.asg 4 (.c (.bool false))]) (.seq (.seq (.ops [.mov 6 (.t 0), .len 7 (.t 6), .mov 8 (.t 1), .len 9 (.t 8), .bin 10 .neq (.t 7) (.t 9)]) (.cond (.t 10) (.seq (.ops [.asg 4 (.c (.bool false))]) .ret) .skip)) (.seq (.seq (.ops [.asg 5 (.c (.int .i64 0))])
     fn70_l1) (.seq (.ops [.asg 4 (.c (.bool true))]) .ret))))⟩
def fn77_b0 : VCode := (.seq (.ops [.bin 18 .lss (.t 17) (.t 16)]) (.seq (.cond (.t 18) .skip (.exit 0)) (.seq (.block 1 (.seq (.ops [.mov 19 (.t 17), .iadr 20 1 (.t 15) (.t 17), .load 21 none (.t 20), .asg 7 (.t 19), .asg 8 (.t 21)]) (.seq (.ops [.mov 22 (.t 1), .mov 23 (.t 7), .iadr 24 1 (.t 22) (.t 23), .load 25 none (.t 24), .asg 9 (.t 25)]) (.seq (.ops [.mov 26 (.t 2), .mov 27 (.t 8), .mov 28 (.t 9), .callv 29 (.t 26) [(.t 27), (.t 28)], .un 30 .not (.t 29)]) (.cond (.t 30) (.seq (.ops [.asg 6 (.c (.bool false))]) .ret) .skip))))) (.ops [.bin 31 .add (.t 17) (.c (.int .i64 1)), .mov 17 (.t 31)]))))
def fn77_l1 : VCode :=
(.clean [0, 1, 2, 15, 16, 17] [6] (.block 0 (.loop [0, 1, 2, 15, 16, 17] fn77_b0)))
def fn77 : VFn := ⟨3, 32, [.tmp 6], (.seq (.ops [.asg 6 (.c (.bool false))]) (.seq (.seq (.ops [.mov 10 (.t 0), .len 11 (.t 10), .mov 12 (.t 1), .len 13 (.t 12), .bin 14 .neq (.t 11) (.t 13)]) (.cond (.t 14) (.seq (.ops [.asg 6 (.c (.bool false))]) .ret) .skip)) (.seq (.seq (.ops [.mov 15 (.t 0), .len 16 (.t 15), .mov 17 (.c (.int .i64 0))])
     fn77_l1) (.seq (.ops [.asg 6 (.c (.bool true))]) .ret))))⟩
def fn79 : VFn := ⟨2, 10, [.tmp 4], (.seq (.ops [.asg 4 (.c (.bool false))]) (.seq (.ops [.mov 5 (.t 0), .len 6 (.t 5), .mov 7 (.t 1), .len 8 (.t 7), .bin 9 .eql (.t 6) (.t 8), .asg 4 (.t 9)]) .ret))⟩
def fn80 : VFn := ⟨2, 11, [.cell 4 (some 2), .tmp 5], (.seq (.ops [.box 2 (.t 0), .box 3 (.t 1), .alloc 4 [(.int .i64 0), (.list 1 [])], .asg 5 (.c (.int .i64 0))]) (.seq (.ops [.load 6 (some 2) (.t 2), .load 7 (some 2) (.t 3), .call 8 99 [(.t 6), (.t 7), (.c (.func 100 []))], .ext 9 (.t 8) 0, .ext 10 (.t 8) 1, .store none 2 (.t 4) (.t 9), .asg 5 (.t 10)]) .ret))⟩
def fn81_b0 : VCode := (.ops [.asg 4 (.t 8)])
def fn81_b1 : VCode := (.block 1 (.seq (.seq (.ops [.load 9 none (.t 3), .len 10 (.t 9), .asg 5 (.t 10)]) (.seq (.drw [] [] none [0, 1, 2, 3, 4, 5, 6, 7, 8, 9, 10, 11, 12, 13, 14, 15, 16, 17, 18] [.mov 11 (.t 5), .bin 12 .gtr (.t 11) (.c (.int .i64 0)), .mov 13 (.t 12), .grd 13 true (.load 14 none (.t 3)), .grd 13 true (.mov 15 (.t 5)), .grd 13 true (.bin 16 .sub (.t 15) (.c (.int .i64 1))), .grd 13 true (.iadr 17 2 (.t 14) (.t 16)), .grd 13 true (.fadr 18 (.t 17) 0), .grd 13 true (.load 19 none (.t 18)), .grd 13 true (.load 20 none (.t 3)), .grd 13 true (.mov 21 (.t 5)), .grd 13 true (.bin 22 .sub (.t 21) (.c (.int .i64 1))), .grd 13 true (.iadr 23 2 (.t 20) (.t 22)), .grd 13 true (.fadr 24 (.t 23) 1), .grd 13 true (.load 25 none (.t 24)), .grd 13 true (.bin 26 .add (.t 19) (.t 25)), .grd 13 true (.mov 27 (.t 4)), .grd 13 true (.bin 28 .eql (.t 26) (.t 27)), .pick 29 (.t 13) (.t 28) (.c (.bool false))]) (.cond (.t 29) (.seq (.ops [.load 30 none (.t 3), .mov 31 (.t 5), .bin 32 .sub (.t 31) (.c (.int .i64 1)), .iadr 33 2 (.t 30) (.t 32), .fadr 34 (.t 33) 1, .load 35 none (.t 34), .bin 36 .add (.t 35) (.c (.int .i64 1)), .iadr 37 2 (.t 30) (.t 32), .fadr 38 (.t 37) 1, .store none 1 (.t 38) (.t 36)]) (.exit 1)) .skip))) (.ops [.load 39 none (.t 3), .mov 40 (.t 4), .build 41 [(.int .i64 0), (.int .i64 0)] [(0, 1, (.t 40)), (1, 1, (.c (.int .i64 1)))], .mksl 42 2 [(.t 41)], .app 43 2 (.t 39) (.t 42), .store none 1 (.t 3) (.t 43)])))
def fn81 : VFn := ⟨1, 45, [.tmp 2], (.seq (.ops [.box 1 (.t 0), .asg 2 (.nil 2)]) (.seq (.ops [.alloc 3 [(.list 2 [])]]) (.seq (.seq (.ops [.load 6 (some 2) (.t 1), .call 7 101 [(.t 6), (.c (.int .i64 0))]]) (.block 0 (.rng (.t 7) [8] fn81_b0 fn81_b1))) (.seq (.ops [.load 44 none (.t 3), .asg 2 (.t 44)]) .ret))))⟩
def fn82 : VFn := ⟨1, 13, [.tmp 2], (.seq (.ops [.asg 2 (.c (.int .i64 0))]) (.seq (.seq (.ops [.mov 3 (.t 0), .len 4 (.t 3), .bin 5 .lss (.t 4) (.c (.int .i64 1)), .mov 6 (.t 5), .grd 6 false (.mov 7 (.t 0)), .grd 6 false (.len 8 (.t 7)), .grd 6 false (.bin 9 .gtr (.t 8) (.c (.int .i64 8))), .pick 10 (.t 6) (.c (.bool true)) (.t 9)]) (.cond (.t 10) (.seq (.ops [.asg 2 (.c (.int .i64 6))]) .ret) .skip)) (.seq (.seq (.ops [.mov 11 (.t 0), .call 12 102 [(.t 11), (.c (.func 103 []))]]) (.cond (.t 12) (.seq (.ops [.asg 2 (.c (.int .i64 2))]) .ret) .skip)) (.seq (.ops [.asg 2 (.c (.int .i64 0))]) .ret))))⟩
def fn83 : VFn := ⟨1, 5, [.tmp 2], (.seq (.ops [.asg 2 (.nil 1)]) (.seq (.ops [.mov 3 (.t 0), .call 4 104 [(.t 3), (.c (.func 105 []))], .asg 2 (.t 4)]) .ret))⟩
def fn84 : VFn := ⟨1, 7, [.tmp 2], (.seq (.ops [.asg 2 (.c (.int .i64 0))]) (.seq (.ops [.mov 3 (.t 0), .bin 4 .add (.t 3) (.c (.int .i64 64)), .bin 5 .sub (.t 4) (.c (.int .i64 1)), .bin 6 .quo (.t 5) (.c (.int .i64 64)), .asg 2 (.t 6)]) .ret))⟩
def fn85_b0 : VCode := (.seq (.seq (.ops [.mov 12 (.t 3), .mov 13 (.t 0), .len 14 (.t 13), .bin 15 .lss (.t 12) (.t 14)]) (.cond (.t 15) .skip (.exit 0))) (.seq (.block 1 (.seq (.ops [.mov 18 (.t 0), .mov 19 (.t 3), .iadr 20 1 (.t 18) (.t 19), .load 21 none (.t 20), .bin 22 .lss (.t 21) (.c (.int .i64 1)), .mov 23 (.t 22), .grd 23 false (.mov 24 (.t 0)), .grd 23 false (.mov 25 (.t 3)), .grd 23 false (.iadr 26 1 (.t 24) (.t 25)), .grd 23 false (.load 27 none (.t 26)), .grd 23 false (.bin 28 .gtr (.t 27) (.c (.int .i64 4096))), .pick 29 (.t 23) (.c (.bool true)) (.t 28)]) (.cond (.t 29) (.seq (.ops [.asg 2 (.c (.int .i64 2))]) .ret) .skip))) (.ops [.mov 16 (.t 3), .bin 17 .add (.t 16) (.c (.int .i64 1)), .asg 3 (.t 17)])))
def fn85_l1 : VCode :=
(.clean [0, 3] [2] (.block 0 (.loop [0, 3] fn85_b0)))
def fn85 : VFn := ⟨1, 30, [.tmp 2], (.seq (.ops [.asg 2 (.c (.int .i64 0))]) (.seq (.seq (.ops [.mov 4 (.t 0), .len 5 (.t 4), .bin 6 .lss (.t 5) (.c (.int .i64 1)), .mov 7 (.t 6), .grd 7 false (.mov 8 (.t 0)), .grd 7 false (.len 9 (.t 8)), .grd 7 false (.bin 10 .gtr (.t 9) (.c (.int .i64 8))), .pick 11 (.t 7) (.c (.bool true)) (.t 10)]) (.cond (.t 11) (.seq (.ops [.asg 2 (.c (.int .i64 6))]) .ret) .skip)) (.seq (.seq (.ops [.asg 3 (.c (.int .i64 0))])
     fn85_l1) (.seq (.ops [.asg 2 (.c (.int .i64 0))]) .ret))))⟩
def fn86_b0 : VCode := (.seq (.seq (.ops [.mov 5 (.t 4), .mov 6 (.t 0), .len 7 (.t 6), .bin 8 .lss (.t 5) (.t 7)]) (.cond (.t 8) .skip (.exit 0))) (.seq (.block 1 (.ops [.mov 11 (.t 3), .mov 12 (.t 0), .mov 13 (.t 4), .iadr 14 1 (.t 12) (.t 13), .load 15 none (.t 14), .len 16 (.t 15), .mksl 17 1 [(.t 16)], .app 18 1 (.t 11) (.t 17), .asg 3 (.t 18)])) (.ops [.mov 9 (.t 4), .bin 10 .add (.t 9) (.c (.int .i64 1)), .asg 4 (.t 10)])))
def fn86_l1 : VCode :=
(.clean [0, 3, 4, 18] [2, 3] (.block 0 (.loop [0, 3, 4, 18] fn86_b0)))
def fn86 : VFn := ⟨1, 20, [.tmp 2], (.seq (.ops [.asg 2 (.nil 1)]) (.seq (.ops [.asg 3 (.nil 1)]) (.seq (.seq (.ops [.asg 4 (.c (.int .i64 0))])
     fn86_l1) (.seq (.ops [.mov 19 (.t 3), .asg 2 (.t 19)]) .ret))))⟩
def fn87 : VFn := ⟨2, 17, [.tmp 4], (.seq (.ops [.box 2 (.t 0), .asg 4 (.c (.bool false))]) (.seq (.ops [.fadr 5 (.t 2) 1, .load 6 none (.t 5), .mov 7 (.t 1), .bin 8 .quo (.t 7) (.c (.int .i64 64)), .iadr 9 1 (.t 6) (.t 8), .load 10 none (.t 9), .mov 11 (.t 1), .bin 12 .rem (.t 11) (.c (.int .i64 64)), .conv 13 .u64 (.t 12), .bin 14 .shr (.t 10) (.t 13), .bin 15 .and (.t 14) (.c (.int .u64 1)), .bin 16 .eql (.t 15) (.c (.int .u64 1)), .asg 4 (.t 16)]) .ret))⟩
def fn88 : VFn := ⟨2, 20, [.tmp 4], (.seq (.ops [.asg 4 (.c (.int .i64 0))]) (.seq (.ops [.mov 7 (.t 0), .call 8 106 [(.t 7)], .asg 5 (.t 8)]) (.seq (.ops [.mov 9 (.t 1), .call 10 106 [(.t 9)], .asg 6 (.t 10)]) (.seq (.seq (.ops [.mov 11 (.t 5)]) (.cond (.t 11) (.seq (.seq (.ops [.mov 12 (.t 6)]) (.cond (.t 12) (.seq (.ops [.asg 4 (.c (.int .i64 0))]) .ret) .skip)) (.seq (.ops [.asg 4 (.c (.int .i64 (-1)))]) .ret)) .skip)) (.seq (.seq (.ops [.mov 13 (.t 6)]) (.cond (.t 13) (.seq (.ops [.asg 4 (.c (.int .i64 1))]) .ret) .skip)) (.seq (.seq (.ops [.mov 14 (.t 0), .mov 15 (.t 1), .bin 16 .lss (.t 14) (.t 15)]) (.cond (.t 16) (.seq (.ops [.asg 4 (.c (.int .i64 (-1)))]) .ret) .skip)) (.seq (.seq (.ops [.mov 17 (.t 0), .mov 18 (.t 1), .bin 19 .gtr (.t 17) (.t 18)]) (.cond (.t 19) (.seq (.ops [.asg 4 (.c (.int .i64 1))]) .ret) .skip)) (.seq (.ops [.asg 4 (.c (.int .i64 0))]) .ret))))))))⟩
def fn89 : VFn := ⟨2, 23, [.tmp 4], (.seq (.ops [.box 2 (.t 0), .asg 4 (.c (.bool false))]) (.seq (.ops [.load 5 (some 2) (.t 2), .call 6 53 [(.t 5)], .bin 7 .eql (.t 6) (.c (.int .i64 0)), .mov 8 (.t 7), .grd 8 true (.mov 9 (.t 1)), .grd 8 true (.bin 10 .geq (.t 9) (.c (.int .i64 0))), .pick 11 (.t 8) (.t 10) (.c (.bool false)), .mov 12 (.t 11), .grd 12 true (.mov 13 (.t 1)), .grd 12 true (.fadr 14 (.t 2) 0), .grd 12 true (.load 15 none (.t 14)), .grd 12 true (.bin 16 .lss (.t 13) (.t 15)), .pick 17 (.t 12) (.t 16) (.c (.bool false)), .mov 18 (.t 17), .grd 18 true (.load 19 (some 2) (.t 2)), .grd 18 true (.mov 20 (.t 1)), .grd 18 true (.call 21 87 [(.t 19), (.t 20)]), .pick 22 (.t 18) (.t 21) (.c (.bool false)), .asg 4 (.t 22)]) .ret))⟩
def fn90_b0 : VCode := (.ops [.alloc 5 [(.int .i64 0), (.int .i64 0), (.int .i64 0)], .store none 3 (.t 5) (.t 7)])
def fn90_b1 : VCode := (.block 1 (.ops [.load 8 none (.t 2), .load 9 (some 3) (.t 5), .mksl 10 3 [(.t 9)], .app 11 3 (.t 8) (.t 10), .store none 1 (.t 2) (.t 11)]))
def fn90 : VFn := ⟨2, 13, [.tmp 4], (.seq (.ops [.box 2 (.t 0), .asg 4 (.nil 3)]) (.seq (.seq (.ops [.mov 6 (.t 1)]) (.block 0 (.rng (.t 6) [7] fn90_b0 fn90_b1))) (.seq (.ops [.load 12 none (.t 2), .asg 4 (.t 12)]) .ret)))⟩
def fn91_b0 : VCode := (.seq (.ops [.bin 14 .lss (.t 13) (.t 12)]) (.seq (.cond (.t 14) .skip (.exit 2)) (.seq (.block 3 (.seq (.ops [.mov 15 (.t 13), .asg 5 (.t 15)]) (.seq (.drw [] [([0, 1, 2, 3, 4, 5, 6, 7, 8, 9, 10, 11, 12, 13, 14, 15, 16, 17, 18, 19, 20, 22, 23], 21)] (some ([24], [], 25, [])) [26, 27] [.load 16 none (.t 2), .mov 17 (.t 4), .iadr 18 1 (.t 16) (.t 17), .load 19 none (.t 18), .mov 20 (.t 19), .grd 20 true (.load 21 none (.t 2)), .grd 20 true (.mov 22 (.t 5)), .grd 20 true (.iadr 23 1 (.t 21) (.t 22)), .grd 20 true (.load 24 none (.t 23)), .grd 20 true (.un 25 .not (.t 24)), .pick 26 (.t 20) (.t 25) (.c (.bool false)), .mov 27 (.t 26), .grd 27 true (.mov 28 (.t 0)), .grd 27 true (.load 29 none (.t 1)), .grd 27 true (.mov 30 (.t 4)), .grd 27 true (.iadr 31 4 (.t 29) (.t 30)), .grd 27 true (.load 32 (some 4) (.t 31)), .grd 27 true (.load 33 none (.t 1)), .grd 27 true (.mov 34 (.t 5)), .grd 27 true (.iadr 35 4 (.t 33) (.t 34)), .grd 27 true (.load 36 (some 4) (.t 35)), .grd 27 true (.mov 38 (.t 5)), .grd 27 true (.mov 39 (.t 4)), .grd 27 true (.call 37 92 [(.t 32), (.t 36)]), .grd 27 true (.build 40 [(.int .i64 0), (.int .i64 0), (.int .i64 0)] [(0, 1, (.t 37)), (1, 1, (.t 38)), (2, 1, (.t 39))]), .grd 27 true (.yield 41 (.t 28) [(.t 40)]), .grd 27 true (.un 42 .not (.t 41)), .pick 43 (.t 27) (.t 42) (.c (.bool false))]) (.cond (.t 43) .ret .skip)))) (.ops [.bin 44 .add (.t 13) (.c (.int .i64 1)), .mov 13 (.t 44)]))))
def fn91_l1 : VCode :=
(.clean [0, 1, 2, 4, 7, 8, 12, 13] [0, 1, 2, 7, 8] (.block 2 (.loop [0, 1, 2, 4, 7, 8, 12, 13] fn91_b0)))
def fn91_b2 : VCode := (.seq (.ops [.bin 9 .lss (.t 8) (.t 7)]) (.seq (.cond (.t 9) .skip (.exit 0)) (.seq (.block 1 (.seq (.ops [.mov 10 (.t 8), .asg 4 (.t 10)]) (.seq (.ops [.load 11 none (.t 1), .len 12 (.t 11), .mov 13 (.c (.int .i64 0))])
       fn91_l1))) (.ops [.bin 45 .add (.t 8) (.c (.int .i64 1)), .mov 8 (.t 45)]))))
def fn91_l3 : VCode :=
(.clean [0, 1, 2, 7, 8] [] (.block 0 (.loop [0, 1, 2, 7, 8] fn91_b2)))
def fn91 : VFn := ⟨3, 46, [], (.seq (.ops [.load 6 none (.t 1), .len 7 (.t 6), .mov 8 (.c (.int .i64 0))])
  fn91_l3)⟩
def fn92_b0 : VCode := (.seq (.ops [.bin 21 .lss (.t 20) (.t 19)]) (.seq (.cond (.t 21) .skip (.exit 2)) (.seq (.block 3 (.seq (.ops [.iadr 22 2 (.t 18) (.t 20), .load 23 (some 2) (.t 22), .alloc 9 [(.int .i64 0), (.int .i64 0)], .store none 2 (.t 9) (.t 23)]) (.ops [.mov 24 (.t 5), .fadr 25 (.t 9) 1, .load 26 none (.t 25), .bin 27 .add (.t 24) (.t 26), .asg 5 (.t 27)]))) (.ops [.bin 28 .add (.t 20) (.c (.int .i64 1)), .mov 20 (.t 28)]))))
def fn92_l1 : VCode :=
(.clean [5, 7, 12, 13, 14, 17, 18, 19, 20] [4, 5, 12, 13, 14] (.block 2 (.loop [5, 7, 12, 13, 14, 17, 18, 19, 20] fn92_b0)))
def fn92_b2 : VCode := (.seq (.ops [.bin 15 .lss (.t 14) (.t 13)]) (.seq (.cond (.t 15) .skip (.exit 0)) (.seq (.block 1 (.seq (.ops [.iadr 16 1 (.t 12) (.t 14), .load 17 none (.t 16), .asg 7 (.t 17)]) (.seq (.ops [.mov 18 (.t 7), .len 19 (.t 18), .mov 20 (.c (.int .i64 0))])
       fn92_l1))) (.ops [.bin 29 .add (.t 14) (.c (.int .i64 1)), .mov 14 (.t 29)]))))
def fn92_l3 : VCode :=
(.clean [5, 12, 13, 14] [4, 5] (.block 0 (.loop [5, 12, 13, 14] fn92_b2)))
def fn92 : VFn := ⟨2, 31, [.tmp 4], (.seq (.ops [.box 2 (.t 0), .box 3 (.t 1), .asg 4 (.c (.int .i64 0))]) (.seq (.ops [.asg 5 (.c (.int .i64 0))]) (.seq (.seq (.ops [.load 10 (some 4) (.t 2), .load 11 (some 4) (.t 3), .call 12 45 [(.t 10), (.t 11)], .len 13 (.t 12), .mov 14 (.c (.int .i64 0))])
     fn92_l3) (.seq (.ops [.mov 30 (.t 5), .asg 4 (.t 30)]) .ret))))⟩
def fn93_b0 : VCode := (.seq (.ops [.bin 9 .lss (.t 8) (.t 7)]) (.seq (.cond (.t 9) .skip (.exit 0)) (.seq (.block 1 (.seq (.ops [.iadr 10 1 (.t 6) (.t 8), .load 11 none (.t 10), .asg 5 (.t 11)]) (.seq (.ops [.mov 12 (.t 5), .mov 13 (.t 3), .bin 14 .neq (.t 12) (.t 13)]) (.cond (.t 14) (.seq (.ops [.mov 15 (.t 5), .asg 2 (.t 15)]) .ret) .skip)))) (.ops [.bin 16 .add (.t 8) (.c (.int .i64 1)), .mov 8 (.t 16)]))))
def fn93_l1 : VCode :=
(.clean [0, 3, 6, 7, 8] [2, 3] (.block 0 (.loop [0, 3, 6, 7, 8] fn93_b0)))
def fn93 : VFn := ⟨1, 18, [.tmp 2], (.seq (.ops [.asg 2 (.c (.int .i64 0))]) (.seq (.ops [.asg 3 (.c (.int .i64 0))]) (.seq (.seq (.ops [.mov 6 (.t 0), .len 7 (.t 6), .mov 8 (.c (.int .i64 0))])
     fn93_l1) (.seq (.ops [.mov 17 (.t 3), .asg 2 (.t 17)]) .ret))))⟩
def fn99_b0 : VCode := (.seq (.ops [.bin 37 .lss (.t 36) (.t 35)]) (.seq (.cond (.t 37) .skip (.exit 0)) (.seq (.block 1 (.seq (.ops [.mov 38 (.t 36), .asg 11 (.t 38)]) (.drw [] [([0, 1, 2, 3, 4, 5, 6, 7, 8, 9, 10, 11, 12], 13)] (some ([14], [], 15, [])) [] [.mov 39 (.t 10), .mov 40 (.t 11), .mov 41 (.t 2), .fadr 42 (.t 3) 1, .load 43 none (.t 42), .mov 44 (.t 11), .iadr 45 1 (.t 43) (.t 44), .load 46 none (.t 45), .fadr 47 (.t 4) 1, .load 48 none (.t 47), .mov 49 (.t 11), .iadr 50 1 (.t 48) (.t 49), .load 51 none (.t 50), .callv 52 (.t 41) [(.t 46), (.t 51)], .iadr 53 1 (.t 39) (.t 40), .store none 1 (.t 53) (.t 52)]))) (.ops [.bin 54 .add (.t 36) (.c (.int .i64 1)), .mov 36 (.t 54)]))))
def fn99_l1 : VCode :=
(.clean [2, 3, 4, 6, 10, 33, 35, 36] [3, 6, 7, 10] (.block 0 (.loop [2, 3, 4, 6, 10, 33, 35, 36] fn99_b0)))
def fn99 : VFn := ⟨3, 59, [.cell 6 (some 2), .tmp 7], (.seq (.ops [.box 3 (.t 0), .box 4 (.t 1), .alloc 6 [(.int .i64 0), (.list 1 [])], .asg 7 (.c (.int .i64 0))]) (.seq (.seq (.ops [.load 12 (some 2) (.t 3), .call 13 51 [(.t 12)], .asg 8 (.t 13)]) (.seq (.ops [.mov 14 (.t 8), .bin 15 .neq (.t 14) (.c (.int .i64 0))]) (.cond (.t 15) (.seq (.ops [.build 16 [(.int .i64 0), (.list 1 [])] [], .mov 17 (.t 8), .store none 2 (.t 6) (.t 16), .asg 7 (.t 17)]) .ret) .skip))) (.seq (.seq (.ops [.load 18 (some 2) (.t 4), .call 19 51 [(.t 18)], .asg 9 (.t 19)]) (.seq (.ops [.mov 20 (.t 9), .bin 21 .neq (.t 20) (.c (.int .i64 0))]) (.cond (.t 21) (.seq (.ops [.build 22 [(.int .i64 0), (.list 1 [])] [], .mov 23 (.t 9), .store none 2 (.t 6) (.t 22), .asg 7 (.t 23)]) .ret) .skip))) (.seq (.seq (.ops [.fadr 24 (.t 3) 0, .load 25 none (.t 24), .fadr 26 (.t 4) 0, .load 27 none (.t 26), .bin 28 .neq (.t 25) (.t 27)]) (.cond (.t 28) (.seq (.ops [.build 29 [(.int .i64 0), (.list 1 [])] [], .store none 2 (.t 6) (.t 29), .asg 7 (.c (.int .i64 22))]) .ret) .skip)) (.seq (.ops [.fadr 30 (.t 3) 1, .load 31 none (.t 30), .len 32 (.t 31), .make 33 (.int .u64 0) (.t 32) (.t 32), .asg 10 (.t 33)]) (.seq (.seq (.ops [.mov 34 (.t 10), .len 35 (.t 34), .mov 36 (.c (.int .i64 0))])
        fn99_l1) (.seq (.ops [.fadr 55 (.t 3) 0, .load 56 none (.t 55), .mov 57 (.t 10), .build 58 [(.int .i64 0), (.list 1 [])] [(0, 1, (.t 56)), (1, 1, (.t 57))], .store none 2 (.t 6) (.t 58), .asg 7 (.c (.int .i64 0))]) .ret)))))))⟩
def fn100 : VFn := ⟨2, 8, [.tmp 4], (.seq (.ops [.asg 4 (.c (.int .u64 0))]) (.seq (.ops [.mov 5 (.t 0), .mov 6 (.t 1), .bin 7 .or (.t 5) (.t 6), .asg 4 (.t 7)]) .ret))⟩
def fn101 : VFn := ⟨2, 6, [.tmp 4], (.seq (.ops [.box 2 (.t 0), .box 3 (.t 1), .asg 4 (.c .nilf)]) (.seq (.ops [.mkf 5 109 [(.t 2), (.t 3)], .asg 4 (.t 5)]) .ret))⟩
def fn102 : VFn := ⟨2, 9, [.tmp 4], (.seq (.ops [.asg 4 (.c (.bool false))]) (.seq (.ops [.mov 5 (.t 0), .mov 6 (.t 1), .call 7 112 [(.t 5), (.t 6)], .bin 8 .geq (.t 7) (.c (.int .i64 0)), .asg 4 (.t 8)]) .ret))⟩
def fn103 : VFn := ⟨1, 9, [.tmp 2], (.seq (.ops [.asg 2 (.c (.bool false))]) (.seq (.ops [.mov 3 (.t 0), .bin 4 .lss (.t 3) (.c (.int .i64 1)), .mov 5 (.t 4), .grd 5 false (.mov 6 (.t 0)), .grd 5 false (.bin 7 .gtr (.t 6) (.c (.int .i64 4096))), .pick 8 (.t 5) (.c (.bool true)) (.t 7), .asg 2 (.t 8)]) .ret))⟩
def fn104_b0 : VCode := (.seq (.ops [.bin 14 .lss (.t 13) (.t 12)]) (.seq (.cond (.t 14) .skip (.exit 0)) (.seq (.block 1 (.seq (.ops [.iadr 15 1 (.t 11) (.t 13), .load 16 none (.t 15), .asg 7 (.t 16)]) (.ops [.mov 17 (.t 5), .mov 18 (.t 1), .mov 19 (.t 7), .callv 20 (.t 18) [(.t 19)], .mksl 21 1 [(.t 20)], .app 22 1 (.t 17) (.t 21), .asg 5 (.t 22)]))) (.ops [.bin 23 .add (.t 13) (.c (.int .i64 1)), .mov 13 (.t 23)]))))
def fn104_l1 : VCode :=
(.clean [0, 1, 5, 10, 11, 12, 13, 22] [4, 5] (.block 0 (.loop [0, 1, 5, 10, 11, 12, 13, 22] fn104_b0)))
def fn104 : VFn := ⟨2, 25, [.tmp 4], (.seq (.ops [.asg 4 (.nil 1)]) (.seq (.ops [.mov 8 (.t 0), .len 9 (.t 8), .make 10 (.int .i64 0) (.c (.int .i64 0)) (.t 9), .asg 5 (.t 10)]) (.seq (.seq (.ops [.mov 11 (.t 0), .len 12 (.t 11), .mov 13 (.c (.int .i64 0))])
     fn104_l1) (.seq (.ops [.mov 24 (.t 5), .asg 4 (.t 24)]) .ret))))⟩
def fn105 : VFn := ⟨1, 5, [.tmp 2], (.seq (.ops [.asg 2 (.c (.int .i64 0))]) (.seq (.ops [.mov 3 (.t 0), .len 4 (.t 3), .asg 2 (.t 4)]) .ret))⟩
def fn106 : VFn := ⟨1, 6, [.tmp 2], (.seq (.ops [.asg 2 (.c (.bool false))]) (.seq (.ops [.mov 3 (.t 0), .mov 4 (.t 0), .bin 5 .neq (.t 3) (.t 4), .asg 2 (.t 5)]) .ret))⟩
def fn109_b0 : VCode := (.seq (.seq (.ops [.mov 24 (.t 5), .bin 25 .neq (.t 24) (.c (.int .u64 0))]) (.cond (.t 25) .skip (.exit 2))) (.block 3 (.seq (.seq (.ops [.mov 26 (.t 0), .mov 27 (.t 4), .bin 28 .mul (.t 27) (.c (.int .i64 64)), .mov 29 (.t 5), .call 30 111 [(.t 29)], .bin 31 .add (.t 28) (.t 30), .yield 32 (.t 26) [(.t 31)], .un 33 .not (.t 32)]) (.cond (.t 33) .ret .skip)) (.ops [.mov 34 (.t 5), .mov 35 (.t 5), .bin 36 .sub (.t 35) (.c (.int .u64 1)), .bin 37 .and (.t 34) (.t 36), .asg 5 (.t 37)]))))
def fn109_l1 : VCode :=
(.clean [0, 1, 2, 4, 5, 10, 11, 12] [0, 1, 2, 10, 11, 12] (.block 2 (.loop [0, 1, 2, 4, 5, 10, 11, 12] fn109_b0)))
def fn109_b2 : VCode := (.seq (.ops [.bin 13 .lss (.t 12) (.t 11)]) (.seq (.cond (.t 13) .skip (.exit 0)) (.seq (.block 1 (.seq (.ops [.mov 14 (.t 12), .iadr 15 1 (.t 10) (.t 12), .load 16 none (.t 15), .asg 4 (.t 14), .asg 5 (.t 16)]) (.seq (.ops [.mov 17 (.t 5), .mov 18 (.t 4), .load 19 none (.t 2), .fadr 20 (.t 1) 0, .load 21 none (.t 20), .call 22 110 [(.t 18), (.t 19), (.t 21)], .bin 23 .and (.t 17) (.t 22), .asg 5 (.t 23)])
       fn109_l1))) (.ops [.bin 38 .add (.t 12) (.c (.int .i64 1)), .mov 12 (.t 38)]))))
def fn109_l3 : VCode :=
(.clean [0, 1, 2, 10, 11, 12] [] (.block 0 (.loop [0, 1, 2, 10, 11, 12] fn109_b2)))
def fn109 : VFn := ⟨3, 39, [], (.seq (.seq (.ops [.load 6 (some 2) (.t 1), .call 7 51 [(.t 6)], .bin 8 .neq (.t 7) (.c (.int .i64 0))]) (.cond (.t 8) .ret .skip)) (.seq (.ops [.fadr 9 (.t 1) 1, .load 10 none (.t 9), .len 11 (.t 10), .mov 12 (.c (.int .i64 0))])
   fn109_l3))⟩
def fn110 : VFn := ⟨3, 27, [.tmp 6], (.seq (.ops [.asg 6 (.c (.int .u64 0))]) (.seq (.ops [.mov 7 (.t 1), .mov 8 (.t 0), .bin 9 .mul (.t 8) (.c (.int .i64 64)), .bin 10 .sub (.t 7) (.t 9), .mn 11 true (.t 10) (.c (.int .i64 0)), .mov 12 (.t 2), .mov 13 (.t 0), .bin 14 .mul (.t 13) (.c (.int .i64 64)), .bin 15 .sub (.t 12) (.t 14), .mn 16 false (.t 15) (.c (.int .i64 64)), .asg 1 (.t 11), .asg 2 (.t 16)]) (.seq (.seq (.ops [.mov 17 (.t 1), .mov 18 (.t 2), .bin 19 .geq (.t 17) (.t 18)]) (.cond (.t 19) (.seq (.ops [.asg 6 (.c (.int .u64 0))]) .ret) .skip)) (.seq (.ops [.mov 20 (.t 2), .mov 21 (.t 1), .bin 22 .sub (.t 20) (.t 21), .bin 23 .sub (.c (.int .i64 64)) (.t 22), .bin 24 .shr (.c (.int .u64 18446744073709551615)) (.t 23), .mov 25 (.t 1), .bin 26 .shl (.t 24) (.t 25), .asg 6 (.t 26)]) .ret))))⟩
def fn112_b0 : VCode := (.seq (.ops [.bin 9 .lss (.t 8) (.t 7)]) (.seq (.cond (.t 9) .skip (.exit 0)) (.seq (.block 1 (.seq (.ops [.mov 10 (.t 8), .asg 5 (.t 10)]) (.seq (.ops [.mov 11 (.t 1), .mov 12 (.t 0), .mov 13 (.t 5), .iadr 14 1 (.t 12) (.t 13), .load 15 none (.t 14), .callv 16 (.t 11) [(.t 15)]]) (.cond (.t 16) (.seq (.ops [.mov 17 (.t 5), .asg 4 (.t 17)]) .ret) .skip)))) (.ops [.bin 18 .add (.t 8) (.c (.int .i64 1)), .mov 8 (.t 18)]))))
def fn112_l1 : VCode :=
(.clean [0, 1, 7, 8] [4] (.block 0 (.loop [0, 1, 7, 8] fn112_b0)))
def fn112 : VFn := ⟨2, 19, [.tmp 4], (.seq (.ops [.asg 4 (.c (.int .i64 0))]) (.seq (.seq (.ops [.mov 6 (.t 0), .len 7 (.t 6), .mov 8 (.c (.int .i64 0))])
    fn112_l1) (.seq (.ops [.asg 4 (.c (.int .i64 (-1)))]) .ret)))⟩
def tab : List (Nat × VDef) := [(3, .code fn3), (11, .code fn11), (12, .code fn12), (13, .code fn13), (14, .code fn14), (15, .code fn15), (16, .code fn16), (17, .code fn17), (18, .code fn18), (20, .code fn20), (22, .code fn22), (24, .code fn24), (26, .code fn26), (27, .code fn27), (29, .code fn29), (41, .code fn41), (42, .ext pointX), (43, .code fn43), (44, .code fn44), (45, .code fn45), (46, .code fn46), (47, .code fn47), (48, .code fn48), (49, .code fn49), (50, .code fn50), (51, .code fn51), (52, .code fn52), (53, .code fn53), (54, .code fn54), (55, .code fn55), (56, .code fn56), (57, .code fn57), (58, .code fn58), (59, .code fn59), (60, .code fn60), (61, .code fn61), (64, .code fn64), (65, .code fn65), (66, .code fn66), (67, .code fn67), (68, .code fn68), (69, .code fn69), (70, .code fn70), (77, .code fn77), (79, .code fn79), (80, .code fn80), (81, .code fn81), (82, .code fn82), (83, .code fn83), (84, .code fn84), (85, .code fn85), (86, .code fn86), (87, .code fn87), (88, .code fn88), (89, .code fn89), (90, .code fn90), (91, .code fn91), (92, .code fn92), (93, .code fn93), (99, .code fn99), (100, .code fn100), (101, .code fn101), (102, .code fn102), (103, .code fn103), (104, .code fn104), (105, .code fn105), (106, .code fn106), (109, .code fn109), (110, .code fn110), (111, .ext tzX), (112, .code fn112), ]
def env : Env := fun f => tab.lookup f
theorem env3 : env 3 = some (.code fn3) := rfl
theorem env11 : env 11 = some (.code fn11) := rfl
theorem env13 : env 13 = some (.code fn13) := rfl
theorem env14 : env 14 = some (.code fn14) := rfl
theorem env15 : env 15 = some (.code fn15) := rfl
theorem env16 : env 16 = some (.code fn16) := rfl
theorem env17 : env 17 = some (.code fn17) := rfl
theorem env29 : env 29 = some (.code fn29) := rfl
theorem env41 : env 41 = some (.code fn41) := rfl
theorem env43 : env 43 = some (.code fn43) := rfl
theorem env44 : env 44 = some (.code fn44) := rfl
theorem env45 : env 45 = some (.code fn45) := rfl
theorem env46 : env 46 = some (.code fn46) := rfl
theorem env47 : env 47 = some (.code fn47) := rfl
theorem env48 : env 48 = some (.code fn48) := rfl
theorem env49 : env 49 = some (.code fn49) := rfl
theorem env50 : env 50 = some (.code fn50) := rfl
theorem env51 : env 51 = some (.code fn51) := rfl
theorem env52 : env 52 = some (.code fn52) := rfl
theorem env53 : env 53 = some (.code fn53) := rfl
theorem env54 : env 54 = some (.code fn54) := rfl
theorem env55 : env 55 = some (.code fn55) := rfl
theorem env65 : env 65 = some (.code fn65) := rfl
theorem env77 : env 77 = some (.code fn77) := rfl
theorem env79 : env 79 = some (.code fn79) := rfl
theorem env80 : env 80 = some (.code fn80) := rfl
theorem env81 : env 81 = some (.code fn81) := rfl
theorem env82 : env 82 = some (.code fn82) := rfl
theorem env83 : env 83 = some (.code fn83) := rfl
theorem env84 : env 84 = some (.code fn84) := rfl
theorem env85 : env 85 = some (.code fn85) := rfl
theorem env86 : env 86 = some (.code fn86) := rfl
theorem env87 : env 87 = some (.code fn87) := rfl
theorem env89 : env 89 = some (.code fn89) := rfl
theorem env99 : env 99 = some (.code fn99) := rfl
theorem env100 : env 100 = some (.code fn100) := rfl
theorem env101 : env 101 = some (.code fn101) := rfl
theorem env102 : env 102 = some (.code fn102) := rfl
theorem env103 : env 103 = some (.code fn103) := rfl
theorem env104 : env 104 = some (.code fn104) := rfl
theorem env105 : env 105 = some (.code fn105) := rfl
theorem env109 : env 109 = some (.code fn109) := rfl
theorem env110 : env 110 = some (.code fn110) := rfl
theorem env111 : env 111 = some (.ext tzX) := rfl
theorem env112 : env 112 = some (.code fn112) := rfl
end Go.Proofs.YtaaokejjmdbfaaaDoor

namespace Go.Proofs.YtaaokejjmdbfaaaDoor
open V
def vAll := (And.intro (And.intro (And.intro (And.intro (And.intro (And.intro (And.intro (And.intro @den_drs (And.intro @dalts_cons @dagree_nil)) (And.intro @dagree_cons (And.intro @sameAs_same @dalt_eq))) (And.intro (And.intro @altEnd_false (And.intro @altEnd_true @pickV_nil)) (And.intro (And.intro @pickV_one @den_skip) (And.intro @List.foldl_nil.{0, 0} @List.foldl_cons.{0, 0})))) (And.intro (And.intro (And.intro @den_ops (And.intro @den_drw @den_seq)) (And.intro (And.intro @den_cond @den_block) (And.intro @den_exit @den_ret))) (And.intro (And.intro @next_normal (And.intro @next_exit @next_ret)) (And.intro (And.intro @endBlock_normal @endBlock_ret) (And.intro @endBlock_exit @tail_normal))))) (And.intro (And.intro (And.intro (And.intro @tail_ret (And.intro @tail_exit @fin_normal)) (And.intro (And.intro @fin_ret @bcase_true) (And.intro @bcase_false @z_bind_some))) (And.intro (And.intro @z_map_some (And.intro @z_bind_none @z_map_none)) (And.intro (And.intro @resultsOf.eq_1 @resultsOf.eq_2) (And.intro @resultsOf.eq_3 @resultList.eq_1)))) (And.intro (And.intro (And.intro @resultList.eq_2 (And.intro @resultOf.eq_1 @resultOf.eq_2)) (And.intro (And.intro @resultOf.eq_3 @zBV.eq_1) (And.intro @zBV.eq_2 @splice.eq_1))) (And.intro (And.intro @PV.remade.eq_1 (And.intro @PV.remade.eq_2 @PV.remade.eq_3)) (And.intro (And.intro @PV.remade.eq_4 @St.freezeAt.eq_1) (And.intro @St.freezeBox.eq_1 @St.freezeCap.eq_1)))))) (And.intro (And.intro (And.intro (And.intro (And.intro @St.freezeCap.eq_2 (And.intro @PV.single.eq_1 @PV.single.eq_2)) (And.intro @dops_nil (And.intro @dops_cons @dop_grd))) (And.intro (And.intro @dop_pick (And.intro @dop_call @dop_callv)) (And.intro (And.intro @op1_call @op1_callv) (And.intro @dop_lin @dop_linv)))) (And.intro (And.intro (And.intro @op1_lin (And.intro @op1_linv @op1_pick)) (And.intro (And.intro @dop_mov @dop_asg) (And.intro @dop_bin @dop_eqa))) (And.intro (And.intro @dop_eqb (And.intro @dop_isn @dop_cut)) (And.intro (And.intro @dop_asl @dop_asz) (And.intro @dop_ldz @dop_srt))))) (And.intro (And.intro (And.intro (And.intro @dop_stw (And.intro @dop_bldo @dop_mvz)) (And.intro (And.intro @dop_un @dop_conv) (And.intro @dop_load @dop_fadr))) (And.intro (And.intro @dop_aadr (And.intro @dop_iadr @dop_fld)) (And.intro (And.intro @dop_idx @dop_sli) (And.intro @dop_len @dop_lens)))) (And.intro (And.intro (And.intro @dop_ext (And.intro @dop_build @dop_mn)) (And.intro (And.intro @dop_mkf @dop_alloc) (And.intro @dop_box @dop_store))) (And.intro (And.intro @dop_mksl (And.intro @dop_make @dop_app)) (And.intro (And.intro @dop_cpy @dop_yield) (And.intro @op1_mov @op1_asg))))))) (And.intro (And.intro (And.intro (And.intro (And.intro (And.intro @op1_bin (And.intro @op1_eqa @op1_eqb)) (And.intro @op1_isn (And.intro @op1_cut @op1_asl))) (And.intro (And.intro @op1_asz (And.intro @op1_ldz @op1_srt)) (And.intro (And.intro @op1_stw @op1_bldo) (And.intro @op1_mvz @op1_un)))) (And.intro (And.intro (And.intro @op1_conv (And.intro @op1_load @op1_fadr)) (And.intro (And.intro @op1_aadr @op1_iadr) (And.intro @op1_fld @op1_idx))) (And.intro (And.intro @op1_sli (And.intro @op1_len @op1_lens)) (And.intro (And.intro @op1_ext @op1_build) (And.intro @op1_mn @op1_mkf))))) (And.intro (And.intro (And.intro (And.intro @op1_alloc (And.intro @op1_box @op1_store)) (And.intro (And.intro @op1_mksl @op1_make) (And.intro @op1_app @op1_cpy))) (And.intro (And.intro @op1_yield (And.intro @plain.eq_1 @plain.eq_2)) (And.intro (And.intro @plain.eq_3 @plain.eq_4) (And.intro @plain.eq_5 @plain.eq_6)))) (And.intro (And.intro (And.intro @plain.eq_7 (And.intro @plain.eq_8 @plain.eq_9)) (And.intro (And.intro @plain.eq_10 @plain.eq_11) (And.intro @plain.eq_12 @plain.eq_13))) (And.intro (And.intro @plain.eq_14 (And.intro @plain.eq_15 @plain.eq_16)) (And.intro (And.intro @plain.eq_17 @plain.eq_18) (And.intro @plain.eq_19 @plain.eq_20)))))) (And.intro (And.intro (And.intro (And.intro (And.intro @plain.eq_21 (And.intro @plain.eq_22 @plain.eq_23)) (And.intro (And.intro @plain.eq_24 @plain.eq_25) (And.intro @plain.eq_26 @plain.eq_27))) (And.intro (And.intro @plain.eq_28 (And.intro @plain.eq_29 @plain.eq_30)) (And.intro (And.intro @act.eq_1 @act.eq_2) (And.intro @act.eq_3 @act.eq_4)))) (And.intro (And.intro (And.intro @act.eq_5 (And.intro @act.eq_6 @act.eq_7)) (And.intro (And.intro @act.eq_8 @act.eq_9) (And.intro @act.eq_10 @act.eq_11))) (And.intro (And.intro @act.eq_12 (And.intro @act.eq_13 @act.eq_14)) (And.intro (And.intro @act.eq_15 @dstOf.eq_1) (And.intro @dstOf.eq_2 @dstOf.eq_3))))) (And.intro (And.intro (And.intro (And.intro @dstOf.eq_4 (And.intro @dstOf.eq_5 @dstOf.eq_6)) (And.intro (And.intro @dstOf.eq_7 @dstOf.eq_8) (And.intro @dstOf.eq_9 @dstOf.eq_10))) (And.intro (And.intro @dstOf.eq_11 (And.intro @dstOf.eq_12 @dstOf.eq_13)) (And.intro (And.intro @dstOf.eq_14 @dstOf.eq_15) (And.intro @dstOf.eq_16 @dstOf.eq_17)))) (And.intro (And.intro (And.intro @dstOf.eq_18 (And.intro @dstOf.eq_19 @dstOf.eq_20)) (And.intro (And.intro @dstOf.eq_21 @dstOf.eq_22) (And.intro @dstOf.eq_23 @dstOf.eq_24))) (And.intro (And.intro @dstOf.eq_25 (And.intro @dstOf.eq_26 @dstOf.eq_27)) (And.intro (And.intro @dstOf.eq_28 @dstOf.eq_29) (And.intro @dstOf.eq_30 @dstOf.eq_31)))))))) (And.intro (And.intro (And.intro (And.intro (And.intro (And.intro (And.intro @dstOf.eq_32 (And.intro @dstOf.eq_33 @dstOf.eq_34)) (And.intro @dstOf.eq_35 (And.intro @dstOf.eq_36 @dstOf.eq_37))) (And.intro (And.intro @dstOf.eq_38 (And.intro @dstOf.eq_39 @dstOf.eq_40)) (And.intro (And.intro @dstOf.eq_41 @dstOf.eq_42) (And.intro @dstOf.eq_43 @Bool.false_eq_true)))) (And.intro (And.intro (And.intro @if_true.{1} (And.intro @if_false.{1} @z_ite_true)) (And.intro (And.intro @z_ite_false @St.get.eq_1) (And.intro @St.get.eq_2 @St.get.eq_3))) (And.intro (And.intro @St.put.eq_1 (And.intro @St.pvOf.eq_1 @St.putRow.eq_1)) (And.intro (And.intro @St.consume.eq_1 @St.consume.eq_2) (And.intro @St.consume.eq_3 @St.freeze.eq_1))))) (And.intro (And.intro (And.intro (And.intro @St.row.eq_1 (And.intro @St.row.eq_2 @St.row.eq_3)) (And.intro (And.intro @St.elems.eq_1 @St.grab.eq_1) (And.intro @St.grab.eq_2 @St.grab.eq_3))) (And.intro (And.intro @allBV.eq_1 (And.intro @allBV.eq_2 @allBV.eq_3)) (And.intro (And.intro @allBV.eq_4 @ownP.eq_1) (And.intro @ownP.eq_2 @ownCells.eq_1)))) (And.intro (And.intro (And.intro @ownCells.eq_2 (And.intro @ownCells.eq_3 @ownCells.eq_4)) (And.intro (And.intro @St.takeRow.eq_1 @St.takeRow.eq_2) (And.intro @St.takeRow.eq_3 @St.setRow.eq_1))) (And.intro (And.intro @St.setRow.eq_2 (And.intro @St.setRow.eq_3 @St.place.eq_1)) (And.intro (And.intro @St.place.eq_2 @St.optPv.eq_1) (And.intro @St.optPv.eq_2 @St.setCell.eq_1)))))) (And.intro (And.intro (And.intro (And.intro (And.intro @St.setCellRow.eq_1 (And.intro @binPV.eq_1 @binPV.eq_2)) (And.intro @binPV.eq_3 (And.intro @binPV.eq_4 @intBin.eq_1))) (And.intro (And.intro @intBin.eq_2 (And.intro @intBin.eq_3 @intBin.eq_4)) (And.intro (And.intro @intBin.eq_5 @intBin.eq_6) (And.intro @intBin.eq_7 @intBin.eq_8)))) (And.intro (And.intro (And.intro @intBin.eq_9 (And.intro @intBin.eq_10 @intBin.eq_11)) (And.intro (And.intro @intBin.eq_12 @intBin.eq_13) (And.intro @intBin.eq_14 @intBin.eq_15))) (And.intro (And.intro @intBin.eq_16 (And.intro @intBin.eq_17 @unPV.eq_1)) (And.intro (And.intro @unPV.eq_2 @unPV.eq_3) (And.intro @unPV.eq_4 @BV.val.eq_1))))) (And.intro (And.intro (And.intro (And.intro @BV.val.eq_2 (And.intro @cells_int @cells_bool)) (And.intro (And.intro @cells_str @cells_list) (And.intro @cells_func @cells_agg))) (And.intro (And.intro @part_one (And.intro @part_succ @part_more)) (And.intro (And.intro @killS_pv @killS_any) (And.intro @killS_row @killS_pbox)))) (And.intro (And.intro (And.intro @killS_fn (And.intro @killS_tup @killS_yld)) (And.intro (And.intro @killS_refs @killS_refc) (And.intro @killS_pels @killS_pelc))) (And.intro (And.intro @killc_pv (And.intro @killc_any @killc_row)) (And.intro (And.intro @killc_pbox @killc_fn) (And.intro @killc_tup @killc_yld))))))) (And.intro (And.intro (And.intro (And.intro (And.intro (And.intro @killc_refs (And.intro @killc_refc @killc_pels)) (And.intro @killc_pelc (And.intro @bound.eq_1 @bound.eq_2))) (And.intro (And.intro @bound.eq_3 (And.intro @consumeAll.eq_1 @consumeAll.eq_2)) (And.intro (And.intro @buildParts.eq_1 @buildParts.eq_2) (And.intro @capsOf.eq_1 @capsOf.eq_2)))) (And.intro (And.intro (And.intro @capOf.eq_1 (And.intro @z_bind_eq @z_pure)) (And.intro (And.intro @z_map_cons @z_map_nil) (And.intro @z_len_cons @z_len_nil))) (And.intro (And.intro @List.append_nil.{0} (And.intro @z_nil_app @z_cons_app)) (And.intro (And.intro @Nat.zero_add @Nat.add_zero) (And.intro @z_drop_zero @z_drop_succ))))) (And.intro (And.intro (And.intro (And.intro @z_take_succ (And.intro @z_take_zero @decide_true)) (And.intro (And.intro @decide_false @Bool.not_true) (And.intro @Bool.not_false @Bool.true_eq_false))) (And.intro (And.intro @beq_self_eq_true.{0} (And.intro @Bool.true_and @Bool.and_true)) (And.intro (And.intro @Bool.false_and @Bool.and_false) (And.intro @Bool.true_or @Bool.false_or)))) (And.intro (And.intro (And.intro @Bool.or_false (And.intro @Bool.or_true @beq_t)) (And.intro (And.intro @beq_f @bcase_not) (And.intro @bcase_bne @List.length_map.{0, 0}))) (And.intro (And.intro @z_getD_zero (And.intro @z_getD_8 @z_getD_succ)) (And.intro (And.intro @z_get_zero @z_get_8) (And.intro @z_get_succ @z_set_zero)))))) (And.intro (And.intro (And.intro (And.intro (And.intro @z_set_8 (And.intro @z_set_succ @dcall.eq_1)) (And.intro (And.intro @dcallP.eq_1 @dlin.eq_1) (And.intro @dlinP.eq_1 @takeLin.eq_1))) (And.intro (And.intro @backLin.eq_1 (And.intro @backLin.eq_2 @backLin.eq_3)) (And.intro (And.intro @linRes_row @linRes_own) (And.intro @linRes_box @lav_row)))) (And.intro (And.intro (And.intro @lav_own (And.intro @lav_box @lbx_row)) (And.intro (And.intro @lbx_own @lbx_box) (And.intro @finL_normal @finL_ret))) (And.intro (And.intro @afterCall_false (And.intro @afterCall_true @List.mapM_cons.{0, 0, 0})) (And.intro (And.intro @z_mapM_nil @St.snapFn.eq_1) (And.intro @St.snapFn.eq_2 @St.snap.eq_1))))) (And.intro (And.intro (And.intro (And.intro @St.snap.eq_2 (And.intro @St.snap.eq_3 @St.snap.eq_4)) (And.intro (And.intro @St.snap.eq_5 @St.snap.eq_6) (And.intro @z_any_cons @z_any_nil))) (And.intro (And.intro @z_all_cons (And.intro @z_all_nil @scal_int)) (And.intro (And.intro @scal_bool @scal_str) (And.intro @scal_list @scal_func)))) (And.intro (And.intro (And.intro @St.layAll.eq_1 (And.intro @St.layAll.eq_2 @St.lay.eq_1)) (And.intro (And.intro @St.lay.eq_2 @St.lay.eq_3) (And.intro @z_foldl_cons @z_foldl_nil))) (And.intro (And.intro @St.freezeArg.eq_1 (And.intro @St.freezeArg1.eq_1 @St.freezeArg1.eq_2)) (And.intro (And.intro @St.freezeArg1.eq_3 @St.freezeArg1.eq_4) (And.intro @St.freezeArg1.eq_5 @St.freezeArg1.eq_6)))))))))
def memAll := (And.intro (And.intro (And.intro (And.intro @List.isEmpty_nil.{0} (And.intro @val_pvs @frozen_pvs)) (And.intro @msnoc_len (And.intro @msnoc_get @msnoc_set))) (And.intro (And.intro @msnoc_take (And.intro @Int.le_refl @take_map_all)) (And.intro @Nat.le_refl (And.intro @St.freezeRows.eq_1 @BV.frozen.eq_1)))) (And.intro (And.intro (And.intro @BV.frozen.eq_2 (And.intro @List.take_length.{0} @List.take_append_drop.{0})) (And.intro @z_repl_zero (And.intro @Int.toNat_zero @true_and))) (And.intro (And.intro @and_true (And.intro @and_self @eq_self.{1})) (And.intro @z_take_zero (And.intro @List.drop_nil.{0} @List.take_nil.{0})))))
def slsAll := (And.intro (And.intro @Nat.zero_le (And.intro @List.take_zero.{0} @List.take_nil.{0})) (And.intro (And.intro @List.take_succ_cons.{0} @List.length_cons.{0}) (And.intro @List.length_nil.{0} @Nat.le_refl)))
end Go.Proofs.YtaaokejjmdbfaaaDoor

namespace Go.Proofs.YtaaokejjmdbfaaaDoor.V

theorem part_sec (x : Sec) : part (secPV x) 0 (some 8) = some (.agg (secPV x)) := by
  simp only [part, secPV_length, Nat.zero_add, List.drop_zero]
  rw [if_pos (Nat.le_refl _), List.take_of_length_le (by rw [secPV_length]; exact Nat.le_refl _)]
theorem eqCells_u8 : ∀ a b : List UInt8, a.length = b.length → eqCells (a.map fun b => .int .u8 (b.toNat : Int)) (b.map fun b => .int .u8 (b.toNat : Int)) = some (decide (a = b))
  | [], [], _ => rfl
  | x :: a, y :: b, h => by
    simp only [List.length_cons, Nat.add_right_cancel_iff] at h
    simp only [List.map_cons, eqCells, if_pos, eqCells_u8 a b h, Option.map_some, List.cons.injEq]
    congr 1
    have : ((x.toNat : Int) == (y.toNat : Int)) = decide (x = y) := by
      by_cases e : x = y
      · subst e; simp
      · have : ¬ x.toNat = y.toNat := fun h => e (UInt8.toNat_inj.1 h)
        simp [e]; omega
    rw [this, Bool.decide_and]
  | [], _ :: _, h => by simp at h
  | _ :: _, [], h => by simp at h
theorem eqCells_sec (a b : Sec) : eqCells (secPV a) (secPV b) = some (decide (a = b)) := by
  unfold secPV
  rw [eqCells_u8 _ _ (by simp)]
  congr 1
  apply decide_eq_decide.2
  exact ⟨fun h => Vector.toList_inj.1 h, fun h => by rw [h]⟩
end Go.Proofs.YtaaokejjmdbfaaaDoor.V

namespace Go.Proofs.YtaaokejjmdbfaaaDoor

noncomputable def iter (env : Env) (f : Nat) (caps : List PV) (stop : Option Nat) : Option (List (List PV)) := iterRes (den env) env f caps stop
def ystart (n : Nat) (caps : List PV) (stop : Option Nat) : St := ⟨.yld :: (caps.map .pv ++ List.replicate (n - (caps.length + 1)) .any), [], [], some stop⟩
def yfin : Ex × St → Option (List (List PV))
  | (.exit _, _) => none
  | (_, st) => some st.ys
section
variable {env : Env}
theorem yfin_normal (st : St) : yfin (.normal, st) = some st.ys := (rfl)
theorem yfin_ret (st : St) : yfin (.ret, st) = some st.ys := (rfl)
theorem iter_code {f : Nat} {fn : VFn} {caps : List PV} {stop : Option Nat} (h : env f = some (.code fn)) (hl : caps.length + 1 = fn.nargs) (hr : fn.results.isEmpty = true) : iter env f caps stop = (den env fn.body (ystart fn.ntmps caps stop)).bind yfin := by
  unfold iter iterRes
  rw [h]
  simp only [if_pos (And.intro hl hr)]
  show (den env fn.body _).bind _ = _
  congr 1
  funext ⟨e, st⟩
  cases e <;> rfl

noncomputable def round1 (env : Env) (slots : List AV) (ps : List Nat) (assign body : VCode) (nb : Nat) (x : List PV) (st : St) : Option (Ex × St) :=
  (setParams slots ps x).bind fun sl => (den env assign { st with slots := sl }).bind fun p => match p with
    | (.normal, st) => (den env body st).bind fun p => match p with
      | (.normal, st) => if nb ≤ st.boxes.length then some (.normal, { st with boxes := st.boxes.take nb }) else none
      | p => some p
    | _ => none
theorem rounds_cons {slots : List AV} {ps : List Nat} {assign body : VCode} {nb k : Nat} {x : List PV} {xs : List (List PV)} {st : St} :
    rounds (den env) slots ps assign body nb k (x :: xs) st = (round1 env slots ps assign body nb x st).bind fun p => match p with
      | (.normal, st) => rounds (den env) slots ps assign body nb (k + 1) xs st
      | (e, st) => some (some (e, k + 1), st) := by
  conv => lhs; unfold rounds
  unfold round1
  show (setParams slots ps x).bind _ = _
  cases setParams slots ps x with
  | none => rfl
  | some sl =>
    simp only [Option.bind_some]
    show (den env assign _).bind _ = _
    cases den env assign { st with slots := sl } with
    | none => rfl
    | some p =>
      obtain ⟨e, s⟩ := p
      simp only [Option.bind_some]
      cases e with
      | normal =>
        simp only
        show (den env body _).bind _ = _
        cases den env body s with
        | none => rfl
        | some p =>
          obtain ⟨e, s⟩ := p
          simp only [Option.bind_some]
          cases e with
          | normal =>
            simp only
            split <;> rfl
          | exit i => rfl
          | ret => rfl
      | exit i => rfl
      | ret => rfl
theorem rng_all {g : Opd} {ps : List Nat} {assign body : VCode} {st st1 : St} {f : Nat} {caps : List PV} {xs : List (List PV)} (hg : st.pvOf g = some (.func f caps)) (hi : iter env f caps none = some xs)
    (hr : rounds (den env) (st.slots.map AV.froze) ps assign body st.boxes.length 0 xs { st with slots := st.slots.map AV.froze } = some (none, st1)) : den env (.rng g ps assign body) st = some (.normal, { st1 with slots := st.slots.map AV.froze }) := by
  rw [den_eq]
  show ranged (den env) env g ps assign body st = _
  unfold ranged
  rw [hg]
  unfold iter at hi
  simp only [z_bind_eq, Option.bind_some, hi, hr]
theorem rng_idx (B : Nat → List Box) {g : Opd} {ps : List Nat} {assign body : VCode} {st : St} {f : Nat} {caps : List PV} {xs : List (List PV)} (hg : st.pvOf g = some (.func f caps)) (hi : iter env f caps none = some xs) (hB : st.boxes = B 0)
    (h : ∀ j x, xs[j]? = some x → ∀ sl0, ∃ sl1, round1 env (st.slots.map AV.froze) ps assign body st.boxes.length x ⟨sl0, B j, st.ys, st.stop⟩ = some (.normal, ⟨sl1, B (j + 1), st.ys, st.stop⟩)) :
    den env (.rng g ps assign body) st = some (.normal, ⟨st.slots.map AV.froze, B xs.length, st.ys, st.stop⟩) := by
  have key : ∀ (l : List (List PV)) (j : Nat), xs.drop j = l → ∀ (k : Nat) (sl0 : List AV), ∃ sl1, rounds (den env) (st.slots.map AV.froze) ps assign body st.boxes.length k l ⟨sl0, B j, st.ys, st.stop⟩ = some (none, ⟨sl1, B (j + l.length), st.ys, st.stop⟩) := by
    intro l
    induction l with
    | nil => intro j _ k sl0; exact ⟨sl0, rfl⟩
    | cons x l ih =>
      intro j hj k sl0
      have hx : xs[j]? = some x := by rw [← List.head?_drop, hj]; rfl
      have hd : xs.drop (j + 1) = l := by rw [← List.drop_drop, hj]; rfl
      obtain ⟨sl1, q⟩ := h j x hx sl0
      obtain ⟨sl2, q2⟩ := ih (j + 1) hd (k + 1) sl1
      refine ⟨sl2, ?_⟩
      rw [rounds_cons, q]
      simp only [Option.bind_some, q2, List.length_cons]
      rw [show j + 1 + l.length = j + (l.length + 1) by omega]
  obtain ⟨sl1, q⟩ := key xs 0 (by simp) 0 (st.slots.map AV.froze)
  rw [← hB, Nat.zero_add] at q
  have r := rng_all hg hi q
  exact r
theorem clean_upP {keep post : List Nat} {id nb : Nat} {b : VCode} (n : Nat) (P : Nat → Prop) (S : Nat → St) (R : Nat → Option (Ex × St)) {st : St} (h : st.head keep st.boxes.length = some (S 0)) (hP : P 0) (hS : ∀ i, (S i).boxes.length = nb) (hh : ∀ i, (S i).head keep nb = some (S i))
    (step : ∀ i rb, i < n → P i → (P (i + 1) → ∀ s, s.head keep nb = some (S (i + 1)) → tailOf env id post nb (den env rb s) = R (i + 1)) → tailOf env id post nb ((den env b (S i)).bind (next env rb)) = R i)
    (last : ∀ rb, P n → tailOf env id post nb ((den env b (S n)).bind (next env rb)) = R n) :
    den env (.clean keep post (.block id (.loop keep b))) st = R 0 := by
  refine clean_rec S R (fun i => i ≤ n ∧ P i) (fun i => n - i) 0 h ⟨Nat.zero_le _, hP⟩ hS hh fun i rb hi ih => ?_
  by_cases hn : i = n
  · subst hn; exact last rb hi.2
  · exact step i rb (by omega) hi.2 fun hp s hs => ih (i + 1) (by omega) ⟨by omega, hp⟩ s hs
noncomputable def rassign (env : Env) (body : VCode) (nb : Nat) : Ex × St → Option (Ex × St)
  | (.normal, st) => (den env body st).bind fun p => match p with
    | (.normal, st) => if nb ≤ st.boxes.length then some (.normal, { st with boxes := st.boxes.take nb }) else none
    | p => some p
  | _ => none
def rend (nb : Nat) : Ex × St → Option (Ex × St)
  | (.normal, st) => if nb ≤ st.boxes.length then some (.normal, { st with boxes := st.boxes.take nb }) else none
  | p => some p
theorem round1_eq (slots : List AV) (ps : List Nat) (assign body : VCode) (nb : Nat) (x : List PV) (st : St) : round1 env slots ps assign body nb x st = (setParams slots ps x).bind fun sl => (den env assign { st with slots := sl }).bind (rassign env body nb) := by
  unfold round1
  rfl
theorem rassign_normal (body : VCode) (nb : Nat) (st : St) : rassign env body nb (.normal, st) = (den env body st).bind (rend nb) := by
  rfl
theorem rend_normal (nb : Nat) (st : St) : rend nb (.normal, st) = if nb ≤ st.boxes.length then some (.normal, { st with boxes := st.boxes.take nb }) else none := (rfl)
theorem rend_exit (nb i : Nat) (st : St) : rend nb (.exit i, st) = some (.exit i, st) := (rfl)
theorem rend_ret (nb : Nat) (st : St) : rend nb (.ret, st) = some (.ret, st) := (rfl)
theorem setP_nil (slots : List AV) : setParams slots [] [] = some slots := (rfl)
theorem setP_cons (slots : List AV) (p : Nat) (ps : List Nat) (v : PV) (vs : List PV) : setParams slots (p :: ps) (v :: vs) = setParams (slots.set p (.pv v)) ps vs := (rfl)
theorem froze_pv (v : PV) : AV.froze (.pv v) = .pv v := (rfl)
theorem froze_row (sz : Nat) (es : List PV) : AV.froze (.row sz es) = .pv (.list sz es) := (rfl)
theorem froze_any : AV.froze .any = .any := (rfl)
theorem froze_tup (k : Bool) (l : List AV) : AV.froze (.tup k l) = .any := (rfl)
theorem froze_ref (r : Root) (i j : Nat) : AV.froze (.ref r i j) = .any := (rfl)
theorem froze_pel (r : Root) (i j : Nat) : AV.froze (.pel r i j) = .any := (rfl)
theorem froze_pbox (i j : Nat) : AV.froze (.pbox i j) = .pbox i j := (rfl)
theorem froze_fn (f : Nat) (l : List AV) : AV.froze (.fn f l) = .fn f l := (rfl)
theorem froze_yld : AV.froze .yld = .yld := (rfl)
end
def vRng := And.intro @round1_eq (And.intro @rassign_normal (And.intro @rend_normal (And.intro @rend_exit (And.intro @rend_ret (And.intro @setP_nil (And.intro @setP_cons (And.intro @froze_pv (And.intro @froze_row (And.intro @froze_any (And.intro @froze_tup (And.intro @froze_ref (And.intro @froze_pel (And.intro @froze_pbox (And.intro @froze_fn (And.intro @froze_yld (And.intro @yfin_normal @yfin_ret))))))))))))))))
end Go.Proofs.YtaaokejjmdbfaaaDoor

namespace Go.Proofs.YtaaokejjmdbfaaaDoor

def look : List (Nat × AV) → Nat → AV
  | [], _ => .any
  | (j, v) :: l, i => bcase (Nat.beq i j) v (look l i)
def sl (n : Nat) (l : List (Nat × AV)) : List AV := (List.range n).map (look l)
def mapA (f : AV → AV) : List (Nat × AV) → List (Nat × AV)
  | [] => []
  | (j, v) :: l => (j, f v) :: mapA f l
def keepA (l : List (Nat × AV)) : List Nat → List (Nat × AV)
  | [] => []
  | k :: ks => (k, look l k) :: keepA l ks
def argsA : Nat → List PV → List (Nat × AV)
  | _, [] => []
  | k, v :: l => (k, .pv v) :: argsA (k + 1) l
def lowA (nb : Nat) : List (Nat × AV) → Bool
  | [] => true
  | (_, v) :: l => AV.low nb v && lowA nb l
def insA (n : Nat) : List Nat → Bool
  | [] => true
  | k :: ks => decide (k < n) && insA n ks
theorem look_hit (i : Nat) (v : AV) (l : List (Nat × AV)) : look ((i, v) :: l) i = v := by
  show bcase (Nat.beq i i) v _ = v
  rw [Nat.beq_refl]; rfl
theorem look_nil (i : Nat) : look [] i = .any := (rfl)
theorem sl_get {n i : Nat} {l : List (Nat × AV)} (h' : i < n) : (sl n l).getD i .any = look l i := by
  simp [sl, List.getD_eq_getElem?_getD, h']
theorem sl_some {n i : Nat} {l : List (Nat × AV)} (h' : i < n) : (sl n l)[i]? = some (look l i) := by
  simp [sl, h']
theorem look_cons (l : List (Nat × AV)) (i j : Nat) (v : AV) : look ((j, v) :: l) i = if i = j then v else look l i := by
  show bcase (Nat.beq i j) v _ = _
  by_cases h : i = j
  · subst h; rw [Nat.beq_refl, if_pos rfl]; rfl
  · rw [if_neg h]
    have : Nat.beq i j = false := by
      cases e : Nat.beq i j with
      | false => rfl
      | true => exact absurd (Nat.eq_of_beq_eq_true e) h
    rw [this]; rfl
theorem sl_set (n i : Nat) (v : AV) (l : List (Nat × AV)) : (sl n l).set i v = sl n ((i, v) :: l) := by
  apply List.ext_getElem (by simp [sl])
  intro k h1 h2
  have hk : k < n := by simpa [sl] using h2
  simp only [sl, List.getElem_set, List.getElem_map, List.getElem_range, look_cons]
  by_cases h : i = k
  · subst h; simp
  · rw [if_neg h, if_neg (fun e => h e.symm)]
theorem look_skip {i j : Nat} {v : AV} {l : List (Nat × AV)} (h : (i == j) = false) : look ((j, v) :: l) i = look l i := by
  rw [look_cons, if_neg (by simpa using h)]
theorem look_mapA (f : AV → AV) (hf : f .any = .any) : ∀ (l : List (Nat × AV)) (i : Nat), look (mapA f l) i = f (look l i)
  | [], i => hf.symm
  | (j, v) :: l, i => by
    show look ((j, f v) :: mapA f l) i = _
    rw [look_cons, look_cons, look_mapA f hf l i]
    split <;> rfl
theorem sl_map {f : AV → AV} (hf : f .any = .any) (n : Nat) (l : List (Nat × AV)) : (sl n l).map f = sl n (mapA f l) := by
  unfold sl
  rw [List.map_map]
  apply List.map_congr_left
  intro i _
  exact (look_mapA f hf l i).symm
theorem sl_kill (n d : Nat) (l : List (Nat × AV)) : (sl n l).map (AV.kill d) = sl n (mapA (AV.kill d) l) := sl_map rfl n l
theorem sl_killc (n d : Nat) (l : List (Nat × AV)) : (sl n l).map (AV.killCell d) = sl n (mapA (AV.killCell d) l) := sl_map rfl n l
theorem sl_froze (n : Nat) (l : List (Nat × AV)) : (sl n l).map AV.froze = sl n (mapA AV.froze l) := sl_map rfl n l
theorem mapA_nil (f : AV → AV) : mapA f [] = [] := (rfl)
theorem mapA_cons (f : AV → AV) (j : Nat) (v : AV) (l : List (Nat × AV)) : mapA f ((j, v) :: l) = (j, f v) :: mapA f l := (rfl)
theorem keepA_nil (l : List (Nat × AV)) : keepA l [] = [] := (rfl)
theorem keepA_cons (l : List (Nat × AV)) (k : Nat) (ks : List Nat) : keepA l (k :: ks) = (k, look l k) :: keepA l ks := (rfl)
theorem lowA_nil (nb : Nat) : lowA nb [] = true := (rfl)
theorem lowA_cons (nb k : Nat) (v : AV) (l : List (Nat × AV)) : lowA nb ((k, v) :: l) = (AV.low nb v && lowA nb l) := (rfl)
theorem insA_nil (n : Nat) : insA n [] = true := (rfl)
theorem insA_cons (n k : Nat) (l : List Nat) : insA n (k :: l) = (decide (k < n) && insA n l) := (rfl)
theorem argsA_nil (k : Nat) : argsA k [] = [] := (rfl)
theorem argsA_cons (k : Nat) (v : PV) (l : List PV) : argsA k (v :: l) = (k, .pv v) :: argsA (k + 1) l := (rfl)
theorem look_keepA (l : List (Nat × AV)) : ∀ (ks : List Nat) (i : Nat), look (keepA l ks) i = if ks.contains i then look l i else .any
  | [], i => rfl
  | k :: ks, i => by
    rw [keepA_cons, look_cons, look_keepA l ks i, List.contains_cons]
    by_cases h : i = k
    · subst h; simp
    · have : (i == k) = false := by simpa using h
      rw [if_neg h, this, Bool.false_or]
theorem lowA_iff (nb n : Nat) (l : List (Nat × AV)) : ∀ ks : List Nat, insA n ks = true → (lowA nb (keepA l ks) = true ↔ ∀ k ∈ ks, (look l k).low nb = true)
  | [], _ => by simp [keepA, lowA]
  | k :: ks, h => by
    rw [insA_cons, Bool.and_eq_true] at h
    rw [keepA_cons, lowA_cons, Bool.and_eq_true, lowA_iff nb n l ks h.2]
    simp
theorem head_sl {n nb : Nat} {l : List (Nat × AV)} {keep : List Nat} {bx : List Box} {ys : List (List PV)} {sp : Option (Option Nat)} (h : insA n keep = true) (hb : nb ≤ bx.length) (hl : lowA nb (keepA l keep) = true) :
    St.head ⟨sl n l, bx, ys, sp⟩ keep nb = some ⟨sl n (keepA l keep), bx.take nb, ys, sp⟩ := by
  have e : ((sl n l).zipIdx.map fun (v, i) => if keep.contains i then v else AV.any) = sl n (keepA l keep) := by
    apply List.ext_getElem (by simp [sl])
    intro i h1 h2
    simp only [sl, List.getElem_map, List.getElem_zipIdx, List.getElem_range, look_keepA, Nat.zero_add]
  unfold St.head
  simp only
  rw [e, if_pos]
  rw [Bool.and_eq_true, decide_eq_true_eq]
  refine ⟨?_, hb⟩
  rw [List.all_eq_true]
  intro v hv
  unfold sl at hv
  obtain ⟨i, hi, rfl⟩ := List.mem_map.1 hv
  rw [look_keepA]
  split
  · rename_i hc
    exact (lowA_iff nb n l keep h).1 hl i (by simpa using hc)
  · rfl
theorem clean_sl {n nb : Nat} {e : Ex} {l : List (Nat × AV)} {keep : List Nat} {bx : List Box} {ys : List (List PV)} {sp : Option (Option Nat)} (h : insA n keep = true) (hb : nb ≤ bx.length) (hl : lowA nb (keepA l keep) = true) :
    cleanEnd keep nb (e, ⟨sl n l, bx, ys, sp⟩) = some (e, ⟨sl n (keepA l keep), bx.take nb, ys, sp⟩) := by
  unfold cleanEnd
  simp only
  rw [head_sl h hb hl]
  rfl
theorem look_argsA : ∀ (l : List PV) (k i : Nat), look (argsA k l) i = if k ≤ i then ((l[i - k]?).map AV.pv).getD .any else .any := by
  intro l
  induction l with
  | nil => intro k i; simp [argsA, look]
  | cons v l ih =>
    intro k i
    rw [argsA_cons, look_cons, ih]
    by_cases h1 : i = k
    · subst h1; simp
    · rw [if_neg h1]
      by_cases h2 : k ≤ i
      · rw [if_pos (by omega), if_pos h2, show i - k = (i - (k + 1)) + 1 by omega, List.getElem?_cons_succ]
      · rw [if_neg (by omega), if_neg h2]
theorem startL_sl {n : Nat} {x : LArg} {args : List PV} (hn : args.length + 1 ≤ n) : startL n x args = ⟨sl n ((0, x.av) :: argsA 1 args), x.boxes, [], none⟩ := by
  unfold startL
  congr 1
  apply List.ext_getElem (by simp [sl]; omega)
  intro i h1 h2
  simp only [sl, List.getElem_map, List.getElem_range, look_cons, look_argsA]
  cases i with
  | zero => simp
  | succ i =>
    rw [List.getElem_cons_succ, if_neg (by omega), if_pos (by omega), show i + 1 - 1 = i by omega]
    by_cases hi : i < args.length
    · rw [List.getElem_append_left (by simpa using hi)]
      simp [hi]
    · rw [List.getElem_append_right (by simp; omega)]
      simp [hi]
theorem start_sl {n : Nat} {args : List PV} (hn : args.length ≤ n) : start n args = ⟨sl n (argsA 0 args), [], [], none⟩ := by
  have key := look_argsA
  unfold start
  congr 1
  apply List.ext_getElem (by simp [sl]; omega)
  intro i h1 h2
  simp only [sl, List.getElem_map, List.getElem_range, key, Nat.zero_le, if_true, Nat.sub_zero]
  by_cases hi : i < args.length
  · rw [List.getElem_append_left (by simpa using hi)]
    simp [hi]
  · rw [List.getElem_append_right (by simp; omega)]
    simp [hi]
theorem low_pv (nb : Nat) (v : PV) : AV.low nb (.pv v) = true := (rfl)
theorem low_any (nb : Nat) : AV.low nb .any = true := (rfl)
theorem low_yld (nb : Nat) : AV.low nb .yld = true := (rfl)
theorem low_row (nb sz : Nat) (es : List PV) : AV.low nb (.row sz es) = true := (rfl)
theorem low_pbox (nb o j : Nat) : AV.low nb (.pbox o j) = decide (o < nb) := (rfl)
theorem low_refs (nb t off len : Nat) : AV.low nb (.ref (.slot t) off len) = true := (rfl)
theorem low_refc (nb o j off len : Nat) : AV.low nb (.ref (.cell o j) off len) = decide (o < nb) := (rfl)
theorem low_pels (nb t i j : Nat) : AV.low nb (.pel (.slot t) i j) = true := (rfl)
theorem low_pelc (nb o q i j : Nat) : AV.low nb (.pel (.cell o q) i j) = decide (o < nb) := (rfl)
theorem low_fn (nb f : Nat) (caps : List AV) : AV.low nb (.fn f caps) = caps.all fun c => match c with
    | .pv _ => true
    | .pbox o _ => o < nb
    | _ => false := (rfl)
def slAll := And.intro @look_hit (And.intro @look_skip (And.intro @look_nil (And.intro @sl_get (And.intro @sl_some (And.intro @sl_set (And.intro @sl_kill (And.intro @sl_killc (And.intro @sl_froze (And.intro @mapA_nil (And.intro @mapA_cons (And.intro @keepA_nil (And.intro @keepA_cons (And.intro @lowA_nil (And.intro @lowA_cons (And.intro @insA_nil (And.intro @insA_cons (And.intro @argsA_nil (And.intro @argsA_cons (And.intro @head_sl (And.intro @clean_sl (And.intro @start_sl (And.intro @startL_sl (And.intro @low_pv (And.intro @low_any (And.intro @low_yld (And.intro @low_row (And.intro @low_pbox (And.intro @low_refs (And.intro @low_refc (And.intro @low_pels (And.intro @low_pelc (@low_fn))))))))))))))))))))))))))))))))
end Go.Proofs.YtaaokejjmdbfaaaDoor
