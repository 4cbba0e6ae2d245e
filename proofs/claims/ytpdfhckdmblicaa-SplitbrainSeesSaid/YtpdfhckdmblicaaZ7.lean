/-
  Part 7 of the texts that the statement stands on.
-/
import Derived.Test.YtpdfhckdmblicaaZ6
set_option linter.all false
namespace Go.Proofs.Ytpdfhckdmblicaa
set_option linter.all false

noncomputable def iter (env : Env) (f : Nat) (caps : List PV) (stop : Option Nat) : Option (List (List PV)) := iterRes (den env) env f caps stop
def ystart (n : Nat) (caps : List PV) (stop : Option Nat) : St := ⟨.yld :: (caps.map .pv ++ List.replicate (n - (caps.length + 1)) .any), [], [], some stop⟩
def yfin : Ex × St → Option (List (List PV))
  | (.exit _, _) => none
  | (_, st) => some st.ys
section
variable {env : Env}
theorem yfin_normal (st : St) : yfin (.normal, st) = some st.ys := (rfl)
theorem yfin_ret (st : St) : yfin (.ret, st) = some st.ys := (rfl)
theorem iter_code {f : Nat} {fn : VFn} {caps : List PV} {stop : Option Nat} (h : env f = some (.code fn)) (hl : caps.length + 1 = fn.nargs) (hr : fn.results.isEmpty = true) : iter env f caps stop = (den env fn.body (ystart fn.ntmps caps stop)).bind yfin := by
  unfold iter iterRes
  rw [h]
  simp only [if_pos (And.intro hl hr)]
  show (den env fn.body _).bind _ = _
  congr 1
  funext ⟨e, st⟩
  cases e <;> rfl

noncomputable def round1 (env : Env) (slots : List AV) (ps : List Nat) (assign body : VCode) (nb : Nat) (x : List PV) (st : St) : Option (Ex × St) :=
  (setParams slots ps x).bind fun sl => (den env assign { st with slots := sl }).bind fun p => match p with
    | (.normal, st) => (den env body st).bind fun p => match p with
      | (.normal, st) => if nb ≤ st.boxes.length then some (.normal, { st with boxes := st.boxes.take nb }) else none
      | p => some p
    | _ => none
theorem rounds_cons {slots : List AV} {ps : List Nat} {assign body : VCode} {nb k : Nat} {x : List PV} {xs : List (List PV)} {st : St} :
    rounds (den env) slots ps assign body nb k (x :: xs) st = (round1 env slots ps assign body nb x st).bind fun p => match p with
      | (.normal, st) => rounds (den env) slots ps assign body nb (k + 1) xs st
      | (e, st) => some (some (e, k + 1), st) := by
  conv => lhs; unfold rounds
  unfold round1
  show (setParams slots ps x).bind _ = _
  cases setParams slots ps x with
  | none => rfl
  | some sl =>
    simp only [Option.bind_some]
    show (den env assign _).bind _ = _
    cases den env assign { st with slots := sl } with
    | none => rfl
    | some p =>
      obtain ⟨e, s⟩ := p
      simp only [Option.bind_some]
      cases e with
      | normal =>
        simp only
        show (den env body _).bind _ = _
        cases den env body s with
        | none => rfl
        | some p =>
          obtain ⟨e, s⟩ := p
          simp only [Option.bind_some]
          cases e with
          | normal =>
            simp only
            split <;> rfl
          | exit i => rfl
          | ret => rfl
      | exit i => rfl
      | ret => rfl
theorem rounds_take {slots : List AV} {ps : List Nat} {assign body : VCode} {nb : Nat} {e : Ex} {m : Nat} {s : St} : ∀ {xs : List (List PV)} {k : Nat} {st : St}, rounds (den env) slots ps assign body nb k xs st = some (some (e, m), s) →
    k < m ∧ m ≤ k + xs.length ∧ rounds (den env) slots ps assign body nb k (xs.take (m - k)) st = some (some (e, m), s)
  | [], k, st, h => by cases h
  | x :: xs, k, st, h => by
    rw [rounds_cons] at h
    cases hr : round1 env slots ps assign body nb x st with
    | none => rw [hr] at h; cases h
    | some p =>
      obtain ⟨e1, s1⟩ := p
      rw [hr] at h
      simp only [Option.bind_some] at h
      cases e1 with
      | normal =>
        obtain ⟨h1, h2, h3⟩ := rounds_take h
        refine ⟨by omega, by simp only [List.length_cons]; omega, ?_⟩
        rw [show m - k = (m - (k + 1)) + 1 by omega, List.take_succ_cons, rounds_cons, hr]
        exact h3
      | exit i =>
        cases h
        refine ⟨by omega, by simp, ?_⟩
        rw [show k + 1 - k = 0 + 1 by omega, List.take_succ_cons, rounds_cons, hr]
        rfl
      | ret =>
        cases h
        refine ⟨by omega, by simp, ?_⟩
        rw [show k + 1 - k = 0 + 1 by omega, List.take_succ_cons, rounds_cons, hr]
        rfl
theorem rng_all {g : Opd} {ps : List Nat} {assign body : VCode} {st st1 : St} {f : Nat} {caps : List PV} {xs : List (List PV)} (hg : st.pvOf g = some (.func f caps)) (hi : iter env f caps none = some xs)
    (hr : rounds (den env) (st.slots.map AV.froze) ps assign body st.boxes.length 0 xs { st with slots := st.slots.map AV.froze } = some (none, st1)) : den env (.rng g ps assign body) st = some (.normal, { st1 with slots := st.slots.map AV.froze }) := by
  rw [den_eq]
  show ranged (den env) env g ps assign body st = _
  unfold ranged
  rw [hg]
  unfold iter at hi
  simp only [z_bind_eq, Option.bind_some, hi, hr]
theorem rng_out {g : Opd} {ps : List Nat} {assign body : VCode} {st st1 : St} {f : Nat} {caps : List PV} {xs : List (List PV)} {e : Ex} {k : Nat} (hg : st.pvOf g = some (.func f caps)) (hi : iter env f caps none = some xs)
    (hr : rounds (den env) (st.slots.map AV.froze) ps assign body st.boxes.length 0 xs { st with slots := st.slots.map AV.froze } = some (some (e, k), st1)) (hi2 : iter env f caps (some k) = some (xs.take k)) : den env (.rng g ps assign body) st = some (e, { st1 with slots := st.slots.map AV.froze }) := by
  obtain ⟨h1, h2, h3⟩ := rounds_take hr
  rw [den_eq]
  show ranged (den env) env g ps assign body st = _
  unfold ranged
  rw [hg]
  unfold iter at hi hi2
  simp only [Nat.sub_zero] at h3
  have hl : (xs.take k).length = k := by rw [List.length_take]; omega
  simp only [z_bind_eq, Option.bind_some, hi, hr, hi2, h3, hl, and_self, if_true]
def scanR {β : Type} (f : β → List PV → β ⊕ (Ex × St)) : List (List PV) → β → β ⊕ (Ex × St)
  | [], b => .inl b
  | x :: xs, b => match f b x with
    | .inl b => scanR f xs b
    | .inr r => .inr r
theorem rng_scan {β : Type} (B : β → List Box) (F : β → List PV → β ⊕ (Ex × St)) (Pr : β → Prop) (b0 : β) {g : Opd} {ps : List Nat} {assign body : VCode} {st : St} {f : Nat} {caps : List PV} {xs : List (List PV)} (hg : st.pvOf g = some (.func f caps)) (hi : iter env f caps none = some xs)
    (hi2 : ∀ k, 1 ≤ k → k ≤ xs.length → iter env f caps (some k) = some (xs.take k)) (hB : st.boxes = B b0) (hP : Pr b0)
    (h : ∀ b x, Pr b → x ∈ xs → ∀ sl0, match F b x with
      | .inl b' => Pr b' ∧ ∃ sl1, round1 env (st.slots.map AV.froze) ps assign body st.boxes.length x ⟨sl0, B b, st.ys, st.stop⟩ = some (.normal, ⟨sl1, B b', st.ys, st.stop⟩)
      | .inr (e, s) => e ≠ .normal ∧ ∃ sl1, round1 env (st.slots.map AV.froze) ps assign body st.boxes.length x ⟨sl0, B b, st.ys, st.stop⟩ = some (e, { s with slots := sl1 })) :
    den env (.rng g ps assign body) st = match scanR F xs b0 with
      | .inl b => some (.normal, ⟨st.slots.map AV.froze, B b, st.ys, st.stop⟩)
      | .inr (e, s) => some (e, { s with slots := st.slots.map AV.froze }) := by
  have key : ∀ (l : List (List PV)), (∀ x ∈ l, x ∈ xs) → ∀ (b : β), Pr b → ∀ (k : Nat) (sl0 : List AV), match scanR F l b with
      | .inl b' => ∃ sl1, rounds (den env) (st.slots.map AV.froze) ps assign body st.boxes.length k l ⟨sl0, B b, st.ys, st.stop⟩ = some (none, ⟨sl1, B b', st.ys, st.stop⟩)
      | .inr (e, s) => ∃ sl1 m, rounds (den env) (st.slots.map AV.froze) ps assign body st.boxes.length k l ⟨sl0, B b, st.ys, st.stop⟩ = some (some (e, m), { s with slots := sl1 }) := by
    intro l
    induction l with
    | nil => intro _ b _ k sl0; exact ⟨sl0, rfl⟩
    | cons x l ih =>
      intro hl b hb k sl0
      have h1 := h b x hb (hl x (by simp)) sl0
      unfold scanR
      cases hF : F b x with
      | inl b' =>
        rw [hF] at h1
        obtain ⟨q1, sl1, q2⟩ := h1
        have h2 := ih (fun y hy => hl y (by simp [hy])) b' q1 (k + 1) sl1
        simp only
        rw [rounds_cons, q2]
        exact h2
      | inr r =>
        obtain ⟨e, s⟩ := r
        rw [hF] at h1
        obtain ⟨q1, sl1, q2⟩ := h1
        simp only
        rw [rounds_cons, q2]
        cases e with
        | normal => exact absurd rfl q1
        | exit i => exact ⟨sl1, k + 1, rfl⟩
        | ret => exact ⟨sl1, k + 1, rfl⟩
  have h0 := key xs (fun x hx => hx) b0 hP 0 (st.slots.map AV.froze)
  rw [← hB] at h0
  cases hs : scanR F xs b0 with
  | inl b =>
    rw [hs] at h0
    obtain ⟨sl1, h0⟩ := h0
    have r := rng_all hg hi h0
    exact r
  | inr r =>
    obtain ⟨e, s⟩ := r
    rw [hs] at h0
    obtain ⟨sl1, m, h0⟩ := h0
    obtain ⟨q1, q2, _⟩ := rounds_take h0
    have r := rng_out hg hi h0 (hi2 m (by omega) (by omega))
    exact r
theorem rng_fold {β : Type} (B : β → List Box) (F : β → List PV → β) (Pr : β → Prop) (b0 : β) {g : Opd} {ps : List Nat} {assign body : VCode} {st : St} {f : Nat} {caps : List PV} {xs : List (List PV)} (hg : st.pvOf g = some (.func f caps)) (hi : iter env f caps none = some xs)
    (hB : st.boxes = B b0) (hP : Pr b0)
    (h : ∀ b x, Pr b → x ∈ xs → ∀ sl0, Pr (F b x) ∧ ∃ sl1, round1 env (st.slots.map AV.froze) ps assign body st.boxes.length x ⟨sl0, B b, st.ys, st.stop⟩ = some (.normal, ⟨sl1, B (F b x), st.ys, st.stop⟩)) :
    den env (.rng g ps assign body) st = some (.normal, ⟨st.slots.map AV.froze, B (xs.foldl F b0), st.ys, st.stop⟩) := by
  have key : ∀ (l : List (List PV)), (∀ x ∈ l, x ∈ xs) → ∀ (b : β), Pr b → ∀ (k : Nat) (sl0 : List AV), ∃ sl1, rounds (den env) (st.slots.map AV.froze) ps assign body st.boxes.length k l ⟨sl0, B b, st.ys, st.stop⟩ = some (none, ⟨sl1, B (l.foldl F b), st.ys, st.stop⟩) := by
    intro l
    induction l with
    | nil => intro _ b _ k sl0; exact ⟨sl0, rfl⟩
    | cons x l ih =>
      intro hl b hb k sl0
      obtain ⟨q1, sl1, q2⟩ := h b x hb (hl x (by simp)) sl0
      obtain ⟨sl2, h2⟩ := ih (fun y hy => hl y (by simp [hy])) _ q1 (k + 1) sl1
      refine ⟨sl2, ?_⟩
      rw [rounds_cons, q2]
      exact h2
  obtain ⟨sl1, h0⟩ := key xs (fun x hx => hx) b0 hP 0 (st.slots.map AV.froze)
  rw [← hB] at h0
  have r := rng_all hg hi h0
  exact r
theorem rng_idx (B : Nat → List Box) {g : Opd} {ps : List Nat} {assign body : VCode} {st : St} {f : Nat} {caps : List PV} {xs : List (List PV)} (hg : st.pvOf g = some (.func f caps)) (hi : iter env f caps none = some xs) (hB : st.boxes = B 0)
    (h : ∀ j x, xs[j]? = some x → ∀ sl0, ∃ sl1, round1 env (st.slots.map AV.froze) ps assign body st.boxes.length x ⟨sl0, B j, st.ys, st.stop⟩ = some (.normal, ⟨sl1, B (j + 1), st.ys, st.stop⟩)) :
    den env (.rng g ps assign body) st = some (.normal, ⟨st.slots.map AV.froze, B xs.length, st.ys, st.stop⟩) := by
  have key : ∀ (l : List (List PV)) (j : Nat), xs.drop j = l → ∀ (k : Nat) (sl0 : List AV), ∃ sl1, rounds (den env) (st.slots.map AV.froze) ps assign body st.boxes.length k l ⟨sl0, B j, st.ys, st.stop⟩ = some (none, ⟨sl1, B (j + l.length), st.ys, st.stop⟩) := by
    intro l
    induction l with
    | nil => intro j _ k sl0; exact ⟨sl0, rfl⟩
    | cons x l ih =>
      intro j hj k sl0
      have hx : xs[j]? = some x := by rw [← List.head?_drop, hj]; rfl
      have hd : xs.drop (j + 1) = l := by rw [← List.drop_drop, hj]; rfl
      obtain ⟨sl1, q⟩ := h j x hx sl0
      obtain ⟨sl2, q2⟩ := ih (j + 1) hd (k + 1) sl1
      refine ⟨sl2, ?_⟩
      rw [rounds_cons, q]
      simp only [Option.bind_some, q2, List.length_cons]
      rw [show j + 1 + l.length = j + (l.length + 1) by omega]
  obtain ⟨sl1, q⟩ := key xs 0 (by simp) 0 (st.slots.map AV.froze)
  rw [← hB, Nat.zero_add] at q
  have r := rng_all hg hi q
  exact r
theorem rng_idx_out (B : Nat → List Box) (m : Nat) {g : Opd} {ps : List Nat} {assign body : VCode} {st s : St} {e : Ex} {f : Nat} {caps : List PV} {xs : List (List PV)} (hg : st.pvOf g = some (.func f caps)) (hi : iter env f caps none = some xs) (hi2 : iter env f caps (some (m + 1)) = some (xs.take (m + 1))) (hB : st.boxes = B 0) (hm : m < xs.length)
    (h : ∀ j x, j < m → xs[j]? = some x → ∀ sl0, ∃ sl1, round1 env (st.slots.map AV.froze) ps assign body st.boxes.length x ⟨sl0, B j, st.ys, st.stop⟩ = some (.normal, ⟨sl1, B (j + 1), st.ys, st.stop⟩))
    (he : e ≠ .normal) (hl : ∀ x, xs[m]? = some x → ∀ sl0, ∃ sl1, round1 env (st.slots.map AV.froze) ps assign body st.boxes.length x ⟨sl0, B m, st.ys, st.stop⟩ = some (e, { s with slots := sl1 })) :
    den env (.rng g ps assign body) st = some (e, { s with slots := st.slots.map AV.froze }) := by
  have key : ∀ (d j : Nat), j + d = m → ∀ (k : Nat) (sl0 : List AV), ∃ sl1, rounds (den env) (st.slots.map AV.froze) ps assign body st.boxes.length k (xs.drop j) ⟨sl0, B j, st.ys, st.stop⟩ = some (some (e, k + d + 1), { s with slots := sl1 }) := by
    intro d
    induction d with
    | zero =>
      intro j hj k sl0
      obtain rfl : j = m := by omega
      rw [List.drop_eq_getElem_cons hm]
      obtain ⟨sl1, q⟩ := hl _ (List.getElem?_eq_getElem hm) sl0
      refine ⟨sl1, ?_⟩
      rw [rounds_cons, q]
      cases e with
      | normal => exact absurd rfl he
      | exit i => rfl
      | ret => rfl
    | succ d ih =>
      intro j hj k sl0
      have hj' : j < xs.length := by omega
      rw [List.drop_eq_getElem_cons hj']
      obtain ⟨sl1, q⟩ := h j _ (by omega) (List.getElem?_eq_getElem hj') sl0
      obtain ⟨sl2, q2⟩ := ih (j + 1) (by omega) (k + 1) sl1
      refine ⟨sl2, ?_⟩
      rw [rounds_cons, q]
      simp only [Option.bind_some, q2]
      rw [show k + 1 + d + 1 = k + (d + 1) + 1 by omega]
  obtain ⟨sl1, q⟩ := key m 0 (by omega) 0 (st.slots.map AV.froze)
  rw [List.drop_zero, ← hB, Nat.zero_add] at q
  have r := rng_out hg hi q hi2
  exact r
theorem clean_upP {keep post : List Nat} {id nb : Nat} {b : VCode} (n : Nat) (P : Nat → Prop) (S : Nat → St) (R : Nat → Option (Ex × St)) {st : St} (h : st.head keep st.boxes.length = some (S 0)) (hP : P 0) (hS : ∀ i, (S i).boxes.length = nb) (hh : ∀ i, (S i).head keep nb = some (S i))
    (step : ∀ i rb, i < n → P i → (P (i + 1) → ∀ s, s.head keep nb = some (S (i + 1)) → tailOf env id post nb (den env rb s) = R (i + 1)) → tailOf env id post nb ((den env b (S i)).bind (next env rb)) = R i)
    (last : ∀ rb, P n → tailOf env id post nb ((den env b (S n)).bind (next env rb)) = R n) :
    den env (.clean keep post (.block id (.loop keep b))) st = R 0 := by
  refine clean_rec S R (fun i => i ≤ n ∧ P i) (fun i => n - i) 0 h ⟨Nat.zero_le _, hP⟩ hS hh fun i rb hi ih => ?_
  by_cases hn : i = n
  · subst hn; exact last rb hi.2
  · exact step i rb (by omega) hi.2 fun hp s hs => ih (i + 1) (by omega) ⟨by omega, hp⟩ s hs
noncomputable def rassign (env : Env) (body : VCode) (nb : Nat) : Ex × St → Option (Ex × St)
  | (.normal, st) => (den env body st).bind fun p => match p with
    | (.normal, st) => if nb ≤ st.boxes.length then some (.normal, { st with boxes := st.boxes.take nb }) else none
    | p => some p
  | _ => none
def rend (nb : Nat) : Ex × St → Option (Ex × St)
  | (.normal, st) => if nb ≤ st.boxes.length then some (.normal, { st with boxes := st.boxes.take nb }) else none
  | p => some p
theorem round1_eq (slots : List AV) (ps : List Nat) (assign body : VCode) (nb : Nat) (x : List PV) (st : St) : round1 env slots ps assign body nb x st = (setParams slots ps x).bind fun sl => (den env assign { st with slots := sl }).bind (rassign env body nb) := by
  unfold round1
  rfl
theorem rassign_normal (body : VCode) (nb : Nat) (st : St) : rassign env body nb (.normal, st) = (den env body st).bind (rend nb) := by
  rfl
theorem rend_normal (nb : Nat) (st : St) : rend nb (.normal, st) = if nb ≤ st.boxes.length then some (.normal, { st with boxes := st.boxes.take nb }) else none := (rfl)
theorem rend_exit (nb i : Nat) (st : St) : rend nb (.exit i, st) = some (.exit i, st) := (rfl)
theorem rend_ret (nb : Nat) (st : St) : rend nb (.ret, st) = some (.ret, st) := (rfl)
theorem setP_nil (slots : List AV) : setParams slots [] [] = some slots := (rfl)
theorem setP_cons (slots : List AV) (p : Nat) (ps : List Nat) (v : PV) (vs : List PV) : setParams slots (p :: ps) (v :: vs) = setParams (slots.set p (.pv v)) ps vs := (rfl)
theorem froze_pv (v : PV) : AV.froze (.pv v) = .pv v := (rfl)
theorem froze_row (sz : Nat) (es : List PV) : AV.froze (.row sz es) = .pv (.list sz es) := (rfl)
theorem froze_any : AV.froze .any = .any := (rfl)
theorem froze_tup (l : List AV) : AV.froze (.tup l) = .any := (rfl)
theorem froze_ref (r : Root) (i j : Nat) : AV.froze (.ref r i j) = .any := (rfl)
theorem froze_pel (r : Root) (i j : Nat) : AV.froze (.pel r i j) = .any := (rfl)
theorem froze_pbox (i j : Nat) : AV.froze (.pbox i j) = .pbox i j := (rfl)
theorem froze_fn (f : Nat) (l : List AV) : AV.froze (.fn f l) = .fn f l := (rfl)
theorem froze_yld : AV.froze .yld = .yld := (rfl)
end
def vRng := And.intro @round1_eq (And.intro @rassign_normal (And.intro @rend_normal (And.intro @rend_exit (And.intro @rend_ret (And.intro @setP_nil (And.intro @setP_cons (And.intro @froze_pv (And.intro @froze_row (And.intro @froze_any (And.intro @froze_tup (And.intro @froze_ref (And.intro @froze_pel (And.intro @froze_pbox (And.intro @froze_fn (And.intro @froze_yld (And.intro @yfin_normal @yfin_ret))))))))))))))))
end Go.Proofs.Ytpdfhckdmblicaa

namespace Go.Proofs.Ytpdfhckdmblicaa.V
set_option linter.all false

structure Spn where
  epoch : Int
  fr : Int
  to : Int
  deriving DecidableEq
def eSpn (x : Spn) : PV := .agg [.int .i64 x.epoch, .int .i64 x.fr, .int .i64 x.to]
def eSpns (l : List Spn) : PV := .list 3 (l.map eSpn)
def bSpn (x : Spn) : List BV := [.pv (.int .i64 x.epoch), .pv (.int .i64 x.fr), .pv (.int .i64 x.to)]
def okNext (p x : Spn) : Bool := decide (x.fr = p.to + 1) && (decide (x.fr ≤ x.to) && (decide (x.to ≤ 1073741824) && (decide (x.epoch ≤ 1073741824) && decide (p.epoch < x.epoch))))
def z0 : Spn := ⟨0, 0, 0⟩
def linGo : Spn → List Spn → Bool
  | _, [] => true
  | p, x :: l => okNext p x && linGo x l
def linOk (l : List Spn) : Bool := linGo z0 l
def lastOf (l : List Spn) (j : Nat) : Spn := if j = 0 then z0 else l.getD (j - 1) z0
def fineS (p : Spn) : Prop := 0 ≤ p.epoch ∧ p.epoch ≤ 1073741824 ∧ 0 ≤ p.to ∧ p.to ≤ 1073741824
theorem lastOf_succ {l : List Spn} {i : Nat} (h : i < l.length) : lastOf l (i + 1) = l[i] := by
  simp [lastOf, List.getD_eq_getElem?_getD, List.getElem?_eq_getElem h]
theorem okNext_fine {p x : Spn} (h : okNext p x = true) (hp : fineS p) : fineS x ∧ x.fr = p.to + 1 ∧ x.fr ≤ x.to ∧ p.epoch < x.epoch := by
  simp only [okNext, Bool.and_eq_true, decide_eq_true_eq] at h
  unfold fineS at *
  omega
def linRes (p : Spn) : List Spn → Bool × Spn
  | [] => (true, p)
  | x :: r => if okNext p x = true then linRes x r else (false, p)
theorem linRes_go : ∀ (l : List Spn) (p : Spn), (linRes p l).1 = linGo p l
  | [], _ => rfl
  | x :: l, p => by
    unfold linRes linGo
    by_cases h : okNext p x = true
    · simp only [h, if_true, Bool.true_and]; exact linRes_go l x
    · simp only [h, if_false, Bool.not_eq_true] at *; simp [h]
theorem cal106 {n low : Int} : cal env 106 [.int .i64 n, .int .i64 low] = some [(.bool (decide (n ≥ low) && decide (n ≤ 1073741824)), false)] := by
  rw [cal_code env106 rfl]; simp only [fn106]; simp only [start, z_map_cons, z_map_nil, z_len_cons, z_len_nil, z_repl_zero, z_repl_succ, z_cons_app, z_nil_app, Nat.reduceAdd, Nat.reduceSub]
  by_cases h : n ≥ low
  · have G : (n ≥ low) = True := eq_true h
    simp only [G, List.isEmpty_nil, val_pvs, frozen_pvs, msnoc_len, msnoc_get, msnoc_set, msnoc_take, Int.le_refl, take_map_all, Nat.le_refl, St.freezeRows, BV.frozen, List.take_length, List.take_append_drop, z_repl_zero, Int.toNat_zero, true_and, and_true, and_self, eq_self, z_take_zero, List.drop_nil, List.take_nil, vAll, List.foldl_nil, List.foldl_cons, resultsOf, resultList, resultOf, zBV, splice, PV.remade, St.freezeAt, St.freezeBox, St.freezeCap, PV.single, plain, act, dstOf, if_true, if_false, reduceCtorEq, St.get, St.put, St.pvOf, St.putRow, St.consume, St.freeze, St.row, St.elems, St.grab, St.takeRow, St.setRow, St.place, St.optPv, St.setCell, St.setCellRow, binPV, intBin, unPV, BV.val, Nat.reduceEqDiff, bound, consumeAll, buildParts, capsOf, capOf, List.append_nil, Nat.reduceAdd, Nat.reduceLT, Nat.reduceLeDiff, beq_self_eq_true, List.length_map, Nat.beq, dcall, dcallP, List.mapM_cons, St.snapFn, St.snap, St.layAll, St.lay, St.freezeArg, St.freezeArg1]
  · have G : (n ≥ low) = False := eq_false h
    simp only [G, List.isEmpty_nil, val_pvs, frozen_pvs, msnoc_len, msnoc_get, msnoc_set, msnoc_take, Int.le_refl, take_map_all, Nat.le_refl, St.freezeRows, BV.frozen, List.take_length, List.take_append_drop, z_repl_zero, Int.toNat_zero, true_and, and_true, and_self, eq_self, z_take_zero, List.drop_nil, List.take_nil, vAll, List.foldl_nil, List.foldl_cons, resultsOf, resultList, resultOf, zBV, splice, PV.remade, St.freezeAt, St.freezeBox, St.freezeCap, PV.single, plain, act, dstOf, if_true, if_false, reduceCtorEq, St.get, St.put, St.pvOf, St.putRow, St.consume, St.freeze, St.row, St.elems, St.grab, St.takeRow, St.setRow, St.place, St.optPv, St.setCell, St.setCellRow, binPV, intBin, unPV, BV.val, Nat.reduceEqDiff, bound, consumeAll, buildParts, capsOf, capOf, List.append_nil, Nat.reduceAdd, Nat.reduceLT, Nat.reduceLeDiff, beq_self_eq_true, List.length_map, Nat.beq, dcall, dcallP, List.mapM_cons, St.snapFn, St.snap, St.layAll, St.lay, St.freezeArg, St.freezeArg1]
theorem loop83 {l : List Spn} (hl : l.length ≤ lim)
   {st : St} (h : st.head [0, 3, 7, 8, 9] st.boxes.length = some ⟨[.pv (.list 3 (l.map eSpn)), .any, .any, .pbox 0 0, .any, .any, .any, .pv (.list 3 (l.map eSpn)), .pv (.int .i64 l.length), .pv (.int .i64 (0 : Nat)), .any, .any, .any, .any, .any, .any, .any, .any, .any, .any, .any, .any, .any, .any, .any, .any, .any, .any, .any, .any, .any, .any, .any, .any, .any, .any, .any, .any, .any, .any, .any, .any, .any, .any, .any, .any], [⟨false, bSpn z0⟩], [], none⟩) :
   den env fn83_l1 st = match linRes z0 l with
     | (true, p) => some (.normal, ⟨[.any, .any, .any, .any, .any, .any, .any, .any, .any, .any, .any, .any, .any, .any, .any, .any, .any, .any, .any, .any, .any, .any, .any, .any, .any, .any, .any, .any, .any, .any, .any, .any, .any, .any, .any, .any, .any, .any, .any, .any, .any, .any, .any, .any, .any, .any], [⟨false, bSpn p⟩], [], none⟩)
     | (false, p) => some (.ret, ⟨[.any, .any, .pv (.bool false), .any, .any, .any, .any, .any, .any, .any, .any, .any, .any, .any, .any, .any, .any, .any, .any, .any, .any, .any, .any, .any, .any, .any, .any, .any, .any, .any, .any, .any, .any, .any, .any, .any, .any, .any, .any, .any, .any, .any, .any, .any, .any, .any], [⟨false, bSpn p⟩], [], none⟩) := by
  unfold fn83_l1
  refine clean_upP (env := env) l.length (fun i => fineS (lastOf l i)) (fun i => ⟨[.pv (.list 3 (l.map eSpn)), .any, .any, .pbox 0 0, .any, .any, .any, .pv (.list 3 (l.map eSpn)), .pv (.int .i64 l.length), .pv (.int .i64 i), .any, .any, .any, .any, .any, .any, .any, .any, .any, .any, .any, .any, .any, .any, .any, .any, .any, .any, .any, .any, .any, .any, .any, .any, .any, .any, .any, .any, .any, .any, .any, .any, .any, .any, .any, .any], [⟨false, bSpn (lastOf l i)⟩], [], none⟩)
    (fun i => match linRes (lastOf l i) (l.drop i) with
     | (true, p) => some (.normal, ⟨[.any, .any, .any, .any, .any, .any, .any, .any, .any, .any, .any, .any, .any, .any, .any, .any, .any, .any, .any, .any, .any, .any, .any, .any, .any, .any, .any, .any, .any, .any, .any, .any, .any, .any, .any, .any, .any, .any, .any, .any, .any, .any, .any, .any, .any, .any], [⟨false, bSpn p⟩], [], none⟩)
     | (false, p) => some (.ret, ⟨[.any, .any, .pv (.bool false), .any, .any, .any, .any, .any, .any, .any, .any, .any, .any, .any, .any, .any, .any, .any, .any, .any, .any, .any, .any, .any, .any, .any, .any, .any, .any, .any, .any, .any, .any, .any, .any, .any, .any, .any, .any, .any, .any, .any, .any, .any, .any, .any], [⟨false, bSpn p⟩], [], none⟩)) h (by simp [lastOf, fineS, z0]) (fun _ => rfl) (fun _ => rfl) ?_ ?_
  · intro i rb hi hf ih
    have hi1 := i64_next hi hl
    have F1 : ((i : Int) < (l.length : Int)) = True := eq_true (by omega)
    have hk : l[i]? = some l[i] := List.getElem?_eq_getElem hi
    rw [lastOf_succ hi] at ih
    rw [List.drop_eq_getElem_cons hi]
    unfold linRes
    generalize lastOf l i = p at *
    generalize l[i] = x at *
    obtain ⟨pe, pf, pt⟩ := p
    obtain ⟨xe, xf, xt⟩ := x
    have hf' := hf
    simp only [fineS] at hf
    have F2 : IntKind.i64.wrap (pt + 1) = pt + 1 := i64_fits (by omega)
    by_cases c1 : xf = pt + 1
    rotate_left
    · have G1 : (xf != pt + 1) = true := by simpa using c1
      have hn : okNext ⟨pe, pf, pt⟩ ⟨xe, xf, xt⟩ = false := by simp [okNext, c1]
      simp only [G1, fn83_b0, F1, F2, hk, bSpn, eSpn, index_nat hi, List.getElem?_map, Option.map_some, List.isEmpty_nil, val_pvs, frozen_pvs, msnoc_len, msnoc_get, msnoc_set, msnoc_take, Int.le_refl, take_map_all, Nat.le_refl, St.freezeRows, BV.frozen, List.take_length, List.take_append_drop, z_repl_zero, Int.toNat_zero, true_and, and_true, and_self, eq_self, z_take_zero, List.drop_nil, List.take_nil, vAll, List.foldl_nil, List.foldl_cons, resultsOf, resultList, resultOf, zBV, splice, PV.remade, St.freezeAt, St.freezeBox, St.freezeCap, PV.single, plain, act, dstOf, if_true, if_false, reduceCtorEq, St.get, St.put, St.pvOf, St.putRow, St.consume, St.freeze, St.row, St.elems, St.grab, St.takeRow, St.setRow, St.place, St.optPv, St.setCell, St.setCellRow, binPV, intBin, unPV, BV.val, Nat.reduceEqDiff, bound, consumeAll, buildParts, capsOf, capOf, List.append_nil, Nat.reduceAdd, Nat.reduceLT, Nat.reduceLeDiff, beq_self_eq_true, List.length_map, Nat.beq, dcall, dcallP, List.mapM_cons, St.snapFn, St.snap, St.layAll, St.lay, St.freezeArg, St.freezeArg1]
      simp only [hn]
      rfl
    have G1 : (xf != pt + 1) = false := by simpa using c1
    by_cases c2 : xt < xf
    · have G2 : (xt < xf) = True := eq_true c2
      have hn : okNext ⟨pe, pf, pt⟩ ⟨xe, xf, xt⟩ = false := by simp [okNext]; omega
      simp only [G1, G2, fn83_b0, F1, F2, hk, bSpn, eSpn, index_nat hi, List.getElem?_map, Option.map_some, List.isEmpty_nil, val_pvs, frozen_pvs, msnoc_len, msnoc_get, msnoc_set, msnoc_take, Int.le_refl, take_map_all, Nat.le_refl, St.freezeRows, BV.frozen, List.take_length, List.take_append_drop, z_repl_zero, Int.toNat_zero, true_and, and_true, and_self, eq_self, z_take_zero, List.drop_nil, List.take_nil, vAll, List.foldl_nil, List.foldl_cons, resultsOf, resultList, resultOf, zBV, splice, PV.remade, St.freezeAt, St.freezeBox, St.freezeCap, PV.single, plain, act, dstOf, if_true, if_false, reduceCtorEq, St.get, St.put, St.pvOf, St.putRow, St.consume, St.freeze, St.row, St.elems, St.grab, St.takeRow, St.setRow, St.place, St.optPv, St.setCell, St.setCellRow, binPV, intBin, unPV, BV.val, Nat.reduceEqDiff, bound, consumeAll, buildParts, capsOf, capOf, List.append_nil, Nat.reduceAdd, Nat.reduceLT, Nat.reduceLeDiff, beq_self_eq_true, List.length_map, Nat.beq, dcall, dcallP, List.mapM_cons, St.snapFn, St.snap, St.layAll, St.lay, St.freezeArg, St.freezeArg1]
      simp only [hn]
      rfl
    have G2 : (xt < xf) = False := eq_false c2
    by_cases c3 : xt > 1073741824
    · have G3 : (xt > 1073741824) = True := eq_true c3
      have hn : okNext ⟨pe, pf, pt⟩ ⟨xe, xf, xt⟩ = false := by simp [okNext]; omega
      simp only [G1, G2, G3, fn83_b0, F1, F2, hk, bSpn, eSpn, index_nat hi, List.getElem?_map, Option.map_some, List.isEmpty_nil, val_pvs, frozen_pvs, msnoc_len, msnoc_get, msnoc_set, msnoc_take, Int.le_refl, take_map_all, Nat.le_refl, St.freezeRows, BV.frozen, List.take_length, List.take_append_drop, z_repl_zero, Int.toNat_zero, true_and, and_true, and_self, eq_self, z_take_zero, List.drop_nil, List.take_nil, vAll, List.foldl_nil, List.foldl_cons, resultsOf, resultList, resultOf, zBV, splice, PV.remade, St.freezeAt, St.freezeBox, St.freezeCap, PV.single, plain, act, dstOf, if_true, if_false, reduceCtorEq, St.get, St.put, St.pvOf, St.putRow, St.consume, St.freeze, St.row, St.elems, St.grab, St.takeRow, St.setRow, St.place, St.optPv, St.setCell, St.setCellRow, binPV, intBin, unPV, BV.val, Nat.reduceEqDiff, bound, consumeAll, buildParts, capsOf, capOf, List.append_nil, Nat.reduceAdd, Nat.reduceLT, Nat.reduceLeDiff, beq_self_eq_true, List.length_map, Nat.beq, dcall, dcallP, List.mapM_cons, St.snapFn, St.snap, St.layAll, St.lay, St.freezeArg, St.freezeArg1]
      simp only [hn]
      rfl
    have G3 : (xt > 1073741824) = False := eq_false c3
    have e1 := cal106 (n := xe) (low := 1)
    by_cases c4 : 1 ≤ xe ∧ xe ≤ 1073741824
    rotate_left
    · have G4 : (decide (xe ≥ 1) && decide (xe ≤ 1073741824)) = false := by
        rw [← Bool.not_eq_true]; simp; omega
      rw [G4] at e1
      have hn : okNext ⟨pe, pf, pt⟩ ⟨xe, xf, xt⟩ = false := by simp [okNext]; omega
      simp only [G1, G2, G3, e1, fn83_b0, F1, F2, hk, bSpn, eSpn, index_nat hi, List.getElem?_map, Option.map_some, List.isEmpty_nil, val_pvs, frozen_pvs, msnoc_len, msnoc_get, msnoc_set, msnoc_take, Int.le_refl, take_map_all, Nat.le_refl, St.freezeRows, BV.frozen, List.take_length, List.take_append_drop, z_repl_zero, Int.toNat_zero, true_and, and_true, and_self, eq_self, z_take_zero, List.drop_nil, List.take_nil, vAll, List.foldl_nil, List.foldl_cons, resultsOf, resultList, resultOf, zBV, splice, PV.remade, St.freezeAt, St.freezeBox, St.freezeCap, PV.single, plain, act, dstOf, if_true, if_false, reduceCtorEq, St.get, St.put, St.pvOf, St.putRow, St.consume, St.freeze, St.row, St.elems, St.grab, St.takeRow, St.setRow, St.place, St.optPv, St.setCell, St.setCellRow, binPV, intBin, unPV, BV.val, Nat.reduceEqDiff, bound, consumeAll, buildParts, capsOf, capOf, List.append_nil, Nat.reduceAdd, Nat.reduceLT, Nat.reduceLeDiff, beq_self_eq_true, List.length_map, Nat.beq, dcall, dcallP, List.mapM_cons, St.snapFn, St.snap, St.layAll, St.lay, St.freezeArg, St.freezeArg1]
      simp only [hn]
      rfl
    have G4 : (decide (xe ≥ 1) && decide (xe ≤ 1073741824)) = true := by simp; omega
    rw [G4] at e1
    by_cases c5 : xe ≤ pe
    · have G5 : (xe ≤ pe) = True := eq_true c5
      have hn : okNext ⟨pe, pf, pt⟩ ⟨xe, xf, xt⟩ = false := by simp [okNext]; omega
      simp only [G1, G2, G3, e1, G5, fn83_b0, F1, F2, hk, bSpn, eSpn, index_nat hi, List.getElem?_map, Option.map_some, List.isEmpty_nil, val_pvs, frozen_pvs, msnoc_len, msnoc_get, msnoc_set, msnoc_take, Int.le_refl, take_map_all, Nat.le_refl, St.freezeRows, BV.frozen, List.take_length, List.take_append_drop, z_repl_zero, Int.toNat_zero, true_and, and_true, and_self, eq_self, z_take_zero, List.drop_nil, List.take_nil, vAll, List.foldl_nil, List.foldl_cons, resultsOf, resultList, resultOf, zBV, splice, PV.remade, St.freezeAt, St.freezeBox, St.freezeCap, PV.single, plain, act, dstOf, if_true, if_false, reduceCtorEq, St.get, St.put, St.pvOf, St.putRow, St.consume, St.freeze, St.row, St.elems, St.grab, St.takeRow, St.setRow, St.place, St.optPv, St.setCell, St.setCellRow, binPV, intBin, unPV, BV.val, Nat.reduceEqDiff, bound, consumeAll, buildParts, capsOf, capOf, List.append_nil, Nat.reduceAdd, Nat.reduceLT, Nat.reduceLeDiff, beq_self_eq_true, List.length_map, Nat.beq, dcall, dcallP, List.mapM_cons, St.snapFn, St.snap, St.layAll, St.lay, St.freezeArg, St.freezeArg1]
      simp only [hn]
      rfl
    have G5 : (xe ≤ pe) = False := eq_false c5
    have hn : okNext ⟨pe, pf, pt⟩ ⟨xe, xf, xt⟩ = true := by simp [okNext]; omega
    have hfx := (okNext_fine hn hf').1
    simp only [G1, G2, G3, e1, G5, fn83_b0, F1, F2, hk, bSpn, eSpn, index_nat hi, List.getElem?_map, Option.map_some, List.isEmpty_nil, val_pvs, frozen_pvs, msnoc_len, msnoc_get, msnoc_set, msnoc_take, Int.le_refl, take_map_all, Nat.le_refl, St.freezeRows, BV.frozen, List.take_length, List.take_append_drop, z_repl_zero, Int.toNat_zero, true_and, and_true, and_self, eq_self, z_take_zero, List.drop_nil, List.take_nil, vAll, List.foldl_nil, List.foldl_cons, resultsOf, resultList, resultOf, zBV, splice, PV.remade, St.freezeAt, St.freezeBox, St.freezeCap, PV.single, plain, act, dstOf, if_true, if_false, reduceCtorEq, St.get, St.put, St.pvOf, St.putRow, St.consume, St.freeze, St.row, St.elems, St.grab, St.takeRow, St.setRow, St.place, St.optPv, St.setCell, St.setCellRow, binPV, intBin, unPV, BV.val, Nat.reduceEqDiff, bound, consumeAll, buildParts, capsOf, capOf, List.append_nil, Nat.reduceAdd, Nat.reduceLT, Nat.reduceLeDiff, beq_self_eq_true, List.length_map, Nat.beq, dcall, dcallP, List.mapM_cons, St.snapFn, St.snap, St.layAll, St.lay, St.freezeArg, St.freezeArg1]
    rw [ih hfx _ (by simp only [hi1]; rfl)]
    simp only [hn, if_true]
    rfl
  · intro rb hf
    simp only [fn83_b0, Int.lt_irrefl, List.isEmpty_nil, val_pvs, frozen_pvs, msnoc_len, msnoc_get, msnoc_set, msnoc_take, Int.le_refl, take_map_all, Nat.le_refl, St.freezeRows, BV.frozen, List.take_length, List.take_append_drop, z_repl_zero, Int.toNat_zero, true_and, and_true, and_self, eq_self, z_take_zero, List.drop_nil, List.take_nil, vAll, List.foldl_nil, List.foldl_cons, resultsOf, resultList, resultOf, zBV, splice, PV.remade, St.freezeAt, St.freezeBox, St.freezeCap, PV.single, plain, act, dstOf, if_true, if_false, reduceCtorEq, St.get, St.put, St.pvOf, St.putRow, St.consume, St.freeze, St.row, St.elems, St.grab, St.takeRow, St.setRow, St.place, St.optPv, St.setCell, St.setCellRow, binPV, intBin, unPV, BV.val, Nat.reduceEqDiff, bound, consumeAll, buildParts, capsOf, capOf, List.append_nil, Nat.reduceAdd, Nat.reduceLT, Nat.reduceLeDiff, beq_self_eq_true, List.length_map, Nat.beq, dcall, dcallP, List.mapM_cons, St.snapFn, St.snap, St.layAll, St.lay, St.freezeArg, St.freezeArg1]
    rw [List.drop_length]
    rfl
theorem cal83 {l : List Spn} (hl : l.length ≤ lim) : cal env 83 [.list 3 (l.map eSpn)] = some [(.bool (linOk l), false)] := by
  rw [cal_code env83 rfl]; simp only [fn83]; simp only [start, z_map_cons, z_map_nil, z_len_cons, z_len_nil, z_repl_zero, z_repl_succ, z_cons_app, z_nil_app, Nat.reduceAdd, Nat.reduceSub]
  simp only [ List.isEmpty_nil, val_pvs, frozen_pvs, msnoc_len, msnoc_get, msnoc_set, msnoc_take, Int.le_refl, take_map_all, Nat.le_refl, St.freezeRows, BV.frozen, List.take_length, List.take_append_drop, z_repl_zero, Int.toNat_zero, true_and, and_true, and_self, eq_self, z_take_zero, List.drop_nil, List.take_nil, vAll, List.foldl_nil, List.foldl_cons, resultsOf, resultList, resultOf, zBV, splice, PV.remade, St.freezeAt, St.freezeBox, St.freezeCap, PV.single, plain, act, dstOf, if_true, if_false, reduceCtorEq, St.get, St.put, St.pvOf, St.putRow, St.consume, St.freeze, St.row, St.elems, St.grab, St.takeRow, St.setRow, St.place, St.optPv, St.setCell, St.setCellRow, binPV, intBin, unPV, BV.val, Nat.reduceEqDiff, bound, consumeAll, buildParts, capsOf, capOf, List.append_nil, Nat.reduceAdd, Nat.reduceLT, Nat.reduceLeDiff, beq_self_eq_true, List.length_map, Nat.beq, dcall, dcallP, List.mapM_cons, St.snapFn, St.snap, St.layAll, St.lay, St.freezeArg, St.freezeArg1]
  rw [loop83 hl]
  rotate_left
  · rfl
  · have := linRes_go l z0
    cases h : linRes z0 l with
    | mk t p =>
      rw [h] at this
      cases t with
      | true => simp only [linOk, ← this, List.isEmpty_nil, val_pvs, frozen_pvs, msnoc_len, msnoc_get, msnoc_set, msnoc_take, Int.le_refl, take_map_all, Nat.le_refl, St.freezeRows, BV.frozen, List.take_length, List.take_append_drop, z_repl_zero, Int.toNat_zero, true_and, and_true, and_self, eq_self, z_take_zero, List.drop_nil, List.take_nil, vAll, List.foldl_nil, List.foldl_cons, resultsOf, resultList, resultOf, zBV, splice, PV.remade, St.freezeAt, St.freezeBox, St.freezeCap, PV.single, plain, act, dstOf, if_true, if_false, reduceCtorEq, St.get, St.put, St.pvOf, St.putRow, St.consume, St.freeze, St.row, St.elems, St.grab, St.takeRow, St.setRow, St.place, St.optPv, St.setCell, St.setCellRow, binPV, intBin, unPV, BV.val, Nat.reduceEqDiff, bound, consumeAll, buildParts, capsOf, capOf, List.append_nil, Nat.reduceAdd, Nat.reduceLT, Nat.reduceLeDiff, beq_self_eq_true, List.length_map, Nat.beq, dcall, dcallP, List.mapM_cons, St.snapFn, St.snap, St.layAll, St.lay, St.freezeArg, St.freezeArg1]
      | false => simp only [linOk, ← this, List.isEmpty_nil, val_pvs, frozen_pvs, msnoc_len, msnoc_get, msnoc_set, msnoc_take, Int.le_refl, take_map_all, Nat.le_refl, St.freezeRows, BV.frozen, List.take_length, List.take_append_drop, z_repl_zero, Int.toNat_zero, true_and, and_true, and_self, eq_self, z_take_zero, List.drop_nil, List.take_nil, vAll, List.foldl_nil, List.foldl_cons, resultsOf, resultList, resultOf, zBV, splice, PV.remade, St.freezeAt, St.freezeBox, St.freezeCap, PV.single, plain, act, dstOf, if_true, if_false, reduceCtorEq, St.get, St.put, St.pvOf, St.putRow, St.consume, St.freeze, St.row, St.elems, St.grab, St.takeRow, St.setRow, St.place, St.optPv, St.setCell, St.setCellRow, binPV, intBin, unPV, BV.val, Nat.reduceEqDiff, bound, consumeAll, buildParts, capsOf, capOf, List.append_nil, Nat.reduceAdd, Nat.reduceLT, Nat.reduceLeDiff, beq_self_eq_true, List.length_map, Nat.beq, dcall, dcallP, List.mapM_cons, St.snapFn, St.snap, St.layAll, St.lay, St.freezeArg, St.freezeArg1]
end Go.Proofs.Ytpdfhckdmblicaa.V
