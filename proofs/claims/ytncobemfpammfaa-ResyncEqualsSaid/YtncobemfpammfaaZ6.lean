/-
  Part 6 of the texts that the statement stands on.
-/
import Derived.Test.YtncobemfpammfaaZ5
import Derived.IntWalk
import Derived.Sort.Defs
import Derived.Lib.BitFns
set_option linter.all false
namespace Go.Proofs.Ytncobemfpammfaa

abbrev Rec := VCode → St → Option (Ex × St)
def RLe (f g : Rec) : Prop := ∀ c st r, f c st = some r → g c st = some r
open Classical in
noncomputable def den (env : Env) (c : VCode) (st : St) : Option (Ex × St) :=
  if h : ∃ n r, vm env n c st = some r then some (Classical.choose (Classical.choose_spec h)) else none

structure Good {α : Type} (env : Env) (F : Rec → Option α) : Prop where
  mono : ∀ f g, RLe f g → ∀ r, F f = some r → F g = some r
  cont : (∀ m n, m ≤ n → RLe (vm env m) (vm env n)) → ∀ r, F (den env) = some r → ∃ n, F (vm env n) = some r

section
variable {α β : Type} {env : Env}
theorem Good.const (x : Option α) : Good env (fun _ => x) := ⟨fun _ _ _ _ h => h, fun _ _ h => ⟨0, h⟩⟩
theorem Good.app (c : VCode) (st : St) : Good env (fun rec => rec c st) := ⟨fun _ _ h r => h c st r, fun _ r h => by
  unfold den at h
  split at h
  case isFalse => cases h
  rename_i hx
  cases h
  exact ⟨_, Classical.choose_spec (Classical.choose_spec hx)⟩⟩
theorem Good.bind {F : Rec → Option α} {G : α → Rec → Option β} (hF : Good env F) (hG : ∀ a, Good env (G a)) : Good env (fun rec => (F rec).bind fun a => G a rec) := ⟨fun f g h r e => by
  obtain ⟨a, h1, h2⟩ := Option.bind_eq_some_iff.1 e
  exact Option.bind_eq_some_iff.2 ⟨a, hF.mono f g h a h1, (hG a).mono f g h r h2⟩, fun hm r e => by
  obtain ⟨a, h1, h2⟩ := Option.bind_eq_some_iff.1 e
  obtain ⟨m, h3⟩ := hF.cont hm a h1
  obtain ⟨n, h4⟩ := (hG a).cont hm r h2
  exact ⟨max m n, Option.bind_eq_some_iff.2 ⟨a, hF.mono _ _ (hm m _ (Nat.le_max_left m n)) a h3, (hG a).mono _ _ (hm n _ (Nat.le_max_right m n)) r h4⟩⟩⟩
theorem Good.map {F : Rec → Option α} {g : α → β} (hF : Good env F) : Good env (fun rec => (F rec).map g) := by
  have := hF.bind (G := fun a _ => some (g a)) fun a => Good.const _
  refine ⟨fun f g' h r e => ?_, fun hm r e => ?_⟩
  · have := this.mono f g' h r (by simpa [Option.map_eq_bind, Function.comp_def] using e)
    simpa [Option.map_eq_bind, Function.comp_def] using this
  · obtain ⟨n, hn⟩ := this.cont hm r (by simpa [Option.map_eq_bind, Function.comp_def] using e)
    exact ⟨n, by simpa [Option.map_eq_bind, Function.comp_def] using hn⟩
theorem Good.callRes (f : Nat) (args : List PV) : Good env (fun rec => callRes rec env f args) := by
  unfold Go.Proofs.Ytncobemfpammfaa.callRes
  split
  · exact Good.const _
  · split
    · refine (Good.app _ _).bind fun a => ?_
      obtain ⟨e, st⟩ := a
      cases e <;> exact Good.const _
    · exact Good.const _
  · exact Good.const _
  · exact Good.const _
theorem Good.iterRes (f : Nat) (args : List PV) (s : Option Nat) : Good env (fun rec => iterRes rec env f args s) := by
  unfold Go.Proofs.Ytncobemfpammfaa.iterRes
  split
  · split
    · refine (Good.app _ _).bind fun a => ?_
      obtain ⟨e, st⟩ := a
      cases e <;> exact Good.const _
    · exact Good.const _
  · exact Good.const _
theorem Good.callOn (d f : Nat) (args : List Opd) (caps : List AV) (st : St) : Good env (fun rec => callOn rec env d f args caps st) := by
  unfold Go.Proofs.Ytncobemfpammfaa.callOn
  exact (Good.const _).bind fun l => (Good.const _).bind fun k => (Good.callRes f _).bind fun rs => Good.const _
theorem Good.act (o : VOp) (st : St) : Good env (fun rec => act rec env o st) := by
  cases o
  case call d f args => exact Good.callOn d f args [] st
  case callv d x args =>
    unfold Go.Proofs.Ytncobemfpammfaa.act
    simp only
    split
    · exact Good.callOn _ _ _ _ _
    · exact Good.callOn _ _ _ _ _
    · exact Good.const _
  all_goals exact Good.const _
theorem Good.op1 (o : VOp) (st : St) : Good env (fun rec => op1 rec env o st) := by
  unfold Go.Proofs.Ytncobemfpammfaa.op1
  split
  · exact Good.act o st
  · exact Good.const _
theorem Good.op (o : VOp) (st : St) : Good env (fun rec => op rec env o st) := by
  unfold Go.Proofs.Ytncobemfpammfaa.op
  split
  · split
    · split
      · exact Good.op1 _ _
      · exact Good.const _
    · exact Good.const _
    · exact Good.const _
  · exact Good.op1 _ _
theorem Good.ops : ∀ (l : List VOp) (st : St), Good env (fun rec => ops rec env l st)
  | [], st => Good.const _
  | o :: l, st => (Good.op o st).bind fun st => Good.ops l st
theorem Good.rounds (slots : List AV) (ps : List Nat) (assign body : VCode) (nb : Nat) : ∀ (xs : List (List PV)) (k : Nat) (st : St), Good env (fun rec => rounds rec slots ps assign body nb k xs st)
  | [], k, st => by unfold Go.Proofs.Ytncobemfpammfaa.rounds; exact Good.const _
  | x :: xs, k, st => by
    unfold Go.Proofs.Ytncobemfpammfaa.rounds
    refine (Good.const _).bind fun sl => (Good.app _ _).bind fun a => ?_
    obtain ⟨e, st⟩ := a
    cases e
    case normal =>
      refine (Good.app _ _).bind fun a => ?_
      obtain ⟨e, st⟩ := a
      cases e
      case normal =>
        simp only
        split
        · exact Good.rounds slots ps assign body nb xs (k + 1) _
        · exact Good.const _
      all_goals exact Good.const _
    all_goals exact Good.const _
theorem Good.ranged (g : Opd) (ps : List Nat) (assign body : VCode) (st : St) : Good env (fun rec => ranged rec env g ps assign body st) := by
  unfold Go.Proofs.Ytncobemfpammfaa.ranged
  refine (Good.const _).bind fun v => ?_
  cases v <;> try exact Good.const _
  simp only
  refine (Good.iterRes _ _ _).bind fun xs => (Good.rounds _ _ _ _ _ _ _ _).bind fun r => ?_
  obtain ⟨r, st1⟩ := r
  cases r with
  | none => exact Good.const _
  | some p =>
    obtain ⟨e, k⟩ := p
    refine (Good.iterRes _ _ _).bind fun xs => (Good.rounds _ _ _ _ _ _ _ _).bind fun r => ?_
    obtain ⟨r, st1⟩ := r
    cases r <;> exact Good.const _
theorem Good.altRun (keep : List Nat) (vo : List VOp) (st : St) (x : DAlt) : Good env (fun rec => altRun rec env keep vo st x) := by
  unfold Go.Proofs.Ytncobemfpammfaa.altRun
  exact (Good.ops _ _).bind fun s => Good.const _
theorem Good.agree (keep : List Nat) (vo : List VOp) (st s : St) : ∀ l : List DAlt, Good env (fun rec => agree s (l.map (Go.Proofs.Ytncobemfpammfaa.altRun rec env keep vo st)))
  | [] => Good.const _
  | x :: xs => by
    simp only [List.map_cons, Go.Proofs.Ytncobemfpammfaa.agree]
    refine (Good.altRun keep vo st x).bind fun s' => ?_
    split
    · exact Good.agree keep vo st s xs
    · exact Good.const _
theorem Good.runAlts (keep : List Nat) (vo : List VOp) (st : St) (l : List DAlt) : Good env (fun rec => runAlts rec env keep vo st l) := by
  cases l with
  | nil => exact Good.const _
  | cons x xs =>
    simp only [Go.Proofs.Ytncobemfpammfaa.runAlts]
    exact (Good.altRun keep vo st x).bind fun s => Good.agree keep vo st s xs
theorem Good.step (c : VCode) (st : St) : Good env (fun rec => step rec env c st) := by
  cases c
  case ops l => exact (Good.ops l st).map
  case drw fz _ _ _ l => exact (Good.ops l (fz.foldl St.freezeAt st)).map
  case drs fz keep vo alts => exact (Good.runAlts keep vo (fz.foldl St.freezeAt st) alts).map
  case seq a b =>
    refine (Good.app _ _).bind fun x => ?_
    obtain ⟨e, st⟩ := x
    cases e
    case normal => exact Good.app _ _
    all_goals exact Good.const _
  case cond c a b =>
    refine (Good.const _).bind fun v => ?_
    cases v <;> try exact Good.const _
    simp only
    split
    · exact Good.app _ _
    · exact Good.app _ _
  case block i a =>
    refine (Good.app _ _).bind fun x => ?_
    obtain ⟨e, st⟩ := x
    exact Good.const _
  case loop => exact Good.app _ _
  case round keep nb a =>
    refine (Good.const _).bind fun s => (Good.app _ _).bind fun x => ?_
    obtain ⟨e, st⟩ := x
    cases e
    case normal => exact Good.app _ _
    all_goals exact Good.const _
  case rng g ps assign body => exact Good.ranged g ps assign body st
  case clean pre post a =>
    refine (Good.const _).bind fun s => (Good.app _ _).bind fun x => ?_
    obtain ⟨e, st⟩ := x
    exact Good.const _
  all_goals exact Good.const _

theorem vm_succ (env : Env) : ∀ n, RLe (vm env n) (vm env (n + 1))
  | 0, c, st, r, h => by simp [vm] at h
  | n + 1, c, st, r, h => (Good.step (env := env) c st).mono _ _ (vm_succ env n) r h
theorem vm_le (env : Env) (m n : Nat) (h : m ≤ n) : RLe (vm env m) (vm env n) := by
  induction h with
  | refl => exact fun _ _ _ h => h
  | step _ ih => exact fun c st r h => vm_succ env _ c st r (ih c st r h)
theorem den_of_vm {n : Nat} {c : VCode} {st : St} {r : Ex × St} (h : vm env n c st = some r) : den env c st = some r := by
  have hx : ∃ n r, vm env n c st = some r := ⟨n, r, h⟩
  unfold den
  rw [dif_pos hx]
  have h2 := Classical.choose_spec (Classical.choose_spec hx)
  have h3 := vm_le env _ _ (Nat.le_max_left n (Classical.choose hx)) c st r h
  have h4 := vm_le env _ _ (Nat.le_max_right n (Classical.choose hx)) c st _ h2
  rw [h3] at h4
  exact h4.symm
theorem vm_of_den {c : VCode} {st : St} {r : Ex × St} (h : den env c st = some r) : ∃ n, vm env n c st = some r :=
  (Good.app c st).cont (vm_le env) r h
theorem vm_den (env : Env) (n : Nat) : RLe (vm env n) (den env) := fun _ _ _ h => den_of_vm h
theorem den_eq (env : Env) (c : VCode) (st : St) : den env c st = step (den env) env c st := by
  apply Option.ext
  intro r
  constructor
  · intro h
    obtain ⟨n, hn⟩ := vm_of_den h
    cases n with
    | zero => simp [vm] at hn
    | succ n => exact (Good.step c st).mono _ _ (vm_den env n) r hn
  · intro h
    obtain ⟨n, hn⟩ := (Good.step c st).cont (vm_le env) r h
    exact den_of_vm (n := n + 1) hn
noncomputable def cal (env : Env) (f : Nat) (args : List PV) : Option (List Res) := callRes (den env) env f args
theorem vmCall_of_cal {f : Nat} {args : List PV} {rs : List Res} (h : cal env f args = some rs) : ∃ n, vmCall env n f args = some rs :=
  (Good.callRes (env := env) f args).cont (vm_le env) rs h
end
end Go.Proofs.Ytncobemfpammfaa

namespace Go.Proofs.Ytncobemfpammfaa

def bcase {α : Type} (b : Bool) (x y : α) : α := match b with
  | true => x
  | false => y
section
variable {env : Env} {α β : Type}
theorem bcase_true (x y : α) : bcase true x y = x := (rfl)
theorem bcase_false (x y : α) : bcase false x y = y := (rfl)
theorem bcase_bind (b : Bool) (x y : Option α) (f : α → Option β) : (bcase b x y).bind f = bcase b (x.bind f) (y.bind f) := by cases b <;> rfl
theorem bcase_map (b : Bool) (x y : Option α) (f : α → β) : (bcase b x y).map f = bcase b (x.map f) (y.map f) := by cases b <;> rfl
theorem bcase_not (b : Bool) (x y : α) : bcase (!b) x y = bcase b y x := by cases b <;> rfl
theorem bcase_bne {γ : Type} [BEq γ] (a b : γ) (x y : α) : bcase (a != b) x y = bcase (a == b) y x := by unfold bne; rw [bcase_not]
theorem beq_t (b : Bool) : (b == true) = b := by cases b <;> rfl
theorem beq_f (b : Bool) : (b == false) = !b := by cases b <;> rfl
theorem bcase_split {b : Bool} {x y r : α} (h1 : b = true → x = r) (h0 : b = false → y = r) : bcase b x y = r := by
  cases b
  · exact h0 rfl
  · exact h1 rfl

noncomputable def dops (env : Env) (l : List VOp) (st : St) : Option St := ops (den env) env l st
noncomputable def dop (env : Env) (o : VOp) (st : St) : Option St := op (den env) env o st
noncomputable def next (env : Env) (b : VCode) : Ex × St → Option (Ex × St)
  | (.normal, st) => den env b st
  | r => some r
def endBlock (id : Nat) : Ex × St → Ex × St
  | (.normal, st) => (.normal, st)
  | (.exit j, st) => (bcase (Nat.beq j id) .normal (.exit j), st)
  | (.ret, st) => (.ret, st)
def cleanEnd (post : List Nat) (nb : Nat) (p : Ex × St) : Option (Ex × St) := (p.2.head post nb).map fun st => (p.1, st)
def fin (rs : List VRes) : Ex × St → Option (List Res)
  | (.exit _, _) => none
  | (_, st) => resultsOf st rs
def start (n : Nat) (args : List PV) : St := ⟨args.map .pv ++ List.replicate (n - args.length) .any, [], [], none⟩

theorem den_skip (st : St) : den env .skip st = some (.normal, st) := by rw [den_eq]; rfl
theorem den_ops (l : List VOp) (st : St) : den env (.ops l) st = (dops env l st).map fun st => (.normal, st) := by rw [den_eq]; rfl
theorem den_drw (z a f q) (l : List VOp) (st : St) : den env (.drw z a f q l) st = (dops env l (z.foldl St.freezeAt st)).map fun st => (.normal, st) := by rw [den_eq]; rfl
noncomputable def dalts (env : Env) (keep : List Nat) (vo : List VOp) (st : St) (l : List DAlt) : Option St := runAlts (den env) env keep vo st l
noncomputable def dalt (env : Env) (keep : List Nat) (vo : List VOp) (st : St) (x : DAlt) : Option St := altRun (den env) env keep vo st x
noncomputable def dagree (env : Env) (keep : List Nat) (vo : List VOp) (st s : St) (l : List DAlt) : Option St := agree s (l.map (altRun (den env) env keep vo st))
def sameAs (s s' : St) (r : Option St) : Option St := if s'.same s then r else none
theorem den_drs (z k vo l) (st : St) : den env (.drs z k vo l) st = (dalts env k vo (z.foldl St.freezeAt st) l).map fun st => (.normal, st) := by rw [den_eq]; rfl
theorem dalts_cons (k vo) (st : St) (x : DAlt) (l : List DAlt) : dalts env k vo st (x :: l) = (dalt env k vo st x).bind fun s => dagree env k vo st s l := (rfl)
theorem dagree_nil (k vo) (st s : St) : dagree env k vo st s [] = some s := (rfl)
theorem dagree_cons (k vo) (st s : St) (x : DAlt) (l : List DAlt) : dagree env k vo st s (x :: l) = (dalt env k vo st x).bind fun s' => sameAs s s' (dagree env k vo st s l) := by
  show (altRun (den env) env k vo st x).bind _ = _
  unfold dalt dagree sameAs
  congr 1
theorem sameAs_same (s : St) (r : Option St) : sameAs s s r = r := by
  show (if s.same s then r else none) = r
  rw [St.same_refl]; rfl
theorem dalt_eq (k vo) (st : St) (a f q o w) : dalt env k vo st ⟨a, f, q, o, w⟩ = (dops env (pickV vo o) st).bind (altEnd k st.boxes.length w) := (rfl)
theorem altEnd_false (k : List Nat) (nb : Nat) (s : St) : altEnd k nb false s = s.head k s.boxes.length := by
  unfold altEnd
  cases s.head k s.boxes.length <;> rfl
theorem altEnd_true (k : List Nat) (nb : Nat) (s : St) : altEnd k nb true s = (s.head k s.boxes.length).bind fun s => s.swap2 nb := (rfl)
theorem pickV_nil (vo : List VOp) : pickV vo [] = [] := (rfl)
theorem pickV_one (vo : List VOp) (i : Nat) (l : List Nat) : pickV vo (i :: l) = vo.getD i default :: pickV vo l := (rfl)
theorem den_seq (a b : VCode) (st : St) : den env (.seq a b) st = (den env a st).bind (next env b) := by
  rw [den_eq]
  show (den env a st).bind _ = _
  congr 1
  funext ⟨e, st⟩
  cases e <;> rfl
theorem den_cond (c : Opd) (a b : VCode) (st : St) : den env (.cond c a b) st = (match st.pvOf c with
    | some (.bool t) => bcase t (den env a st) (den env b st)
    | _ => none) := by
  rw [den_eq]
  show (st.pvOf c).bind _ = _
  cases st.pvOf c with
  | none => rfl
  | some v =>
    cases v <;> try rfl
    rename_i t
    cases t <;> rfl
theorem den_block (i : Nat) (a : VCode) (st : St) : den env (.block i a) st = (den env a st).map (endBlock i) := by
  rw [den_eq]
  show (den env a st).bind _ = _
  cases den env a st with
  | none => rfl
  | some r =>
    obtain ⟨e, st⟩ := r
    cases e with
    | normal => rfl
    | ret => rfl
    | exit j =>
      show some (_, _) = some (_, _)
      by_cases h : j = i
      · subst h; simp [bcase]
      · have : Nat.beq j i = false := by cases e : Nat.beq j i with
        | false => rfl
        | true => exact absurd (Nat.eq_of_beq_eq_true e) h
        simp [bcase, h, this]
theorem den_loop (keep : List Nat) (a : VCode) (st : St) : den env (.loop keep a) st = den env (.round keep st.boxes.length a) st := by rw [den_eq]; rfl
theorem den_round (keep : List Nat) (nb : Nat) (a : VCode) (st : St) : den env (.round keep nb a) st = (st.head keep nb).bind fun st => (den env a st).bind (next env (.round keep nb a)) := by
  rw [den_eq]
  show (st.head keep nb).bind _ = _
  congr 1
  funext st
  show (den env a st).bind _ = _
  congr 1
  funext ⟨e, st⟩
  cases e <;> rfl
theorem den_clean (pre post : List Nat) (a : VCode) (st : St) : den env (.clean pre post a) st = (st.head pre st.boxes.length).bind fun s => (den env a s).bind (cleanEnd post st.boxes.length) := by
  rw [den_eq]
  show (st.head pre _).bind _ = _
  congr 1
  funext s
  show (den env a s).bind _ = _
  congr 1
  funext ⟨e, s⟩
  show (s.head post _).bind _ = (s.head post _).map _
  cases s.head post st.boxes.length <;> rfl
theorem den_exit (i : Nat) (st : St) : den env (.exit i) st = some (.exit i, st) := by rw [den_eq]; rfl
theorem den_ret (st : St) : den env .ret st = some (.ret, st) := by rw [den_eq]; rfl
theorem next_normal (b : VCode) (st : St) : next env b (.normal, st) = den env b st := (rfl)
theorem next_exit (b : VCode) (i : Nat) (st : St) : next env b (.exit i, st) = some (.exit i, st) := (rfl)
theorem next_ret (b : VCode) (st : St) : next env b (.ret, st) = some (.ret, st) := (rfl)
theorem endBlock_normal (i : Nat) (st : St) : endBlock i (.normal, st) = (.normal, st) := (rfl)
theorem endBlock_ret (i : Nat) (st : St) : endBlock i (.ret, st) = (.ret, st) := (rfl)
theorem endBlock_exit (i j : Nat) (st : St) : endBlock i (.exit j, st) = (bcase (Nat.beq j i) .normal (.exit j), st) := (rfl)
theorem fin_normal (rs : List VRes) (st : St) : fin rs (.normal, st) = resultsOf st rs := (rfl)
theorem fin_ret (rs : List VRes) (st : St) : fin rs (.ret, st) = resultsOf st rs := (rfl)
theorem cal_code {f : Nat} {fn : VFn} {args : List PV} (h : env f = some (.code fn)) (hl : args.length = fn.nargs) : cal env f args = (den env fn.body (start fn.ntmps args)).bind (Go.Proofs.Ytncobemfpammfaa.fin fn.results) := by
  unfold cal callRes
  rw [h]
  simp only [if_pos hl]
  show (den env fn.body _).bind _ = _
  congr 1
  funext ⟨e, st⟩
  cases e <;> rfl
theorem cal_ext {f : Nat} {g : List PV → Option (List Res)} {args : List PV} (h : env f = some (.ext g)) : cal env f args = g args := by
  unfold cal callRes
  rw [h]
theorem clean_loop' {keep post : List Nat} {id : Nat} {b : VCode} {st S0 : St} {R : Option (Ex × St)} (h : st.head keep st.boxes.length = some S0) (h2 : S0.head keep S0.boxes.length = some S0)
    (key : ∀ rb, rb = VCode.round keep S0.boxes.length b → (((den env b S0).bind (next env rb)).map (endBlock id)).bind (cleanEnd post st.boxes.length) = R) : den env (.clean keep post (.block id (.loop keep b))) st = R := by
  rw [den_clean, h, Option.bind_some, den_block, den_loop, den_round, h2, Option.bind_some]
  exact key _ rfl
theorem round_on {keep : List Nat} {nb : Nat} {b rb : VCode} {st S1 : St} (hrb : rb = .round keep nb b) (h : st.head keep nb = some S1) : den env rb st = (den env b S1).bind (next env rb) := by
  rw [hrb, den_round, h, Option.bind_some]
noncomputable def tailOf (env : Env) (id : Nat) (post : List Nat) (nb : Nat) (x : Option (Ex × St)) : Option (Ex × St) := (x.map (endBlock id)).bind (cleanEnd post nb)
theorem clean_rec {β : Type} {keep post : List Nat} {id nb : Nat} {b : VCode} (S : β → St) (R : β → Option (Ex × St)) (P : β → Prop) (μ : β → Nat) (x0 : β) {st : St} (h : st.head keep st.boxes.length = some (S x0)) (hP : P x0)
    (hS : ∀ x, (S x).boxes.length = nb) (hh : ∀ x, (S x).head keep nb = some (S x))
    (step : ∀ x rb, P x → (∀ y, μ y < μ x → P y → ∀ s, s.head keep nb = some (S y) → tailOf env id post nb (den env rb s) = R y) → tailOf env id post nb ((den env b (S x)).bind (next env rb)) = R x) :
    den env (.clean keep post (.block id (.loop keep b))) st = R x0 := by
  have hb : st.boxes.length = nb := by rw [← (head_same h).1]; exact hS x0
  refine clean_loop' h (by rw [hS]; exact hh x0) ?_
  intro rb hrb
  rw [hS] at hrb
  rw [hb]
  have key : ∀ (k : Nat) (x : β), μ x < k → P x → tailOf env id post nb ((den env b (S x)).bind (next env rb)) = R x := by
    intro k
    induction k with
    | zero => intro x hx; omega
    | succ k ih =>
      intro x hx hPx
      refine step x rb hPx fun y hy hPy s hs => ?_
      rw [round_on hrb hs]
      exact ih y (by omega) hPy
  exact key (μ x0 + 1) x0 (by omega) hP
theorem clean_up {keep post : List Nat} {id nb : Nat} {b : VCode} (n : Nat) (S : Nat → St) (R : Nat → Option (Ex × St)) {st : St} (h : st.head keep st.boxes.length = some (S 0)) (hS : ∀ i, (S i).boxes.length = nb) (hh : ∀ i, (S i).head keep nb = some (S i))
    (step : ∀ i rb, i < n → (∀ s, s.head keep nb = some (S (i + 1)) → tailOf env id post nb (den env rb s) = R (i + 1)) → tailOf env id post nb ((den env b (S i)).bind (next env rb)) = R i)
    (last : ∀ rb, tailOf env id post nb ((den env b (S n)).bind (next env rb)) = R n) :
    den env (.clean keep post (.block id (.loop keep b))) st = R 0 := by
  refine clean_rec S R (fun i => i ≤ n) (fun i => n - i) 0 h (Nat.zero_le _) hS hh fun i rb hi ih => ?_
  by_cases hn : i = n
  · subst hn; exact last rb
  · exact step i rb (by omega) fun s hs => ih (i + 1) (by omega) (by omega) s hs
theorem tail_normal {id nb : Nat} {post : List Nat} (st : St) : tailOf env id post nb (some (.normal, st)) = cleanEnd post nb (.normal, st) := (rfl)
theorem tail_ret {id nb : Nat} {post : List Nat} (st : St) : tailOf env id post nb (some (.ret, st)) = cleanEnd post nb (.ret, st) := (rfl)
theorem tail_exit {id j nb : Nat} {post : List Nat} (st : St) : tailOf env id post nb (some (.exit j, st)) = cleanEnd post nb (bcase (Nat.beq j id) .normal (.exit j), st) := (rfl)
theorem tail_bcase {id nb : Nat} {post : List Nat} (b : Bool) (x y : Option (Ex × St)) : tailOf env id post nb (bcase b x y) = bcase b (tailOf env id post nb x) (tailOf env id post nb y) := by cases b <;> rfl
theorem z_bind_some (a : α) (f : α → Option β) : (some a).bind f = f a := (rfl)
theorem z_bind_none (f : α → Option β) : (none : Option α).bind f = none := (rfl)
theorem z_map_some (a : α) (f : α → β) : (some a).map f = some (f a) := (rfl)
theorem z_map_none (f : α → β) : (none : Option α).map f = none := (rfl)
theorem z_ite_true (x y : α) : (if True then x else y) = x := (rfl)
theorem z_ite_false (x y : α) : (if False then x else y) = y := (rfl)
theorem z_bind_eq {γ δ : Type} (x : Option γ) (f : γ → Option δ) : (x >>= f) = x.bind f := (rfl)
theorem z_pure {γ : Type} (x : γ) : (pure x : Option γ) = some x := (rfl)
theorem z_len_cons {γ : Type} (a : γ) (l : List γ) : (a :: l).length = l.length + 1 := (rfl)
theorem z_len_nil {γ : Type} : ([] : List γ).length = 0 := (rfl)
theorem z_nil_app {γ : Type} (l : List γ) : [] ++ l = l := (rfl)
theorem z_cons_app {γ : Type} (a : γ) (l m : List γ) : (a :: l) ++ m = a :: (l ++ m) := (rfl)
theorem z_take_succ {γ : Type} (a : γ) (l : List γ) (n : Nat) : (a :: l).take (n + 1) = a :: l.take n := (rfl)
theorem z_take_zero {γ : Type} (l : List γ) : l.take 0 = [] := (rfl)
theorem z_drop_succ {γ : Type} (a : γ) (l : List γ) (n : Nat) : (a :: l).drop (n + 1) = l.drop n := (rfl)
theorem z_drop_zero {γ : Type} (l : List γ) : l.drop 0 = l := (rfl)
theorem z_get_zero {γ : Type} (a : γ) (l : List γ) : (a :: l)[0]? = some a := (rfl)
theorem z_get_succ {γ : Type} (a : γ) (l : List γ) (n : Nat) : (a :: l)[n + 1]? = l[n]? := (rfl)
theorem z_get_8 {γ : Type} (a0 a1 a2 a3 a4 a5 a6 a7 : γ) (l : List γ) (n : Nat) : (a0 :: a1 :: a2 :: a3 :: a4 :: a5 :: a6 :: a7 :: l)[n + 8]? = l[n]? := (rfl)
theorem z_getD_zero {γ : Type} (a : γ) (l : List γ) (d : γ) : (a :: l).getD 0 d = a := (rfl)
theorem z_getD_succ {γ : Type} (a : γ) (l : List γ) (n : Nat) (d : γ) : (a :: l).getD (n + 1) d = l.getD n d := (rfl)
theorem z_getD_8 {γ : Type} (a0 a1 a2 a3 a4 a5 a6 a7 : γ) (l : List γ) (n : Nat) (d : γ) : (a0 :: a1 :: a2 :: a3 :: a4 :: a5 :: a6 :: a7 :: l).getD (n + 8) d = l.getD n d := (rfl)
theorem z_set_zero {γ : Type} (a x : γ) (l : List γ) : (a :: l).set 0 x = x :: l := (rfl)
theorem z_set_succ {γ : Type} (a x : γ) (l : List γ) (n : Nat) : (a :: l).set (n + 1) x = a :: l.set n x := (rfl)
theorem z_set_8 {γ : Type} (a0 a1 a2 a3 a4 a5 a6 a7 x : γ) (l : List γ) (n : Nat) : (a0 :: a1 :: a2 :: a3 :: a4 :: a5 :: a6 :: a7 :: l).set (n + 8) x = a0 :: a1 :: a2 :: a3 :: a4 :: a5 :: a6 :: a7 :: l.set n x := (rfl)
theorem z_mapM_nil {γ δ : Type} (f : γ → Option δ) : ([] : List γ).mapM f = some [] := (rfl)
theorem z_any_cons {γ : Type} (a : γ) (l : List γ) (p : γ → Bool) : (a :: l).any p = (p a || l.any p) := (rfl)
theorem z_any_nil {γ : Type} (p : γ → Bool) : ([] : List γ).any p = false := (rfl)
theorem z_all_cons {γ : Type} (a : γ) (l : List γ) (p : γ → Bool) : (a :: l).all p = (p a && l.all p) := (rfl)
theorem z_all_nil {γ : Type} (p : γ → Bool) : ([] : List γ).all p = true := (rfl)
theorem z_foldl_cons {γ δ : Type} (f : δ → γ → δ) (b : δ) (a : γ) (l : List γ) : (a :: l).foldl f b = l.foldl f (f b a) := (rfl)
theorem z_foldl_nil {γ δ : Type} (f : δ → γ → δ) (b : δ) : ([] : List γ).foldl f b = b := (rfl)
theorem z_map_cons {γ δ : Type} (f : γ → δ) (a : γ) (l : List γ) : (a :: l).map f = f a :: l.map f := (rfl)
theorem z_map_nil {γ δ : Type} (f : γ → δ) : ([] : List γ).map f = [] := (rfl)
theorem z_repl_zero {γ : Type} (a : γ) : List.replicate 0 a = [] := (rfl)
theorem z_repl_succ {γ : Type} (a : γ) (n : Nat) : List.replicate (n + 1) a = a :: List.replicate n a := (rfl)

theorem dops_nil (st : St) : dops env [] st = some st := (rfl)
theorem dops_cons (o : VOp) (l : List VOp) (st : St) : dops env (o :: l) st = (dop env o st).bind (dops env l) := (rfl)
theorem dop_grd {g : Nat} {w : Bool} {o : VOp} (st : St) : dop env (.grd g w o) st = (match st.slots.getD g .any with
    | .pv (.bool b) => bcase (b == w) (op1 (den env) env o st) (match dstOf o with
      | some d => some (st.put d (.tup []))
      | none => some st)
    | .tup l => bcase l.isEmpty (match dstOf o with
      | some d => some (st.put d (.tup []))
      | none => some st) none
    | _ => none) := by
  unfold dop op
  simp only
  generalize st.slots.getD g .any = v
  cases v with
  | pv p =>
    cases p with
    | bool b => cases b <;> cases w <;> rfl
    | _ => rfl
  | tup l => cases l <;> rfl
  | _ => rfl
theorem dop_pick {d c x y} (st : St) : dop env (.pick d c x y) st = (match st.pvOf c with
    | some (.bool b) => bcase b ((st.pvOf x).map fun v => st.put d (.pv v)) ((st.pvOf y).map fun v => st.put d (.pv v))
    | _ => none) := by
  show (st.pvOf c).bind _ = _
  cases st.pvOf c with
  | none => rfl
  | some v =>
    cases v <;> try rfl
    rename_i t
    cases t
    · show (st.pvOf y).bind _ = Option.map _ (st.pvOf y)
      cases st.pvOf y <;> rfl
    · show (st.pvOf x).bind _ = Option.map _ (st.pvOf x)
      cases st.pvOf x <;> rfl
def afterCall (d : Nat) (args : List Opd) (caps : List AV) (st : St) (fl : Bool) (rs : List Res) : Option St :=
  some ((bcase (fl && !(rs.all (·.1.scalar))) (caps.foldl (fun s v => s.freezeArg1 (.c .void) v) (args.foldl St.freezeArg st)) st).layAll d rs)
theorem afterCall_false (d : Nat) (args : List Opd) (caps : List AV) (st : St) (rs : List Res) : afterCall d args caps st false rs = some (st.layAll d rs) := by
  simp only [afterCall, Bool.false_and, bcase_false]
theorem afterCall_true (d : Nat) (args : List Opd) (caps : List AV) (st : St) (r : Res) (rs : List Res) : afterCall d args caps st true (r :: rs) = bcase ((r :: rs).all (·.1.scalar)) (some (st.layAll d (r :: rs))) (some ((caps.foldl (fun s v => s.freezeArg1 (.c .void) v) (args.foldl St.freezeArg st)).layAll d (r :: rs))) := by
  unfold afterCall
  rw [Bool.true_and]
  cases h : (r :: rs).all (·.1.scalar) <;> rfl
noncomputable def dcall (env : Env) (d f : Nat) (args : List Opd) (caps : List AV) (st : St) : Option St :=
  (args.mapM fun x => st.snapFn (st.get x)).bind fun l => (caps.mapM st.snap).bind fun k => (cal env f (l.map (·.1) ++ k.map (·.1))).bind (afterCall d args caps st (l.any (·.2) || k.any (·.2)))
noncomputable def dcallP (env : Env) (d f : Nat) (args : List Opd) (caps : List PV) (st : St) : Option St :=
  (args.mapM fun x => st.snapFn (st.get x)).bind fun l => (cal env f (l.map (·.1) ++ caps)).bind (afterCall d args [] st (l.any (·.2)))
theorem snaps_pv (st : St) : ∀ caps : List PV, (caps.map AV.pv).mapM st.snap = some (caps.map fun v => (v, false))
  | [] => rfl
  | c :: l => by
    rw [List.map_cons, List.mapM_cons, snaps_pv st l]
    rfl
theorem freeze_pv (st : St) : ∀ caps : List PV, (caps.map AV.pv).foldl (fun s v => s.freezeArg1 (.c .void) v) st = st
  | [] => rfl
  | c :: l => freeze_pv st l
theorem dcall_eq (d f : Nat) (args : List Opd) (caps : List AV) (st : St) : callOn (den env) env d f args caps st = dcall env d f args caps st := by
  unfold callOn dcall
  show Option.bind _ _ = Option.bind _ _
  congr 1; funext l
  show Option.bind _ _ = Option.bind _ _
  congr 1; funext k
  show Option.bind _ _ = Option.bind _ _
  congr 1; funext rs
  show some _ = some _
  congr 2
  cases h : (l.any (·.2) || k.any (·.2)) && !(rs.all (·.1.scalar)) <;> rfl
theorem dcallP_eq (d f : Nat) (args : List Opd) (caps : List PV) (st : St) : dcall env d f args (caps.map .pv) st = dcallP env d f args caps st := by
  unfold dcallP dcall
  congr 1; funext l
  rw [snaps_pv, Option.bind_some, List.map_map, List.any_map]
  have h1 : (Prod.fst ∘ fun v : PV => (v, false)) = id := rfl
  have h2 : caps.any (Prod.snd ∘ fun v : PV => (v, false)) = false := by
    induction caps with
    | nil => rfl
    | cons c cs ih => simp [List.any_cons, ih]
  rw [h1, List.map_id, h2, Bool.or_false]
  congr 1; funext rs
  unfold afterCall
  rw [freeze_pv]
  rfl
theorem dop_call {d f args} (st : St) : dop env (.call d f args) st = dcallP env d f args [] st := (dcall_eq ..).trans (dcallP_eq (caps := []) ..)
theorem op1_call {d f args} (st : St) : op1 (den env) env (.call d f args) st = dcallP env d f args [] st := (dcall_eq ..).trans (dcallP_eq (caps := []) ..)
theorem dop_callv {d x args} (st : St) : dop env (.callv d x args) st = (match st.get x with
    | .pv (.func f caps) => dcallP env d f args caps st
    | .fn f caps => dcall env d f args caps st
    | _ => none) := by
  show (match st.get x with
    | .pv (.func f caps) => callOn (den env) env d f args (caps.map .pv) st
    | .fn f caps => callOn (den env) env d f args caps st
    | _ => none) = _
  split <;> simp only [dcall_eq, dcallP_eq]
theorem op1_callv {d x args} (st : St) : op1 (den env) env (.callv d x args) st = dop env (.callv d x args) st := (rfl)
theorem op1_pick {d c x y} (st : St) : op1 (den env) env (.pick d c x y) st = dop env (.pick d c x y) st := (rfl)
theorem dop_mov {d x} (st : St) : dop env (.mov d x) st = plain (.mov d x) st := (rfl)
theorem dop_asg {d x} (st : St) : dop env (.asg d x) st = plain (.asg d x) st := (rfl)
theorem dop_bin {d o x y} (st : St) : dop env (.bin d o x y) st = plain (.bin d o x y) st := (rfl)
theorem dop_eqa {d neg n x y} (st : St) : dop env (.eqa d neg n x y) st = plain (.eqa d neg n x y) st := (rfl)
theorem dop_eqb {d neg x y} (st : St) : dop env (.eqb d neg x y) st = plain (.eqb d neg x y) st := (rfl)
theorem dop_isn {d neg x} (st : St) : dop env (.isn d neg x) st = plain (.isn d neg x) st := (rfl)
theorem dop_cut {d sz x} (st : St) : dop env (.cut d sz x) st = plain (.cut d sz x) st := (rfl)
theorem dop_asl {d n x} (st : St) : dop env (.asl d n x) st = plain (.asl d n x) st := (rfl)
theorem dop_srt {d f x g} (st : St) : dop env (.srt d f x g) st = act (den env) env (.srt d f x g) st := (rfl)
theorem op1_srt {d f x g} (st : St) : op1 (den env) env (.srt d f x g) st = act (den env) env (.srt d f x g) st := (rfl)
theorem dop_mvz {d x} (st : St) : dop env (.mvz d x) st = plain (.mvz d x) st := (rfl)
theorem op1_mvz {d x} (st : St) : op1 (den env) env (.mvz d x) st = plain (.mvz d x) st := (rfl)
theorem dop_ldz {d n x} (st : St) : dop env (.ldz d n x) st = plain (.ldz d n x) st := (rfl)
theorem op1_asl {d n x} (st : St) : op1 (den env) env (.asl d n x) st = plain (.asl d n x) st := (rfl)
theorem op1_ldz {d n x} (st : St) : op1 (den env) env (.ldz d n x) st = plain (.ldz d n x) st := (rfl)
theorem op1_isn {d neg x} (st : St) : op1 (den env) env (.isn d neg x) st = plain (.isn d neg x) st := (rfl)
theorem op1_cut {d sz x} (st : St) : op1 (den env) env (.cut d sz x) st = plain (.cut d sz x) st := (rfl)
theorem dop_un {d o x} (st : St) : dop env (.un d o x) st = plain (.un d o x) st := (rfl)
theorem dop_conv {d k x} (st : St) : dop env (.conv d k x) st = plain (.conv d k x) st := (rfl)
theorem dop_load {d n p} (st : St) : dop env (.load d n p) st = plain (.load d n p) st := (rfl)
theorem dop_fadr {d p off} (st : St) : dop env (.fadr d p off) st = plain (.fadr d p off) st := (rfl)
theorem dop_aadr {d p i len sz} (st : St) : dop env (.aadr d p i len sz) st = plain (.aadr d p i len sz) st := (rfl)
theorem dop_iadr {d sz x i} (st : St) : dop env (.iadr d sz x i) st = plain (.iadr d sz x i) st := (rfl)
theorem dop_fld {d x off n} (st : St) : dop env (.fld d x off n) st = plain (.fld d x off n) st := (rfl)
theorem dop_idx {d x i len sz n} (st : St) : dop env (.idx d x i len sz n) st = plain (.idx d x i len sz n) st := (rfl)
theorem dop_sli {d sz x lo hi} (st : St) : dop env (.sli d sz x lo hi) st = plain (.sli d sz x lo hi) st := (rfl)
theorem dop_len {d x} (st : St) : dop env (.len d x) st = plain (.len d x) st := (rfl)
theorem dop_lens {d x} (st : St) : dop env (.lens d x) st = plain (.lens d x) st := (rfl)
theorem dop_ext {d x i} (st : St) : dop env (.ext d x i) st = plain (.ext d x i) st := (rfl)
theorem dop_build {d z parts} (st : St) : dop env (.build d z parts) st = plain (.build d z parts) st := (rfl)
theorem dop_mn {d mx x y} (st : St) : dop env (.mn d mx x y) st = plain (.mn d mx x y) st := (rfl)
theorem dop_mkf {d f caps} (st : St) : dop env (.mkf d f caps) st = plain (.mkf d f caps) st := (rfl)
theorem dop_alloc {d z} (st : St) : dop env (.alloc d z) st = act (den env) env (.alloc d z) st := (rfl)
theorem dop_box {d x} (st : St) : dop env (.box d x) st = act (den env) env (.box d x) st := (rfl)
theorem dop_store {d n p x} (st : St) : dop env (.store d n p x) st = act (den env) env (.store d n p x) st := (rfl)
theorem dop_mksl {d sz parts} (st : St) : dop env (.mksl d sz parts) st = act (den env) env (.mksl d sz parts) st := (rfl)
theorem dop_make {d z n c} (st : St) : dop env (.make d z n c) st = act (den env) env (.make d z n c) st := (rfl)
theorem dop_app {d sz x y} (st : St) : dop env (.app d sz x y) st = act (den env) env (.app d sz x y) st := (rfl)
theorem dop_cpy {d sz x y} (st : St) : dop env (.cpy d sz x y) st = act (den env) env (.cpy d sz x y) st := (rfl)
theorem dop_yield {d x args} (st : St) : dop env (.yield d x args) st = act (den env) env (.yield d x args) st := (rfl)
theorem op1_mov {d x} (st : St) : op1 (den env) env (.mov d x) st = plain (.mov d x) st := (rfl)
theorem op1_asg {d x} (st : St) : op1 (den env) env (.asg d x) st = plain (.asg d x) st := (rfl)
theorem op1_bin {d o x y} (st : St) : op1 (den env) env (.bin d o x y) st = plain (.bin d o x y) st := (rfl)
theorem op1_eqa {d neg n x y} (st : St) : op1 (den env) env (.eqa d neg n x y) st = plain (.eqa d neg n x y) st := (rfl)
theorem op1_eqb {d neg x y} (st : St) : op1 (den env) env (.eqb d neg x y) st = plain (.eqb d neg x y) st := (rfl)
theorem op1_un {d o x} (st : St) : op1 (den env) env (.un d o x) st = plain (.un d o x) st := (rfl)
theorem op1_conv {d k x} (st : St) : op1 (den env) env (.conv d k x) st = plain (.conv d k x) st := (rfl)
theorem op1_load {d n p} (st : St) : op1 (den env) env (.load d n p) st = plain (.load d n p) st := (rfl)
theorem op1_fadr {d p off} (st : St) : op1 (den env) env (.fadr d p off) st = plain (.fadr d p off) st := (rfl)
theorem op1_aadr {d p i len sz} (st : St) : op1 (den env) env (.aadr d p i len sz) st = plain (.aadr d p i len sz) st := (rfl)
theorem op1_iadr {d sz x i} (st : St) : op1 (den env) env (.iadr d sz x i) st = plain (.iadr d sz x i) st := (rfl)
theorem op1_fld {d x off n} (st : St) : op1 (den env) env (.fld d x off n) st = plain (.fld d x off n) st := (rfl)
theorem op1_idx {d x i len sz n} (st : St) : op1 (den env) env (.idx d x i len sz n) st = plain (.idx d x i len sz n) st := (rfl)
theorem op1_sli {d sz x lo hi} (st : St) : op1 (den env) env (.sli d sz x lo hi) st = plain (.sli d sz x lo hi) st := (rfl)
theorem op1_len {d x} (st : St) : op1 (den env) env (.len d x) st = plain (.len d x) st := (rfl)
theorem op1_lens {d x} (st : St) : op1 (den env) env (.lens d x) st = plain (.lens d x) st := (rfl)
theorem op1_ext {d x i} (st : St) : op1 (den env) env (.ext d x i) st = plain (.ext d x i) st := (rfl)
theorem op1_build {d z parts} (st : St) : op1 (den env) env (.build d z parts) st = plain (.build d z parts) st := (rfl)
theorem op1_mn {d mx x y} (st : St) : op1 (den env) env (.mn d mx x y) st = plain (.mn d mx x y) st := (rfl)
theorem op1_mkf {d f caps} (st : St) : op1 (den env) env (.mkf d f caps) st = plain (.mkf d f caps) st := (rfl)
theorem op1_alloc {d z} (st : St) : op1 (den env) env (.alloc d z) st = act (den env) env (.alloc d z) st := (rfl)
theorem op1_box {d x} (st : St) : op1 (den env) env (.box d x) st = act (den env) env (.box d x) st := (rfl)
theorem op1_store {d n p x} (st : St) : op1 (den env) env (.store d n p x) st = act (den env) env (.store d n p x) st := (rfl)
theorem op1_mksl {d sz parts} (st : St) : op1 (den env) env (.mksl d sz parts) st = act (den env) env (.mksl d sz parts) st := (rfl)
theorem op1_make {d z n c} (st : St) : op1 (den env) env (.make d z n c) st = act (den env) env (.make d z n c) st := (rfl)
theorem op1_app {d sz x y} (st : St) : op1 (den env) env (.app d sz x y) st = act (den env) env (.app d sz x y) st := (rfl)
theorem op1_cpy {d sz x y} (st : St) : op1 (den env) env (.cpy d sz x y) st = act (den env) env (.cpy d sz x y) st := (rfl)
theorem op1_yield {d x args} (st : St) : op1 (den env) env (.yield d x args) st = act (den env) env (.yield d x args) st := (rfl)
theorem killS_pv (d : Nat) (v : PV) : AV.kill d (.pv v) = .pv v := (rfl)
theorem killS_any (d : Nat) : AV.kill d .any = .any := (rfl)
theorem killS_row (d sz : Nat) (es : List PV) : AV.kill d (.row sz es) = .row sz es := (rfl)
theorem killS_pbox (d o j : Nat) : AV.kill d (.pbox o j) = .pbox o j := (rfl)
theorem killS_fn (d f : Nat) (l : List AV) : AV.kill d (.fn f l) = .fn f l := (rfl)
theorem killS_tup (d : Nat) (l : List AV) : AV.kill d (.tup l) = .tup l := (rfl)
theorem killS_yld (d : Nat) : AV.kill d .yld = .yld := (rfl)
theorem killS_refs (d t off len : Nat) : AV.kill d (.ref (.slot t) off len) = bcase (decide (t = d)) .any (.ref (.slot t) off len) := by
  by_cases h : t = d <;> simp [AV.kill, AV.roots, h, bcase]
theorem killS_refc (d o j off len : Nat) : AV.kill d (.ref (.cell o j) off len) = .ref (.cell o j) off len := (rfl)
theorem killS_pels (d t i j : Nat) : AV.kill d (.pel (.slot t) i j) = bcase (decide (t = d)) .any (.pel (.slot t) i j) := by
  by_cases h : t = d <;> simp [AV.kill, AV.roots, h, bcase]
theorem killS_pelc (d o q i j : Nat) : AV.kill d (.pel (.cell o q) i j) = .pel (.cell o q) i j := (rfl)
theorem killc_pv (d : Nat) (v : PV) : AV.killCell d (.pv v) = .pv v := (rfl)
theorem killc_any (d : Nat) : AV.killCell d .any = .any := (rfl)
theorem killc_row (d sz : Nat) (es : List PV) : AV.killCell d (.row sz es) = .row sz es := (rfl)
theorem killc_pbox (d o j : Nat) : AV.killCell d (.pbox o j) = .pbox o j := (rfl)
theorem killc_fn (d f : Nat) (l : List AV) : AV.killCell d (.fn f l) = .fn f l := (rfl)
theorem killc_tup (d : Nat) (l : List AV) : AV.killCell d (.tup l) = .tup l := (rfl)
theorem killc_yld (d : Nat) : AV.killCell d .yld = .yld := (rfl)
theorem killc_refc (d t j off len : Nat) : AV.killCell d (.ref (.cell t j) off len) = bcase (decide (t = d)) .any (.ref (.cell t j) off len) := by
  by_cases h : t = d <;> simp [AV.killCell, AV.rootsCell, h, bcase]
theorem killc_refs (d t off len : Nat) : AV.killCell d (.ref (.slot t) off len) = .ref (.slot t) off len := (rfl)
theorem killc_pelc (d t q i j : Nat) : AV.killCell d (.pel (.cell t q) i j) = bcase (decide (t = d)) .any (.pel (.cell t q) i j) := by
  by_cases h : t = d <;> simp [AV.killCell, AV.rootsCell, h, bcase]
theorem killc_pels (d t i j : Nat) : AV.killCell d (.pel (.slot t) i j) = .pel (.slot t) i j := (rfl)
theorem take_map_all {γ δ : Type} (f : γ → δ) (l : List γ) : (l.map f).take l.length = l.map f := List.take_of_length_le (by simp)
theorem scal_int (k : IntKind) (n : Int) : (PV.int k n).scalar = true := (rfl)
theorem scal_bool (b : Bool) : (PV.bool b).scalar = true := (rfl)
theorem scal_str (b : ByteArray) : (PV.str b).scalar = true := (rfl)
theorem scal_list (sz : Nat) (es : List PV) : (PV.list sz es).scalar = false := (rfl)
theorem scal_func (f : Nat) (es : List PV) : (PV.func f es).scalar = false := (rfl)
theorem cells_int (k : IntKind) (n : Int) : (PV.int k n).cells = [.int k n] := (rfl)
theorem cells_bool (b : Bool) : (PV.bool b).cells = [.bool b] := (rfl)
theorem cells_str (b : ByteArray) : (PV.str b).cells = [.str b] := (rfl)
theorem cells_list (sz : Nat) (es : List PV) : (PV.list sz es).cells = [.list sz es] := (rfl)
theorem cells_func (f : Nat) (es : List PV) : (PV.func f es).cells = [.func f es] := (rfl)
theorem cells_agg (cs : List PV) : (PV.agg cs).cells = cs := (rfl)
theorem part_one (c : PV) (cs : List PV) : part (c :: cs) 0 none = some c := (rfl)
theorem part_succ (c : PV) (cs : List PV) (n : Nat) (m : Option Nat) : part (c :: cs) (n + 1) m = part cs n m := by
  cases m with
  | none => rfl
  | some m =>
    simp only [part, List.length_cons, List.drop_succ_cons]
    by_cases h : n + m ≤ cs.length
    · rw [if_pos h, if_pos (by omega)]
    · rw [if_neg h, if_neg (by omega)]
theorem part_more (c : PV) (cs : List PV) (m : Nat) : part (c :: cs) 0 (some m) = if m ≤ (c :: cs).length then some (.agg ((c :: cs).take m)) else none := by
  simp only [part, Nat.zero_add, List.drop_zero]
theorem i64_fits {n : Int} (h : -9223372036854775808 ≤ n ∧ n ≤ 9223372036854775807) : IntKind.i64.wrap n = n := Go.IntWalk.i64_in n h
theorem i64_next {i n : Nat} (h : i < n) (hn : n ≤ lim) : IntKind.i64.wrap ((i : Int) + 1) = ((i + 1 : Nat) : Int) := by
  unfold lim at hn
  rw [Go.IntWalk.i64_in _ (by omega)]
  omega
theorem index_nat {k : IntKind} {i n : Nat} (h : i < n) : index (.int k (i : Int)) n = some i := by
  simp only [index]
  rw [if_pos (by omega)]
  simp
end
end Go.Proofs.Ytncobemfpammfaa

namespace Go.Proofs.Ytncobemfpammfaa
open V
def cloneX (n : Nat) : List PV → Option (List Res)
  | [.list sz es] => if sz = n ∧ es.length ≤ lim then some [(.list sz es, true)] else none
  | _ => none
def decU8 : PV → Option UInt8
  | .int .u8 n => if 0 ≤ n ∧ n < 256 then some (UInt8.ofNat n.toNat) else none
  | _ => none
def decAll {α : Type} (f : PV → Option α) : List PV → Option (List α)
  | [] => some []
  | p :: l => match f p with
    | some x => match decAll f l with
      | some xs => some (x :: xs)
      | none => none
    | none => none
def decSec : PV → Option Sec
  | .agg cs => match decAll decU8 cs with
    | some l => if h : l.length = 8 then some ⟨l.toArray, by simpa using h⟩ else none
    | none => none
  | _ => none
def decSecs : PV → Option (List Sec)
  | .list 8 es => decAll decSec es
  | _ => none
def i64b (n : Int) : Bool := decide (-9223372036854775808 ≤ n) && decide (n ≤ 9223372036854775807)
def decWr : PV → Option Wrt
  | .agg [.int .i64 v, .int .i64 s, d] => match decSecs d with
    | some d => if i64b v && i64b s then some ⟨v, s, d⟩ else none
    | none => none
  | _ => none
theorem decU8_eq {p : PV} {x : UInt8} (h : decU8 p = some x) : p = .int .u8 (x.toNat : Int) := by
  unfold decU8 at h
  split at h
  case h_2 => cases h
  rename_i n
  split at h
  case isFalse => cases h
  cases h
  rw [UInt8.toNat_ofNat_of_lt' (show n.toNat < 2 ^ 8 by omega)]
  congr 1; omega
theorem decU8_enc (x : UInt8) : decU8 (.int .u8 (x.toNat : Int)) = some x := by
  have := x.toNat_lt
  unfold decU8
  simp only
  rw [if_pos (by omega)]
  simp
theorem decAll_eq {α : Type} {f : PV → Option α} {enc : α → PV} (hf : ∀ p x, f p = some x → p = enc x) : ∀ {l : List PV} {xs : List α}, decAll f l = some xs → l = xs.map enc
  | [], _, h => by cases h; rfl
  | p :: l, xs, h => by
    unfold decAll at h
    split at h
    case h_2 => cases h
    rename_i x hx
    split at h
    case h_2 => cases h
    rename_i ys hy
    cases h
    rw [List.map_cons, ← hf p x hx, ← decAll_eq hf hy]
theorem decAll_enc {α : Type} {f : PV → Option α} {enc : α → PV} : ∀ {l : List α}, (∀ x ∈ l, f (enc x) = some x) → decAll f (l.map enc) = some l
  | [], _ => rfl
  | x :: l, h => by
    simp only [List.map_cons, decAll, h x (by simp), decAll_enc (l := l) fun y hy => h y (by simp [hy])]
theorem decSec_eq {p : PV} {x : Sec} (h : decSec p = some x) : p = eSec x := by
  unfold decSec at h
  split at h
  case h_2 => cases h
  rename_i cs
  split at h
  case h_2 => cases h
  rename_i l hl
  split at h
  case isFalse => cases h
  rename_i h8
  cases h
  rw [decAll_eq (fun p x => decU8_eq) hl]
  simp [eSec, secPV, Vector.toList]
theorem decSec_enc (x : Sec) : decSec (eSec x) = some x := by
  unfold decSec eSec secPV
  simp only
  rw [decAll_enc (f := decU8) (enc := fun b : UInt8 => .int .u8 (b.toNat : Int)) fun b _ => decU8_enc b]
  simp
  rfl
theorem decSecs_eq {p : PV} {x : List Sec} (h : decSecs p = some x) : p = eSecs x := by
  unfold decSecs at h
  split at h
  case h_2 => cases h
  rw [decAll_eq (fun p x => decSec_eq) h]; rfl
theorem decSecs_enc (x : List Sec) : decSecs (eSecs x) = some x := by
  unfold decSecs eSecs
  simp only
  exact decAll_enc fun x _ => decSec_enc x
theorem decWr_eq {p : PV} {x : Wrt} (h : decWr p = some x) : p = eWr x := by
  unfold decWr at h
  split at h
  case h_2 => cases h
  split at h
  case h_2 => cases h
  rename_i d hd
  split at h
  case isFalse => cases h
  cases h
  have := decSecs_eq hd
  rw [this]; rfl
theorem decWr_ok {p : PV} {x : Wrt} (h : decWr p = some x) : i64b x.volume = true ∧ i64b x.start = true := by
  unfold decWr at h
  split at h
  case h_2 => cases h
  split at h
  case h_2 => cases h
  split at h
  case isFalse => cases h
  rename_i hc
  cases h
  simpa using hc
theorem decWr_enc (x : Wrt) (h1 : i64b x.volume = true) (h2 : i64b x.start = true) : decWr (eWr x) = some x := by
  have := decSecs_enc x.data
  unfold eSecs at this
  simp only [decWr, eWr, this, h1, h2, Bool.and_self, if_true]
def szErr (l : List Int) : Int := if l.length < 1 ∨ 8 < l.length then 6 else if l.any (fun n => decide (n < 1) || decide (n > 4096)) then 2 else 0
def szsOf (im : List (List Sec)) : List Int := im.map fun v => (v.length : Int)
def wrErr (sz : List Int) (w : Wrt) : Int :=
  if w.volume < 0 ∨ (sz.length : Int) ≤ w.volume then 7 else if w.data.length = 0 then 1
  else if w.start < 0 ∨ (sz.getD w.volume.toNat 0) - w.data.length < w.start then 2 else 0
def putAt (l : List Sec) (s : Nat) (d : List Sec) : List Sec := l.take s ++ d ++ l.drop (s + d.length)
def put1 (im : List (List Sec)) (w : Wrt) : List (List Sec) := im.set w.volume.toNat (putAt (im.getD w.volume.toNat []) w.start.toNat w.data)
def wrErrs (sz : List Int) : List Wrt → Nat → Int × Int
  | [], _ => (0, 0)
  | w :: l, i => if wrErr sz w ≠ 0 then (i, wrErr sz w) else wrErrs sz l (i + 1)
def apE (im : List (List Sec)) (l : List Wrt) : Int := if szErr (szsOf im) ≠ 0 then szErr (szsOf im) else (wrErrs (szsOf im) l 0).2
def apI (im : List (List Sec)) (l : List Wrt) : Int := if szErr (szsOf im) ≠ 0 then 0 else (wrErrs (szsOf im) l 0).1
def apO (im : List (List Sec)) (l : List Wrt) : List (List Sec) := if apE im l = 0 then l.foldl put1 im else []
def applyX : List PV → Option (List Res)
  | [.list 1 im, .list 3 l] => match decAll decSecs im with
    | some im => match decAll decWr l with
      | some l => if im.length ≤ 1000000 ∧ im.all (fun v => decide (v.length ≤ 1000000)) = true then some [(.list 1 ((apO im l).map eSecs), false), (.int .i64 (apI im l), false), (.int .i64 (apE im l), false)] else none
      | none => none
    | none => none
  | _ => none
theorem applyX_eq {args : List PV} {rs : List Res} (h : applyX args = some rs) : ∃ (im : List (List Sec)) (l : List Wrt), args = [.list 1 (im.map eSecs), .list 3 (l.map eWr)] ∧ (∀ w ∈ l, i64b w.volume = true ∧ i64b w.start = true) ∧ im.length ≤ 1000000 ∧ (∀ v ∈ im, v.length ≤ 1000000) ∧
    rs = [(.list 1 ((apO im l).map eSecs), false), (.int .i64 (apI im l), false), (.int .i64 (apE im l), false)] := by
  unfold applyX at h
  split at h
  case h_2 => cases h
  split at h
  case h_2 => cases h
  rename_i im hi
  split at h
  case h_2 => cases h
  rename_i l hl
  split at h
  case isFalse => cases h
  rename_i hc
  cases h
  refine ⟨im, l, by rw [decAll_eq (fun p x => decSecs_eq) hi, decAll_eq (fun p x => decWr_eq) hl], ?_, hc.1, fun v hv => by simpa using List.all_eq_true.1 hc.2 v hv, rfl⟩
  have : ∀ {q : List PV} {xs : List Wrt}, decAll decWr q = some xs → ∀ w ∈ xs, i64b w.volume = true ∧ i64b w.start = true := by
    intro q
    induction q with
    | nil => intro xs h; cases h; simp
    | cons p q ih =>
      intro xs h
      unfold decAll at h
      split at h
      case h_2 => cases h
      rename_i x hx
      split at h
      case h_2 => cases h
      rename_i ys hy
      cases h
      simp only [List.mem_cons, forall_eq_or_imp]
      exact ⟨decWr_ok hx, ih hy⟩
  exact this hl
theorem applyX_enc {im : List (List Sec)} {l : List Wrt} (h1 : ∀ w ∈ l, i64b w.volume = true ∧ i64b w.start = true) (h2 : im.length ≤ 1000000) (h3 : ∀ v ∈ im, v.length ≤ 1000000) :
    applyX [.list 1 (im.map eSecs), .list 3 (l.map eWr)] = some [(.list 1 ((apO im l).map eSecs), false), (.int .i64 (apI im l), false), (.int .i64 (apE im l), false)] := by
  simp only [applyX]
  rw [decAll_enc fun x _ => decSecs_enc x, decAll_enc fun x hx => decWr_enc x (h1 x hx).1 (h1 x hx).2]
  simp only
  rw [if_pos ⟨h2, List.all_eq_true.2 fun v hv => by simpa using h3 v hv⟩]
end Go.Proofs.Ytncobemfpammfaa

namespace Go.Proofs.Ytncobemfpammfaa

structure End where
  pos : Nat
  list : Nat
  step : Int
  deriving DecidableEq, Inhabited
def eEnd (e : End) : PV := .agg [.int .i64 (e.pos : Int), .int .i64 (e.list : Int), .int .i64 e.step]
def decEnd : PV → Option End
  | .agg [.int .i64 a, .int .i64 b, .int .i64 c] => if 0 ≤ a ∧ 0 ≤ b then some ⟨a.toNat, b.toNat, c⟩ else none
  | _ => none
theorem decEnd_enc (e : End) : decEnd (eEnd e) = some e := by
  simp [decEnd, eEnd]
theorem decEnd_eq {p : PV} {e : End} (h : decEnd p = some e) : p = eEnd e := by
  unfold decEnd at h
  split at h
  · split at h
    · rename_i hc
      cases h
      simp only [eEnd, Int.toNat_of_nonneg hc.1, Int.toNat_of_nonneg hc.2]
    · cases h
  · cases h
def ltEnd (x y : End) : Bool := decide (x.pos < y.pos)
def sortE (l : List End) : List End := (Sort.pdq ltEnd l.toArray 0 l.length (Lib.bitLen l.length) true true).toList
def sortEndsX (g : Nat) : PV → List PV → Option (List PV)
  | .func f [], es => if f = g then if es.length ≤ 1000000 then (decAll decEnd es).map fun l => (sortE l).map eEnd else none else none
  | _, _ => none
theorem sortEndsX_enc {g : Nat} {l : List End} (h : l.length ≤ 1000000) : sortEndsX g (.func g []) (l.map eEnd) = some ((sortE l).map eEnd) := by
  unfold sortEndsX
  simp only [if_true, List.length_map, h]
  rw [decAll_enc fun x _ => decEnd_enc x]
  rfl
theorem sortEndsX_eq {g : Nat} {c : PV} {es es' : List PV} (h : sortEndsX g c es = some es') : ∃ l : List End, c = .func g [] ∧ es = l.map eEnd ∧ l.length ≤ 1000000 ∧ es' = (sortE l).map eEnd := by
  unfold sortEndsX at h
  split at h
  · split at h
    · rename_i hg
      split at h
      · rename_i hl
        obtain ⟨l, h1, h2⟩ := Option.map_eq_some_iff.1 h
        have := decAll_eq (fun p x h => decEnd_eq h) h1
        subst this
        exact ⟨l, by rw [hg], rfl, by simpa using hl, h2.symm⟩
      · cases h
    · cases h
  · cases h
end Go.Proofs.Ytncobemfpammfaa

namespace Go.Proofs.Ytncobemfpammfaa

end Go.Proofs.Ytncobemfpammfaa

namespace Go.Proofs.Ytncobemfpammfaa

def fn5 : VFn := ⟨3, 146, [.tmp 6], (.seq (.ops [.asg 6 (.c (.bool false))]) (.seq (.seq (.ops [.mov 23 (.t 0), .call 24 6 [(.t 23)], .un 25 .not (.t 24), .mov 26 (.t 25), .grd 26 false (.mov 27 (.t 1)), .grd 26 false (.call 28 6 [(.t 27)]), .grd 26 false (.un 29 .not (.t 28)), .pick 30 (.t 26) (.c (.bool true)) (.t 29), .mov 31 (.t 30), .grd 31 false (.mov 32 (.t 2)), .grd 31 false (.call 33 7 [(.t 32)]), .grd 31 false (.un 34 .not (.t 33)), .pick 35 (.t 31) (.c (.bool true)) (.t 34)]) (.cond (.t 35) (.seq (.ops [.call 36 8 [], .asg 6 (.t 36)]) .ret) .skip)) (.seq (.ops [.mov 38 (.t 0), .mov 39 (.t 2), .call 40 16 [(.t 38), (.t 39)], .mov 37 (.t 40), .ext 41 (.t 37) 0, .ext 42 (.t 37) 1, .asg 7 (.t 41), .asg 8 (.t 42)]) (.seq (.ops [.mov 44 (.t 0), .mov 45 (.t 1), .mov 46 (.t 2), .call 47 9 [(.t 44), (.t 45), (.t 46)], .mov 43 (.t 47), .ext 48 (.t 43) 0, .ext 49 (.t 43) 1, .asg 9 (.t 48), .asg 10 (.t 49)]) (.seq (.seq (.ops [.mov 50 (.t 8), .bin 51 .neq (.t 50) (.c (.int .i64 0)), .mov 52 (.t 51), .grd 52 false (.mov 53 (.t 10)), .grd 52 false (.bin 54 .neq (.t 53) (.c (.int .i64 0))), .pick 55 (.t 52) (.c (.bool true)) (.t 54)]) (.cond (.t 55) (.seq (.ops [.call 56 8 [], .asg 6 (.t 56)]) .ret) .skip)) (.seq (.ops [.mov 58 (.t 0), .mov 59 (.t 9), .call 60 16 [(.t 58), (.t 59)], .mov 57 (.t 60), .ext 61 (.t 57) 0, .ext 62 (.t 57) 1, .asg 11 (.t 61), .asg 12 (.t 62)]) (.seq (.seq (.ops [.mov 63 (.t 12), .bin 64 .neq (.t 63) (.c (.int .i64 0))]) (.cond (.t 64) (.seq (.ops [.asg 6 (.c (.bool false))]) .ret) .skip)) (.seq (.ops [.mov 66 (.t 0), .mov 67 (.t 1), .mov 68 (.t 2), .call 69 17 [(.t 66), (.t 67), (.t 68)], .mov 65 (.t 69), .ext 70 (.t 65) 0, .ext 71 (.t 65) 1, .asg 13 (.t 70), .asg 14 (.t 71)]) (.seq (.ops [.mov 73 (.t 1), .mov 74 (.t 7), .call 75 18 [(.t 73), (.t 74)], .mov 72 (.t 75), .ext 76 (.t 72) 0, .ext 77 (.t 72) 1, .ext 78 (.t 72) 2, .asg 15 (.t 76), .asg 16 (.t 77), .asg 17 (.t 78)]) (.seq (.ops [.mov 80 (.t 1), .mov 81 (.t 11), .call 82 18 [(.t 80), (.t 81)], .mov 79 (.t 82), .ext 83 (.t 79) 0, .ext 84 (.t 79) 1, .ext 85 (.t 79) 2, .asg 18 (.t 83), .asg 19 (.t 84), .asg 20 (.t 85)]) (.seq (.ops [.mov 87 (.t 0), .mov 88 (.t 1), .mov 89 (.t 9), .call 90 11 [(.t 87), (.t 88), (.t 89)], .mov 86 (.t 90), .ext 91 (.t 86) 0, .ext 92 (.t 86) 1, .asg 21 (.t 91), .asg 22 (.t 92)]) (.seq (.seq (.ops [.mov 93 (.t 17), .bin 94 .neq (.t 93) (.c (.int .i64 0)), .mov 95 (.t 94), .grd 95 false (.mov 96 (.t 20)), .grd 95 false (.bin 97 .neq (.t 96) (.c (.int .i64 0))), .pick 98 (.t 95) (.c (.bool true)) (.t 97), .mov 99 (.t 98), .grd 99 false (.mov 100 (.t 22)), .grd 99 false (.bin 101 .neq (.t 100) (.c (.int .i64 0))), .pick 102 (.t 99) (.c (.bool true)) (.t 101), .mov 103 (.t 102), .grd 103 false (.mov 104 (.t 21)), .grd 103 false (.mov 105 (.t 14)), .grd 103 false (.bin 106 .eql (.t 105) (.c (.int .i64 0))), .grd 103 false (.eqb 107 true (.t 104) (.t 106)), .pick 108 (.t 103) (.c (.bool true)) (.t 107), .mov 109 (.t 108), .grd 109 false (.mov 110 (.t 15)), .grd 109 false (.mov 111 (.t 18)), .grd 109 false (.call 112 19 [(.t 110), (.t 111)]), .grd 109 false (.un 113 .not (.t 112)), .pick 114 (.t 109) (.c (.bool true)) (.t 113), .mov 115 (.t 114), .grd 115 false (.mov 116 (.t 15)), .grd 115 false (.mov 117 (.t 0)), .grd 115 false (.call 118 19 [(.t 116), (.t 117)]), .grd 115 false (.mov 119 (.t 14)), .grd 115 false (.bin 120 .eql (.t 119) (.c (.int .i64 0))), .grd 115 false (.eqb 121 true (.t 118) (.t 120)), .pick 122 (.t 115) (.c (.bool true)) (.t 121)]) (.cond (.t 122) (.seq (.ops [.asg 6 (.c (.bool false))]) .ret) .skip)) (.seq (.ops [.call 123 8 [], .mov 124 (.t 123), .grd 124 true (.mov 125 (.t 9)), .grd 124 true (.call 126 14 [(.t 125)]), .grd 124 true (.mov 127 (.t 13)), .grd 124 true (.mov 128 (.t 14)), .grd 124 true (.bin 129 .sub (.t 127) (.t 128)), .grd 124 true (.bin 130 .eql (.t 126) (.t 129)), .pick 131 (.t 124) (.t 130) (.c (.bool false)), .mov 132 (.t 131), .grd 132 true (.mov 133 (.t 9)), .grd 132 true (.call 134 14 [(.t 133)]), .grd 132 true (.mov 135 (.t 2)), .grd 132 true (.call 136 14 [(.t 135)]), .grd 132 true (.bin 137 .leq (.t 134) (.t 136)), .pick 138 (.t 132) (.t 137) (.c (.bool false)), .mov 139 (.t 138), .grd 139 true (.mov 140 (.t 11)), .grd 139 true (.call 141 20 [(.t 140)]), .grd 139 true (.mov 142 (.t 9)), .grd 139 true (.call 143 14 [(.t 142)]), .grd 139 true (.bin 144 .eql (.t 141) (.t 143)), .pick 145 (.t 139) (.t 144) (.c (.bool false)), .asg 6 (.t 145)]) .ret)))))))))))))⟩
def fn6_b0 : VCode := (.seq (.seq (.ops [.mov 7 (.t 3), .mov 8 (.t 0), .len 9 (.t 8), .bin 10 .lss (.t 7) (.t 9)]) (.cond (.t 10) .skip (.exit 0))) (.seq (.block 1 (.seq (.ops [.mov 13 (.t 0), .mov 14 (.t 3), .iadr 15 1 (.t 13) (.t 14), .load 16 none (.t 15), .len 17 (.t 16), .bin 18 .gtr (.t 17) (.c (.int .i64 24))]) (.cond (.t 18) (.seq (.ops [.asg 2 (.c (.bool false))]) .ret) .skip))) (.ops [.mov 11 (.t 3), .bin 12 .add (.t 11) (.c (.int .i64 1)), .asg 3 (.t 12)])))
def fn6_l1 : VCode :=
(.clean [0, 3] [2] (.block 0 (.loop [0, 3] fn6_b0)))
def fn6 : VFn := ⟨1, 19, [.tmp 2], (.seq (.ops [.asg 2 (.c (.bool false))]) (.seq (.seq (.ops [.mov 4 (.t 0), .len 5 (.t 4), .bin 6 .gtr (.t 5) (.c (.int .i64 9))]) (.cond (.t 6) (.seq (.ops [.asg 2 (.c (.bool false))]) .ret) .skip)) (.seq (.seq (.ops [.asg 3 (.c (.int .i64 0))])
     fn6_l1) (.seq (.ops [.asg 2 (.c (.bool true))]) .ret))))⟩
def fn7_b0 : VCode := (.seq (.seq (.ops [.mov 4 (.t 3), .mov 5 (.t 0), .len 6 (.t 5), .bin 7 .lss (.t 4) (.t 6), .mov 8 (.t 7), .grd 8 true (.mov 9 (.t 3)), .grd 8 true (.bin 10 .lss (.t 9) (.c (.int .i64 20))), .pick 11 (.t 8) (.t 10) (.c (.bool false))]) (.cond (.t 11) .skip (.exit 0))) (.seq (.block 1 (.seq (.ops [.mov 14 (.t 0), .mov 15 (.t 3), .iadr 16 1 (.t 14) (.t 15), .load 17 none (.t 16), .len 18 (.t 17), .bin 19 .gtr (.t 18) (.c (.int .i64 40))]) (.cond (.t 19) (.seq (.ops [.asg 2 (.c (.bool false))]) .ret) .skip))) (.ops [.mov 12 (.t 3), .bin 13 .add (.t 12) (.c (.int .i64 1)), .asg 3 (.t 13)])))
def fn7_l1 : VCode :=
(.clean [0, 3] [0, 2] (.block 0 (.loop [0, 3] fn7_b0)))
def fn7 : VFn := ⟨1, 23, [.tmp 2], (.seq (.ops [.asg 2 (.c (.bool false))]) (.seq (.seq (.ops [.asg 3 (.c (.int .i64 0))])
    fn7_l1) (.seq (.ops [.mov 20 (.t 0), .len 21 (.t 20), .bin 22 .leq (.t 21) (.c (.int .i64 20)), .asg 2 (.t 22)]) .ret)))⟩
def fn8 : VFn := ⟨0, 107, [.tmp 0], (.seq (.ops [.asg 0 (.c (.bool false))]) (.seq (.ops [.build 15 [(.int .u8 0), (.int .u8 0), (.int .u8 0), (.int .u8 0), (.int .u8 0), (.int .u8 0), (.int .u8 0), (.int .u8 0)] [(0, 1, (.c (.int .u8 1)))], .build 16 [(.int .u8 0), (.int .u8 0), (.int .u8 0), (.int .u8 0), (.int .u8 0), (.int .u8 0), (.int .u8 0), (.int .u8 0)] [(0, 1, (.c (.int .u8 2)))], .build 17 [(.int .u8 0), (.int .u8 0), (.int .u8 0), (.int .u8 0), (.int .u8 0), (.int .u8 0), (.int .u8 0), (.int .u8 0)] [(0, 1, (.c (.int .u8 3)))], .alloc 1 [(.int .u8 0), (.int .u8 0), (.int .u8 0), (.int .u8 0), (.int .u8 0), (.int .u8 0), (.int .u8 0), (.int .u8 0)], .alloc 2 [(.int .u8 0), (.int .u8 0), (.int .u8 0), (.int .u8 0), (.int .u8 0), (.int .u8 0), (.int .u8 0), (.int .u8 0)], .alloc 3 [(.int .u8 0), (.int .u8 0), (.int .u8 0), (.int .u8 0), (.int .u8 0), (.int .u8 0), (.int .u8 0), (.int .u8 0)], .store none 8 (.t 1) (.t 15), .store none 8 (.t 2) (.t 16), .store none 8 (.t 3) (.t 17)]) (.seq (.drs [] [1, 2, 3, 4, 5, 24, 31] [.load 18 (some 8) (.t 1), .load 19 (some 8) (.t 2), .build 20 [(.int .u8 0), (.int .u8 0), (.int .u8 0), (.int .u8 0), (.int .u8 0), (.int .u8 0), (.int .u8 0), (.int .u8 0)] [], .build 21 [(.int .u8 0), (.int .u8 0), (.int .u8 0), (.int .u8 0), (.int .u8 0), (.int .u8 0), (.int .u8 0), (.int .u8 0)] [], .load 22 (some 8) (.t 3), .mksl 23 8 [(.t 18), (.t 19), (.t 20), (.t 21), (.t 22)], .mksl 24 1 [(.t 23)], .build 25 [(.int .u8 0), (.int .u8 0), (.int .u8 0), (.int .u8 0), (.int .u8 0), (.int .u8 0), (.int .u8 0), (.int .u8 0)] [], .load 26 (some 8) (.t 2), .build 27 [(.int .u8 0), (.int .u8 0), (.int .u8 0), (.int .u8 0), (.int .u8 0), (.int .u8 0), (.int .u8 0), (.int .u8 0)] [], .build 28 [(.int .u8 0), (.int .u8 0), (.int .u8 0), (.int .u8 0), (.int .u8 0), (.int .u8 0), (.int .u8 0), (.int .u8 0)] [], .build 29 [(.int .u8 0), (.int .u8 0), (.int .u8 0), (.int .u8 0), (.int .u8 0), (.int .u8 0), (.int .u8 0), (.int .u8 0)] [], .mksl 30 8 [(.t 25), (.t 26), (.t 27), (.t 28), (.t 29)], .mksl 31 1 [(.t 30)], .asg 4 (.t 24), .asg 5 (.t 31)]
     [⟨[([0, 1, 2, 3, 4, 7, 8, 9, 10, 11], 5), ([], 6), ([14], 12), ([], 13)], none, [15], [0, 1, 2, 3, 4, 7, 8, 9, 10, 11, 5, 6, 14, 12, 13, 15], false⟩, ⟨[([0, 1, 2, 3, 4, 7, 8, 9, 10, 11], 5), ([], 12), ([], 6), ([14], 13)], none, [15], [0, 1, 2, 3, 4, 7, 8, 9, 10, 11, 5, 12, 6, 14, 13, 15], false⟩, ⟨[([0, 1, 2, 3, 4, 7, 8, 9, 10, 11], 5), ([], 12), ([], 13), ([], 6)], none, [14, 15], [0, 1, 2, 3, 4, 7, 8, 9, 10, 11, 5, 12, 13, 6, 14, 15], false⟩, ⟨[([0, 1, 2, 3, 4, 7, 8, 9, 10, 11], 12), ([], 5), ([], 6), ([14], 13)], none, [15], [0, 1, 2, 3, 4, 7, 8, 9, 10, 11, 12, 5, 6, 14, 13, 15], false⟩, ⟨[([0, 1, 2, 3, 4, 7, 8, 9, 10, 11], 12), ([], 5), ([], 13), ([], 6)], none, [14, 15], [0, 1, 2, 3, 4, 7, 8, 9, 10, 11, 12, 5, 13, 6, 14, 15], false⟩, ⟨[([0, 1, 2, 3, 4, 7, 8, 9, 10, 11], 12), ([], 13), ([], 5), ([], 6)], none, [14, 15], [0, 1, 2, 3, 4, 7, 8, 9, 10, 11, 12, 13, 5, 6, 14, 15], false⟩]) (.seq (.ops [.build 32 [(.int .i64 0), (.int .i64 0)] [(0, 1, (.c (.int .i64 0))), (1, 1, (.c (.int .i64 2)))], .build 33 [(.int .i64 0), (.int .i64 0)] [(0, 1, (.c (.int .i64 4))), (1, 1, (.c (.int .i64 1)))], .mksl 34 2 [(.t 32), (.t 33)], .mksl 35 1 [(.t 34)], .asg 6 (.t 35)]) (.seq (.ops [.mov 37 (.t 4), .mov 38 (.t 6), .call 39 16 [(.t 37), (.t 38)], .mov 36 (.t 39), .ext 40 (.t 36) 0, .ext 41 (.t 36) 1, .asg 7 (.t 40), .asg 8 (.t 41)]) (.seq (.ops [.mov 43 (.t 4), .mov 44 (.t 5), .mov 45 (.t 6), .call 46 9 [(.t 43), (.t 44), (.t 45)], .mov 42 (.t 46), .ext 47 (.t 42) 0, .ext 48 (.t 42) 1, .asg 9 (.t 47), .asg 10 (.t 48)]) (.seq (.ops [.mov 50 (.t 4), .mov 51 (.t 5), .mov 52 (.t 9), .call 53 11 [(.t 50), (.t 51), (.t 52)], .mov 49 (.t 53), .ext 54 (.t 49) 0, .ext 55 (.t 49) 1, .asg 11 (.t 54), .asg 12 (.t 55)]) (.seq (.ops [.mov 57 (.t 4), .mov 58 (.t 5), .mov 59 (.t 6), .call 60 11 [(.t 57), (.t 58), (.t 59)], .mov 56 (.t 60), .ext 61 (.t 56) 0, .ext 62 (.t 56) 1, .asg 13 (.t 61), .asg 14 (.t 62)]) (.seq (.seq (.ops [.mov 63 (.t 8), .mov 64 (.t 10), .bin 65 .add (.t 63) (.t 64), .mov 66 (.t 12), .bin 67 .add (.t 65) (.t 66), .mov 68 (.t 14), .bin 69 .add (.t 67) (.t 68), .bin 70 .neq (.t 69) (.c (.int .i64 0)), .mov 71 (.t 70), .grd 71 false (.mov 72 (.t 7)), .grd 71 false (.load 73 (some 8) (.t 1)), .grd 71 false (.load 74 (some 8) (.t 2)), .grd 71 false (.mksl 75 8 [(.t 73), (.t 74)]), .grd 71 false (.build 76 [(.int .i64 0), (.int .i64 0), (.list 0 [])] [(2, 1, (.t 75))]), .grd 71 false (.load 77 (some 8) (.t 3)), .grd 71 false (.mksl 78 8 [(.t 77)]), .grd 71 false (.build 79 [(.int .i64 0), (.int .i64 0), (.list 0 [])] [(1, 1, (.c (.int .i64 4))), (2, 1, (.t 78))]), .grd 71 false (.mksl 80 3 [(.t 76), (.t 79)]), .grd 71 false (.call 81 21 [(.t 72), (.t 80)]), .grd 71 false (.un 82 .not (.t 81)), .pick 83 (.t 71) (.c (.bool true)) (.t 82)]) (.cond (.t 83) (.seq (.ops [.asg 0 (.c (.bool false))]) .ret) .skip)) (.seq (.ops [.mov 84 (.t 9), .build 85 [(.int .i64 0), (.int .i64 0)] [(0, 1, (.c (.int .i64 0))), (1, 1, (.c (.int .i64 1)))], .build 86 [(.int .i64 0), (.int .i64 0)] [(0, 1, (.c (.int .i64 4))), (1, 1, (.c (.int .i64 1)))], .mksl 87 2 [(.t 85), (.t 86)], .mksl 88 1 [(.t 87)], .call 89 13 [(.t 84), (.t 88)], .mov 90 (.t 89), .grd 90 true (.mov 91 (.t 11)), .pick 92 (.t 90) (.t 91) (.c (.bool false)), .mov 93 (.t 92), .grd 93 true (.mov 94 (.t 13)), .grd 93 true (.un 95 .not (.t 94)), .pick 96 (.t 93) (.t 95) (.c (.bool false)), .mov 97 (.t 96), .grd 97 true (.mov 98 (.t 6)), .grd 97 true (.call 99 14 [(.t 98)]), .grd 97 true (.bin 100 .eql (.t 99) (.c (.int .i64 3))), .pick 101 (.t 97) (.t 100) (.c (.bool false)), .mov 102 (.t 101), .grd 102 true (.mov 103 (.t 9)), .grd 102 true (.call 104 14 [(.t 103)]), .grd 102 true (.bin 105 .eql (.t 104) (.c (.int .i64 2))), .pick 106 (.t 102) (.t 105) (.c (.bool false)), .asg 0 (.t 106)]) .ret))))))))))⟩
def fn9 : VFn := ⟨3, 29, [.tmp 6, .tmp 7], (.seq (.ops [.box 5 (.t 2), .asg 6 (.nil 1), .asg 7 (.c (.int .i64 0))]) (.seq (.ops [.mov 12 (.t 0), .mov 13 (.t 1), .call 14 22 [(.t 12), (.t 13)], .mov 11 (.t 14), .ext 15 (.t 11) 0, .ext 16 (.t 11) 1, .asg 8 (.t 15), .asg 9 (.t 16)]) (.seq (.seq (.ops [.mov 17 (.t 9), .bin 18 .neq (.t 17) (.c (.int .i64 0))]) (.cond (.t 18) (.seq (.ops [.mov 19 (.t 9), .asg 6 (.nil 1), .asg 7 (.t 19)]) .ret) .skip)) (.seq (.seq (.ops [.mov 20 (.t 0), .load 21 none (.t 5), .call 22 23 [(.t 20), (.t 21)], .asg 10 (.t 22)]) (.seq (.ops [.mov 23 (.t 10), .bin 24 .neq (.t 23) (.c (.int .i64 0))]) (.cond (.t 24) (.seq (.ops [.mov 25 (.t 10), .asg 6 (.nil 1), .asg 7 (.t 25)]) .ret) .skip))) (.seq (.ops [.mov 26 (.t 8), .mkf 27 25 [(.t 5)], .call 28 24 [(.t 26), (.t 27)], .asg 6 (.t 28), .asg 7 (.c (.int .i64 0))]) .ret)))))⟩
def fn11 : VFn := ⟨3, 34, [.tmp 6, .tmp 7], (.seq (.ops [.asg 6 (.c (.bool false)), .asg 7 (.c (.int .i64 0))]) (.seq (.seq (.ops [.mov 13 (.t 0), .mov 14 (.t 1), .mov 15 (.t 2), .call 16 9 [(.t 13), (.t 14), (.t 15)], .mov 12 (.t 16), .ext 17 (.t 12) 0, .ext 18 (.t 12) 1, .asg 8 (.t 17), .asg 9 (.t 18)]) (.seq (.ops [.mov 19 (.t 9), .bin 20 .neq (.t 19) (.c (.int .i64 0))]) (.cond (.t 20) (.seq (.ops [.mov 21 (.t 9), .asg 6 (.c (.bool false)), .asg 7 (.t 21)]) .ret) .skip))) (.seq (.ops [.mov 23 (.t 0), .mov 24 (.t 1), .call 25 22 [(.t 23), (.t 24)], .mov 22 (.t 25), .ext 26 (.t 22) 0, .ext 27 (.t 22) 1, .asg 10 (.t 26), .asg 11 (.t 27)]) (.seq (.seq (.ops [.mov 28 (.t 11), .bin 29 .neq (.t 28) (.c (.int .i64 0))]) (.cond (.t 29) (.seq (.ops [.mov 30 (.t 11), .asg 6 (.c (.bool false)), .asg 7 (.t 30)]) .ret) .skip)) (.seq (.ops [.mov 31 (.t 10), .mov 32 (.t 2), .call 33 30 [(.t 31), (.t 32), (.c (.func 31 []))], .asg 6 (.t 33), .asg 7 (.c (.int .i64 0))]) .ret)))))⟩
def fn13_b0 : VCode := (.seq (.seq (.ops [.mov 29 (.t 6), .mov 30 (.t 0), .mov 31 (.t 5), .iadr 32 1 (.t 30) (.t 31), .load 33 none (.t 32), .len 34 (.t 33), .bin 35 .lss (.t 29) (.t 34)]) (.cond (.t 35) .skip (.exit 2))) (.seq (.block 3 (.seq (.drw [] [] none [0, 1, 2, 3, 4, 5, 6, 7, 8, 9, 10, 11, 12, 13, 14] [.mov 38 (.t 0), .mov 39 (.t 5), .iadr 40 1 (.t 38) (.t 39), .load 41 none (.t 40), .mov 42 (.t 6), .iadr 43 2 (.t 41) (.t 42), .load 44 (some 2) (.t 43), .mov 45 (.t 1), .mov 46 (.t 5), .iadr 47 1 (.t 45) (.t 46), .load 48 none (.t 47), .mov 49 (.t 6), .iadr 50 2 (.t 48) (.t 49), .load 51 (some 2) (.t 50), .eqa 52 true 2 (.t 44) (.t 51)]) (.cond (.t 52) (.seq (.ops [.asg 4 (.c (.bool false))]) .ret) .skip))) (.ops [.mov 36 (.t 6), .bin 37 .add (.t 36) (.c (.int .i64 1)), .asg 6 (.t 37)])))
def fn13_l1 : VCode :=
(.clean [0, 1, 5, 6] [0, 1, 4, 5] (.block 2 (.loop [0, 1, 5, 6] fn13_b0)))
def fn13_b2 : VCode := (.seq (.seq (.ops [.mov 12 (.t 5), .mov 13 (.t 0), .len 14 (.t 13), .bin 15 .lss (.t 12) (.t 14)]) (.cond (.t 15) .skip (.exit 0))) (.seq (.block 1 (.seq (.seq (.drw [] [] none [0, 1, 2, 3, 4, 5, 6, 7, 8, 9, 10] [.mov 18 (.t 0), .mov 19 (.t 5), .iadr 20 1 (.t 18) (.t 19), .load 21 none (.t 20), .len 22 (.t 21), .mov 23 (.t 1), .mov 24 (.t 5), .iadr 25 1 (.t 23) (.t 24), .load 26 none (.t 25), .len 27 (.t 26), .bin 28 .neq (.t 22) (.t 27)]) (.cond (.t 28) (.seq (.ops [.asg 4 (.c (.bool false))]) .ret) .skip)) (.seq (.ops [.asg 6 (.c (.int .i64 0))])
      fn13_l1))) (.ops [.mov 16 (.t 5), .bin 17 .add (.t 16) (.c (.int .i64 1)), .asg 5 (.t 17)])))
def fn13_l3 : VCode :=
(.clean [0, 1, 5] [4] (.block 0 (.loop [0, 1, 5] fn13_b2)))
def fn13 : VFn := ⟨2, 53, [.tmp 4], (.seq (.ops [.asg 4 (.c (.bool false))]) (.seq (.seq (.ops [.mov 7 (.t 0), .len 8 (.t 7), .mov 9 (.t 1), .len 10 (.t 9), .bin 11 .neq (.t 8) (.t 10)]) (.cond (.t 11) (.seq (.ops [.asg 4 (.c (.bool false))]) .ret) .skip)) (.seq (.seq (.ops [.asg 5 (.c (.int .i64 0))])
     fn13_l3) (.seq (.ops [.asg 4 (.c (.bool true))]) .ret))))⟩
def fn14_b0 : VCode := (.seq (.ops [.bin 10 .lss (.t 9) (.t 8)]) (.seq (.cond (.t 10) .skip (.exit 0)) (.seq (.block 1 (.seq (.ops [.iadr 11 1 (.t 7) (.t 9), .load 12 none (.t 11), .asg 5 (.t 12)]) (.ops [.mov 13 (.t 3), .mov 14 (.t 5), .bin 15 .add (.t 13) (.t 14), .asg 3 (.t 15)]))) (.ops [.bin 16 .add (.t 9) (.c (.int .i64 1)), .mov 9 (.t 16)]))))
def fn14_l1 : VCode :=
(.clean [3, 7, 8, 9] [2, 3] (.block 0 (.loop [3, 7, 8, 9] fn14_b0)))
def fn14 : VFn := ⟨1, 18, [.tmp 2], (.seq (.ops [.asg 2 (.c (.int .i64 0))]) (.seq (.ops [.asg 3 (.c (.int .i64 0))]) (.seq (.seq (.ops [.mov 6 (.t 0), .call 7 34 [(.t 6), (.c (.func 35 []))], .len 8 (.t 7), .mov 9 (.c (.int .i64 0))])
     fn14_l1) (.seq (.ops [.mov 17 (.t 3), .asg 2 (.t 17)]) .ret))))⟩
def fn16_b0 : VCode := (.seq (.ops [.asg 9 (.t 24)]) (.ops [.alloc 10 [(.int .i64 0), (.int .i64 0)], .store none 2 (.t 10) (.t 25)]))
def fn16_b1 : VCode := (.block 1 (.drw [] [([0, 1, 2, 3, 4, 5, 6, 7, 8, 9, 10, 11, 12, 13, 14, 15], 16), ([17], 18)] (some ([], [], 19, [([], 20)])) [] [.load 26 none (.t 8), .mov 27 (.t 9), .fadr 28 (.t 10) 0, .load 29 none (.t 28), .load 30 none (.t 2), .mov 31 (.t 9), .iadr 32 1 (.t 30) (.t 31), .load 33 none (.t 32), .fadr 34 (.t 10) 0, .load 35 none (.t 34), .fadr 36 (.t 10) 0, .load 37 none (.t 36), .fadr 38 (.t 10) 1, .load 39 none (.t 38), .bin 40 .add (.t 37) (.t 39), .sli 41 8 (.t 33) (some (.t 35)) (some (.t 40)), .call 42 40 [(.t 41)], .build 43 [(.int .i64 0), (.int .i64 0), (.list 0 [])] [(0, 1, (.t 27)), (1, 1, (.t 29)), (2, 1, (.t 42))], .mksl 44 3 [(.t 43)], .app 45 3 (.t 26) (.t 44), .store none 1 (.t 8) (.t 45)]))
def fn16 : VFn := ⟨2, 47, [.tmp 4, .tmp 5], (.seq (.ops [.box 2 (.t 0), .asg 4 (.nil 3), .asg 5 (.c (.int .i64 0))]) (.seq (.seq (.ops [.load 11 none (.t 2), .call 12 38 [(.t 11)], .asg 6 (.t 12)]) (.seq (.ops [.mov 13 (.t 6), .bin 14 .neq (.t 13) (.c (.int .i64 0))]) (.cond (.t 14) (.seq (.ops [.mov 15 (.t 6), .asg 4 (.nil 3), .asg 5 (.t 15)]) .ret) .skip))) (.seq (.seq (.ops [.load 16 none (.t 2), .mov 17 (.t 1), .call 18 23 [(.t 16), (.t 17)], .asg 7 (.t 18)]) (.seq (.ops [.mov 19 (.t 7), .bin 20 .neq (.t 19) (.c (.int .i64 0))]) (.cond (.t 20) (.seq (.ops [.mov 21 (.t 7), .asg 4 (.nil 3), .asg 5 (.t 21)]) .ret) .skip))) (.seq (.ops [.alloc 8 [(.list 3 [])]]) (.seq (.seq (.ops [.mov 22 (.t 1), .call 23 39 [(.t 22)]]) (.block 0 (.rng (.t 23) [24, 25] fn16_b0 fn16_b1))) (.seq (.ops [.load 46 none (.t 8), .asg 4 (.t 46), .asg 5 (.c (.int .i64 0))]) .ret))))))⟩
def fn17_b0 : VCode := (.seq (.seq (.ops [.mov 18 (.t 11), .mov 19 (.t 0), .mov 20 (.t 10), .iadr 21 1 (.t 19) (.t 20), .load 22 none (.t 21), .len 23 (.t 22), .bin 24 .lss (.t 18) (.t 23)]) (.cond (.t 24) .skip (.exit 2))) (.seq (.block 3 (.seq (.seq (.drw [] [] none [0, 1, 2, 3, 4, 5, 6, 7, 8, 9, 10, 11, 12, 13, 14] [.mov 27 (.t 0), .mov 28 (.t 10), .iadr 29 1 (.t 27) (.t 28), .load 30 none (.t 29), .mov 31 (.t 11), .iadr 32 8 (.t 30) (.t 31), .load 33 (some 8) (.t 32), .mov 34 (.t 1), .mov 35 (.t 10), .iadr 36 1 (.t 34) (.t 35), .load 37 none (.t 36), .mov 38 (.t 11), .iadr 39 8 (.t 37) (.t 38), .load 40 (some 8) (.t 39), .eqa 41 false 8 (.t 33) (.t 40)]) (.cond (.t 41) (.exit 3) .skip)) (.seq (.ops [.mov 42 (.t 8), .bin 43 .add (.t 42) (.c (.int .i64 1)), .asg 8 (.t 43)]) (.seq (.ops [.mov 44 (.t 2), .mov 45 (.t 10), .iadr 46 1 (.t 44) (.t 45), .load 47 none (.t 46), .mov 48 (.t 11), .call 49 41 [(.t 47), (.t 48)], .un 50 .not (.t 49)]) (.cond (.t 50) (.ops [.mov 51 (.t 9), .bin 52 .add (.t 51) (.c (.int .i64 1)), .asg 9 (.t 52)]) .skip))))) (.ops [.mov 25 (.t 11), .bin 26 .add (.t 25) (.c (.int .i64 1)), .asg 11 (.t 26)])))
def fn17_l1 : VCode :=
(.clean [0, 1, 2, 8, 9, 10, 11] [0, 1, 2, 6, 7, 8, 9, 10] (.block 2 (.loop [0, 1, 2, 8, 9, 10, 11] fn17_b0)))
def fn17_b2 : VCode := (.seq (.seq (.ops [.mov 12 (.t 10), .mov 13 (.t 0), .len 14 (.t 13), .bin 15 .lss (.t 12) (.t 14)]) (.cond (.t 15) .skip (.exit 0))) (.seq (.block 1 (.seq (.ops [.asg 11 (.c (.int .i64 0))])
     fn17_l1)) (.ops [.mov 16 (.t 10), .bin 17 .add (.t 16) (.c (.int .i64 1)), .asg 10 (.t 17)])))
def fn17_l3 : VCode :=
(.clean [0, 1, 2, 8, 9, 10] [6, 7, 8, 9] (.block 0 (.loop [0, 1, 2, 8, 9, 10] fn17_b2)))
def fn17 : VFn := ⟨3, 55, [.tmp 6, .tmp 7], (.seq (.ops [.asg 6 (.c (.int .i64 0)), .asg 7 (.c (.int .i64 0))]) (.seq (.ops [.asg 8 (.c (.int .i64 0)), .asg 9 (.c (.int .i64 0))]) (.seq (.seq (.ops [.asg 10 (.c (.int .i64 0))])
     fn17_l3) (.seq (.ops [.mov 53 (.t 8), .mov 54 (.t 9), .asg 6 (.t 53), .asg 7 (.t 54)]) .ret))))⟩
def fn19_b0 : VCode := (.seq (.seq (.ops [.mov 11 (.t 5), .mov 12 (.t 0), .len 13 (.t 12), .bin 14 .lss (.t 11) (.t 13)]) (.cond (.t 14) .skip (.exit 0))) (.seq (.block 1 (.seq (.drw [] [([0, 1, 2, 3, 4, 5, 6, 7], 8)] none [9] [.mov 17 (.t 0), .mov 18 (.t 5), .iadr 19 1 (.t 17) (.t 18), .load 20 none (.t 19), .mov 21 (.t 1), .mov 22 (.t 5), .iadr 23 1 (.t 21) (.t 22), .load 24 none (.t 23), .call 25 44 [(.t 20), (.t 24)], .un 26 .not (.t 25)]) (.cond (.t 26) (.seq (.ops [.asg 4 (.c (.bool false))]) .ret) .skip))) (.ops [.mov 15 (.t 5), .bin 16 .add (.t 15) (.c (.int .i64 1)), .asg 5 (.t 16)])))
def fn19_l1 : VCode :=
(.clean [0, 1, 5] [4] (.block 0 (.loop [0, 1, 5] fn19_b0)))
def fn19 : VFn := ⟨2, 27, [.tmp 4], (.seq (.ops [.asg 4 (.c (.bool false))]) (.seq (.seq (.ops [.mov 6 (.t 0), .len 7 (.t 6), .mov 8 (.t 1), .len 9 (.t 8), .bin 10 .neq (.t 7) (.t 9)]) (.cond (.t 10) (.seq (.ops [.asg 4 (.c (.bool false))]) .ret) .skip)) (.seq (.seq (.ops [.asg 5 (.c (.int .i64 0))])
     fn19_l1) (.seq (.ops [.asg 4 (.c (.bool true))]) .ret))))⟩
def fn20_b0 : VCode := (.seq (.seq (.ops [.mov 5 (.t 4), .mov 6 (.t 0), .len 7 (.t 6), .bin 8 .lss (.t 5) (.t 7)]) (.cond (.t 8) .skip (.exit 0))) (.seq (.block 1 (.ops [.mov 11 (.t 3), .mov 12 (.t 0), .mov 13 (.t 4), .iadr 14 3 (.t 12) (.t 13), .fadr 15 (.t 14) 2, .load 16 none (.t 15), .len 17 (.t 16), .bin 18 .add (.t 11) (.t 17), .asg 3 (.t 18)])) (.ops [.mov 9 (.t 4), .bin 10 .add (.t 9) (.c (.int .i64 1)), .asg 4 (.t 10)])))
def fn20_l1 : VCode :=
(.clean [0, 3, 4] [2, 3] (.block 0 (.loop [0, 3, 4] fn20_b0)))
def fn20 : VFn := ⟨1, 20, [.tmp 2], (.seq (.ops [.asg 2 (.c (.int .i64 0))]) (.seq (.ops [.asg 3 (.c (.int .i64 0))]) (.seq (.seq (.ops [.asg 4 (.c (.int .i64 0))])
     fn20_l1) (.seq (.ops [.mov 19 (.t 3), .asg 2 (.t 19)]) .ret))))⟩
def fn21 : VFn := ⟨2, 8, [.tmp 4], (.seq (.ops [.asg 4 (.c (.bool false))]) (.seq (.ops [.mov 5 (.t 0), .mov 6 (.t 1), .call 7 45 [(.t 5), (.t 6)], .asg 4 (.t 7)]) .ret))⟩
def fn22_b0 : VCode := (.seq (.ops [.bin 18 .lss (.t 17) (.t 16)]) (.seq (.cond (.t 18) .skip (.exit 0)) (.seq (.block 1 (.seq (.ops [.mov 19 (.t 17), .asg 8 (.t 19)]) (.drw [] [([0, 1, 2, 3, 4, 5, 6, 7, 8], 9), ([], 10)] (some ([], [], 11, [])) [12] [.mov 20 (.t 7), .mov 21 (.t 0), .mov 22 (.t 8), .iadr 23 1 (.t 21) (.t 22), .load 24 none (.t 23), .mov 25 (.t 1), .mov 26 (.t 8), .iadr 27 1 (.t 25) (.t 26), .load 28 none (.t 27), .call 29 47 [(.t 24), (.t 28)], .mksl 30 1 [(.t 29)], .app 31 1 (.t 20) (.t 30), .asg 7 (.t 31)]))) (.ops [.bin 32 .add (.t 17) (.c (.int .i64 1)), .mov 17 (.t 32)]))))
def fn22_l1 : VCode :=
(.clean [0, 1, 7, 16, 17, 31] [4, 5, 7] (.block 0 (.loop [0, 1, 7, 16, 17, 31] fn22_b0)))
def fn22 : VFn := ⟨2, 34, [.tmp 4, .tmp 5], (.seq (.ops [.asg 4 (.nil 1), .asg 5 (.c (.int .i64 0))]) (.seq (.seq (.ops [.mov 9 (.t 0), .mov 10 (.t 1), .call 11 46 [(.t 9), (.t 10)], .asg 6 (.t 11)]) (.seq (.ops [.mov 12 (.t 6), .bin 13 .neq (.t 12) (.c (.int .i64 0))]) (.cond (.t 13) (.seq (.ops [.mov 14 (.t 6), .asg 4 (.nil 1), .asg 5 (.t 14)]) .ret) .skip))) (.seq (.ops [.asg 7 (.nil 1)]) (.seq (.seq (.ops [.mov 15 (.t 0), .len 16 (.t 15), .mov 17 (.c (.int .i64 0))])
      fn22_l1) (.seq (.ops [.mov 33 (.t 7), .asg 4 (.t 33), .asg 5 (.c (.int .i64 0))]) .ret)))))⟩
def fn23 : VFn := ⟨2, 16, [.tmp 4], (.seq (.ops [.box 2 (.t 0), .asg 4 (.c (.int .i64 0))]) (.seq (.seq (.ops [.mov 6 (.t 1), .len 7 (.t 6), .load 8 none (.t 2), .len 9 (.t 8), .bin 10 .neq (.t 7) (.t 9)]) (.cond (.t 10) (.seq (.ops [.asg 4 (.c (.int .i64 6))]) .ret) .skip)) (.seq (.ops [.mov 11 (.t 1), .mkf 12 49 [(.t 2)], .call 13 48 [(.t 11), (.t 12)], .asg 5 (.t 13)]) (.seq (.seq (.ops [.mov 14 (.t 5), .call 15 51 [(.t 14), (.c (.bool false))]]) (.cond (.t 15) (.seq (.ops [.asg 4 (.c (.int .i64 3))]) .ret) .skip)) (.seq (.ops [.asg 4 (.c (.int .i64 0))]) .ret)))))⟩
def fn24_b0 : VCode := (.seq (.ops [.bin 11 .lss (.t 10) (.t 9)]) (.seq (.cond (.t 11) .skip (.exit 0)) (.seq (.block 1 (.seq (.ops [.mov 12 (.t 10), .iadr 13 1 (.t 8) (.t 10), .load 14 none (.t 13), .asg 6 (.t 12), .asg 7 (.t 14)]) (.ops [.mov 15 (.t 5), .mov 16 (.t 1), .mov 17 (.t 6), .mov 18 (.t 7), .callv 19 (.t 16) [(.t 17), (.t 18)], .mksl 20 1 [(.t 19)], .app 21 1 (.t 15) (.t 20), .asg 5 (.t 21)]))) (.ops [.bin 22 .add (.t 10) (.c (.int .i64 1)), .mov 10 (.t 22)]))))
def fn24_l1 : VCode :=
(.clean [0, 1, 5, 8, 9, 10, 21] [4, 5] (.block 0 (.loop [0, 1, 5, 8, 9, 10, 21] fn24_b0)))
def fn24 : VFn := ⟨2, 24, [.tmp 4], (.seq (.ops [.asg 4 (.nil 1)]) (.seq (.ops [.asg 5 (.nil 1)]) (.seq (.seq (.ops [.mov 8 (.t 0), .len 9 (.t 8), .mov 10 (.c (.int .i64 0))])
     fn24_l1) (.seq (.ops [.mov 23 (.t 5), .asg 4 (.t 23)]) .ret))))⟩
def fn25 : VFn := ⟨3, 12, [.tmp 5], (.seq (.ops [.asg 5 (.nil 2)]) (.seq (.ops [.mov 6 (.t 1), .load 7 none (.t 2), .mov 8 (.t 0), .iadr 9 1 (.t 7) (.t 8), .load 10 none (.t 9), .call 11 26 [(.t 6), (.t 10)], .asg 5 (.t 11)]) .ret))⟩
def fn26 : VFn := ⟨2, 9, [.tmp 4], (.seq (.ops [.asg 4 (.nil 2)]) (.seq (.ops [.mov 5 (.t 0), .mov 6 (.t 1), .call 7 53 [(.t 5), (.t 6), (.c (.func 54 []))], .call 8 52 [(.t 7)], .asg 4 (.t 8)]) .ret))⟩
def fn30_b0 : VCode := (.seq (.ops [.bin 18 .lss (.t 17) (.t 16)]) (.seq (.cond (.t 18) .skip (.exit 0)) (.seq (.block 1 (.seq (.ops [.mov 19 (.t 17), .iadr 20 1 (.t 15) (.t 17), .load 21 none (.t 20), .asg 7 (.t 19), .asg 8 (.t 21)]) (.seq (.ops [.mov 22 (.t 1), .mov 23 (.t 7), .iadr 24 1 (.t 22) (.t 23), .load 25 none (.t 24), .asg 9 (.t 25)]) (.seq (.ops [.mov 26 (.t 2), .mov 27 (.t 8), .mov 28 (.t 9), .callv 29 (.t 26) [(.t 27), (.t 28)], .un 30 .not (.t 29)]) (.cond (.t 30) (.seq (.ops [.asg 6 (.c (.bool false))]) .ret) .skip))))) (.ops [.bin 31 .add (.t 17) (.c (.int .i64 1)), .mov 17 (.t 31)]))))
def fn30_l1 : VCode :=
(.clean [0, 1, 2, 15, 16, 17] [6] (.block 0 (.loop [0, 1, 2, 15, 16, 17] fn30_b0)))
def fn30 : VFn := ⟨3, 32, [.tmp 6], (.seq (.ops [.asg 6 (.c (.bool false))]) (.seq (.seq (.ops [.mov 10 (.t 0), .len 11 (.t 10), .mov 12 (.t 1), .len 13 (.t 12), .bin 14 .neq (.t 11) (.t 13)]) (.cond (.t 14) (.seq (.ops [.asg 6 (.c (.bool false))]) .ret) .skip)) (.seq (.seq (.ops [.mov 15 (.t 0), .len 16 (.t 15), .mov 17 (.c (.int .i64 0))])
     fn30_l1) (.seq (.ops [.asg 6 (.c (.bool true))]) .ret))))⟩
def fn31 : VFn := ⟨2, 8, [.tmp 4], (.seq (.ops [.asg 4 (.c (.bool false))]) (.seq (.ops [.mov 5 (.t 0), .mov 6 (.t 1), .call 7 32 [(.t 5), (.t 6)], .asg 4 (.t 7)]) .ret))⟩
def fn32_b0 : VCode := (.seq (.ops [.bin 14 .lss (.t 13) (.t 12)]) (.seq (.cond (.t 14) .skip (.exit 0)) (.seq (.block 1 (.seq (.ops [.mov 15 (.t 13), .asg 5 (.t 15)]) (.seq (.drw [] [] none [0, 1, 2, 3, 4, 5, 6, 7, 8] [.mov 16 (.t 0), .mov 17 (.t 5), .iadr 18 2 (.t 16) (.t 17), .load 19 (some 2) (.t 18), .mov 20 (.t 1), .mov 21 (.t 5), .iadr 22 2 (.t 20) (.t 21), .load 23 (some 2) (.t 22), .eqa 24 true 2 (.t 19) (.t 23)]) (.cond (.t 24) (.seq (.ops [.asg 4 (.c (.bool false))]) .ret) .skip)))) (.ops [.bin 25 .add (.t 13) (.c (.int .i64 1)), .mov 13 (.t 25)]))))
def fn32_l1 : VCode :=
(.clean [0, 1, 12, 13] [4] (.block 0 (.loop [0, 1, 12, 13] fn32_b0)))
def fn32 : VFn := ⟨2, 26, [.tmp 4], (.seq (.ops [.asg 4 (.c (.bool false))]) (.seq (.seq (.ops [.mov 6 (.t 0), .len 7 (.t 6), .mov 8 (.t 1), .len 9 (.t 8), .bin 10 .neq (.t 7) (.t 9)]) (.cond (.t 10) (.seq (.ops [.asg 4 (.c (.bool false))]) .ret) .skip)) (.seq (.seq (.ops [.mov 11 (.t 0), .len 12 (.t 11), .mov 13 (.c (.int .i64 0))])
     fn32_l1) (.seq (.ops [.asg 4 (.c (.bool true))]) .ret))))⟩
def fn34_b0 : VCode := (.seq (.ops [.bin 11 .lss (.t 10) (.t 9)]) (.seq (.cond (.t 11) .skip (.exit 0)) (.seq (.block 1 (.seq (.ops [.mov 12 (.t 10), .iadr 13 1 (.t 8) (.t 10), .load 14 none (.t 13), .asg 6 (.t 12), .asg 7 (.t 14)]) (.ops [.mov 15 (.t 5), .mov 16 (.t 1), .mov 17 (.t 6), .mov 18 (.t 7), .callv 19 (.t 16) [(.t 17), (.t 18)], .mksl 20 1 [(.t 19)], .app 21 1 (.t 15) (.t 20), .asg 5 (.t 21)]))) (.ops [.bin 22 .add (.t 10) (.c (.int .i64 1)), .mov 10 (.t 22)]))))
def fn34_l1 : VCode :=
(.clean [0, 1, 5, 8, 9, 10, 21] [4, 5] (.block 0 (.loop [0, 1, 5, 8, 9, 10, 21] fn34_b0)))
def fn34 : VFn := ⟨2, 24, [.tmp 4], (.seq (.ops [.asg 4 (.nil 1)]) (.seq (.ops [.asg 5 (.nil 1)]) (.seq (.seq (.ops [.mov 8 (.t 0), .len 9 (.t 8), .mov 10 (.c (.int .i64 0))])
     fn34_l1) (.seq (.ops [.mov 23 (.t 5), .asg 4 (.t 23)]) .ret))))⟩
def fn35 : VFn := ⟨2, 7, [.tmp 4], (.seq (.ops [.asg 4 (.c (.int .i64 0))]) (.seq (.ops [.mov 5 (.t 1), .call 6 36 [(.t 5)], .asg 4 (.t 6)]) .ret))⟩
def fn36_b0 : VCode := (.seq (.ops [.bin 10 .lss (.t 9) (.t 8)]) (.seq (.cond (.t 10) .skip (.exit 0)) (.seq (.block 1 (.seq (.ops [.iadr 11 2 (.t 7) (.t 9), .load 12 (some 2) (.t 11), .alloc 5 [(.int .i64 0), (.int .i64 0)], .store none 2 (.t 5) (.t 12)]) (.ops [.mov 13 (.t 3), .fadr 14 (.t 5) 1, .load 15 none (.t 14), .bin 16 .add (.t 13) (.t 15), .asg 3 (.t 16)]))) (.ops [.bin 17 .add (.t 9) (.c (.int .i64 1)), .mov 9 (.t 17)]))))
def fn36_l1 : VCode :=
(.clean [3, 7, 8, 9] [2, 3] (.block 0 (.loop [3, 7, 8, 9] fn36_b0)))
def fn36 : VFn := ⟨1, 19, [.tmp 2], (.seq (.ops [.asg 2 (.c (.int .i64 0))]) (.seq (.ops [.asg 3 (.c (.int .i64 0))]) (.seq (.seq (.ops [.mov 6 (.t 0), .call 7 60 [(.t 6), (.nil 2)], .len 8 (.t 7), .mov 9 (.c (.int .i64 0))])
     fn36_l1) (.seq (.ops [.mov 18 (.t 3), .asg 2 (.t 18)]) .ret))))⟩
def fn38 : VFn := ⟨1, 6, [.tmp 2], (.seq (.ops [.asg 2 (.c (.int .i64 0))]) (.seq (.ops [.mov 3 (.t 0), .call 4 62 [(.t 3)], .call 5 61 [(.t 4)], .asg 2 (.t 5)]) .ret))⟩
def fn39 : VFn := ⟨1, 4, [.tmp 2], (.seq (.ops [.box 1 (.t 0), .asg 2 (.c .nilf)]) (.seq (.ops [.mkf 3 63 [(.t 1)], .asg 2 (.t 3)]) .ret))⟩
def fn40 : VFn := ⟨1, 8, [.tmp 2], (.seq (.ops [.asg 2 (.nil 8)]) (.seq (.seq (.ops [.mov 3 (.t 0), .isn 4 false (.t 3)]) (.cond (.t 4) (.seq (.ops [.asg 2 (.nil 8)]) .ret) .skip)) (.seq (.ops [.mksl 5 8 [], .mov 6 (.t 0), .app 7 8 (.t 5) (.t 6), .asg 2 (.t 7)]) .ret)))⟩
def fn41 : VFn := ⟨2, 8, [.tmp 4], (.seq (.ops [.box 3 (.t 1), .asg 4 (.c (.bool false))]) (.seq (.ops [.mov 5 (.t 0), .mkf 6 65 [(.t 3)], .call 7 64 [(.t 5), (.t 6)], .asg 4 (.t 7)]) .ret))⟩
def fn44_b0 : VCode := (.seq (.seq (.ops [.mov 11 (.t 5), .mov 12 (.t 0), .len 13 (.t 12), .bin 14 .lss (.t 11) (.t 13)]) (.cond (.t 14) .skip (.exit 0))) (.seq (.block 1 (.seq (.drw [] [] none [0, 1, 2, 3, 4, 5, 6, 7, 8] [.mov 17 (.t 0), .mov 18 (.t 5), .iadr 19 8 (.t 17) (.t 18), .load 20 (some 8) (.t 19), .mov 21 (.t 1), .mov 22 (.t 5), .iadr 23 8 (.t 21) (.t 22), .load 24 (some 8) (.t 23), .eqa 25 true 8 (.t 20) (.t 24)]) (.cond (.t 25) (.seq (.ops [.asg 4 (.c (.bool false))]) .ret) .skip))) (.ops [.mov 15 (.t 5), .bin 16 .add (.t 15) (.c (.int .i64 1)), .asg 5 (.t 16)])))
def fn44_l1 : VCode :=
(.clean [0, 1, 5] [4] (.block 0 (.loop [0, 1, 5] fn44_b0)))
def fn44 : VFn := ⟨2, 26, [.tmp 4], (.seq (.ops [.asg 4 (.c (.bool false))]) (.seq (.seq (.ops [.mov 6 (.t 0), .len 7 (.t 6), .mov 8 (.t 1), .len 9 (.t 8), .bin 10 .neq (.t 7) (.t 9)]) (.cond (.t 10) (.seq (.ops [.asg 4 (.c (.bool false))]) .ret) .skip)) (.seq (.seq (.ops [.asg 5 (.c (.int .i64 0))])
     fn44_l1) (.seq (.ops [.asg 4 (.c (.bool true))]) .ret))))⟩
def fn45_b0 : VCode := (.seq (.seq (.ops [.mov 11 (.t 5), .mov 12 (.t 0), .len 13 (.t 12), .bin 14 .lss (.t 11) (.t 13)]) (.cond (.t 14) .skip (.exit 0))) (.seq (.block 1 (.seq (.drw [] [([0, 1, 2, 3, 4, 5, 6, 7, 8, 9, 10, 11, 12, 13, 14, 15, 16, 17, 18, 19, 20, 21, 22, 23, 24, 25, 26, 27, 28, 29, 30, 31, 32, 33, 34], 35)] none [36, 37] [.mov 17 (.t 0), .mov 18 (.t 5), .iadr 19 3 (.t 17) (.t 18), .fadr 20 (.t 19) 0, .load 21 none (.t 20), .mov 22 (.t 1), .mov 23 (.t 5), .iadr 24 3 (.t 22) (.t 23), .fadr 25 (.t 24) 0, .load 26 none (.t 25), .bin 27 .neq (.t 21) (.t 26), .mov 28 (.t 27), .grd 28 false (.mov 29 (.t 0)), .grd 28 false (.mov 30 (.t 5)), .grd 28 false (.iadr 31 3 (.t 29) (.t 30)), .grd 28 false (.fadr 32 (.t 31) 1), .grd 28 false (.load 33 none (.t 32)), .grd 28 false (.mov 34 (.t 1)), .grd 28 false (.mov 35 (.t 5)), .grd 28 false (.iadr 36 3 (.t 34) (.t 35)), .grd 28 false (.fadr 37 (.t 36) 1), .grd 28 false (.load 38 none (.t 37)), .grd 28 false (.bin 39 .neq (.t 33) (.t 38)), .pick 40 (.t 28) (.c (.bool true)) (.t 39), .mov 41 (.t 40), .grd 41 false (.mov 42 (.t 0)), .grd 41 false (.mov 43 (.t 5)), .grd 41 false (.iadr 44 3 (.t 42) (.t 43)), .grd 41 false (.fadr 45 (.t 44) 2), .grd 41 false (.load 46 none (.t 45)), .grd 41 false (.mov 47 (.t 1)), .grd 41 false (.mov 48 (.t 5)), .grd 41 false (.iadr 49 3 (.t 47) (.t 48)), .grd 41 false (.fadr 50 (.t 49) 2), .grd 41 false (.load 51 none (.t 50)), .grd 41 false (.call 52 68 [(.t 46), (.t 51)]), .grd 41 false (.un 53 .not (.t 52)), .pick 54 (.t 41) (.c (.bool true)) (.t 53)]) (.cond (.t 54) (.seq (.ops [.asg 4 (.c (.bool false))]) .ret) .skip))) (.ops [.mov 15 (.t 5), .bin 16 .add (.t 15) (.c (.int .i64 1)), .asg 5 (.t 16)])))
def fn45_l1 : VCode :=
(.clean [0, 1, 5] [4] (.block 0 (.loop [0, 1, 5] fn45_b0)))
def fn45 : VFn := ⟨2, 55, [.tmp 4], (.seq (.ops [.asg 4 (.c (.bool false))]) (.seq (.seq (.ops [.mov 6 (.t 0), .len 7 (.t 6), .mov 8 (.t 1), .len 9 (.t 8), .bin 10 .neq (.t 7) (.t 9)]) (.cond (.t 10) (.seq (.ops [.asg 4 (.c (.bool false))]) .ret) .skip)) (.seq (.seq (.ops [.asg 5 (.c (.int .i64 0))])
     fn45_l1) (.seq (.ops [.asg 4 (.c (.bool true))]) .ret))))⟩
def fn46_b0 : VCode := (.seq (.ops [.bin 13 .lss (.t 12) (.t 11)]) (.seq (.cond (.t 13) .skip (.exit 0)) (.seq (.block 1 (.seq (.ops [.iadr 14 1 (.t 10) (.t 12), .load 15 none (.t 14), .asg 6 (.t 15)]) (.seq (.ops [.mov 16 (.t 6), .call 17 38 [(.t 16)], .asg 7 (.t 17)]) (.seq (.ops [.mov 18 (.t 7), .bin 19 .neq (.t 18) (.c (.int .i64 0))]) (.cond (.t 19) (.seq (.ops [.mov 20 (.t 7), .asg 4 (.t 20)]) .ret) .skip))))) (.ops [.bin 21 .add (.t 12) (.c (.int .i64 1)), .mov 12 (.t 21)]))))
def fn46_l1 : VCode :=
(.clean [0, 1, 10, 11, 12] [0, 1, 4] (.block 0 (.loop [0, 1, 10, 11, 12] fn46_b0)))
def fn46 : VFn := ⟨2, 28, [.tmp 4], (.seq (.ops [.asg 4 (.c (.int .i64 0))]) (.seq (.seq (.ops [.mov 8 (.t 0), .mov 9 (.t 1), .mksl 10 1 [(.t 8), (.t 9)], .len 11 (.t 10), .mov 12 (.c (.int .i64 0))])
    fn46_l1) (.seq (.seq (.ops [.mov 22 (.t 0), .call 23 62 [(.t 22)], .mov 24 (.t 1), .call 25 62 [(.t 24)], .call 26 69 [(.t 23), (.t 25)], .un 27 .not (.t 26)]) (.cond (.t 27) (.seq (.ops [.asg 4 (.c (.int .i64 22))]) .ret) .skip)) (.seq (.ops [.asg 4 (.c (.int .i64 0))]) .ret))))⟩
def fn47_b0 : VCode := (.ops [.asg 7 (.t 11)])
def fn47_b1 : VCode := (.block 1 (.seq (.seq (.ops [.mov 12 (.t 7), .load 13 none (.t 6), .bin 14 .eql (.t 12) (.t 13)]) (.cond (.t 14) (.ops [.load 15 none (.t 5), .load 16 none (.t 5), .len 17 (.t 16), .bin 18 .sub (.t 17) (.c (.int .i64 1)), .iadr 19 2 (.t 15) (.t 18), .fadr 20 (.t 19) 1, .load 21 none (.t 20), .bin 22 .add (.t 21) (.c (.int .i64 1)), .iadr 23 2 (.t 15) (.t 18), .fadr 24 (.t 23) 1, .store none 1 (.t 24) (.t 22)]) (.ops [.load 25 none (.t 5), .mov 26 (.t 7), .build 27 [(.int .i64 0), (.int .i64 0)] [(0, 1, (.t 26)), (1, 1, (.c (.int .i64 1)))], .mksl 28 2 [(.t 27)], .app 29 2 (.t 25) (.t 28), .store none 1 (.t 5) (.t 29)]))) (.ops [.mov 30 (.t 7), .bin 31 .add (.t 30) (.c (.int .i64 1)), .store none 1 (.t 6) (.t 31)])))
def fn47 : VFn := ⟨2, 33, [.tmp 4], (.seq (.ops [.asg 4 (.nil 2)]) (.seq (.ops [.alloc 5 [(.list 2 [])]]) (.seq (.ops [.alloc 6 [(.int .i64 0)], .store none 1 (.t 6) (.c (.int .i64 (-1)))]) (.seq (.seq (.ops [.mov 8 (.t 0), .mov 9 (.t 1), .call 10 70 [(.t 8), (.t 9)]]) (.block 0 (.rng (.t 10) [11] fn47_b0 fn47_b1))) (.seq (.ops [.load 32 none (.t 5), .asg 4 (.t 32)]) .ret)))))⟩
def fn48_b0 : VCode := (.seq (.ops [.bin 11 .lss (.t 10) (.t 9)]) (.seq (.cond (.t 11) .skip (.exit 0)) (.seq (.block 1 (.seq (.ops [.mov 12 (.t 10), .iadr 13 1 (.t 8) (.t 10), .load 14 none (.t 13), .asg 6 (.t 12), .asg 7 (.t 14)]) (.ops [.mov 15 (.t 5), .mov 16 (.t 1), .mov 17 (.t 6), .mov 18 (.t 7), .callv 19 (.t 16) [(.t 17), (.t 18)], .mksl 20 1 [(.t 19)], .app 21 1 (.t 15) (.t 20), .asg 5 (.t 21)]))) (.ops [.bin 22 .add (.t 10) (.c (.int .i64 1)), .mov 10 (.t 22)]))))
def fn48_l1 : VCode :=
(.clean [0, 1, 5, 8, 9, 10, 21] [4, 5] (.block 0 (.loop [0, 1, 5, 8, 9, 10, 21] fn48_b0)))
def fn48 : VFn := ⟨2, 24, [.tmp 4], (.seq (.ops [.asg 4 (.nil 1)]) (.seq (.ops [.asg 5 (.nil 1)]) (.seq (.seq (.ops [.mov 8 (.t 0), .len 9 (.t 8), .mov 10 (.c (.int .i64 0))])
     fn48_l1) (.seq (.ops [.mov 23 (.t 5), .asg 4 (.t 23)]) .ret))))⟩
def fn49 : VFn := ⟨3, 14, [.tmp 5], (.seq (.ops [.asg 5 (.c (.bool false))]) (.seq (.ops [.mov 6 (.t 1), .load 7 none (.t 2), .mov 8 (.t 0), .iadr 9 1 (.t 7) (.t 8), .load 10 none (.t 9), .len 11 (.t 10), .call 12 50 [(.t 6), (.t 11)], .bin 13 .eql (.t 12) (.c (.int .i64 0)), .asg 5 (.t 13)]) .ret))⟩
def fn50_b0 : VCode := (.seq (.ops [.bin 17 .lss (.t 16) (.t 15)]) (.seq (.cond (.t 17) .skip (.exit 0)) (.seq (.block 1 (.seq (.ops [.iadr 18 2 (.t 14) (.t 16), .load 19 (some 2) (.t 18), .alloc 7 [(.int .i64 0), (.int .i64 0)], .store none 2 (.t 7) (.t 19)]) (.seq (.block 2 (.seq (.ops [.fadr 21 (.t 7) 1, .load 22 none (.t 21), .bin 23 .leq (.t 22) (.c (.int .i64 0)), .asg 20 (.t 23)]) (.cond (.t 20) (.seq (.ops [.asg 4 (.c (.int .i64 1))]) .ret) (.seq (.ops [.fadr 25 (.t 7) 0, .load 26 none (.t 25), .bin 27 .lss (.t 26) (.c (.int .i64 0)), .mov 28 (.t 27), .grd 28 false (.fadr 29 (.t 7) 1), .grd 28 false (.load 30 none (.t 29)), .grd 28 false (.mov 31 (.t 1)), .grd 28 false (.fadr 32 (.t 7) 0), .grd 28 false (.load 33 none (.t 32)), .grd 28 false (.bin 34 .sub (.t 31) (.t 33)), .grd 28 false (.bin 35 .gtr (.t 30) (.t 34)), .pick 36 (.t 28) (.c (.bool true)) (.t 35), .asg 24 (.t 36)]) (.cond (.t 24) (.seq (.ops [.asg 4 (.c (.int .i64 2))]) .ret) (.seq (.ops [.fadr 38 (.t 7) 0, .load 39 none (.t 38), .mov 40 (.t 5), .bin 41 .lss (.t 39) (.t 40), .asg 37 (.t 41)]) (.cond (.t 37) (.seq (.ops [.asg 4 (.c (.int .i64 3))]) .ret) .skip))))))) (.ops [.fadr 42 (.t 7) 0, .load 43 none (.t 42), .fadr 44 (.t 7) 1, .load 45 none (.t 44), .bin 46 .add (.t 43) (.t 45), .bin 47 .add (.t 46) (.c (.int .i64 1)), .asg 5 (.t 47)])))) (.ops [.bin 48 .add (.t 16) (.c (.int .i64 1)), .mov 16 (.t 48)]))))
def fn50_l1 : VCode :=
(.clean [0, 1, 5, 14, 15, 16] [4] (.block 0 (.loop [0, 1, 5, 14, 15, 16] fn50_b0)))
def fn50 : VFn := ⟨2, 49, [.tmp 4], (.seq (.ops [.asg 4 (.c (.int .i64 0))]) (.seq (.seq (.ops [.mov 8 (.t 1), .bin 9 .lss (.t 8) (.c (.int .i64 0)), .mov 10 (.t 9), .grd 10 false (.mov 11 (.t 1)), .grd 10 false (.bin 12 .gtr (.t 11) (.c (.int .i64 4096))), .pick 13 (.t 10) (.c (.bool true)) (.t 12)]) (.cond (.t 13) (.seq (.ops [.asg 4 (.c (.int .i64 2))]) .ret) .skip)) (.seq (.ops [.asg 5 (.c (.int .i64 0))]) (.seq (.seq (.ops [.mov 14 (.t 0), .len 15 (.t 14), .mov 16 (.c (.int .i64 0))])
      fn50_l1) (.seq (.ops [.asg 4 (.c (.int .i64 0))]) .ret)))))⟩
def fn51 : VFn := ⟨2, 9, [.tmp 4], (.seq (.ops [.asg 4 (.c (.bool false))]) (.seq (.ops [.mov 5 (.t 0), .mov 6 (.t 1), .call 7 71 [(.t 5), (.t 6)], .bin 8 .geq (.t 7) (.c (.int .i64 0)), .asg 4 (.t 8)]) .ret))⟩
def fn52 : VFn := ⟨1, 5, [.tmp 2], (.seq (.ops [.asg 2 (.nil 2)]) (.seq (.ops [.mov 3 (.t 0), .call 4 72 [(.c (.nils 2)), (.t 3)], .asg 2 (.t 4)]) .ret))⟩
def fn53 : VFn := ⟨3, 8, [.tmp 6], (.seq (.ops [.box 3 (.t 0), .box 4 (.t 1), .box 5 (.t 2), .asg 6 (.c .nilf)]) (.seq (.ops [.mkf 7 73 [(.t 3), (.t 4), (.t 5)], .asg 6 (.t 7)]) .ret))⟩
def fn54 : VFn := ⟨2, 9, [.tmp 4], (.seq (.ops [.asg 4 (.c (.bool false))]) (.seq (.ops [.mov 5 (.t 0), .mov 6 (.t 5), .grd 6 true (.mov 7 (.t 1)), .pick 8 (.t 6) (.t 7) (.c (.bool false)), .asg 4 (.t 8)]) .ret))⟩
def fn60 : VFn := ⟨2, 9, [.tmp 4], (.seq (.ops [.asg 4 (.nil 2)]) (.seq (.ops [.mov 5 (.t 0), .mov 6 (.t 1), .call 7 53 [(.t 5), (.t 6), (.c (.func 78 []))], .call 8 52 [(.t 7)], .asg 4 (.t 8)]) .ret))⟩
def fn61 : VFn := ⟨1, 13, [.tmp 2], (.seq (.ops [.asg 2 (.c (.int .i64 0))]) (.seq (.seq (.ops [.mov 3 (.t 0), .len 4 (.t 3), .bin 5 .lss (.t 4) (.c (.int .i64 1)), .mov 6 (.t 5), .grd 6 false (.mov 7 (.t 0)), .grd 6 false (.len 8 (.t 7)), .grd 6 false (.bin 9 .gtr (.t 8) (.c (.int .i64 8))), .pick 10 (.t 6) (.c (.bool true)) (.t 9)]) (.cond (.t 10) (.seq (.ops [.asg 2 (.c (.int .i64 6))]) .ret) .skip)) (.seq (.seq (.ops [.mov 11 (.t 0), .call 12 79 [(.t 11), (.c (.func 80 []))]]) (.cond (.t 12) (.seq (.ops [.asg 2 (.c (.int .i64 2))]) .ret) .skip)) (.seq (.ops [.asg 2 (.c (.int .i64 0))]) .ret))))⟩
def fn62 : VFn := ⟨1, 5, [.tmp 2], (.seq (.ops [.asg 2 (.nil 1)]) (.seq (.ops [.mov 3 (.t 0), .call 4 81 [(.t 3), (.c (.func 82 []))], .asg 2 (.t 4)]) .ret))⟩
def fn63_b0 : VCode := (.seq (.ops [.bin 17 .lss (.t 16) (.t 15)]) (.seq (.cond (.t 17) .skip (.exit 2)) (.seq (.block 3 (.seq (.ops [.iadr 18 2 (.t 14) (.t 16), .load 19 (some 2) (.t 18), .alloc 6 [(.int .i64 0), (.int .i64 0)], .store none 2 (.t 6) (.t 19)]) (.seq (.ops [.mov 20 (.t 0), .mov 21 (.t 3), .load 22 (some 2) (.t 6), .yield 23 (.t 20) [(.t 21), (.t 22)], .un 24 .not (.t 23)]) (.cond (.t 24) .ret .skip)))) (.ops [.bin 25 .add (.t 16) (.c (.int .i64 1)), .mov 16 (.t 25)]))))
def fn63_l1 : VCode :=
(.clean [0, 3, 4, 7, 8, 9, 13, 14, 15, 16] [0, 7, 8, 9] (.block 2 (.loop [0, 3, 4, 7, 8, 9, 13, 14, 15, 16] fn63_b0)))
def fn63_b2 : VCode := (.seq (.ops [.bin 10 .lss (.t 9) (.t 8)]) (.seq (.cond (.t 10) .skip (.exit 0)) (.seq (.block 1 (.seq (.ops [.mov 11 (.t 9), .iadr 12 1 (.t 7) (.t 9), .load 13 none (.t 12), .asg 3 (.t 11), .asg 4 (.t 13)]) (.seq (.ops [.mov 14 (.t 4), .len 15 (.t 14), .mov 16 (.c (.int .i64 0))])
       fn63_l1))) (.ops [.bin 26 .add (.t 9) (.c (.int .i64 1)), .mov 9 (.t 26)]))))
def fn63_l3 : VCode :=
(.clean [0, 7, 8, 9] [] (.block 0 (.loop [0, 7, 8, 9] fn63_b2)))
def fn63 : VFn := ⟨2, 27, [], (.seq (.ops [.load 7 none (.t 1), .len 8 (.t 7), .mov 9 (.c (.int .i64 0))])
  fn63_l3)⟩
def fn64 : VFn := ⟨2, 9, [.tmp 4], (.seq (.ops [.asg 4 (.c (.bool false))]) (.seq (.ops [.mov 5 (.t 0), .mov 6 (.t 1), .call 7 83 [(.t 5), (.t 6)], .bin 8 .geq (.t 7) (.c (.int .i64 0)), .asg 4 (.t 8)]) .ret))⟩
def fn65 : VFn := ⟨2, 24, [.tmp 3], (.seq (.ops [.box 2 (.t 0), .asg 3 (.c (.bool false))]) (.seq (.ops [.load 8 (some 2) (.t 2), .call 9 66 [(.t 8)], .mov 7 (.t 9), .ext 10 (.t 7) 0, .ext 11 (.t 7) 1, .ext 12 (.t 7) 2, .asg 4 (.t 10), .asg 5 (.t 11), .asg 6 (.t 12)]) (.seq (.ops [.mov 13 (.t 6), .mov 14 (.t 13), .grd 14 true (.load 15 none (.t 1)), .grd 14 true (.mov 16 (.t 4)), .grd 14 true (.bin 17 .geq (.t 15) (.t 16)), .pick 18 (.t 14) (.t 17) (.c (.bool false)), .mov 19 (.t 18), .grd 19 true (.load 20 none (.t 1)), .grd 19 true (.mov 21 (.t 5)), .grd 19 true (.bin 22 .lss (.t 20) (.t 21)), .pick 23 (.t 19) (.t 22) (.c (.bool false)), .asg 3 (.t 23)]) .ret)))⟩
def fn66 : VFn := ⟨1, 35, [.tmp 2, .tmp 3, .tmp 4], (.seq (.ops [.box 1 (.t 0), .asg 2 (.c (.int .i64 0)), .asg 3 (.c (.int .i64 0)), .asg 4 (.c (.bool false))]) (.seq (.seq (.ops [.fadr 7 (.t 1) 1, .load 8 none (.t 7), .bin 9 .leq (.t 8) (.c (.int .i64 0))]) (.cond (.t 9) (.seq (.ops [.asg 2 (.c (.int .i64 0)), .asg 3 (.c (.int .i64 0)), .asg 4 (.c (.bool false))]) .ret) .skip)) (.seq (.ops [.fadr 10 (.t 1) 0, .load 11 none (.t 10), .mn 12 true (.t 11) (.c (.int .i64 0)), .asg 5 (.t 12), .asg 6 (.c (.int .i64 4096))]) (.seq (.seq (.ops [.fadr 13 (.t 1) 0, .load 14 none (.t 13), .bin 15 .lss (.t 14) (.c (.int .i64 0)), .mov 16 (.t 15), .grd 16 false (.fadr 17 (.t 1) 1), .grd 16 false (.load 18 none (.t 17)), .grd 16 false (.fadr 19 (.t 1) 0), .grd 16 false (.load 20 none (.t 19)), .grd 16 false (.bin 21 .sub (.c (.int .i64 4096)) (.t 20)), .grd 16 false (.bin 22 .lss (.t 18) (.t 21)), .pick 23 (.t 16) (.c (.bool true)) (.t 22)]) (.cond (.t 23) (.ops [.fadr 24 (.t 1) 0, .load 25 none (.t 24), .fadr 26 (.t 1) 1, .load 27 none (.t 26), .bin 28 .add (.t 25) (.t 27), .mn 29 false (.t 28) (.c (.int .i64 4096)), .asg 6 (.t 29)]) .skip)) (.seq (.ops [.mov 30 (.t 5), .mov 31 (.t 6), .mov 32 (.t 5), .mov 33 (.t 6), .bin 34 .lss (.t 32) (.t 33), .asg 2 (.t 30), .asg 3 (.t 31), .asg 4 (.t 34)]) .ret)))))⟩
def fn68_b0 : VCode := (.seq (.seq (.ops [.mov 11 (.t 5), .mov 12 (.t 0), .len 13 (.t 12), .bin 14 .lss (.t 11) (.t 13)]) (.cond (.t 14) .skip (.exit 0))) (.seq (.block 1 (.seq (.drw [] [] none [0, 1, 2, 3, 4, 5, 6, 7, 8] [.mov 17 (.t 0), .mov 18 (.t 5), .iadr 19 8 (.t 17) (.t 18), .load 20 (some 8) (.t 19), .mov 21 (.t 1), .mov 22 (.t 5), .iadr 23 8 (.t 21) (.t 22), .load 24 (some 8) (.t 23), .eqa 25 true 8 (.t 20) (.t 24)]) (.cond (.t 25) (.seq (.ops [.asg 4 (.c (.bool false))]) .ret) .skip))) (.ops [.mov 15 (.t 5), .bin 16 .add (.t 15) (.c (.int .i64 1)), .asg 5 (.t 16)])))
def fn68_l1 : VCode :=
(.clean [0, 1, 5] [4] (.block 0 (.loop [0, 1, 5] fn68_b0)))
def fn68 : VFn := ⟨2, 26, [.tmp 4], (.seq (.ops [.asg 4 (.c (.bool false))]) (.seq (.seq (.ops [.mov 6 (.t 0), .len 7 (.t 6), .mov 8 (.t 1), .len 9 (.t 8), .bin 10 .neq (.t 7) (.t 9)]) (.cond (.t 10) (.seq (.ops [.asg 4 (.c (.bool false))]) .ret) .skip)) (.seq (.seq (.ops [.asg 5 (.c (.int .i64 0))])
     fn68_l1) (.seq (.ops [.asg 4 (.c (.bool true))]) .ret))))⟩
def fn69_b0 : VCode := (.seq (.ops [.bin 14 .lss (.t 13) (.t 12)]) (.seq (.cond (.t 14) .skip (.exit 0)) (.seq (.block 1 (.seq (.ops [.mov 15 (.t 13), .asg 5 (.t 15)]) (.seq (.drw [] [] none [0, 1, 2, 3, 4, 5, 6, 7, 8] [.mov 16 (.t 0), .mov 17 (.t 5), .iadr 18 1 (.t 16) (.t 17), .load 19 none (.t 18), .mov 20 (.t 1), .mov 21 (.t 5), .iadr 22 1 (.t 20) (.t 21), .load 23 none (.t 22), .bin 24 .neq (.t 19) (.t 23)]) (.cond (.t 24) (.seq (.ops [.asg 4 (.c (.bool false))]) .ret) .skip)))) (.ops [.bin 25 .add (.t 13) (.c (.int .i64 1)), .mov 13 (.t 25)]))))
def fn69_l1 : VCode :=
(.clean [0, 1, 12, 13] [4] (.block 0 (.loop [0, 1, 12, 13] fn69_b0)))
def fn69 : VFn := ⟨2, 26, [.tmp 4], (.seq (.ops [.asg 4 (.c (.bool false))]) (.seq (.seq (.ops [.mov 6 (.t 0), .len 7 (.t 6), .mov 8 (.t 1), .len 9 (.t 8), .bin 10 .neq (.t 7) (.t 9)]) (.cond (.t 10) (.seq (.ops [.asg 4 (.c (.bool false))]) .ret) .skip)) (.seq (.seq (.ops [.mov 11 (.t 0), .len 12 (.t 11), .mov 13 (.c (.int .i64 0))])
     fn69_l1) (.seq (.ops [.asg 4 (.c (.bool true))]) .ret))))⟩
def fn70 : VFn := ⟨2, 6, [.tmp 4], (.seq (.ops [.box 2 (.t 0), .box 3 (.t 1), .asg 4 (.c .nilf)]) (.seq (.ops [.mkf 5 84 [(.t 2), (.t 3)], .asg 4 (.t 5)]) .ret))⟩
def fn71_b0 : VCode := (.seq (.ops [.bin 9 .lss (.t 8) (.t 7)]) (.seq (.cond (.t 9) .skip (.exit 0)) (.seq (.block 1 (.seq (.ops [.mov 10 (.t 8), .asg 5 (.t 10)]) (.seq (.ops [.mov 11 (.t 1), .mov 12 (.t 0), .mov 13 (.t 5), .iadr 14 1 (.t 12) (.t 13), .load 15 none (.t 14), .eqb 16 false (.t 11) (.t 15)]) (.cond (.t 16) (.seq (.ops [.mov 17 (.t 5), .asg 4 (.t 17)]) .ret) .skip)))) (.ops [.bin 18 .add (.t 8) (.c (.int .i64 1)), .mov 8 (.t 18)]))))
def fn71_l1 : VCode :=
(.clean [0, 1, 7, 8] [4] (.block 0 (.loop [0, 1, 7, 8] fn71_b0)))
def fn71 : VFn := ⟨2, 19, [.tmp 4], (.seq (.ops [.asg 4 (.c (.int .i64 0))]) (.seq (.seq (.ops [.mov 6 (.t 0), .len 7 (.t 6), .mov 8 (.c (.int .i64 0))])
    fn71_l1) (.seq (.ops [.asg 4 (.c (.int .i64 (-1)))]) .ret)))⟩
def fn72_b0 : VCode := (.ops [.alloc 5 [(.int .i64 0), (.int .i64 0)], .store none 2 (.t 5) (.t 7)])
def fn72_b1 : VCode := (.block 1 (.ops [.load 8 none (.t 2), .load 9 (some 2) (.t 5), .mksl 10 2 [(.t 9)], .app 11 2 (.t 8) (.t 10), .store none 1 (.t 2) (.t 11)]))
def fn72 : VFn := ⟨2, 13, [.tmp 4], (.seq (.ops [.box 2 (.t 0), .asg 4 (.nil 2)]) (.seq (.seq (.ops [.mov 6 (.t 1)]) (.block 0 (.rng (.t 6) [7] fn72_b0 fn72_b1))) (.seq (.ops [.load 12 none (.t 2), .asg 4 (.t 12)]) .ret)))⟩
def fn73_b0 : VCode := (.seq (.ops [.bin 19 .lss (.t 18) (.t 17)]) (.seq (.cond (.t 19) .skip (.exit 0)) (.seq (.block 1 (.seq (.ops [.mov 20 (.t 18), .iadr 21 3 (.t 16) (.t 18), .load 22 (some 3) (.t 21), .alloc 10 [(.int .i64 0), (.int .i64 0), (.int .i64 0)], .asg 9 (.t 20), .store none 3 (.t 10) (.t 22)]) (.seq (.drw [] [] (some ([0, 1, 2, 3, 4, 5, 6, 7], [], 8, [])) [] [.fadr 23 (.t 10) 1, .load 24 none (.t 23), .aadr 25 (.t 6) (.t 24) 2 1, .load 26 none (.t 25), .fadr 27 (.t 10) 2, .load 28 none (.t 27), .bin 29 .add (.t 26) (.t 28), .aadr 30 (.t 6) (.t 24) 2 1, .store none 1 (.t 30) (.t 29)]) (.seq (.seq (.drw [] [] none [0, 1, 2, 3, 4, 5, 6, 7, 8, 9, 10, 11, 12, 13, 14, 15] [.mov 31 (.t 9), .bin 32 .add (.t 31) (.c (.int .i64 1)), .mov 33 (.t 5), .len 34 (.t 33), .bin 35 .lss (.t 32) (.t 34), .mov 36 (.t 35), .grd 36 true (.mov 37 (.t 5)), .grd 36 true (.mov 38 (.t 9)), .grd 36 true (.bin 39 .add (.t 38) (.c (.int .i64 1))), .grd 36 true (.iadr 40 3 (.t 37) (.t 39)), .grd 36 true (.fadr 41 (.t 40) 0), .grd 36 true (.load 42 none (.t 41)), .grd 36 true (.fadr 43 (.t 10) 0), .grd 36 true (.load 44 none (.t 43)), .grd 36 true (.bin 45 .eql (.t 42) (.t 44)), .pick 46 (.t 36) (.t 45) (.c (.bool false))]) (.cond (.t 46) (.exit 1) .skip)) (.seq (.ops [.load 47 none (.t 3), .aadr 48 (.t 6) (.c (.int .i64 0)) 2 1, .load 49 none (.t 48), .bin 50 .gtr (.t 49) (.c (.int .i64 0)), .aadr 51 (.t 6) (.c (.int .i64 1)) 2 1, .load 52 none (.t 51), .bin 53 .gtr (.t 52) (.c (.int .i64 0)), .callv 54 (.t 47) [(.t 50), (.t 53)], .asg 11 (.t 54)]) (.seq (.seq (.ops [.mov 55 (.t 11), .mov 56 (.t 55), .grd 56 true (.mov 57 (.t 8)), .grd 56 true (.un 58 .not (.t 57)), .pick 59 (.t 56) (.t 58) (.c (.bool false))]) (.cond (.t 59) (.ops [.fadr 60 (.t 10) 0, .load 61 none (.t 60), .asg 7 (.t 61)]) .skip)) (.seq (.seq (.ops [.mov 62 (.t 11), .un 63 .not (.t 62), .mov 64 (.t 63), .grd 64 true (.mov 65 (.t 8)), .pick 66 (.t 64) (.t 65) (.c (.bool false)), .mov 67 (.t 66), .grd 67 true (.mov 68 (.t 0)), .grd 67 true (.mov 69 (.t 7)), .grd 67 true (.fadr 70 (.t 10) 0), .grd 67 true (.load 71 none (.t 70)), .grd 67 true (.mov 72 (.t 7)), .grd 67 true (.bin 73 .sub (.t 71) (.t 72)), .grd 67 true (.build 74 [(.int .i64 0), (.int .i64 0)] [(0, 1, (.t 69)), (1, 1, (.t 73))]), .grd 67 true (.yield 75 (.t 68) [(.t 74)]), .grd 67 true (.un 76 .not (.t 75)), .pick 77 (.t 67) (.t 76) (.c (.bool false))]) (.cond (.t 77) .ret .skip)) (.ops [.mov 78 (.t 11), .asg 8 (.t 78)])))))))) (.ops [.bin 79 .add (.t 18) (.c (.int .i64 1)), .mov 18 (.t 79)]))))
def fn73_l1 : VCode :=
(.clean [0, 3, 5, 6, 7, 8, 15, 16, 17, 18] [] (.block 0 (.loop [0, 3, 5, 6, 7, 8, 15, 16, 17, 18] fn73_b0)))
def fn73 : VFn := ⟨4, 80, [], (.seq (.ops [.load 12 none (.t 1), .load 13 none (.t 2), .mksl 14 1 [(.t 12), (.t 13)], .call 15 74 [(.t 14)], .asg 5 (.t 15)]) (.seq (.ops [.alloc 6 [(.int .i64 0), (.int .i64 0)]]) (.seq (.ops [.asg 7 (.c (.int .i64 0)), .asg 8 (.c (.bool false))]) (.seq (.ops [.mov 16 (.t 5), .len 17 (.t 16), .mov 18 (.c (.int .i64 0))])
     fn73_l1))))⟩
def fn74_b0 : VCode := (.seq (.ops [.bin 21 .lss (.t 20) (.t 19)]) (.seq (.cond (.t 21) .skip (.exit 2)) (.seq (.block 3 (.seq (.ops [.iadr 22 2 (.t 18) (.t 20), .load 23 (some 2) (.t 22), .alloc 7 [(.int .i64 0), (.int .i64 0)], .store none 2 (.t 7) (.t 23)]) (.seq (.ops [.load 25 (some 2) (.t 7), .call 26 66 [(.t 25)], .mov 24 (.t 26), .ext 27 (.t 24) 0, .ext 28 (.t 24) 1, .ext 29 (.t 24) 2, .asg 8 (.t 27), .asg 9 (.t 28), .asg 10 (.t 29)]) (.seq (.ops [.mov 30 (.t 10)]) (.cond (.t 30) (.ops [.mov 31 (.t 3), .mov 32 (.t 8), .mov 33 (.t 4), .build 34 [(.int .i64 0), (.int .i64 0), (.int .i64 0)] [(0, 1, (.t 32)), (1, 1, (.t 33)), (2, 1, (.c (.int .i64 1)))], .mov 35 (.t 9), .mov 36 (.t 4), .build 37 [(.int .i64 0), (.int .i64 0), (.int .i64 0)] [(0, 1, (.t 35)), (1, 1, (.t 36)), (2, 1, (.c (.int .i64 (-1))))], .mksl 38 3 [(.t 34), (.t 37)], .app 39 3 (.t 31) (.t 38), .asg 3 (.t 39)]) .skip))))) (.ops [.bin 40 .add (.t 20) (.c (.int .i64 1)), .mov 20 (.t 40)]))))
def fn74_l1 : VCode :=
(.clean [0, 3, 4, 5, 11, 12, 13, 17, 18, 19, 20, 39] [0, 2, 3, 11, 12, 13, 39] (.block 2 (.loop [0, 3, 4, 5, 11, 12, 13, 17, 18, 19, 20, 39] fn74_b0)))
def fn74_b2 : VCode := (.seq (.ops [.bin 14 .lss (.t 13) (.t 12)]) (.seq (.cond (.t 14) .skip (.exit 0)) (.seq (.block 1 (.seq (.ops [.mov 15 (.t 13), .iadr 16 1 (.t 11) (.t 13), .load 17 none (.t 16), .asg 4 (.t 15), .asg 5 (.t 17)]) (.seq (.ops [.mov 18 (.t 5), .len 19 (.t 18), .mov 20 (.c (.int .i64 0))])
       fn74_l1))) (.ops [.bin 41 .add (.t 13) (.c (.int .i64 1)), .mov 13 (.t 41)]))))
def fn74_l3 : VCode :=
(.clean [0, 3, 11, 12, 13, 39] [2, 3] (.block 0 (.loop [0, 3, 11, 12, 13, 39] fn74_b2)))
def fn74 : VFn := ⟨1, 45, [.tmp 2], (.seq (.ops [.asg 2 (.nil 3)]) (.seq (.ops [.asg 3 (.nil 3)]) (.seq (.seq (.ops [.mov 11 (.t 0), .len 12 (.t 11), .mov 13 (.c (.int .i64 0))])
     fn74_l3) (.seq (.ops [.mov 42 (.t 3), .srt 43 85 (.t 42) (.c (.func 86 []))]) (.seq (.ops [.mov 44 (.t 3), .asg 2 (.t 44)]) .ret)))))⟩
def fn78 : VFn := ⟨2, 9, [.tmp 4], (.seq (.ops [.asg 4 (.c (.bool false))]) (.seq (.ops [.mov 5 (.t 0), .mov 6 (.t 5), .grd 6 false (.mov 7 (.t 1)), .pick 8 (.t 6) (.c (.bool true)) (.t 7), .asg 4 (.t 8)]) .ret))⟩
def fn79 : VFn := ⟨2, 9, [.tmp 4], (.seq (.ops [.asg 4 (.c (.bool false))]) (.seq (.ops [.mov 5 (.t 0), .mov 6 (.t 1), .call 7 90 [(.t 5), (.t 6)], .bin 8 .geq (.t 7) (.c (.int .i64 0)), .asg 4 (.t 8)]) .ret))⟩
def fn80 : VFn := ⟨1, 9, [.tmp 2], (.seq (.ops [.asg 2 (.c (.bool false))]) (.seq (.ops [.mov 3 (.t 0), .bin 4 .lss (.t 3) (.c (.int .i64 1)), .mov 5 (.t 4), .grd 5 false (.mov 6 (.t 0)), .grd 5 false (.bin 7 .gtr (.t 6) (.c (.int .i64 4096))), .pick 8 (.t 5) (.c (.bool true)) (.t 7), .asg 2 (.t 8)]) .ret))⟩
def fn81_b0 : VCode := (.seq (.ops [.bin 14 .lss (.t 13) (.t 12)]) (.seq (.cond (.t 14) .skip (.exit 0)) (.seq (.block 1 (.seq (.ops [.iadr 15 1 (.t 11) (.t 13), .load 16 none (.t 15), .asg 7 (.t 16)]) (.ops [.mov 17 (.t 5), .mov 18 (.t 1), .mov 19 (.t 7), .callv 20 (.t 18) [(.t 19)], .mksl 21 1 [(.t 20)], .app 22 1 (.t 17) (.t 21), .asg 5 (.t 22)]))) (.ops [.bin 23 .add (.t 13) (.c (.int .i64 1)), .mov 13 (.t 23)]))))
def fn81_l1 : VCode :=
(.clean [0, 1, 5, 10, 11, 12, 13, 22] [4, 5] (.block 0 (.loop [0, 1, 5, 10, 11, 12, 13, 22] fn81_b0)))
def fn81 : VFn := ⟨2, 25, [.tmp 4], (.seq (.ops [.asg 4 (.nil 1)]) (.seq (.ops [.mov 8 (.t 0), .len 9 (.t 8), .make 10 (.int .i64 0) (.c (.int .i64 0)) (.t 9), .asg 5 (.t 10)]) (.seq (.seq (.ops [.mov 11 (.t 0), .len 12 (.t 11), .mov 13 (.c (.int .i64 0))])
     fn81_l1) (.seq (.ops [.mov 24 (.t 5), .asg 4 (.t 24)]) .ret))))⟩
def fn82 : VFn := ⟨1, 5, [.tmp 2], (.seq (.ops [.asg 2 (.c (.int .i64 0))]) (.seq (.ops [.mov 3 (.t 0), .len 4 (.t 3), .asg 2 (.t 4)]) .ret))⟩
def fn83_b0 : VCode := (.seq (.ops [.bin 9 .lss (.t 8) (.t 7)]) (.seq (.cond (.t 9) .skip (.exit 0)) (.seq (.block 1 (.seq (.ops [.mov 10 (.t 8), .asg 5 (.t 10)]) (.seq (.ops [.mov 11 (.t 1), .mov 12 (.t 0), .mov 13 (.t 5), .iadr 14 2 (.t 12) (.t 13), .load 15 (some 2) (.t 14), .callv 16 (.t 11) [(.t 15)]]) (.cond (.t 16) (.seq (.ops [.mov 17 (.t 5), .asg 4 (.t 17)]) .ret) .skip)))) (.ops [.bin 18 .add (.t 8) (.c (.int .i64 1)), .mov 8 (.t 18)]))))
def fn83_l1 : VCode :=
(.clean [0, 1, 7, 8] [4] (.block 0 (.loop [0, 1, 7, 8] fn83_b0)))
def fn83 : VFn := ⟨2, 19, [.tmp 4], (.seq (.ops [.asg 4 (.c (.int .i64 0))]) (.seq (.seq (.ops [.mov 6 (.t 0), .len 7 (.t 6), .mov 8 (.c (.int .i64 0))])
    fn83_l1) (.seq (.ops [.asg 4 (.c (.int .i64 (-1)))]) .ret)))⟩
def fn84_b0 : VCode := (.seq (.ops [.bin 8 .lss (.t 7) (.t 6)]) (.seq (.cond (.t 8) .skip (.exit 0)) (.seq (.block 1 (.seq (.ops [.mov 9 (.t 7), .asg 4 (.t 9)]) (.seq (.drw [] [] (some ([0, 1, 2, 3, 4, 5, 6, 7, 8, 9, 10, 11], [], 12, [])) [13, 14] [.load 10 none (.t 1), .mov 11 (.t 4), .iadr 12 8 (.t 10) (.t 11), .load 13 (some 8) (.t 12), .load 14 none (.t 2), .mov 15 (.t 4), .iadr 16 8 (.t 14) (.t 15), .load 17 (some 8) (.t 16), .eqa 18 true 8 (.t 13) (.t 17), .mov 19 (.t 18), .grd 19 true (.mov 20 (.t 0)), .grd 19 true (.mov 21 (.t 4)), .grd 19 true (.yield 22 (.t 20) [(.t 21)]), .grd 19 true (.un 23 .not (.t 22)), .pick 24 (.t 19) (.t 23) (.c (.bool false))]) (.cond (.t 24) .ret .skip)))) (.ops [.bin 25 .add (.t 7) (.c (.int .i64 1)), .mov 7 (.t 25)]))))
def fn84_l1 : VCode :=
(.clean [0, 1, 2, 6, 7] [] (.block 0 (.loop [0, 1, 2, 6, 7] fn84_b0)))
def fn84 : VFn := ⟨3, 26, [], (.seq (.ops [.load 5 none (.t 1), .len 6 (.t 5), .mov 7 (.c (.int .i64 0))])
  fn84_l1)⟩
def fn86 : VFn := ⟨2, 10, [.tmp 4], (.seq (.ops [.box 2 (.t 0), .box 3 (.t 1), .asg 4 (.c (.int .i64 0))]) (.seq (.ops [.fadr 5 (.t 2) 0, .load 6 none (.t 5), .fadr 7 (.t 3) 0, .load 8 none (.t 7), .call 9 87 [(.t 6), (.t 8)], .asg 4 (.t 9)]) .ret))⟩
def fn87 : VFn := ⟨2, 20, [.tmp 4], (.seq (.ops [.asg 4 (.c (.int .i64 0))]) (.seq (.ops [.mov 7 (.t 0), .call 8 93 [(.t 7)], .asg 5 (.t 8)]) (.seq (.ops [.mov 9 (.t 1), .call 10 93 [(.t 9)], .asg 6 (.t 10)]) (.seq (.seq (.ops [.mov 11 (.t 5)]) (.cond (.t 11) (.seq (.seq (.ops [.mov 12 (.t 6)]) (.cond (.t 12) (.seq (.ops [.asg 4 (.c (.int .i64 0))]) .ret) .skip)) (.seq (.ops [.asg 4 (.c (.int .i64 (-1)))]) .ret)) .skip)) (.seq (.seq (.ops [.mov 13 (.t 6)]) (.cond (.t 13) (.seq (.ops [.asg 4 (.c (.int .i64 1))]) .ret) .skip)) (.seq (.seq (.ops [.mov 14 (.t 0), .mov 15 (.t 1), .bin 16 .lss (.t 14) (.t 15)]) (.cond (.t 16) (.seq (.ops [.asg 4 (.c (.int .i64 (-1)))]) .ret) .skip)) (.seq (.seq (.ops [.mov 17 (.t 0), .mov 18 (.t 1), .bin 19 .gtr (.t 17) (.t 18)]) (.cond (.t 19) (.seq (.ops [.asg 4 (.c (.int .i64 1))]) .ret) .skip)) (.seq (.ops [.asg 4 (.c (.int .i64 0))]) .ret))))))))⟩
def fn90_b0 : VCode := (.seq (.ops [.bin 9 .lss (.t 8) (.t 7)]) (.seq (.cond (.t 9) .skip (.exit 0)) (.seq (.block 1 (.seq (.ops [.mov 10 (.t 8), .asg 5 (.t 10)]) (.seq (.ops [.mov 11 (.t 1), .mov 12 (.t 0), .mov 13 (.t 5), .iadr 14 1 (.t 12) (.t 13), .load 15 none (.t 14), .callv 16 (.t 11) [(.t 15)]]) (.cond (.t 16) (.seq (.ops [.mov 17 (.t 5), .asg 4 (.t 17)]) .ret) .skip)))) (.ops [.bin 18 .add (.t 8) (.c (.int .i64 1)), .mov 8 (.t 18)]))))
def fn90_l1 : VCode :=
(.clean [0, 1, 7, 8] [4] (.block 0 (.loop [0, 1, 7, 8] fn90_b0)))
def fn90 : VFn := ⟨2, 19, [.tmp 4], (.seq (.ops [.asg 4 (.c (.int .i64 0))]) (.seq (.seq (.ops [.mov 6 (.t 0), .len 7 (.t 6), .mov 8 (.c (.int .i64 0))])
    fn90_l1) (.seq (.ops [.asg 4 (.c (.int .i64 (-1)))]) .ret)))⟩
def fn93 : VFn := ⟨1, 6, [.tmp 2], (.seq (.ops [.asg 2 (.c (.bool false))]) (.seq (.ops [.mov 3 (.t 0), .mov 4 (.t 0), .bin 5 .neq (.t 3) (.t 4), .asg 2 (.t 5)]) .ret))⟩

def tab : List (Nat × VDef) := [(5, .code fn5), (6, .code fn6), (7, .code fn7), (8, .code fn8), (9, .code fn9), (11, .code fn11), (13, .code fn13), (14, .code fn14), (16, .code fn16), (17, .code fn17), (18, .ext applyX), (19, .code fn19), (20, .code fn20), (21, .code fn21), (22, .code fn22), (23, .code fn23), (24, .code fn24), (25, .code fn25), (26, .code fn26), (30, .code fn30), (31, .code fn31), (32, .code fn32), (34, .code fn34), (35, .code fn35), (36, .code fn36), (38, .code fn38), (39, .code fn39), (40, .ext (cloneX 8)), (41, .code fn41), (44, .code fn44), (45, .code fn45), (46, .code fn46), (47, .code fn47), (48, .code fn48), (49, .code fn49), (50, .code fn50), (51, .code fn51), (52, .code fn52), (53, .code fn53), (54, .code fn54), (60, .code fn60), (61, .code fn61), (62, .code fn62), (63, .code fn63), (64, .code fn64), (65, .code fn65), (66, .code fn66), (68, .code fn68), (69, .code fn69), (70, .code fn70), (71, .code fn71), (72, .code fn72), (73, .code fn73), (74, .code fn74), (78, .code fn78), (79, .code fn79), (80, .code fn80), (81, .code fn81), (82, .code fn82), (83, .code fn83), (84, .code fn84), (85, .srt (sortEndsX 86)), (86, .code fn86), (87, .code fn87), (90, .code fn90), (93, .code fn93)]
def env : Env := fun f => tab.lookup f
theorem env5 : env 5 = some (.code fn5) := rfl
theorem env6 : env 6 = some (.code fn6) := rfl
theorem env7 : env 7 = some (.code fn7) := rfl
theorem env8 : env 8 = some (.code fn8) := rfl
theorem env9 : env 9 = some (.code fn9) := rfl
theorem env11 : env 11 = some (.code fn11) := rfl
theorem env13 : env 13 = some (.code fn13) := rfl
theorem env14 : env 14 = some (.code fn14) := rfl
theorem env16 : env 16 = some (.code fn16) := rfl
theorem env17 : env 17 = some (.code fn17) := rfl
theorem env18 : env 18 = some (.ext applyX) := rfl
theorem env19 : env 19 = some (.code fn19) := rfl
theorem env20 : env 20 = some (.code fn20) := rfl
theorem env21 : env 21 = some (.code fn21) := rfl
theorem env22 : env 22 = some (.code fn22) := rfl
theorem env23 : env 23 = some (.code fn23) := rfl
theorem env24 : env 24 = some (.code fn24) := rfl
theorem env25 : env 25 = some (.code fn25) := rfl
theorem env26 : env 26 = some (.code fn26) := rfl
theorem env30 : env 30 = some (.code fn30) := rfl
theorem env31 : env 31 = some (.code fn31) := rfl
theorem env32 : env 32 = some (.code fn32) := rfl
theorem env34 : env 34 = some (.code fn34) := rfl
theorem env35 : env 35 = some (.code fn35) := rfl
theorem env36 : env 36 = some (.code fn36) := rfl
theorem env38 : env 38 = some (.code fn38) := rfl
theorem env39 : env 39 = some (.code fn39) := rfl
theorem env40 : env 40 = some (.ext (cloneX 8)) := rfl
theorem env41 : env 41 = some (.code fn41) := rfl
theorem env44 : env 44 = some (.code fn44) := rfl
theorem env45 : env 45 = some (.code fn45) := rfl
theorem env46 : env 46 = some (.code fn46) := rfl
theorem env47 : env 47 = some (.code fn47) := rfl
theorem env48 : env 48 = some (.code fn48) := rfl
theorem env49 : env 49 = some (.code fn49) := rfl
theorem env50 : env 50 = some (.code fn50) := rfl
theorem env51 : env 51 = some (.code fn51) := rfl
theorem env52 : env 52 = some (.code fn52) := rfl
theorem env53 : env 53 = some (.code fn53) := rfl
theorem env54 : env 54 = some (.code fn54) := rfl
theorem env60 : env 60 = some (.code fn60) := rfl
theorem env61 : env 61 = some (.code fn61) := rfl
theorem env62 : env 62 = some (.code fn62) := rfl
theorem env63 : env 63 = some (.code fn63) := rfl
theorem env64 : env 64 = some (.code fn64) := rfl
theorem env65 : env 65 = some (.code fn65) := rfl
theorem env66 : env 66 = some (.code fn66) := rfl
theorem env68 : env 68 = some (.code fn68) := rfl
theorem env69 : env 69 = some (.code fn69) := rfl
theorem env70 : env 70 = some (.code fn70) := rfl
theorem env71 : env 71 = some (.code fn71) := rfl
theorem env72 : env 72 = some (.code fn72) := rfl
theorem env73 : env 73 = some (.code fn73) := rfl
theorem env74 : env 74 = some (.code fn74) := rfl
theorem env78 : env 78 = some (.code fn78) := rfl
theorem env79 : env 79 = some (.code fn79) := rfl
theorem env80 : env 80 = some (.code fn80) := rfl
theorem env81 : env 81 = some (.code fn81) := rfl
theorem env82 : env 82 = some (.code fn82) := rfl
theorem env83 : env 83 = some (.code fn83) := rfl
theorem env84 : env 84 = some (.code fn84) := rfl
theorem env85 : env 85 = some (.srt (sortEndsX 86)) := rfl
theorem env90 : env 90 = some (.code fn90) := rfl
end Go.Proofs.Ytncobemfpammfaa

namespace Go.Proofs.Ytncobemfpammfaa
def vAll := (And.intro (And.intro (And.intro (And.intro (And.intro (And.intro (And.intro @den_drs (And.intro @dalts_cons @dagree_nil)) (And.intro @dagree_cons (And.intro @sameAs_same @dalt_eq))) (And.intro (And.intro @altEnd_false (And.intro @altEnd_true @pickV_nil)) (And.intro @pickV_one (And.intro @den_skip @den_ops)))) (And.intro (And.intro (And.intro @den_drw (And.intro @den_seq @den_cond)) (And.intro @den_block (And.intro @den_exit @den_ret))) (And.intro (And.intro @next_normal (And.intro @next_exit @next_ret)) (And.intro (And.intro @endBlock_normal @endBlock_ret) (And.intro @endBlock_exit @tail_normal))))) (And.intro (And.intro (And.intro (And.intro @tail_ret (And.intro @tail_exit @fin_normal)) (And.intro @fin_ret (And.intro @bcase_true @bcase_false))) (And.intro (And.intro @z_bind_some (And.intro @z_map_some @z_bind_none)) (And.intro @z_map_none (And.intro @dops_nil @dops_cons)))) (And.intro (And.intro (And.intro @dop_grd (And.intro @dop_pick @dop_call)) (And.intro @dop_callv (And.intro @op1_call @op1_callv))) (And.intro (And.intro @op1_pick (And.intro @dop_mov @dop_asg)) (And.intro (And.intro @dop_bin @dop_eqa) (And.intro @dop_eqb @dop_isn)))))) (And.intro (And.intro (And.intro (And.intro (And.intro @dop_cut (And.intro @dop_asl @dop_ldz)) (And.intro @dop_srt (And.intro @dop_mvz @dop_un))) (And.intro (And.intro @dop_conv (And.intro @dop_load @dop_fadr)) (And.intro @dop_aadr (And.intro @dop_iadr @dop_fld)))) (And.intro (And.intro (And.intro @dop_idx (And.intro @dop_sli @dop_len)) (And.intro @dop_lens (And.intro @dop_ext @dop_build))) (And.intro (And.intro @dop_mn (And.intro @dop_mkf @dop_alloc)) (And.intro (And.intro @dop_box @dop_store) (And.intro @dop_mksl @dop_make))))) (And.intro (And.intro (And.intro (And.intro @dop_app (And.intro @dop_cpy @dop_yield)) (And.intro @op1_mov (And.intro @op1_asg @op1_bin))) (And.intro (And.intro @op1_eqa (And.intro @op1_eqb @op1_isn)) (And.intro @op1_cut (And.intro @op1_asl @op1_ldz)))) (And.intro (And.intro (And.intro @op1_srt (And.intro @op1_mvz @op1_un)) (And.intro @op1_conv (And.intro @op1_load @op1_fadr))) (And.intro (And.intro @op1_aadr (And.intro @op1_iadr @op1_fld)) (And.intro (And.intro @op1_idx @op1_sli) (And.intro @op1_len @op1_lens))))))) (And.intro (And.intro (And.intro (And.intro (And.intro (And.intro @op1_ext (And.intro @op1_build @op1_mn)) (And.intro @op1_mkf (And.intro @op1_alloc @op1_box))) (And.intro (And.intro @op1_store (And.intro @op1_mksl @op1_make)) (And.intro @op1_app (And.intro @op1_cpy @op1_yield)))) (And.intro (And.intro (And.intro @Bool.false_eq_true (And.intro @z_ite_true @z_ite_false)) (And.intro @cells_int (And.intro @cells_bool @cells_str))) (And.intro (And.intro @cells_list (And.intro @cells_func @cells_agg)) (And.intro (And.intro @part_one @part_succ) (And.intro @part_more @killS_pv))))) (And.intro (And.intro (And.intro (And.intro @killS_any (And.intro @killS_row @killS_pbox)) (And.intro @killS_fn (And.intro @killS_tup @killS_yld))) (And.intro (And.intro @killS_refs (And.intro @killS_refc @killS_pels)) (And.intro @killS_pelc (And.intro @killc_pv @killc_any)))) (And.intro (And.intro (And.intro @killc_row (And.intro @killc_pbox @killc_fn)) (And.intro @killc_tup (And.intro @killc_yld @killc_refs))) (And.intro (And.intro @killc_refc (And.intro @killc_pels @killc_pelc)) (And.intro (And.intro @z_bind_eq @z_pure) (And.intro @z_map_cons @z_map_nil)))))) (And.intro (And.intro (And.intro (And.intro (And.intro @z_len_cons (And.intro @z_len_nil @z_nil_app)) (And.intro @z_cons_app (And.intro @Nat.zero_add @Nat.add_zero))) (And.intro (And.intro @z_drop_zero (And.intro @z_drop_succ @z_take_succ)) (And.intro @z_take_zero (And.intro @decide_true @decide_false)))) (And.intro (And.intro (And.intro @Bool.not_true (And.intro @Bool.not_false @Bool.true_eq_false)) (And.intro @Bool.true_and (And.intro @Bool.and_true @Bool.false_and))) (And.intro (And.intro @Bool.and_false (And.intro @Bool.true_or @Bool.false_or)) (And.intro (And.intro @Bool.or_false @Bool.or_true) (And.intro @beq_t @beq_f))))) (And.intro (And.intro (And.intro (And.intro @bcase_not (And.intro @bcase_bne @z_getD_zero)) (And.intro @z_getD_8 (And.intro @z_getD_succ @z_get_zero))) (And.intro (And.intro @z_get_8 (And.intro @z_get_succ @z_set_zero)) (And.intro @z_set_8 (And.intro @z_set_succ @afterCall_false)))) (And.intro (And.intro (And.intro @afterCall_true (And.intro @z_mapM_nil @z_any_cons)) (And.intro @z_any_nil (And.intro @z_all_cons @z_all_nil))) (And.intro (And.intro @scal_int (And.intro @scal_bool @scal_str)) (And.intro (And.intro @scal_list @scal_func) (And.intro @z_foldl_cons @z_foldl_nil))))))))
end Go.Proofs.Ytncobemfpammfaa

namespace Go.Proofs.Ytncobemfpammfaa.V

theorem part_sec (x : Sec) : part (secPV x) 0 (some 8) = some (.agg (secPV x)) := by
  simp only [part, secPV_length, Nat.zero_add, List.drop_zero]
  rw [if_pos (Nat.le_refl _), List.take_of_length_le (by rw [secPV_length]; exact Nat.le_refl _)]
theorem eqCells_u8 : ∀ a b : List UInt8, a.length = b.length → eqCells (a.map fun b => .int .u8 (b.toNat : Int)) (b.map fun b => .int .u8 (b.toNat : Int)) = some (decide (a = b))
  | [], [], _ => rfl
  | x :: a, y :: b, h => by
    simp only [List.length_cons, Nat.add_right_cancel_iff] at h
    simp only [List.map_cons, eqCells, if_pos, eqCells_u8 a b h, Option.map_some, List.cons.injEq]
    congr 1
    have : ((x.toNat : Int) == (y.toNat : Int)) = decide (x = y) := by
      by_cases e : x = y
      · subst e; simp
      · have : ¬ x.toNat = y.toNat := fun h => e (UInt8.toNat_inj.1 h)
        simp [e]; omega
    rw [this, Bool.decide_and]
  | [], _ :: _, h => by simp at h
  | _ :: _, [], h => by simp at h
theorem eqCells_sec (a b : Sec) : eqCells (secPV a) (secPV b) = some (decide (a = b)) := by
  unfold secPV
  rw [eqCells_u8 _ _ (by simp)]
  congr 1
  apply decide_eq_decide.2
  exact ⟨fun h => Vector.toList_inj.1 h, fun h => by rw [h]⟩
end Go.Proofs.Ytncobemfpammfaa.V

namespace Go.Proofs.Ytncobemfpammfaa.V

def idxI {α : Type} (p : α → Bool) (l : List α) : Int := if l.any p then (l.findIdx p : Int) else -1
theorem idxI_nonneg {α : Type} (p : α → Bool) (l : List α) : decide (idxI p l ≥ 0) = l.any p := by
  unfold idxI
  cases l.any p
  · rfl
  · simp only [if_true]; exact decide_eq_true (by omega)
def eqF {α β : Type} (eq : α → β → Bool) (l : List α) (m : List β) : Bool := decide (l.length = m.length) && (l.zip m).all fun q => eq q.1 q.2
--+
theorem loop90 {α : Type} {enc : α → PV} {l : List α} {p : α → Bool} {gf : Nat} {caps : List PV} (hp : ∀ x ∈ l, cal env gf (enc x :: caps) = some [(.bool (p x), false)]) (hs : ∀ x, part (enc x).cells 0 none = some (enc x)) (hl : l.length ≤ lim)
   {st : St} (h : st.head [0, 1, 7, 8] st.boxes.length = some ⟨[.pv (.list 1 (l.map enc)), .pv (.func gf caps), .any, .any, .any, .any, .any, .pv (.int .i64 l.length), .pv (.int .i64 (0 : Nat)), .any, .any, .any, .any, .any, .any, .any, .any, .any, .any], [], [], none⟩) :
   den env fn90_l1 st = if l.any p then some (.ret, ⟨[.any, .any, .any, .any, .pv (.int .i64 (l.findIdx p)), .any, .any, .any, .any, .any, .any, .any, .any, .any, .any, .any, .any, .any, .any], [], [], none⟩) else some (.normal, ⟨[.any, .any, .any, .any, .any, .any, .any, .any, .any, .any, .any, .any, .any, .any, .any, .any, .any, .any, .any], [], [], none⟩) := by
  unfold fn90_l1
  rw [clean_up l.length (fun i => ⟨[.pv (.list 1 (l.map enc)), .pv (.func gf caps), .any, .any, .any, .any, .any, .pv (.int .i64 l.length), .pv (.int .i64 i), .any, .any, .any, .any, .any, .any, .any, .any, .any, .any], [], [], none⟩)
    (fun i => if (l.drop i).any p then some (.ret, ⟨[.any, .any, .any, .any, .pv (.int .i64 ((i + (l.drop i).findIdx p : Nat) : Int)), .any, .any, .any, .any, .any, .any, .any, .any, .any, .any, .any, .any, .any, .any], [], [], none⟩) else some (.normal, ⟨[.any, .any, .any, .any, .any, .any, .any, .any, .any, .any, .any, .any, .any, .any, .any, .any, .any, .any, .any], [], [], none⟩)) h (fun _ => rfl) (fun _ => rfl) ?_ ?_]
  · simp only [List.drop_zero, Nat.zero_add]
  · intro i rb hi ih
    have hi1 := i64_next hi hl
    have F1 : ((i : Int) < (l.length : Int)) = True := eq_true (by omega)
    simp only [fn90_b0, F1, List.length_map, index_nat hi, List.getElem?_map, List.getElem?_eq_getElem hi, hp _ (List.getElem_mem hi), hs, vAll, List.foldl_nil, List.foldl_cons, resultsOf, resultList, resultOf, zBV, splice, PV.remade, St.freezeAt, St.freezeBox, St.freezeCap, PV.single, plain, act, dstOf, if_true, if_false, reduceCtorEq, St.get, St.put, St.pvOf, St.putRow, St.consume, St.freeze, St.row, St.elems, St.grab, St.takeRow, St.setRow, St.place, St.optPv, St.setCell, St.setCellRow, binPV, intBin, unPV, BV.val, Nat.reduceEqDiff, bound, consumeAll, buildParts, capsOf, capOf, List.append_nil, Nat.reduceAdd, Nat.reduceLT, Nat.reduceLeDiff, beq_self_eq_true, List.length_map, Nat.beq, dcall, dcallP, List.mapM_cons, St.snapFn, St.snap, St.layAll, St.lay, St.freezeArg, St.freezeArg1]
    (try simp only [bcase_bind, bcase_map, tail_bcase]); refine bcase_split (fun hb => ?_) (fun hb => ?_) <;> try simp only [hb,  List.isEmpty_nil, val_pvs, frozen_pvs, msnoc_len, msnoc_get, msnoc_set, msnoc_take, Int.le_refl, take_map_all, Nat.le_refl, St.freezeRows, BV.frozen, List.take_length, List.take_append_drop, z_repl_zero, Int.toNat_zero, true_and, and_true, and_self, eq_self, z_take_zero, List.drop_nil, List.take_nil, vAll, List.foldl_nil, List.foldl_cons, resultsOf, resultList, resultOf, zBV, splice, PV.remade, St.freezeAt, St.freezeBox, St.freezeCap, PV.single, plain, act, dstOf, if_true, if_false, reduceCtorEq, St.get, St.put, St.pvOf, St.putRow, St.consume, St.freeze, St.row, St.elems, St.grab, St.takeRow, St.setRow, St.place, St.optPv, St.setCell, St.setCellRow, binPV, intBin, unPV, BV.val, Nat.reduceEqDiff, bound, consumeAll, buildParts, capsOf, capOf, List.append_nil, Nat.reduceAdd, Nat.reduceLT, Nat.reduceLeDiff, beq_self_eq_true, List.length_map, Nat.beq, dcall, dcallP, List.mapM_cons, St.snapFn, St.snap, St.layAll, St.lay, St.freezeArg, St.freezeArg1]
    · rw [List.drop_eq_getElem_cons hi]
      simp only [List.any_cons, hb, Bool.true_or, if_true, List.findIdx_cons, cond_true, Nat.add_zero]
      rfl
    · rw [ih _ (by simp only [hi1]; rfl), List.drop_eq_getElem_cons hi]
      simp only [List.any_cons, hb, Bool.false_or, List.findIdx_cons, cond_false, Nat.add_assoc, Nat.add_comm 1]
  · intro rb
    simp only [fn90_b0, Int.lt_irrefl, vAll, List.foldl_nil, List.foldl_cons, resultsOf, resultList, resultOf, zBV, splice, PV.remade, St.freezeAt, St.freezeBox, St.freezeCap, PV.single, plain, act, dstOf, if_true, if_false, reduceCtorEq, St.get, St.put, St.pvOf, St.putRow, St.consume, St.freeze, St.row, St.elems, St.grab, St.takeRow, St.setRow, St.place, St.optPv, St.setCell, St.setCellRow, binPV, intBin, unPV, BV.val, Nat.reduceEqDiff, bound, consumeAll, buildParts, capsOf, capOf, List.append_nil, Nat.reduceAdd, Nat.reduceLT, Nat.reduceLeDiff, beq_self_eq_true, List.length_map, Nat.beq, dcall, dcallP, List.mapM_cons, St.snapFn, St.snap, St.layAll, St.lay, St.freezeArg, St.freezeArg1]
    simp only [List.drop_length, List.any_nil, Bool.false_eq_true, if_false]
    rfl
theorem cal90 {α : Type} {enc : α → PV} {l : List α} {p : α → Bool} {gf : Nat} {caps : List PV} (hp : ∀ x ∈ l, cal env gf (enc x :: caps) = some [(.bool (p x), false)]) (hs : ∀ x, part (enc x).cells 0 none = some (enc x)) (hl : l.length ≤ lim) :
    cal env 90 [.list 1 (l.map enc), .func gf caps] = some [(.int .i64 (idxI p l), false)] := by
  rw [cal_code env90 rfl]; simp only [fn90]; simp only [start, z_map_cons, z_map_nil, z_len_cons, z_len_nil, z_repl_zero, z_repl_succ, z_cons_app, z_nil_app, Nat.reduceAdd, Nat.reduceSub]
  simp only [List.length_map, vAll, List.foldl_nil, List.foldl_cons, resultsOf, resultList, resultOf, zBV, splice, PV.remade, St.freezeAt, St.freezeBox, St.freezeCap, PV.single, plain, act, dstOf, if_true, if_false, reduceCtorEq, St.get, St.put, St.pvOf, St.putRow, St.consume, St.freeze, St.row, St.elems, St.grab, St.takeRow, St.setRow, St.place, St.optPv, St.setCell, St.setCellRow, binPV, intBin, unPV, BV.val, Nat.reduceEqDiff, bound, consumeAll, buildParts, capsOf, capOf, List.append_nil, Nat.reduceAdd, Nat.reduceLT, Nat.reduceLeDiff, beq_self_eq_true, List.length_map, Nat.beq, dcall, dcallP, List.mapM_cons, St.snapFn, St.snap, St.layAll, St.lay, St.freezeArg, St.freezeArg1]
  rw [loop90 hp hs hl]
  rotate_left
  · rfl
  · simp only [idxI]
    split <;> simp only [vAll, List.foldl_nil, List.foldl_cons, resultsOf, resultList, resultOf, zBV, splice, PV.remade, St.freezeAt, St.freezeBox, St.freezeCap, PV.single, plain, act, dstOf, if_true, if_false, reduceCtorEq, St.get, St.put, St.pvOf, St.putRow, St.consume, St.freeze, St.row, St.elems, St.grab, St.takeRow, St.setRow, St.place, St.optPv, St.setCell, St.setCellRow, binPV, intBin, unPV, BV.val, Nat.reduceEqDiff, bound, consumeAll, buildParts, capsOf, capOf, List.append_nil, Nat.reduceAdd, Nat.reduceLT, Nat.reduceLeDiff, beq_self_eq_true, List.length_map, Nat.beq, dcall, dcallP, List.mapM_cons, St.snapFn, St.snap, St.layAll, St.lay, St.freezeArg, St.freezeArg1]
--+
theorem cal79 {α : Type} {enc : α → PV} {l : List α} {p : α → Bool} {gf : Nat} {caps : List PV} (hp : ∀ x ∈ l, cal env gf (enc x :: caps) = some [(.bool (p x), false)]) (hs : ∀ x, part (enc x).cells 0 none = some (enc x)) (hl : l.length ≤ lim) :
    cal env 79 [.list 1 (l.map enc), .func gf caps] = some [(.bool (l.any p), false)] := by
  rw [cal_code env79 rfl]; simp only [fn79]; simp only [start, z_map_cons, z_map_nil, z_len_cons, z_len_nil, z_repl_zero, z_repl_succ, z_cons_app, z_nil_app, Nat.reduceAdd, Nat.reduceSub]
  simp only [cal90 hp hs hl, idxI_nonneg, vAll, List.foldl_nil, List.foldl_cons, resultsOf, resultList, resultOf, zBV, splice, PV.remade, St.freezeAt, St.freezeBox, St.freezeCap, PV.single, plain, act, dstOf, if_true, if_false, reduceCtorEq, St.get, St.put, St.pvOf, St.putRow, St.consume, St.freeze, St.row, St.elems, St.grab, St.takeRow, St.setRow, St.place, St.optPv, St.setCell, St.setCellRow, binPV, intBin, unPV, BV.val, Nat.reduceEqDiff, bound, consumeAll, buildParts, capsOf, capOf, List.append_nil, Nat.reduceAdd, Nat.reduceLT, Nat.reduceLeDiff, beq_self_eq_true, List.length_map, Nat.beq, dcall, dcallP, List.mapM_cons, St.snapFn, St.snap, St.layAll, St.lay, St.freezeArg, St.freezeArg1]
--+
theorem loop69 {l m : List Int} (hlm : l.length = m.length) (hl : l.length ≤ lim)
   {st : St} (h : st.head [0, 1, 12, 13] st.boxes.length = some ⟨[.pv (.list 1 (l.map eI)), .pv (.list 1 (m.map eI)), .any, .any, .any, .any, .any, .any, .any, .any, .any, .any, .pv (.int .i64 l.length), .pv (.int .i64 (0 : Nat)), .any, .any, .any, .any, .any, .any, .any, .any, .any, .any, .any, .any], [], [], none⟩) :
   den env fn69_l1 st = if l = m then some (.normal, ⟨[.any, .any, .any, .any, .any, .any, .any, .any, .any, .any, .any, .any, .any, .any, .any, .any, .any, .any, .any, .any, .any, .any, .any, .any, .any, .any], [], [], none⟩) else some (.ret, ⟨[.any, .any, .any, .any, .pv (.bool false), .any, .any, .any, .any, .any, .any, .any, .any, .any, .any, .any, .any, .any, .any, .any, .any, .any, .any, .any, .any, .any], [], [], none⟩) := by
  unfold fn69_l1
  rw [clean_up l.length (fun i => ⟨[.pv (.list 1 (l.map eI)), .pv (.list 1 (m.map eI)), .any, .any, .any, .any, .any, .any, .any, .any, .any, .any, .pv (.int .i64 l.length), .pv (.int .i64 i), .any, .any, .any, .any, .any, .any, .any, .any, .any, .any, .any, .any], [], [], none⟩)
    (fun i => if l.drop i = m.drop i then some (.normal, ⟨[.any, .any, .any, .any, .any, .any, .any, .any, .any, .any, .any, .any, .any, .any, .any, .any, .any, .any, .any, .any, .any, .any, .any, .any, .any, .any], [], [], none⟩) else some (.ret, ⟨[.any, .any, .any, .any, .pv (.bool false), .any, .any, .any, .any, .any, .any, .any, .any, .any, .any, .any, .any, .any, .any, .any, .any, .any, .any, .any, .any, .any], [], [], none⟩)) h (fun _ => rfl) (fun _ => rfl) ?_ ?_]
  · simp only [List.drop_zero]
  · intro i rb hi ih
    have hi1 := i64_next hi hl
    have hj : i < m.length := by omega
    have F1 : ((i : Int) < (l.length : Int)) = True := eq_true (by omega)
    simp only [fn69_b0, F1, List.length_map, index_nat hi, index_nat hj, List.getElem?_map, List.getElem?_eq_getElem hi, List.getElem?_eq_getElem hj, eI, eSec, eExt, part_sec, secPV_length, eqCells_sec, eqCells, vAll, List.foldl_nil, List.foldl_cons, resultsOf, resultList, resultOf, zBV, splice, PV.remade, St.freezeAt, St.freezeBox, St.freezeCap, PV.single, plain, act, dstOf, if_true, if_false, reduceCtorEq, St.get, St.put, St.pvOf, St.putRow, St.consume, St.freeze, St.row, St.elems, St.grab, St.takeRow, St.setRow, St.place, St.optPv, St.setCell, St.setCellRow, binPV, intBin, unPV, BV.val, Nat.reduceEqDiff, bound, consumeAll, buildParts, capsOf, capOf, List.append_nil, Nat.reduceAdd, Nat.reduceLT, Nat.reduceLeDiff, beq_self_eq_true, List.length_map, Nat.beq, dcall, dcallP, List.mapM_cons, St.snapFn, St.snap, St.layAll, St.lay, St.freezeArg, St.freezeArg1]
    (try simp only [bcase_bind, bcase_map, tail_bcase]); refine bcase_split (fun hb => ?_) (fun hb => ?_) <;> try simp only [hb,  List.isEmpty_nil, val_pvs, frozen_pvs, msnoc_len, msnoc_get, msnoc_set, msnoc_take, Int.le_refl, take_map_all, Nat.le_refl, St.freezeRows, BV.frozen, List.take_length, List.take_append_drop, z_repl_zero, Int.toNat_zero, true_and, and_true, and_self, eq_self, z_take_zero, List.drop_nil, List.take_nil, vAll, List.foldl_nil, List.foldl_cons, resultsOf, resultList, resultOf, zBV, splice, PV.remade, St.freezeAt, St.freezeBox, St.freezeCap, PV.single, plain, act, dstOf, if_true, if_false, reduceCtorEq, St.get, St.put, St.pvOf, St.putRow, St.consume, St.freeze, St.row, St.elems, St.grab, St.takeRow, St.setRow, St.place, St.optPv, St.setCell, St.setCellRow, binPV, intBin, unPV, BV.val, Nat.reduceEqDiff, bound, consumeAll, buildParts, capsOf, capOf, List.append_nil, Nat.reduceAdd, Nat.reduceLT, Nat.reduceLeDiff, beq_self_eq_true, List.length_map, Nat.beq, dcall, dcallP, List.mapM_cons, St.snapFn, St.snap, St.layAll, St.lay, St.freezeArg, St.freezeArg1]
    · rw [ih _ (by simp only [hi1]; rfl), List.drop_eq_getElem_cons hi, List.drop_eq_getElem_cons hj]
      have e : l[i] = m[i] := by
        revert hb
        generalize l[i] = x
        generalize m[i] = y
        first | (intro hb; simpa using hb) | (cases x; cases y; intro hb; simpa using hb)
      simp only [e, List.cons.injEq, true_and]
    · rw [List.drop_eq_getElem_cons hi, List.drop_eq_getElem_cons hj, if_neg (fun e => ?_)]
      · rfl
      · have e := (List.cons.inj e).1
        rw [e] at hb
        simp at hb
  · intro rb
    simp only [fn69_b0, Int.lt_irrefl, vAll, List.foldl_nil, List.foldl_cons, resultsOf, resultList, resultOf, zBV, splice, PV.remade, St.freezeAt, St.freezeBox, St.freezeCap, PV.single, plain, act, dstOf, if_true, if_false, reduceCtorEq, St.get, St.put, St.pvOf, St.putRow, St.consume, St.freeze, St.row, St.elems, St.grab, St.takeRow, St.setRow, St.place, St.optPv, St.setCell, St.setCellRow, binPV, intBin, unPV, BV.val, Nat.reduceEqDiff, bound, consumeAll, buildParts, capsOf, capOf, List.append_nil, Nat.reduceAdd, Nat.reduceLT, Nat.reduceLeDiff, beq_self_eq_true, List.length_map, Nat.beq, dcall, dcallP, List.mapM_cons, St.snapFn, St.snap, St.layAll, St.lay, St.freezeArg, St.freezeArg1]
    rw [List.drop_length, hlm, List.drop_length, if_pos rfl]
    rfl
theorem cal69 {l m : List Int} (hl : l.length ≤ lim) :
    cal env 69 [.list 1 (l.map eI), .list 1 (m.map eI)] = some [(.bool (decide (l = m)), false)] := by
  rw [cal_code env69 rfl]; simp only [fn69]; simp only [start, z_map_cons, z_map_nil, z_len_cons, z_len_nil, z_repl_zero, z_repl_succ, z_cons_app, z_nil_app, Nat.reduceAdd, Nat.reduceSub]
  simp only [List.length_map, vAll, List.foldl_nil, List.foldl_cons, resultsOf, resultList, resultOf, zBV, splice, PV.remade, St.freezeAt, St.freezeBox, St.freezeCap, PV.single, plain, act, dstOf, if_true, if_false, reduceCtorEq, St.get, St.put, St.pvOf, St.putRow, St.consume, St.freeze, St.row, St.elems, St.grab, St.takeRow, St.setRow, St.place, St.optPv, St.setCell, St.setCellRow, binPV, intBin, unPV, BV.val, Nat.reduceEqDiff, bound, consumeAll, buildParts, capsOf, capOf, List.append_nil, Nat.reduceAdd, Nat.reduceLT, Nat.reduceLeDiff, beq_self_eq_true, List.length_map, Nat.beq, dcall, dcallP, List.mapM_cons, St.snapFn, St.snap, St.layAll, St.lay, St.freezeArg, St.freezeArg1]
  (try simp only [bcase_bind, bcase_map, tail_bcase]); refine bcase_split (fun hb => ?_) (fun hb => ?_) <;> try simp only [hb,  List.isEmpty_nil, val_pvs, frozen_pvs, msnoc_len, msnoc_get, msnoc_set, msnoc_take, Int.le_refl, take_map_all, Nat.le_refl, St.freezeRows, BV.frozen, List.take_length, List.take_append_drop, z_repl_zero, Int.toNat_zero, true_and, and_true, and_self, eq_self, z_take_zero, List.drop_nil, List.take_nil, vAll, List.foldl_nil, List.foldl_cons, resultsOf, resultList, resultOf, zBV, splice, PV.remade, St.freezeAt, St.freezeBox, St.freezeCap, PV.single, plain, act, dstOf, if_true, if_false, reduceCtorEq, St.get, St.put, St.pvOf, St.putRow, St.consume, St.freeze, St.row, St.elems, St.grab, St.takeRow, St.setRow, St.place, St.optPv, St.setCell, St.setCellRow, binPV, intBin, unPV, BV.val, Nat.reduceEqDiff, bound, consumeAll, buildParts, capsOf, capOf, List.append_nil, Nat.reduceAdd, Nat.reduceLT, Nat.reduceLeDiff, beq_self_eq_true, List.length_map, Nat.beq, dcall, dcallP, List.mapM_cons, St.snapFn, St.snap, St.layAll, St.lay, St.freezeArg, St.freezeArg1]
  · have hlm : l.length = m.length := by simp at hb; omega
    rw [loop69 hlm hl]
    rotate_left
    · rfl
    · by_cases e : l = m
      · simp only [e, vAll, List.foldl_nil, List.foldl_cons, resultsOf, resultList, resultOf, zBV, splice, PV.remade, St.freezeAt, St.freezeBox, St.freezeCap, PV.single, plain, act, dstOf, if_true, if_false, reduceCtorEq, St.get, St.put, St.pvOf, St.putRow, St.consume, St.freeze, St.row, St.elems, St.grab, St.takeRow, St.setRow, St.place, St.optPv, St.setCell, St.setCellRow, binPV, intBin, unPV, BV.val, Nat.reduceEqDiff, bound, consumeAll, buildParts, capsOf, capOf, List.append_nil, Nat.reduceAdd, Nat.reduceLT, Nat.reduceLeDiff, beq_self_eq_true, List.length_map, Nat.beq, dcall, dcallP, List.mapM_cons, St.snapFn, St.snap, St.layAll, St.lay, St.freezeArg, St.freezeArg1]
      · simp only [e, vAll, List.foldl_nil, List.foldl_cons, resultsOf, resultList, resultOf, zBV, splice, PV.remade, St.freezeAt, St.freezeBox, St.freezeCap, PV.single, plain, act, dstOf, if_true, if_false, reduceCtorEq, St.get, St.put, St.pvOf, St.putRow, St.consume, St.freeze, St.row, St.elems, St.grab, St.takeRow, St.setRow, St.place, St.optPv, St.setCell, St.setCellRow, binPV, intBin, unPV, BV.val, Nat.reduceEqDiff, bound, consumeAll, buildParts, capsOf, capOf, List.append_nil, Nat.reduceAdd, Nat.reduceLT, Nat.reduceLeDiff, beq_self_eq_true, List.length_map, Nat.beq, dcall, dcallP, List.mapM_cons, St.snapFn, St.snap, St.layAll, St.lay, St.freezeArg, St.freezeArg1]
  · have : l ≠ m := fun e => by subst e; simp at hb
    simp only [this, vAll, List.foldl_nil, List.foldl_cons, resultsOf, resultList, resultOf, zBV, splice, PV.remade, St.freezeAt, St.freezeBox, St.freezeCap, PV.single, plain, act, dstOf, if_true, if_false, reduceCtorEq, St.get, St.put, St.pvOf, St.putRow, St.consume, St.freeze, St.row, St.elems, St.grab, St.takeRow, St.setRow, St.place, St.optPv, St.setCell, St.setCellRow, binPV, intBin, unPV, BV.val, Nat.reduceEqDiff, bound, consumeAll, buildParts, capsOf, capOf, List.append_nil, Nat.reduceAdd, Nat.reduceLT, Nat.reduceLeDiff, beq_self_eq_true, List.length_map, Nat.beq, dcall, dcallP, List.mapM_cons, St.snapFn, St.snap, St.layAll, St.lay, St.freezeArg, St.freezeArg1]
--+
theorem loop32 {l m : List Exn} (hlm : l.length = m.length) (hl : l.length ≤ lim)
   {st : St} (h : st.head [0, 1, 12, 13] st.boxes.length = some ⟨[.pv (.list 2 (l.map eExt)), .pv (.list 2 (m.map eExt)), .any, .any, .any, .any, .any, .any, .any, .any, .any, .any, .pv (.int .i64 l.length), .pv (.int .i64 (0 : Nat)), .any, .any, .any, .any, .any, .any, .any, .any, .any, .any, .any, .any], [], [], none⟩) :
   den env fn32_l1 st = if l = m then some (.normal, ⟨[.any, .any, .any, .any, .any, .any, .any, .any, .any, .any, .any, .any, .any, .any, .any, .any, .any, .any, .any, .any, .any, .any, .any, .any, .any, .any], [], [], none⟩) else some (.ret, ⟨[.any, .any, .any, .any, .pv (.bool false), .any, .any, .any, .any, .any, .any, .any, .any, .any, .any, .any, .any, .any, .any, .any, .any, .any, .any, .any, .any, .any], [], [], none⟩) := by
  unfold fn32_l1
  rw [clean_up l.length (fun i => ⟨[.pv (.list 2 (l.map eExt)), .pv (.list 2 (m.map eExt)), .any, .any, .any, .any, .any, .any, .any, .any, .any, .any, .pv (.int .i64 l.length), .pv (.int .i64 i), .any, .any, .any, .any, .any, .any, .any, .any, .any, .any, .any, .any], [], [], none⟩)
    (fun i => if l.drop i = m.drop i then some (.normal, ⟨[.any, .any, .any, .any, .any, .any, .any, .any, .any, .any, .any, .any, .any, .any, .any, .any, .any, .any, .any, .any, .any, .any, .any, .any, .any, .any], [], [], none⟩) else some (.ret, ⟨[.any, .any, .any, .any, .pv (.bool false), .any, .any, .any, .any, .any, .any, .any, .any, .any, .any, .any, .any, .any, .any, .any, .any, .any, .any, .any, .any, .any], [], [], none⟩)) h (fun _ => rfl) (fun _ => rfl) ?_ ?_]
  · simp only [List.drop_zero]
  · intro i rb hi ih
    have hi1 := i64_next hi hl
    have hj : i < m.length := by omega
    have F1 : ((i : Int) < (l.length : Int)) = True := eq_true (by omega)
    simp only [fn32_b0, F1, List.length_map, index_nat hi, index_nat hj, List.getElem?_map, List.getElem?_eq_getElem hi, List.getElem?_eq_getElem hj, eI, eSec, eExt, part_sec, secPV_length, eqCells_sec, eqCells, vAll, List.foldl_nil, List.foldl_cons, resultsOf, resultList, resultOf, zBV, splice, PV.remade, St.freezeAt, St.freezeBox, St.freezeCap, PV.single, plain, act, dstOf, if_true, if_false, reduceCtorEq, St.get, St.put, St.pvOf, St.putRow, St.consume, St.freeze, St.row, St.elems, St.grab, St.takeRow, St.setRow, St.place, St.optPv, St.setCell, St.setCellRow, binPV, intBin, unPV, BV.val, Nat.reduceEqDiff, bound, consumeAll, buildParts, capsOf, capOf, List.append_nil, Nat.reduceAdd, Nat.reduceLT, Nat.reduceLeDiff, beq_self_eq_true, List.length_map, Nat.beq, dcall, dcallP, List.mapM_cons, St.snapFn, St.snap, St.layAll, St.lay, St.freezeArg, St.freezeArg1]
    (try simp only [bcase_bind, bcase_map, tail_bcase]); refine bcase_split (fun hb => ?_) (fun hb => ?_) <;> try simp only [hb,  List.isEmpty_nil, val_pvs, frozen_pvs, msnoc_len, msnoc_get, msnoc_set, msnoc_take, Int.le_refl, take_map_all, Nat.le_refl, St.freezeRows, BV.frozen, List.take_length, List.take_append_drop, z_repl_zero, Int.toNat_zero, true_and, and_true, and_self, eq_self, z_take_zero, List.drop_nil, List.take_nil, vAll, List.foldl_nil, List.foldl_cons, resultsOf, resultList, resultOf, zBV, splice, PV.remade, St.freezeAt, St.freezeBox, St.freezeCap, PV.single, plain, act, dstOf, if_true, if_false, reduceCtorEq, St.get, St.put, St.pvOf, St.putRow, St.consume, St.freeze, St.row, St.elems, St.grab, St.takeRow, St.setRow, St.place, St.optPv, St.setCell, St.setCellRow, binPV, intBin, unPV, BV.val, Nat.reduceEqDiff, bound, consumeAll, buildParts, capsOf, capOf, List.append_nil, Nat.reduceAdd, Nat.reduceLT, Nat.reduceLeDiff, beq_self_eq_true, List.length_map, Nat.beq, dcall, dcallP, List.mapM_cons, St.snapFn, St.snap, St.layAll, St.lay, St.freezeArg, St.freezeArg1]
    · rw [ih _ (by simp only [hi1]; rfl), List.drop_eq_getElem_cons hi, List.drop_eq_getElem_cons hj]
      have e : l[i] = m[i] := by
        revert hb
        generalize l[i] = x
        generalize m[i] = y
        first | (intro hb; simpa using hb) | (cases x; cases y; intro hb; simpa using hb)
      simp only [e, List.cons.injEq, true_and]
    · rw [List.drop_eq_getElem_cons hi, List.drop_eq_getElem_cons hj, if_neg (fun e => ?_)]
      · rfl
      · have e := (List.cons.inj e).1
        rw [e] at hb
        simp at hb
  · intro rb
    simp only [fn32_b0, Int.lt_irrefl, vAll, List.foldl_nil, List.foldl_cons, resultsOf, resultList, resultOf, zBV, splice, PV.remade, St.freezeAt, St.freezeBox, St.freezeCap, PV.single, plain, act, dstOf, if_true, if_false, reduceCtorEq, St.get, St.put, St.pvOf, St.putRow, St.consume, St.freeze, St.row, St.elems, St.grab, St.takeRow, St.setRow, St.place, St.optPv, St.setCell, St.setCellRow, binPV, intBin, unPV, BV.val, Nat.reduceEqDiff, bound, consumeAll, buildParts, capsOf, capOf, List.append_nil, Nat.reduceAdd, Nat.reduceLT, Nat.reduceLeDiff, beq_self_eq_true, List.length_map, Nat.beq, dcall, dcallP, List.mapM_cons, St.snapFn, St.snap, St.layAll, St.lay, St.freezeArg, St.freezeArg1]
    rw [List.drop_length, hlm, List.drop_length, if_pos rfl]
    rfl
theorem cal32 {l m : List Exn} (hl : l.length ≤ lim) :
    cal env 32 [.list 2 (l.map eExt), .list 2 (m.map eExt)] = some [(.bool (decide (l = m)), false)] := by
  rw [cal_code env32 rfl]; simp only [fn32]; simp only [start, z_map_cons, z_map_nil, z_len_cons, z_len_nil, z_repl_zero, z_repl_succ, z_cons_app, z_nil_app, Nat.reduceAdd, Nat.reduceSub]
  simp only [List.length_map, vAll, List.foldl_nil, List.foldl_cons, resultsOf, resultList, resultOf, zBV, splice, PV.remade, St.freezeAt, St.freezeBox, St.freezeCap, PV.single, plain, act, dstOf, if_true, if_false, reduceCtorEq, St.get, St.put, St.pvOf, St.putRow, St.consume, St.freeze, St.row, St.elems, St.grab, St.takeRow, St.setRow, St.place, St.optPv, St.setCell, St.setCellRow, binPV, intBin, unPV, BV.val, Nat.reduceEqDiff, bound, consumeAll, buildParts, capsOf, capOf, List.append_nil, Nat.reduceAdd, Nat.reduceLT, Nat.reduceLeDiff, beq_self_eq_true, List.length_map, Nat.beq, dcall, dcallP, List.mapM_cons, St.snapFn, St.snap, St.layAll, St.lay, St.freezeArg, St.freezeArg1]
  (try simp only [bcase_bind, bcase_map, tail_bcase]); refine bcase_split (fun hb => ?_) (fun hb => ?_) <;> try simp only [hb,  List.isEmpty_nil, val_pvs, frozen_pvs, msnoc_len, msnoc_get, msnoc_set, msnoc_take, Int.le_refl, take_map_all, Nat.le_refl, St.freezeRows, BV.frozen, List.take_length, List.take_append_drop, z_repl_zero, Int.toNat_zero, true_and, and_true, and_self, eq_self, z_take_zero, List.drop_nil, List.take_nil, vAll, List.foldl_nil, List.foldl_cons, resultsOf, resultList, resultOf, zBV, splice, PV.remade, St.freezeAt, St.freezeBox, St.freezeCap, PV.single, plain, act, dstOf, if_true, if_false, reduceCtorEq, St.get, St.put, St.pvOf, St.putRow, St.consume, St.freeze, St.row, St.elems, St.grab, St.takeRow, St.setRow, St.place, St.optPv, St.setCell, St.setCellRow, binPV, intBin, unPV, BV.val, Nat.reduceEqDiff, bound, consumeAll, buildParts, capsOf, capOf, List.append_nil, Nat.reduceAdd, Nat.reduceLT, Nat.reduceLeDiff, beq_self_eq_true, List.length_map, Nat.beq, dcall, dcallP, List.mapM_cons, St.snapFn, St.snap, St.layAll, St.lay, St.freezeArg, St.freezeArg1]
  · have hlm : l.length = m.length := by simp at hb; omega
    rw [loop32 hlm hl]
    rotate_left
    · rfl
    · by_cases e : l = m
      · simp only [e, vAll, List.foldl_nil, List.foldl_cons, resultsOf, resultList, resultOf, zBV, splice, PV.remade, St.freezeAt, St.freezeBox, St.freezeCap, PV.single, plain, act, dstOf, if_true, if_false, reduceCtorEq, St.get, St.put, St.pvOf, St.putRow, St.consume, St.freeze, St.row, St.elems, St.grab, St.takeRow, St.setRow, St.place, St.optPv, St.setCell, St.setCellRow, binPV, intBin, unPV, BV.val, Nat.reduceEqDiff, bound, consumeAll, buildParts, capsOf, capOf, List.append_nil, Nat.reduceAdd, Nat.reduceLT, Nat.reduceLeDiff, beq_self_eq_true, List.length_map, Nat.beq, dcall, dcallP, List.mapM_cons, St.snapFn, St.snap, St.layAll, St.lay, St.freezeArg, St.freezeArg1]
      · simp only [e, vAll, List.foldl_nil, List.foldl_cons, resultsOf, resultList, resultOf, zBV, splice, PV.remade, St.freezeAt, St.freezeBox, St.freezeCap, PV.single, plain, act, dstOf, if_true, if_false, reduceCtorEq, St.get, St.put, St.pvOf, St.putRow, St.consume, St.freeze, St.row, St.elems, St.grab, St.takeRow, St.setRow, St.place, St.optPv, St.setCell, St.setCellRow, binPV, intBin, unPV, BV.val, Nat.reduceEqDiff, bound, consumeAll, buildParts, capsOf, capOf, List.append_nil, Nat.reduceAdd, Nat.reduceLT, Nat.reduceLeDiff, beq_self_eq_true, List.length_map, Nat.beq, dcall, dcallP, List.mapM_cons, St.snapFn, St.snap, St.layAll, St.lay, St.freezeArg, St.freezeArg1]
  · have : l ≠ m := fun e => by subst e; simp at hb
    simp only [this, vAll, List.foldl_nil, List.foldl_cons, resultsOf, resultList, resultOf, zBV, splice, PV.remade, St.freezeAt, St.freezeBox, St.freezeCap, PV.single, plain, act, dstOf, if_true, if_false, reduceCtorEq, St.get, St.put, St.pvOf, St.putRow, St.consume, St.freeze, St.row, St.elems, St.grab, St.takeRow, St.setRow, St.place, St.optPv, St.setCell, St.setCellRow, binPV, intBin, unPV, BV.val, Nat.reduceEqDiff, bound, consumeAll, buildParts, capsOf, capOf, List.append_nil, Nat.reduceAdd, Nat.reduceLT, Nat.reduceLeDiff, beq_self_eq_true, List.length_map, Nat.beq, dcall, dcallP, List.mapM_cons, St.snapFn, St.snap, St.layAll, St.lay, St.freezeArg, St.freezeArg1]
--+
theorem loop30 {α β : Type} {enc : α → PV} {enc2 : β → PV} {eq : α → β → Bool} {l : List α} {m : List β} {gf : Nat} {caps : List PV} (hp : ∀ x ∈ l, ∀ y ∈ m, cal env gf (enc x :: enc2 y :: caps) = some [(.bool (eq x y), false)]) (hs : ∀ x, part (enc x).cells 0 none = some (enc x)) (hs2 : ∀ x, part (enc2 x).cells 0 none = some (enc2 x)) (hlm : l.length = m.length) (hl : l.length ≤ lim)
   {st : St} (h : st.head [0, 1, 2, 15, 16, 17] st.boxes.length = some ⟨[.pv (.list 1 (l.map enc)), .pv (.list 1 (m.map enc2)), .pv (.func gf caps), .any, .any, .any, .any, .any, .any, .any, .any, .any, .any, .any, .any, .pv (.list 1 (l.map enc)), .pv (.int .i64 l.length), .pv (.int .i64 (0 : Nat)), .any, .any, .any, .any, .any, .any, .any, .any, .any, .any, .any, .any, .any, .any], [], [], none⟩) :
   den env fn30_l1 st = if (l.zip m).all (fun q => eq q.1 q.2) then some (.normal, ⟨[.any, .any, .any, .any, .any, .any, .any, .any, .any, .any, .any, .any, .any, .any, .any, .any, .any, .any, .any, .any, .any, .any, .any, .any, .any, .any, .any, .any, .any, .any, .any, .any], [], [], none⟩) else some (.ret, ⟨[.any, .any, .any, .any, .any, .any, .pv (.bool false), .any, .any, .any, .any, .any, .any, .any, .any, .any, .any, .any, .any, .any, .any, .any, .any, .any, .any, .any, .any, .any, .any, .any, .any, .any], [], [], none⟩) := by
  unfold fn30_l1
  rw [clean_up l.length (fun i => ⟨[.pv (.list 1 (l.map enc)), .pv (.list 1 (m.map enc2)), .pv (.func gf caps), .any, .any, .any, .any, .any, .any, .any, .any, .any, .any, .any, .any, .pv (.list 1 (l.map enc)), .pv (.int .i64 l.length), .pv (.int .i64 i), .any, .any, .any, .any, .any, .any, .any, .any, .any, .any, .any, .any, .any, .any], [], [], none⟩)
    (fun i => if ((l.drop i).zip (m.drop i)).all (fun q => eq q.1 q.2) then some (.normal, ⟨[.any, .any, .any, .any, .any, .any, .any, .any, .any, .any, .any, .any, .any, .any, .any, .any, .any, .any, .any, .any, .any, .any, .any, .any, .any, .any, .any, .any, .any, .any, .any, .any], [], [], none⟩) else some (.ret, ⟨[.any, .any, .any, .any, .any, .any, .pv (.bool false), .any, .any, .any, .any, .any, .any, .any, .any, .any, .any, .any, .any, .any, .any, .any, .any, .any, .any, .any, .any, .any, .any, .any, .any, .any], [], [], none⟩)) h (fun _ => rfl) (fun _ => rfl) ?_ ?_]
  · simp only [List.drop_zero]
  · intro i rb hi ih
    have hi1 := i64_next hi hl
    have hj : i < m.length := by omega
    have F1 : ((i : Int) < (l.length : Int)) = True := eq_true (by omega)
    simp only [fn30_b0, F1, List.length_map, index_nat hi, index_nat hj, List.getElem?_map, List.getElem?_eq_getElem hi, List.getElem?_eq_getElem hj, hs, hs2, hp _ (List.getElem_mem hi) _ (List.getElem_mem hj), vAll, List.foldl_nil, List.foldl_cons, resultsOf, resultList, resultOf, zBV, splice, PV.remade, St.freezeAt, St.freezeBox, St.freezeCap, PV.single, plain, act, dstOf, if_true, if_false, reduceCtorEq, St.get, St.put, St.pvOf, St.putRow, St.consume, St.freeze, St.row, St.elems, St.grab, St.takeRow, St.setRow, St.place, St.optPv, St.setCell, St.setCellRow, binPV, intBin, unPV, BV.val, Nat.reduceEqDiff, bound, consumeAll, buildParts, capsOf, capOf, List.append_nil, Nat.reduceAdd, Nat.reduceLT, Nat.reduceLeDiff, beq_self_eq_true, List.length_map, Nat.beq, dcall, dcallP, List.mapM_cons, St.snapFn, St.snap, St.layAll, St.lay, St.freezeArg, St.freezeArg1]
    (try simp only [bcase_bind, bcase_map, tail_bcase]); refine bcase_split (fun hb => ?_) (fun hb => ?_) <;> try simp only [hb,  List.isEmpty_nil, val_pvs, frozen_pvs, msnoc_len, msnoc_get, msnoc_set, msnoc_take, Int.le_refl, take_map_all, Nat.le_refl, St.freezeRows, BV.frozen, List.take_length, List.take_append_drop, z_repl_zero, Int.toNat_zero, true_and, and_true, and_self, eq_self, z_take_zero, List.drop_nil, List.take_nil, vAll, List.foldl_nil, List.foldl_cons, resultsOf, resultList, resultOf, zBV, splice, PV.remade, St.freezeAt, St.freezeBox, St.freezeCap, PV.single, plain, act, dstOf, if_true, if_false, reduceCtorEq, St.get, St.put, St.pvOf, St.putRow, St.consume, St.freeze, St.row, St.elems, St.grab, St.takeRow, St.setRow, St.place, St.optPv, St.setCell, St.setCellRow, binPV, intBin, unPV, BV.val, Nat.reduceEqDiff, bound, consumeAll, buildParts, capsOf, capOf, List.append_nil, Nat.reduceAdd, Nat.reduceLT, Nat.reduceLeDiff, beq_self_eq_true, List.length_map, Nat.beq, dcall, dcallP, List.mapM_cons, St.snapFn, St.snap, St.layAll, St.lay, St.freezeArg, St.freezeArg1]
    · rw [ih _ (by simp only [hi1]; rfl), List.drop_eq_getElem_cons hi, List.drop_eq_getElem_cons hj]
      simp only [List.zip_cons_cons, List.all_cons, hb, Bool.true_and]
    · rw [List.drop_eq_getElem_cons hi, List.drop_eq_getElem_cons hj]
      simp only [List.zip_cons_cons, List.all_cons, hb, Bool.false_and, Bool.false_eq_true, if_false]
      rfl
  · intro rb
    simp only [fn30_b0, Int.lt_irrefl, vAll, List.foldl_nil, List.foldl_cons, resultsOf, resultList, resultOf, zBV, splice, PV.remade, St.freezeAt, St.freezeBox, St.freezeCap, PV.single, plain, act, dstOf, if_true, if_false, reduceCtorEq, St.get, St.put, St.pvOf, St.putRow, St.consume, St.freeze, St.row, St.elems, St.grab, St.takeRow, St.setRow, St.place, St.optPv, St.setCell, St.setCellRow, binPV, intBin, unPV, BV.val, Nat.reduceEqDiff, bound, consumeAll, buildParts, capsOf, capOf, List.append_nil, Nat.reduceAdd, Nat.reduceLT, Nat.reduceLeDiff, beq_self_eq_true, List.length_map, Nat.beq, dcall, dcallP, List.mapM_cons, St.snapFn, St.snap, St.layAll, St.lay, St.freezeArg, St.freezeArg1]
    rw [List.drop_length]
    rfl
theorem cal30 {α β : Type} {enc : α → PV} {enc2 : β → PV} {eq : α → β → Bool} {l : List α} {m : List β} {gf : Nat} {caps : List PV} (hp : ∀ x ∈ l, ∀ y ∈ m, cal env gf (enc x :: enc2 y :: caps) = some [(.bool (eq x y), false)]) (hs : ∀ x, part (enc x).cells 0 none = some (enc x)) (hs2 : ∀ x, part (enc2 x).cells 0 none = some (enc2 x)) (hl : l.length ≤ lim) :
    cal env 30 [.list 1 (l.map enc), .list 1 (m.map enc2), .func gf caps] = some [(.bool (eqF eq l m), false)] := by
  rw [cal_code env30 rfl]; simp only [fn30]; simp only [start, z_map_cons, z_map_nil, z_len_cons, z_len_nil, z_repl_zero, z_repl_succ, z_cons_app, z_nil_app, Nat.reduceAdd, Nat.reduceSub]
  simp only [List.length_map, vAll, List.foldl_nil, List.foldl_cons, resultsOf, resultList, resultOf, zBV, splice, PV.remade, St.freezeAt, St.freezeBox, St.freezeCap, PV.single, plain, act, dstOf, if_true, if_false, reduceCtorEq, St.get, St.put, St.pvOf, St.putRow, St.consume, St.freeze, St.row, St.elems, St.grab, St.takeRow, St.setRow, St.place, St.optPv, St.setCell, St.setCellRow, binPV, intBin, unPV, BV.val, Nat.reduceEqDiff, bound, consumeAll, buildParts, capsOf, capOf, List.append_nil, Nat.reduceAdd, Nat.reduceLT, Nat.reduceLeDiff, beq_self_eq_true, List.length_map, Nat.beq, dcall, dcallP, List.mapM_cons, St.snapFn, St.snap, St.layAll, St.lay, St.freezeArg, St.freezeArg1]
  (try simp only [bcase_bind, bcase_map, tail_bcase]); refine bcase_split (fun hb => ?_) (fun hb => ?_) <;> try simp only [hb,  List.isEmpty_nil, val_pvs, frozen_pvs, msnoc_len, msnoc_get, msnoc_set, msnoc_take, Int.le_refl, take_map_all, Nat.le_refl, St.freezeRows, BV.frozen, List.take_length, List.take_append_drop, z_repl_zero, Int.toNat_zero, true_and, and_true, and_self, eq_self, z_take_zero, List.drop_nil, List.take_nil, vAll, List.foldl_nil, List.foldl_cons, resultsOf, resultList, resultOf, zBV, splice, PV.remade, St.freezeAt, St.freezeBox, St.freezeCap, PV.single, plain, act, dstOf, if_true, if_false, reduceCtorEq, St.get, St.put, St.pvOf, St.putRow, St.consume, St.freeze, St.row, St.elems, St.grab, St.takeRow, St.setRow, St.place, St.optPv, St.setCell, St.setCellRow, binPV, intBin, unPV, BV.val, Nat.reduceEqDiff, bound, consumeAll, buildParts, capsOf, capOf, List.append_nil, Nat.reduceAdd, Nat.reduceLT, Nat.reduceLeDiff, beq_self_eq_true, List.length_map, Nat.beq, dcall, dcallP, List.mapM_cons, St.snapFn, St.snap, St.layAll, St.lay, St.freezeArg, St.freezeArg1]
  · have hlm : l.length = m.length := by simp at hb; omega
    rw [loop30 hp hs hs2 hlm hl]
    rotate_left
    · rfl
    · simp only [eqF, decide_eq_true hlm, Bool.true_and]
      cases (l.zip m).all (fun q => eq q.1 q.2) <;> simp only [vAll, List.foldl_nil, List.foldl_cons, resultsOf, resultList, resultOf, zBV, splice, PV.remade, St.freezeAt, St.freezeBox, St.freezeCap, PV.single, plain, act, dstOf, if_true, if_false, reduceCtorEq, St.get, St.put, St.pvOf, St.putRow, St.consume, St.freeze, St.row, St.elems, St.grab, St.takeRow, St.setRow, St.place, St.optPv, St.setCell, St.setCellRow, binPV, intBin, unPV, BV.val, Nat.reduceEqDiff, bound, consumeAll, buildParts, capsOf, capOf, List.append_nil, Nat.reduceAdd, Nat.reduceLT, Nat.reduceLeDiff, beq_self_eq_true, List.length_map, Nat.beq, dcall, dcallP, List.mapM_cons, St.snapFn, St.snap, St.layAll, St.lay, St.freezeArg, St.freezeArg1]
  · have : ¬ l.length = m.length := fun e => by rw [e] at hb; simp at hb
    simp only [eqF, decide_eq_false this, vAll, List.foldl_nil, List.foldl_cons, resultsOf, resultList, resultOf, zBV, splice, PV.remade, St.freezeAt, St.freezeBox, St.freezeCap, PV.single, plain, act, dstOf, if_true, if_false, reduceCtorEq, St.get, St.put, St.pvOf, St.putRow, St.consume, St.freeze, St.row, St.elems, St.grab, St.takeRow, St.setRow, St.place, St.optPv, St.setCell, St.setCellRow, binPV, intBin, unPV, BV.val, Nat.reduceEqDiff, bound, consumeAll, buildParts, capsOf, capOf, List.append_nil, Nat.reduceAdd, Nat.reduceLT, Nat.reduceLeDiff, beq_self_eq_true, List.length_map, Nat.beq, dcall, dcallP, List.mapM_cons, St.snapFn, St.snap, St.layAll, St.lay, St.freezeArg, St.freezeArg1]
--+
theorem cal40 {es : List PV} (hl : es.length ≤ lim) : cal env 40 [.list 8 es] = some [(.list 8 es, true)] := (cal_ext env40).trans (if_pos ⟨rfl, hl⟩)
end Go.Proofs.Ytncobemfpammfaa.V

namespace Go.Proofs.Ytncobemfpammfaa.V

def sizesErr (l : List Int) : Int := if l.length < 1 ∨ 8 < l.length then 6 else if l.any (fun n => decide (n < 1) || decide (n > 4096)) then 2 else 0
def imSizes (im : Img) : List Int := im.map fun v => (v.length : Int)
def imCheck (im : Img) : Int := sizesErr (imSizes im)
def fitsErr (im : Img) (w : Wrt) : Int :=
  if w.volume < 0 ∨ (im.length : Int) ≤ w.volume then 7 else if w.data.length = 0 then 1
  else if w.start < 0 ∨ ((im.getD w.volume.toNat []).length : Int) - w.data.length < w.start then 2 else 0
theorem take_map_succ {α β : Type} (f : α → β) {l : List α} {i : Nat} (h : i < l.length) : (l.take i).map f ++ [f l[i]] = (l.take (i + 1)).map f := by
  rw [List.take_succ, List.getElem?_eq_getElem h, List.map_append]; rfl
theorem loop81 {α : Type} {enc : α → PV} {l : List α} {g : α → Int} {gf : Nat} {caps : List PV} (hp : ∀ x ∈ l, cal env gf (enc x :: caps) = some [(eI (g x), false)]) (hs : ∀ x, part (enc x).cells 0 none = some (enc x)) (hs3 : ∀ x, (enc x).cells.length = 1) (hl : l.length ≤ lim)
   {st : St} (h : st.head [0, 1, 5, 10, 11, 12, 13, 22] st.boxes.length = some ⟨[.pv (.list 1 (l.map enc)), .pv (.func gf caps), .any, .any, .any, .row 1 [], .any, .any, .any, .any, .any, .pv (.list 1 (l.map enc)), .pv (.int .i64 l.length), .pv (.int .i64 (0 : Nat)), .any, .any, .any, .any, .any, .any, .any, .any, .any, .any, .any], [], [], none⟩) :
   den env fn81_l1 st = some (.normal, ⟨[.any, .any, .any, .any, .any, .row 1 (l.map fun x => eI (g x)), .any, .any, .any, .any, .any, .any, .any, .any, .any, .any, .any, .any, .any, .any, .any, .any, .any, .any, .any], [], [], none⟩) := by
  unfold fn81_l1
  rw [clean_up l.length (fun i => ⟨[.pv (.list 1 (l.map enc)), .pv (.func gf caps), .any, .any, .any, .row 1 ((l.take i).map fun x => eI (g x)), .any, .any, .any, .any, .any, .pv (.list 1 (l.map enc)), .pv (.int .i64 l.length), .pv (.int .i64 i), .any, .any, .any, .any, .any, .any, .any, .any, .any, .any, .any], [], [], none⟩)
    (fun i => some (.normal, ⟨[.any, .any, .any, .any, .any, .row 1 (l.map fun x => eI (g x)), .any, .any, .any, .any, .any, .any, .any, .any, .any, .any, .any, .any, .any, .any, .any, .any, .any, .any, .any], [], [], none⟩)) h (fun _ => rfl) (fun _ => rfl) ?_ ?_]
  · intro i rb hi ih
    have hi1 := i64_next hi hl
    have F1 : ((i : Int) < (l.length : Int)) = True := eq_true (by omega)
    have F2 : ((l.take i).length + 1 ≤ lim) = True := eq_true (by rw [List.length_take]; omega)
    have hpi : cal env gf (enc l[i] :: caps) = some [((PV.int .i64 (g l[i])), false)] := hp _ (List.getElem_mem hi)
    try simp only [eExt] at hpi
    simp only [fn81_b0, F1, F2, index_nat hi, List.getElem?_map, List.getElem?_eq_getElem hi,  hpi, hs, hs3, List.isEmpty_nil, val_pvs, frozen_pvs, msnoc_len, msnoc_get, msnoc_set, msnoc_take, Int.le_refl, take_map_all, Nat.le_refl, St.freezeRows, BV.frozen, List.take_length, List.take_append_drop, z_repl_zero, Int.toNat_zero, true_and, and_true, and_self, eq_self, z_take_zero, List.drop_nil, List.take_nil, vAll, List.foldl_nil, List.foldl_cons, resultsOf, resultList, resultOf, zBV, splice, PV.remade, St.freezeAt, St.freezeBox, St.freezeCap, PV.single, plain, act, dstOf, if_true, if_false, reduceCtorEq, St.get, St.put, St.pvOf, St.putRow, St.consume, St.freeze, St.row, St.elems, St.grab, St.takeRow, St.setRow, St.place, St.optPv, St.setCell, St.setCellRow, binPV, intBin, unPV, BV.val, Nat.reduceEqDiff, bound, consumeAll, buildParts, capsOf, capOf, List.append_nil, Nat.reduceAdd, Nat.reduceLT, Nat.reduceLeDiff, beq_self_eq_true, List.length_map, Nat.beq, dcall, dcallP, List.mapM_cons, St.snapFn, St.snap, St.layAll, St.lay, St.freezeArg, St.freezeArg1]
    rw [ih _ (by simp only [hi1]; rw [← take_map_succ _ hi]; rfl)]
  · intro rb
    simp only [fn81_b0, Int.lt_irrefl, vAll, List.foldl_nil, List.foldl_cons, resultsOf, resultList, resultOf, zBV, splice, PV.remade, St.freezeAt, St.freezeBox, St.freezeCap, PV.single, plain, act, dstOf, if_true, if_false, reduceCtorEq, St.get, St.put, St.pvOf, St.putRow, St.consume, St.freeze, St.row, St.elems, St.grab, St.takeRow, St.setRow, St.place, St.optPv, St.setCell, St.setCellRow, binPV, intBin, unPV, BV.val, Nat.reduceEqDiff, bound, consumeAll, buildParts, capsOf, capOf, List.append_nil, Nat.reduceAdd, Nat.reduceLT, Nat.reduceLeDiff, beq_self_eq_true, List.length_map, Nat.beq, dcall, dcallP, List.mapM_cons, St.snapFn, St.snap, St.layAll, St.lay, St.freezeArg, St.freezeArg1]
    rw [List.take_length]
    rfl
theorem cal81 {α : Type} {enc : α → PV} {l : List α} {g : α → Int} {gf : Nat} {caps : List PV} (hp : ∀ x ∈ l, cal env gf (enc x :: caps) = some [(eI (g x), false)]) (hs : ∀ x, part (enc x).cells 0 none = some (enc x)) (hs3 : ∀ x, (enc x).cells.length = 1) (hl : l.length ≤ lim) :
    cal env 81 [.list 1 (l.map enc), .func gf caps] = some [(.list 1 (l.map fun x => eI (g x)), true)] := by
  rw [cal_code env81 rfl]; simp only [fn81]; simp only [start, z_map_cons, z_map_nil, z_len_cons, z_len_nil, z_repl_zero, z_repl_succ, z_cons_app, z_nil_app, Nat.reduceAdd, Nat.reduceSub]
  have F1 : ((l.length : Int) ≤ (lim : Int)) = True := eq_true (by omega)
  have F2 : ((0 : Int) ≤ (l.length : Int)) = True := eq_true (by omega)
  simp only [F1, F2, Int.le_refl, List.isEmpty_nil, val_pvs, frozen_pvs, msnoc_len, msnoc_get, msnoc_set, msnoc_take, Int.le_refl, take_map_all, Nat.le_refl, St.freezeRows, BV.frozen, List.take_length, List.take_append_drop, z_repl_zero, Int.toNat_zero, true_and, and_true, and_self, eq_self, z_take_zero, List.drop_nil, List.take_nil, vAll, List.foldl_nil, List.foldl_cons, resultsOf, resultList, resultOf, zBV, splice, PV.remade, St.freezeAt, St.freezeBox, St.freezeCap, PV.single, plain, act, dstOf, if_true, if_false, reduceCtorEq, St.get, St.put, St.pvOf, St.putRow, St.consume, St.freeze, St.row, St.elems, St.grab, St.takeRow, St.setRow, St.place, St.optPv, St.setCell, St.setCellRow, binPV, intBin, unPV, BV.val, Nat.reduceEqDiff, bound, consumeAll, buildParts, capsOf, capOf, List.append_nil, Nat.reduceAdd, Nat.reduceLT, Nat.reduceLeDiff, beq_self_eq_true, List.length_map, Nat.beq, dcall, dcallP, List.mapM_cons, St.snapFn, St.snap, St.layAll, St.lay, St.freezeArg, St.freezeArg1]
  rw [loop81 hp hs hs3 hl]
  rotate_left
  · rfl
  · simp only [List.isEmpty_nil, val_pvs, frozen_pvs, msnoc_len, msnoc_get, msnoc_set, msnoc_take, Int.le_refl, take_map_all, Nat.le_refl, St.freezeRows, BV.frozen, List.take_length, List.take_append_drop, z_repl_zero, Int.toNat_zero, true_and, and_true, and_self, eq_self, z_take_zero, List.drop_nil, List.take_nil, vAll, List.foldl_nil, List.foldl_cons, resultsOf, resultList, resultOf, zBV, splice, PV.remade, St.freezeAt, St.freezeBox, St.freezeCap, PV.single, plain, act, dstOf, if_true, if_false, reduceCtorEq, St.get, St.put, St.pvOf, St.putRow, St.consume, St.freeze, St.row, St.elems, St.grab, St.takeRow, St.setRow, St.place, St.optPv, St.setCell, St.setCellRow, binPV, intBin, unPV, BV.val, Nat.reduceEqDiff, bound, consumeAll, buildParts, capsOf, capOf, List.append_nil, Nat.reduceAdd, Nat.reduceLT, Nat.reduceLeDiff, beq_self_eq_true, List.length_map, Nat.beq, dcall, dcallP, List.mapM_cons, St.snapFn, St.snap, St.layAll, St.lay, St.freezeArg, St.freezeArg1]
theorem cal80 {x : Int} : cal env 80 [eI x] = some [(.bool (decide (x < 1) || decide (x > 4096)), false)] := by
  unfold eI
  rw [cal_code env80 rfl]; simp only [fn80]; simp only [start, z_map_cons, z_map_nil, z_len_cons, z_len_nil, z_repl_zero, z_repl_succ, z_cons_app, z_nil_app, Nat.reduceAdd, Nat.reduceSub]
  simp only [ List.isEmpty_nil, val_pvs, frozen_pvs, msnoc_len, msnoc_get, msnoc_set, msnoc_take, Int.le_refl, take_map_all, Nat.le_refl, St.freezeRows, BV.frozen, List.take_length, List.take_append_drop, z_repl_zero, Int.toNat_zero, true_and, and_true, and_self, eq_self, z_take_zero, List.drop_nil, List.take_nil, vAll, List.foldl_nil, List.foldl_cons, resultsOf, resultList, resultOf, zBV, splice, PV.remade, St.freezeAt, St.freezeBox, St.freezeCap, PV.single, plain, act, dstOf, if_true, if_false, reduceCtorEq, St.get, St.put, St.pvOf, St.putRow, St.consume, St.freeze, St.row, St.elems, St.grab, St.takeRow, St.setRow, St.place, St.optPv, St.setCell, St.setCellRow, binPV, intBin, unPV, BV.val, Nat.reduceEqDiff, bound, consumeAll, buildParts, capsOf, capOf, List.append_nil, Nat.reduceAdd, Nat.reduceLT, Nat.reduceLeDiff, beq_self_eq_true, List.length_map, Nat.beq, dcall, dcallP, List.mapM_cons, St.snapFn, St.snap, St.layAll, St.lay, St.freezeArg, St.freezeArg1]
  (try simp only [bcase_bind, bcase_map, tail_bcase]); refine bcase_split (fun hb => ?_) (fun hb => ?_) <;> try simp only [hb,  List.isEmpty_nil, val_pvs, frozen_pvs, msnoc_len, msnoc_get, msnoc_set, msnoc_take, Int.le_refl, take_map_all, Nat.le_refl, St.freezeRows, BV.frozen, List.take_length, List.take_append_drop, z_repl_zero, Int.toNat_zero, true_and, and_true, and_self, eq_self, z_take_zero, List.drop_nil, List.take_nil, vAll, List.foldl_nil, List.foldl_cons, resultsOf, resultList, resultOf, zBV, splice, PV.remade, St.freezeAt, St.freezeBox, St.freezeCap, PV.single, plain, act, dstOf, if_true, if_false, reduceCtorEq, St.get, St.put, St.pvOf, St.putRow, St.consume, St.freeze, St.row, St.elems, St.grab, St.takeRow, St.setRow, St.place, St.optPv, St.setCell, St.setCellRow, binPV, intBin, unPV, BV.val, Nat.reduceEqDiff, bound, consumeAll, buildParts, capsOf, capOf, List.append_nil, Nat.reduceAdd, Nat.reduceLT, Nat.reduceLeDiff, beq_self_eq_true, List.length_map, Nat.beq, dcall, dcallP, List.mapM_cons, St.snapFn, St.snap, St.layAll, St.lay, St.freezeArg, St.freezeArg1]
theorem cal61 {l : List Int} (hl : l.length ≤ lim) : cal env 61 [.list 1 (l.map eI)] = some [(.int .i64 (sizesErr l), false)] := by
  have e1 := cal79 (l := l) (enc := eI) (fun x _ => cal80 (x := x)) (fun x => rfl) hl
  rw [cal_code env61 rfl]; simp only [fn61]; simp only [start, z_map_cons, z_map_nil, z_len_cons, z_len_nil, z_repl_zero, z_repl_succ, z_cons_app, z_nil_app, Nat.reduceAdd, Nat.reduceSub]
  simp only [e1, List.isEmpty_nil, val_pvs, frozen_pvs, msnoc_len, msnoc_get, msnoc_set, msnoc_take, Int.le_refl, take_map_all, Nat.le_refl, St.freezeRows, BV.frozen, List.take_length, List.take_append_drop, z_repl_zero, Int.toNat_zero, true_and, and_true, and_self, eq_self, z_take_zero, List.drop_nil, List.take_nil, vAll, List.foldl_nil, List.foldl_cons, resultsOf, resultList, resultOf, zBV, splice, PV.remade, St.freezeAt, St.freezeBox, St.freezeCap, PV.single, plain, act, dstOf, if_true, if_false, reduceCtorEq, St.get, St.put, St.pvOf, St.putRow, St.consume, St.freeze, St.row, St.elems, St.grab, St.takeRow, St.setRow, St.place, St.optPv, St.setCell, St.setCellRow, binPV, intBin, unPV, BV.val, Nat.reduceEqDiff, bound, consumeAll, buildParts, capsOf, capOf, List.append_nil, Nat.reduceAdd, Nat.reduceLT, Nat.reduceLeDiff, beq_self_eq_true, List.length_map, Nat.beq, dcall, dcallP, List.mapM_cons, St.snapFn, St.snap, St.layAll, St.lay, St.freezeArg, St.freezeArg1]
  repeat' ((try simp only [bcase_bind, bcase_map, tail_bcase]); refine bcase_split (fun hb => ?_) (fun hb => ?_) <;> try simp only [hb, e1, List.isEmpty_nil, val_pvs, frozen_pvs, msnoc_len, msnoc_get, msnoc_set, msnoc_take, Int.le_refl, take_map_all, Nat.le_refl, St.freezeRows, BV.frozen, List.take_length, List.take_append_drop, z_repl_zero, Int.toNat_zero, true_and, and_true, and_self, eq_self, z_take_zero, List.drop_nil, List.take_nil, vAll, List.foldl_nil, List.foldl_cons, resultsOf, resultList, resultOf, zBV, splice, PV.remade, St.freezeAt, St.freezeBox, St.freezeCap, PV.single, plain, act, dstOf, if_true, if_false, reduceCtorEq, St.get, St.put, St.pvOf, St.putRow, St.consume, St.freeze, St.row, St.elems, St.grab, St.takeRow, St.setRow, St.place, St.optPv, St.setCell, St.setCellRow, binPV, intBin, unPV, BV.val, Nat.reduceEqDiff, bound, consumeAll, buildParts, capsOf, capOf, List.append_nil, Nat.reduceAdd, Nat.reduceLT, Nat.reduceLeDiff, beq_self_eq_true, List.length_map, Nat.beq, dcall, dcallP, List.mapM_cons, St.snapFn, St.snap, St.layAll, St.lay, St.freezeArg, St.freezeArg1])
  all_goals grind [sizesErr]
theorem cal82 {v : List Sec} : cal env 82 [eSecs v] = some [(eI v.length, false)] := by
  unfold eSecs eI
  rw [cal_code env82 rfl]; simp only [fn82]; simp only [start, z_map_cons, z_map_nil, z_len_cons, z_len_nil, z_repl_zero, z_repl_succ, z_cons_app, z_nil_app, Nat.reduceAdd, Nat.reduceSub]
  simp only [ List.isEmpty_nil, val_pvs, frozen_pvs, msnoc_len, msnoc_get, msnoc_set, msnoc_take, Int.le_refl, take_map_all, Nat.le_refl, St.freezeRows, BV.frozen, List.take_length, List.take_append_drop, z_repl_zero, Int.toNat_zero, true_and, and_true, and_self, eq_self, z_take_zero, List.drop_nil, List.take_nil, vAll, List.foldl_nil, List.foldl_cons, resultsOf, resultList, resultOf, zBV, splice, PV.remade, St.freezeAt, St.freezeBox, St.freezeCap, PV.single, plain, act, dstOf, if_true, if_false, reduceCtorEq, St.get, St.put, St.pvOf, St.putRow, St.consume, St.freeze, St.row, St.elems, St.grab, St.takeRow, St.setRow, St.place, St.optPv, St.setCell, St.setCellRow, binPV, intBin, unPV, BV.val, Nat.reduceEqDiff, bound, consumeAll, buildParts, capsOf, capOf, List.append_nil, Nat.reduceAdd, Nat.reduceLT, Nat.reduceLeDiff, beq_self_eq_true, List.length_map, Nat.beq, dcall, dcallP, List.mapM_cons, St.snapFn, St.snap, St.layAll, St.lay, St.freezeArg, St.freezeArg1]
theorem cal62 {im : Img} (hl : im.length ≤ lim) : cal env 62 [.list 1 (im.map eSecs)] = some [(.list 1 ((imSizes im).map eI), true)] := by
  have e1 := cal81 (enc := eSecs) (l := im) (fun x _ => cal82 (v := x)) (fun x => rfl) (fun x => rfl) hl
  rw [cal_code env62 rfl]; simp only [fn62]; simp only [start, z_map_cons, z_map_nil, z_len_cons, z_len_nil, z_repl_zero, z_repl_succ, z_cons_app, z_nil_app, Nat.reduceAdd, Nat.reduceSub]
  simp only [e1, List.isEmpty_nil, val_pvs, frozen_pvs, msnoc_len, msnoc_get, msnoc_set, msnoc_take, Int.le_refl, take_map_all, Nat.le_refl, St.freezeRows, BV.frozen, List.take_length, List.take_append_drop, z_repl_zero, Int.toNat_zero, true_and, and_true, and_self, eq_self, z_take_zero, List.drop_nil, List.take_nil, vAll, List.foldl_nil, List.foldl_cons, resultsOf, resultList, resultOf, zBV, splice, PV.remade, St.freezeAt, St.freezeBox, St.freezeCap, PV.single, plain, act, dstOf, if_true, if_false, reduceCtorEq, St.get, St.put, St.pvOf, St.putRow, St.consume, St.freeze, St.row, St.elems, St.grab, St.takeRow, St.setRow, St.place, St.optPv, St.setCell, St.setCellRow, binPV, intBin, unPV, BV.val, Nat.reduceEqDiff, bound, consumeAll, buildParts, capsOf, capOf, List.append_nil, Nat.reduceAdd, Nat.reduceLT, Nat.reduceLeDiff, beq_self_eq_true, List.length_map, Nat.beq, dcall, dcallP, List.mapM_cons, St.snapFn, St.snap, St.layAll, St.lay, St.freezeArg, St.freezeArg1]
  simp [imSizes]
theorem cal38 {im : Img} (hl : im.length ≤ lim) : cal env 38 [.list 1 (im.map eSecs)] = some [(.int .i64 (imCheck im), false)] := by
  have h2 : (imSizes im).length ≤ lim := by simpa [imSizes] using hl
  have e1 := cal62 hl
  have e2 := cal61 h2
  rw [cal_code env38 rfl]; simp only [fn38]; simp only [start, z_map_cons, z_map_nil, z_len_cons, z_len_nil, z_repl_zero, z_repl_succ, z_cons_app, z_nil_app, Nat.reduceAdd, Nat.reduceSub]
  simp only [e1, e2, List.isEmpty_nil, val_pvs, frozen_pvs, msnoc_len, msnoc_get, msnoc_set, msnoc_take, Int.le_refl, take_map_all, Nat.le_refl, St.freezeRows, BV.frozen, List.take_length, List.take_append_drop, z_repl_zero, Int.toNat_zero, true_and, and_true, and_self, eq_self, z_take_zero, List.drop_nil, List.take_nil, vAll, List.foldl_nil, List.foldl_cons, resultsOf, resultList, resultOf, zBV, splice, PV.remade, St.freezeAt, St.freezeBox, St.freezeCap, PV.single, plain, act, dstOf, if_true, if_false, reduceCtorEq, St.get, St.put, St.pvOf, St.putRow, St.consume, St.freeze, St.row, St.elems, St.grab, St.takeRow, St.setRow, St.place, St.optPv, St.setCell, St.setCellRow, binPV, intBin, unPV, BV.val, Nat.reduceEqDiff, bound, consumeAll, buildParts, capsOf, capOf, List.append_nil, Nat.reduceAdd, Nat.reduceLT, Nat.reduceLeDiff, beq_self_eq_true, List.length_map, Nat.beq, dcall, dcallP, List.mapM_cons, St.snapFn, St.snap, St.layAll, St.lay, St.freezeArg, St.freezeArg1]
  rfl
theorem eqF_eq {α : Type} [DecidableEq α] : ∀ (l m : List α), eqF (fun x y => decide (x = y)) l m = decide (l = m)
  | [], [] => by simp [eqF]
  | [], _ :: _ => by simp [eqF]
  | _ :: _, [] => by simp [eqF]
  | x :: l, y :: m => by
    have := eqF_eq l m
    simp only [eqF, List.length_cons, List.zip_cons_cons, List.all_cons, List.cons.injEq, Bool.decide_and] at *
    rw [← this]
    by_cases h : l.length = m.length <;> simp [h]
end Go.Proofs.Ytncobemfpammfaa.V

namespace Go.Proofs.Ytncobemfpammfaa.V

def few7 (im : Img) : Bool := decide (im.length ≤ 9) && im.all fun v => decide (v.length ≤ 24)
theorem loop6 {im : Img} (hl : im.length ≤ lim) {st : St} (h : st.head [0, 3] st.boxes.length = some ⟨[.pv (.list 1 (im.map eSecs)), .any, .any, .pv (.int .i64 (0 : Nat)), .any, .any, .any, .any, .any, .any, .any, .any, .any, .any, .any, .any, .any, .any, .any], [], [], none⟩) :
   den env fn6_l1 st = if im.all (fun v => decide (v.length ≤ 24)) then some (.normal, ⟨[.any, .any, .any, .any, .any, .any, .any, .any, .any, .any, .any, .any, .any, .any, .any, .any, .any, .any, .any], [], [], none⟩) else some (.ret, ⟨[.any, .any, .pv (.bool false), .any, .any, .any, .any, .any, .any, .any, .any, .any, .any, .any, .any, .any, .any, .any, .any], [], [], none⟩) := by
  unfold fn6_l1
  rw [ clean_up (env := env) (im.length) (fun i => ⟨[.pv (.list 1 (im.map eSecs)), .any, .any, .pv (.int .i64 i), .any, .any, .any, .any, .any, .any, .any, .any, .any, .any, .any, .any, .any, .any, .any], [], [], none⟩) (fun i => if (im.drop i).all (fun v => decide (v.length ≤ 24)) then some (.normal, ⟨[.any, .any, .any, .any, .any, .any, .any, .any, .any, .any, .any, .any, .any, .any, .any, .any, .any, .any, .any], [], [], none⟩) else some (.ret, ⟨[.any, .any, .pv (.bool false), .any, .any, .any, .any, .any, .any, .any, .any, .any, .any, .any, .any, .any, .any, .any, .any], [], [], none⟩)) h (fun _ => rfl) (fun _ => rfl) ?_ ?_]
  · first | rfl | simp only [List.drop_zero, List.take_zero, List.map_nil, Nat.zero_add, List.nil_append, List.foldl_nil]
  · intro i rb hi ih

    have hi1 := i64_next hi hl
    have F1 : ((i : Int) < (im.length : Int)) = True := eq_true (by omega)
    simp only [fn6_b0, F1, eSecs, index_nat hi, List.getElem?_map, List.getElem?_eq_getElem hi, List.isEmpty_nil, val_pvs, frozen_pvs, msnoc_len, msnoc_get, msnoc_set, msnoc_take, Int.le_refl, take_map_all, Nat.le_refl, St.freezeRows, BV.frozen, List.take_length, List.take_append_drop, z_repl_zero, Int.toNat_zero, true_and, and_true, and_self, eq_self, z_take_zero, List.drop_nil, List.take_nil, vAll, List.foldl_nil, List.foldl_cons, resultsOf, resultList, resultOf, zBV, splice, PV.remade, St.freezeAt, St.freezeBox, St.freezeCap, PV.single, plain, act, dstOf, if_true, if_false, reduceCtorEq, St.get, St.put, St.pvOf, St.putRow, St.consume, St.freeze, St.row, St.elems, St.grab, St.takeRow, St.setRow, St.place, St.optPv, St.setCell, St.setCellRow, binPV, intBin, unPV, BV.val, Nat.reduceEqDiff, bound, consumeAll, buildParts, capsOf, capOf, List.append_nil, Nat.reduceAdd, Nat.reduceLT, Nat.reduceLeDiff, beq_self_eq_true, List.length_map, Nat.beq, dcall, dcallP, List.mapM_cons, St.snapFn, St.snap, St.layAll, St.lay, St.freezeArg, St.freezeArg1]
    rw [List.drop_eq_getElem_cons hi, List.all_cons]
    (try simp only [bcase_bind, bcase_map, tail_bcase]); refine bcase_split (fun hb => ?_) (fun hb => ?_) <;> try simp only [hb,  List.isEmpty_nil, val_pvs, frozen_pvs, msnoc_len, msnoc_get, msnoc_set, msnoc_take, Int.le_refl, take_map_all, Nat.le_refl, St.freezeRows, BV.frozen, List.take_length, List.take_append_drop, z_repl_zero, Int.toNat_zero, true_and, and_true, and_self, eq_self, z_take_zero, List.drop_nil, List.take_nil, vAll, List.foldl_nil, List.foldl_cons, resultsOf, resultList, resultOf, zBV, splice, PV.remade, St.freezeAt, St.freezeBox, St.freezeCap, PV.single, plain, act, dstOf, if_true, if_false, reduceCtorEq, St.get, St.put, St.pvOf, St.putRow, St.consume, St.freeze, St.row, St.elems, St.grab, St.takeRow, St.setRow, St.place, St.optPv, St.setCell, St.setCellRow, binPV, intBin, unPV, BV.val, Nat.reduceEqDiff, bound, consumeAll, buildParts, capsOf, capOf, List.append_nil, Nat.reduceAdd, Nat.reduceLT, Nat.reduceLeDiff, beq_self_eq_true, List.length_map, Nat.beq, dcall, dcallP, List.mapM_cons, St.snapFn, St.snap, St.layAll, St.lay, St.freezeArg, St.freezeArg1]
    · rw [decide_eq_false (by simp at hb; omega)]; rfl
    · rw [ih _ (by simp only [hi1]; rfl), decide_eq_true (show im[i].length ≤ 24 by simp at hb; omega), Bool.true_and]
  · intro rb

    simp only [fn6_b0, Int.lt_irrefl,  List.isEmpty_nil, val_pvs, frozen_pvs, msnoc_len, msnoc_get, msnoc_set, msnoc_take, Int.le_refl, take_map_all, Nat.le_refl, St.freezeRows, BV.frozen, List.take_length, List.take_append_drop, z_repl_zero, Int.toNat_zero, true_and, and_true, and_self, eq_self, z_take_zero, List.drop_nil, List.take_nil, vAll, List.foldl_nil, List.foldl_cons, resultsOf, resultList, resultOf, zBV, splice, PV.remade, St.freezeAt, St.freezeBox, St.freezeCap, PV.single, plain, act, dstOf, if_true, if_false, reduceCtorEq, St.get, St.put, St.pvOf, St.putRow, St.consume, St.freeze, St.row, St.elems, St.grab, St.takeRow, St.setRow, St.place, St.optPv, St.setCell, St.setCellRow, binPV, intBin, unPV, BV.val, Nat.reduceEqDiff, bound, consumeAll, buildParts, capsOf, capOf, List.append_nil, Nat.reduceAdd, Nat.reduceLT, Nat.reduceLeDiff, beq_self_eq_true, List.length_map, Nat.beq, dcall, dcallP, List.mapM_cons, St.snapFn, St.snap, St.layAll, St.lay, St.freezeArg, St.freezeArg1]
    rw [List.drop_length]
    rfl

theorem cal6 {im : Img} : cal env 6 [.list 1 (im.map eSecs)] = some [(.bool (few7 im), false)] := by
  rw [cal_code env6 rfl]; simp only [fn6]; simp only [start, z_map_cons, z_map_nil, z_len_cons, z_len_nil, z_repl_zero, z_repl_succ, z_cons_app, z_nil_app, Nat.reduceAdd, Nat.reduceSub]
  simp only [ List.isEmpty_nil, val_pvs, frozen_pvs, msnoc_len, msnoc_get, msnoc_set, msnoc_take, Int.le_refl, take_map_all, Nat.le_refl, St.freezeRows, BV.frozen, List.take_length, List.take_append_drop, z_repl_zero, Int.toNat_zero, true_and, and_true, and_self, eq_self, z_take_zero, List.drop_nil, List.take_nil, vAll, List.foldl_nil, List.foldl_cons, resultsOf, resultList, resultOf, zBV, splice, PV.remade, St.freezeAt, St.freezeBox, St.freezeCap, PV.single, plain, act, dstOf, if_true, if_false, reduceCtorEq, St.get, St.put, St.pvOf, St.putRow, St.consume, St.freeze, St.row, St.elems, St.grab, St.takeRow, St.setRow, St.place, St.optPv, St.setCell, St.setCellRow, binPV, intBin, unPV, BV.val, Nat.reduceEqDiff, bound, consumeAll, buildParts, capsOf, capOf, List.append_nil, Nat.reduceAdd, Nat.reduceLT, Nat.reduceLeDiff, beq_self_eq_true, List.length_map, Nat.beq, dcall, dcallP, List.mapM_cons, St.snapFn, St.snap, St.layAll, St.lay, St.freezeArg, St.freezeArg1]
  (try simp only [bcase_bind, bcase_map, tail_bcase]); refine bcase_split (fun hb => ?_) (fun hb => ?_) <;> try simp only [hb,  List.isEmpty_nil, val_pvs, frozen_pvs, msnoc_len, msnoc_get, msnoc_set, msnoc_take, Int.le_refl, take_map_all, Nat.le_refl, St.freezeRows, BV.frozen, List.take_length, List.take_append_drop, z_repl_zero, Int.toNat_zero, true_and, and_true, and_self, eq_self, z_take_zero, List.drop_nil, List.take_nil, vAll, List.foldl_nil, List.foldl_cons, resultsOf, resultList, resultOf, zBV, splice, PV.remade, St.freezeAt, St.freezeBox, St.freezeCap, PV.single, plain, act, dstOf, if_true, if_false, reduceCtorEq, St.get, St.put, St.pvOf, St.putRow, St.consume, St.freeze, St.row, St.elems, St.grab, St.takeRow, St.setRow, St.place, St.optPv, St.setCell, St.setCellRow, binPV, intBin, unPV, BV.val, Nat.reduceEqDiff, bound, consumeAll, buildParts, capsOf, capOf, List.append_nil, Nat.reduceAdd, Nat.reduceLT, Nat.reduceLeDiff, beq_self_eq_true, List.length_map, Nat.beq, dcall, dcallP, List.mapM_cons, St.snapFn, St.snap, St.layAll, St.lay, St.freezeArg, St.freezeArg1]
  · simp at hb
    rw [few7, decide_eq_false (by omega)]; rfl
  · have hl : im.length ≤ 9 := by simp at hb; omega
    rw [loop6 (im := im) (by unfold lim; omega)]
    rotate_left
    · rfl
    · rw [few7, decide_eq_true hl, Bool.true_and]
      cases im.all (fun v => decide (v.length ≤ 24)) <;> simp only [vAll, List.foldl_nil, List.foldl_cons, resultsOf, resultList, resultOf, zBV, splice, PV.remade, St.freezeAt, St.freezeBox, St.freezeCap, PV.single, plain, act, dstOf, if_true, if_false, reduceCtorEq, St.get, St.put, St.pvOf, St.putRow, St.consume, St.freeze, St.row, St.elems, St.grab, St.takeRow, St.setRow, St.place, St.optPv, St.setCell, St.setCellRow, binPV, intBin, unPV, BV.val, Nat.reduceEqDiff, bound, consumeAll, buildParts, capsOf, capOf, List.append_nil, Nat.reduceAdd, Nat.reduceLT, Nat.reduceLeDiff, beq_self_eq_true, List.length_map, Nat.beq, dcall, dcallP, List.mapM_cons, St.snapFn, St.snap, St.layAll, St.lay, St.freezeArg, St.freezeArg1]
theorem loop44 {a b : List Sec} (hl : a.length ≤ lim) (hab : a.length = b.length) {st : St} (h : st.head [0, 1, 5] st.boxes.length = some ⟨[.pv (.list 8 (a.map eSec)), .pv (.list 8 (b.map eSec)), .any, .any, .any, .pv (.int .i64 (0 : Nat)), .any, .any, .any, .any, .any, .any, .any, .any, .any, .any, .any, .any, .any, .any, .any, .any, .any, .any, .any, .any], [], [], none⟩) :
   den env fn44_l1 st = if a = b then some (.normal, ⟨[.any, .any, .any, .any, .any, .any, .any, .any, .any, .any, .any, .any, .any, .any, .any, .any, .any, .any, .any, .any, .any, .any, .any, .any, .any, .any], [], [], none⟩) else some (.ret, ⟨[.any, .any, .any, .any, .pv (.bool false), .any, .any, .any, .any, .any, .any, .any, .any, .any, .any, .any, .any, .any, .any, .any, .any, .any, .any, .any, .any, .any], [], [], none⟩) := by
  unfold fn44_l1
  rw [ clean_up (env := env) (a.length) (fun i => ⟨[.pv (.list 8 (a.map eSec)), .pv (.list 8 (b.map eSec)), .any, .any, .any, .pv (.int .i64 i), .any, .any, .any, .any, .any, .any, .any, .any, .any, .any, .any, .any, .any, .any, .any, .any, .any, .any, .any, .any], [], [], none⟩) (fun i => if a.drop i = b.drop i then some (.normal, ⟨[.any, .any, .any, .any, .any, .any, .any, .any, .any, .any, .any, .any, .any, .any, .any, .any, .any, .any, .any, .any, .any, .any, .any, .any, .any, .any], [], [], none⟩) else some (.ret, ⟨[.any, .any, .any, .any, .pv (.bool false), .any, .any, .any, .any, .any, .any, .any, .any, .any, .any, .any, .any, .any, .any, .any, .any, .any, .any, .any, .any, .any], [], [], none⟩)) h (fun _ => rfl) (fun _ => rfl) ?_ ?_]
  · first | rfl | simp only [List.drop_zero, List.take_zero, List.map_nil, Nat.zero_add, List.nil_append, List.foldl_nil]
  · intro i rb hi ih

    have hi1 := i64_next hi hl
    have hj : i < b.length := by omega
    have F1 : ((i : Int) < (a.length : Int)) = True := eq_true (by omega)
    simp only [fn44_b0, F1, eSec, index_nat hi, index_nat hj, List.getElem?_map, List.getElem?_eq_getElem hi, List.getElem?_eq_getElem hj, part_sec, secPV_length, eqCells_sec, List.isEmpty_nil, val_pvs, frozen_pvs, msnoc_len, msnoc_get, msnoc_set, msnoc_take, Int.le_refl, take_map_all, Nat.le_refl, St.freezeRows, BV.frozen, List.take_length, List.take_append_drop, z_repl_zero, Int.toNat_zero, true_and, and_true, and_self, eq_self, z_take_zero, List.drop_nil, List.take_nil, vAll, List.foldl_nil, List.foldl_cons, resultsOf, resultList, resultOf, zBV, splice, PV.remade, St.freezeAt, St.freezeBox, St.freezeCap, PV.single, plain, act, dstOf, if_true, if_false, reduceCtorEq, St.get, St.put, St.pvOf, St.putRow, St.consume, St.freeze, St.row, St.elems, St.grab, St.takeRow, St.setRow, St.place, St.optPv, St.setCell, St.setCellRow, binPV, intBin, unPV, BV.val, Nat.reduceEqDiff, bound, consumeAll, buildParts, capsOf, capOf, List.append_nil, Nat.reduceAdd, Nat.reduceLT, Nat.reduceLeDiff, beq_self_eq_true, List.length_map, Nat.beq, dcall, dcallP, List.mapM_cons, St.snapFn, St.snap, St.layAll, St.lay, St.freezeArg, St.freezeArg1]
    rw [List.drop_eq_getElem_cons hi, List.drop_eq_getElem_cons hj]
    (try simp only [bcase_bind, bcase_map, tail_bcase]); refine bcase_split (fun hb => ?_) (fun hb => ?_) <;> try simp only [hb,  List.isEmpty_nil, val_pvs, frozen_pvs, msnoc_len, msnoc_get, msnoc_set, msnoc_take, Int.le_refl, take_map_all, Nat.le_refl, St.freezeRows, BV.frozen, List.take_length, List.take_append_drop, z_repl_zero, Int.toNat_zero, true_and, and_true, and_self, eq_self, z_take_zero, List.drop_nil, List.take_nil, vAll, List.foldl_nil, List.foldl_cons, resultsOf, resultList, resultOf, zBV, splice, PV.remade, St.freezeAt, St.freezeBox, St.freezeCap, PV.single, plain, act, dstOf, if_true, if_false, reduceCtorEq, St.get, St.put, St.pvOf, St.putRow, St.consume, St.freeze, St.row, St.elems, St.grab, St.takeRow, St.setRow, St.place, St.optPv, St.setCell, St.setCellRow, binPV, intBin, unPV, BV.val, Nat.reduceEqDiff, bound, consumeAll, buildParts, capsOf, capOf, List.append_nil, Nat.reduceAdd, Nat.reduceLT, Nat.reduceLeDiff, beq_self_eq_true, List.length_map, Nat.beq, dcall, dcallP, List.mapM_cons, St.snapFn, St.snap, St.layAll, St.lay, St.freezeArg, St.freezeArg1]
    · rw [ih _ (by simp only [hi1]; rfl)]
      simp only [decide_eq_true_eq] at hb
      simp only [hb, List.cons.injEq, true_and]
    · simp only [decide_eq_false_iff_not] at hb
      simp only [hb, List.cons.injEq, false_and, if_false]
      rfl
  · intro rb

    simp only [fn44_b0, Int.lt_irrefl,  List.isEmpty_nil, val_pvs, frozen_pvs, msnoc_len, msnoc_get, msnoc_set, msnoc_take, Int.le_refl, take_map_all, Nat.le_refl, St.freezeRows, BV.frozen, List.take_length, List.take_append_drop, z_repl_zero, Int.toNat_zero, true_and, and_true, and_self, eq_self, z_take_zero, List.drop_nil, List.take_nil, vAll, List.foldl_nil, List.foldl_cons, resultsOf, resultList, resultOf, zBV, splice, PV.remade, St.freezeAt, St.freezeBox, St.freezeCap, PV.single, plain, act, dstOf, if_true, if_false, reduceCtorEq, St.get, St.put, St.pvOf, St.putRow, St.consume, St.freeze, St.row, St.elems, St.grab, St.takeRow, St.setRow, St.place, St.optPv, St.setCell, St.setCellRow, binPV, intBin, unPV, BV.val, Nat.reduceEqDiff, bound, consumeAll, buildParts, capsOf, capOf, List.append_nil, Nat.reduceAdd, Nat.reduceLT, Nat.reduceLeDiff, beq_self_eq_true, List.length_map, Nat.beq, dcall, dcallP, List.mapM_cons, St.snapFn, St.snap, St.layAll, St.lay, St.freezeArg, St.freezeArg1]
    rw [List.drop_length, hab, List.drop_length, if_pos rfl]
    rfl

theorem cal44 {a b : List Sec} (hl : a.length ≤ lim) : cal env 44 [.list 8 (a.map eSec), .list 8 (b.map eSec)] = some [(.bool (decide (a = b)), false)] := by
  rw [cal_code env44 rfl]; simp only [fn44]; simp only [start, z_map_cons, z_map_nil, z_len_cons, z_len_nil, z_repl_zero, z_repl_succ, z_cons_app, z_nil_app, Nat.reduceAdd, Nat.reduceSub]
  simp only [ List.isEmpty_nil, val_pvs, frozen_pvs, msnoc_len, msnoc_get, msnoc_set, msnoc_take, Int.le_refl, take_map_all, Nat.le_refl, St.freezeRows, BV.frozen, List.take_length, List.take_append_drop, z_repl_zero, Int.toNat_zero, true_and, and_true, and_self, eq_self, z_take_zero, List.drop_nil, List.take_nil, vAll, List.foldl_nil, List.foldl_cons, resultsOf, resultList, resultOf, zBV, splice, PV.remade, St.freezeAt, St.freezeBox, St.freezeCap, PV.single, plain, act, dstOf, if_true, if_false, reduceCtorEq, St.get, St.put, St.pvOf, St.putRow, St.consume, St.freeze, St.row, St.elems, St.grab, St.takeRow, St.setRow, St.place, St.optPv, St.setCell, St.setCellRow, binPV, intBin, unPV, BV.val, Nat.reduceEqDiff, bound, consumeAll, buildParts, capsOf, capOf, List.append_nil, Nat.reduceAdd, Nat.reduceLT, Nat.reduceLeDiff, beq_self_eq_true, List.length_map, Nat.beq, dcall, dcallP, List.mapM_cons, St.snapFn, St.snap, St.layAll, St.lay, St.freezeArg, St.freezeArg1]
  (try simp only [bcase_bind, bcase_map, tail_bcase]); refine bcase_split (fun hb => ?_) (fun hb => ?_) <;> try simp only [hb,  List.isEmpty_nil, val_pvs, frozen_pvs, msnoc_len, msnoc_get, msnoc_set, msnoc_take, Int.le_refl, take_map_all, Nat.le_refl, St.freezeRows, BV.frozen, List.take_length, List.take_append_drop, z_repl_zero, Int.toNat_zero, true_and, and_true, and_self, eq_self, z_take_zero, List.drop_nil, List.take_nil, vAll, List.foldl_nil, List.foldl_cons, resultsOf, resultList, resultOf, zBV, splice, PV.remade, St.freezeAt, St.freezeBox, St.freezeCap, PV.single, plain, act, dstOf, if_true, if_false, reduceCtorEq, St.get, St.put, St.pvOf, St.putRow, St.consume, St.freeze, St.row, St.elems, St.grab, St.takeRow, St.setRow, St.place, St.optPv, St.setCell, St.setCellRow, binPV, intBin, unPV, BV.val, Nat.reduceEqDiff, bound, consumeAll, buildParts, capsOf, capOf, List.append_nil, Nat.reduceAdd, Nat.reduceLT, Nat.reduceLeDiff, beq_self_eq_true, List.length_map, Nat.beq, dcall, dcallP, List.mapM_cons, St.snapFn, St.snap, St.layAll, St.lay, St.freezeArg, St.freezeArg1]
  · have hab : a.length = b.length := by simp at hb; omega
    rw [loop44 hl hab]
    rotate_left
    · rfl
    · by_cases e : a = b <;> simp only [e, vAll, List.foldl_nil, List.foldl_cons, resultsOf, resultList, resultOf, zBV, splice, PV.remade, St.freezeAt, St.freezeBox, St.freezeCap, PV.single, plain, act, dstOf, if_true, if_false, reduceCtorEq, St.get, St.put, St.pvOf, St.putRow, St.consume, St.freeze, St.row, St.elems, St.grab, St.takeRow, St.setRow, St.place, St.optPv, St.setCell, St.setCellRow, binPV, intBin, unPV, BV.val, Nat.reduceEqDiff, bound, consumeAll, buildParts, capsOf, capOf, List.append_nil, Nat.reduceAdd, Nat.reduceLT, Nat.reduceLeDiff, beq_self_eq_true, List.length_map, Nat.beq, dcall, dcallP, List.mapM_cons, St.snapFn, St.snap, St.layAll, St.lay, St.freezeArg, St.freezeArg1]
  · have : a ≠ b := fun e => by subst e; simp at hb
    simp only [this, vAll, List.foldl_nil, List.foldl_cons, resultsOf, resultList, resultOf, zBV, splice, PV.remade, St.freezeAt, St.freezeBox, St.freezeCap, PV.single, plain, act, dstOf, if_true, if_false, reduceCtorEq, St.get, St.put, St.pvOf, St.putRow, St.consume, St.freeze, St.row, St.elems, St.grab, St.takeRow, St.setRow, St.place, St.optPv, St.setCell, St.setCellRow, binPV, intBin, unPV, BV.val, Nat.reduceEqDiff, bound, consumeAll, buildParts, capsOf, capOf, List.append_nil, Nat.reduceAdd, Nat.reduceLT, Nat.reduceLeDiff, beq_self_eq_true, List.length_map, Nat.beq, dcall, dcallP, List.mapM_cons, St.snapFn, St.snap, St.layAll, St.lay, St.freezeArg, St.freezeArg1]
theorem loop19 {a b : Img} (hl : a.length ≤ lim) (hr : ∀ v ∈ a, v.length ≤ lim) (hab : a.length = b.length) {st : St} (h : st.head [0, 1, 5] st.boxes.length = some ⟨[.pv (.list 1 (a.map eSecs)), .pv (.list 1 (b.map eSecs)), .any, .any, .any, .pv (.int .i64 (0 : Nat)), .any, .any, .any, .any, .any, .any, .any, .any, .any, .any, .any, .any, .any, .any, .any, .any, .any, .any, .any, .any, .any], [], [], none⟩) :
   den env fn19_l1 st = if a = b then some (.normal, ⟨[.any, .any, .any, .any, .any, .any, .any, .any, .any, .any, .any, .any, .any, .any, .any, .any, .any, .any, .any, .any, .any, .any, .any, .any, .any, .any, .any], [], [], none⟩) else some (.ret, ⟨[.any, .any, .any, .any, .pv (.bool false), .any, .any, .any, .any, .any, .any, .any, .any, .any, .any, .any, .any, .any, .any, .any, .any, .any, .any, .any, .any, .any, .any], [], [], none⟩) := by
  unfold fn19_l1
  rw [ clean_up (env := env) (a.length) (fun i => ⟨[.pv (.list 1 (a.map eSecs)), .pv (.list 1 (b.map eSecs)), .any, .any, .any, .pv (.int .i64 i), .any, .any, .any, .any, .any, .any, .any, .any, .any, .any, .any, .any, .any, .any, .any, .any, .any, .any, .any, .any, .any], [], [], none⟩) (fun i => if a.drop i = b.drop i then some (.normal, ⟨[.any, .any, .any, .any, .any, .any, .any, .any, .any, .any, .any, .any, .any, .any, .any, .any, .any, .any, .any, .any, .any, .any, .any, .any, .any, .any, .any], [], [], none⟩) else some (.ret, ⟨[.any, .any, .any, .any, .pv (.bool false), .any, .any, .any, .any, .any, .any, .any, .any, .any, .any, .any, .any, .any, .any, .any, .any, .any, .any, .any, .any, .any, .any], [], [], none⟩)) h (fun _ => rfl) (fun _ => rfl) ?_ ?_]
  · first | rfl | simp only [List.drop_zero, List.take_zero, List.map_nil, Nat.zero_add, List.nil_append, List.foldl_nil]
  · intro i rb hi ih

    have hi1 := i64_next hi hl
    have hj : i < b.length := by omega
    have F1 : ((i : Int) < (a.length : Int)) = True := eq_true (by omega)
    have e1 := cal44 (b := b[i]) (hr _ (List.getElem_mem hi))
    simp only [fn19_b0, F1, e1, eSecs, index_nat hi, index_nat hj, List.getElem?_map, List.getElem?_eq_getElem hi, List.getElem?_eq_getElem hj, List.isEmpty_nil, val_pvs, frozen_pvs, msnoc_len, msnoc_get, msnoc_set, msnoc_take, Int.le_refl, take_map_all, Nat.le_refl, St.freezeRows, BV.frozen, List.take_length, List.take_append_drop, z_repl_zero, Int.toNat_zero, true_and, and_true, and_self, eq_self, z_take_zero, List.drop_nil, List.take_nil, vAll, List.foldl_nil, List.foldl_cons, resultsOf, resultList, resultOf, zBV, splice, PV.remade, St.freezeAt, St.freezeBox, St.freezeCap, PV.single, plain, act, dstOf, if_true, if_false, reduceCtorEq, St.get, St.put, St.pvOf, St.putRow, St.consume, St.freeze, St.row, St.elems, St.grab, St.takeRow, St.setRow, St.place, St.optPv, St.setCell, St.setCellRow, binPV, intBin, unPV, BV.val, Nat.reduceEqDiff, bound, consumeAll, buildParts, capsOf, capOf, List.append_nil, Nat.reduceAdd, Nat.reduceLT, Nat.reduceLeDiff, beq_self_eq_true, List.length_map, Nat.beq, dcall, dcallP, List.mapM_cons, St.snapFn, St.snap, St.layAll, St.lay, St.freezeArg, St.freezeArg1]
    rw [List.drop_eq_getElem_cons hi, List.drop_eq_getElem_cons hj]
    (try simp only [bcase_bind, bcase_map, tail_bcase]); refine bcase_split (fun hb => ?_) (fun hb => ?_) <;> try simp only [hb,  List.isEmpty_nil, val_pvs, frozen_pvs, msnoc_len, msnoc_get, msnoc_set, msnoc_take, Int.le_refl, take_map_all, Nat.le_refl, St.freezeRows, BV.frozen, List.take_length, List.take_append_drop, z_repl_zero, Int.toNat_zero, true_and, and_true, and_self, eq_self, z_take_zero, List.drop_nil, List.take_nil, vAll, List.foldl_nil, List.foldl_cons, resultsOf, resultList, resultOf, zBV, splice, PV.remade, St.freezeAt, St.freezeBox, St.freezeCap, PV.single, plain, act, dstOf, if_true, if_false, reduceCtorEq, St.get, St.put, St.pvOf, St.putRow, St.consume, St.freeze, St.row, St.elems, St.grab, St.takeRow, St.setRow, St.place, St.optPv, St.setCell, St.setCellRow, binPV, intBin, unPV, BV.val, Nat.reduceEqDiff, bound, consumeAll, buildParts, capsOf, capOf, List.append_nil, Nat.reduceAdd, Nat.reduceLT, Nat.reduceLeDiff, beq_self_eq_true, List.length_map, Nat.beq, dcall, dcallP, List.mapM_cons, St.snapFn, St.snap, St.layAll, St.lay, St.freezeArg, St.freezeArg1]
    · rw [ih _ (by simp only [hi1]; rfl)]
      simp only [decide_eq_true_eq] at hb
      simp only [hb, List.cons.injEq, true_and]
    · simp only [decide_eq_false_iff_not] at hb
      simp only [hb, List.cons.injEq, false_and, if_false]
      rfl
  · intro rb

    simp only [fn19_b0, Int.lt_irrefl,  List.isEmpty_nil, val_pvs, frozen_pvs, msnoc_len, msnoc_get, msnoc_set, msnoc_take, Int.le_refl, take_map_all, Nat.le_refl, St.freezeRows, BV.frozen, List.take_length, List.take_append_drop, z_repl_zero, Int.toNat_zero, true_and, and_true, and_self, eq_self, z_take_zero, List.drop_nil, List.take_nil, vAll, List.foldl_nil, List.foldl_cons, resultsOf, resultList, resultOf, zBV, splice, PV.remade, St.freezeAt, St.freezeBox, St.freezeCap, PV.single, plain, act, dstOf, if_true, if_false, reduceCtorEq, St.get, St.put, St.pvOf, St.putRow, St.consume, St.freeze, St.row, St.elems, St.grab, St.takeRow, St.setRow, St.place, St.optPv, St.setCell, St.setCellRow, binPV, intBin, unPV, BV.val, Nat.reduceEqDiff, bound, consumeAll, buildParts, capsOf, capOf, List.append_nil, Nat.reduceAdd, Nat.reduceLT, Nat.reduceLeDiff, beq_self_eq_true, List.length_map, Nat.beq, dcall, dcallP, List.mapM_cons, St.snapFn, St.snap, St.layAll, St.lay, St.freezeArg, St.freezeArg1]
    rw [List.drop_length, hab, List.drop_length, if_pos rfl]
    rfl

theorem cal19 {a b : Img} (hl : a.length ≤ lim) (hr : ∀ v ∈ a, v.length ≤ lim) : cal env 19 [.list 1 (a.map eSecs), .list 1 (b.map eSecs)] = some [(.bool (decide (a = b)), false)] := by
  rw [cal_code env19 rfl]; simp only [fn19]; simp only [start, z_map_cons, z_map_nil, z_len_cons, z_len_nil, z_repl_zero, z_repl_succ, z_cons_app, z_nil_app, Nat.reduceAdd, Nat.reduceSub]
  simp only [ List.isEmpty_nil, val_pvs, frozen_pvs, msnoc_len, msnoc_get, msnoc_set, msnoc_take, Int.le_refl, take_map_all, Nat.le_refl, St.freezeRows, BV.frozen, List.take_length, List.take_append_drop, z_repl_zero, Int.toNat_zero, true_and, and_true, and_self, eq_self, z_take_zero, List.drop_nil, List.take_nil, vAll, List.foldl_nil, List.foldl_cons, resultsOf, resultList, resultOf, zBV, splice, PV.remade, St.freezeAt, St.freezeBox, St.freezeCap, PV.single, plain, act, dstOf, if_true, if_false, reduceCtorEq, St.get, St.put, St.pvOf, St.putRow, St.consume, St.freeze, St.row, St.elems, St.grab, St.takeRow, St.setRow, St.place, St.optPv, St.setCell, St.setCellRow, binPV, intBin, unPV, BV.val, Nat.reduceEqDiff, bound, consumeAll, buildParts, capsOf, capOf, List.append_nil, Nat.reduceAdd, Nat.reduceLT, Nat.reduceLeDiff, beq_self_eq_true, List.length_map, Nat.beq, dcall, dcallP, List.mapM_cons, St.snapFn, St.snap, St.layAll, St.lay, St.freezeArg, St.freezeArg1]
  (try simp only [bcase_bind, bcase_map, tail_bcase]); refine bcase_split (fun hb => ?_) (fun hb => ?_) <;> try simp only [hb,  List.isEmpty_nil, val_pvs, frozen_pvs, msnoc_len, msnoc_get, msnoc_set, msnoc_take, Int.le_refl, take_map_all, Nat.le_refl, St.freezeRows, BV.frozen, List.take_length, List.take_append_drop, z_repl_zero, Int.toNat_zero, true_and, and_true, and_self, eq_self, z_take_zero, List.drop_nil, List.take_nil, vAll, List.foldl_nil, List.foldl_cons, resultsOf, resultList, resultOf, zBV, splice, PV.remade, St.freezeAt, St.freezeBox, St.freezeCap, PV.single, plain, act, dstOf, if_true, if_false, reduceCtorEq, St.get, St.put, St.pvOf, St.putRow, St.consume, St.freeze, St.row, St.elems, St.grab, St.takeRow, St.setRow, St.place, St.optPv, St.setCell, St.setCellRow, binPV, intBin, unPV, BV.val, Nat.reduceEqDiff, bound, consumeAll, buildParts, capsOf, capOf, List.append_nil, Nat.reduceAdd, Nat.reduceLT, Nat.reduceLeDiff, beq_self_eq_true, List.length_map, Nat.beq, dcall, dcallP, List.mapM_cons, St.snapFn, St.snap, St.layAll, St.lay, St.freezeArg, St.freezeArg1]
  · have hab : a.length = b.length := by simp at hb; omega
    rw [loop19 hl hr hab]
    rotate_left
    · rfl
    · by_cases e : a = b <;> simp only [e, vAll, List.foldl_nil, List.foldl_cons, resultsOf, resultList, resultOf, zBV, splice, PV.remade, St.freezeAt, St.freezeBox, St.freezeCap, PV.single, plain, act, dstOf, if_true, if_false, reduceCtorEq, St.get, St.put, St.pvOf, St.putRow, St.consume, St.freeze, St.row, St.elems, St.grab, St.takeRow, St.setRow, St.place, St.optPv, St.setCell, St.setCellRow, binPV, intBin, unPV, BV.val, Nat.reduceEqDiff, bound, consumeAll, buildParts, capsOf, capOf, List.append_nil, Nat.reduceAdd, Nat.reduceLT, Nat.reduceLeDiff, beq_self_eq_true, List.length_map, Nat.beq, dcall, dcallP, List.mapM_cons, St.snapFn, St.snap, St.layAll, St.lay, St.freezeArg, St.freezeArg1]
  · have : a ≠ b := fun e => by subst e; simp at hb
    simp only [this, vAll, List.foldl_nil, List.foldl_cons, resultsOf, resultList, resultOf, zBV, splice, PV.remade, St.freezeAt, St.freezeBox, St.freezeCap, PV.single, plain, act, dstOf, if_true, if_false, reduceCtorEq, St.get, St.put, St.pvOf, St.putRow, St.consume, St.freeze, St.row, St.elems, St.grab, St.takeRow, St.setRow, St.place, St.optPv, St.setCell, St.setCellRow, binPV, intBin, unPV, BV.val, Nat.reduceEqDiff, bound, consumeAll, buildParts, capsOf, capOf, List.append_nil, Nat.reduceAdd, Nat.reduceLT, Nat.reduceLeDiff, beq_self_eq_true, List.length_map, Nat.beq, dcall, dcallP, List.mapM_cons, St.snapFn, St.snap, St.layAll, St.lay, St.freezeArg, St.freezeArg1]
end Go.Proofs.Ytncobemfpammfaa.V

namespace Go.Proofs.Ytncobemfpammfaa

noncomputable def iter (env : Env) (f : Nat) (caps : List PV) (stop : Option Nat) : Option (List (List PV)) := iterRes (den env) env f caps stop
def ystart (n : Nat) (caps : List PV) (stop : Option Nat) : St := ⟨.yld :: (caps.map .pv ++ List.replicate (n - (caps.length + 1)) .any), [], [], some stop⟩
def yfin : Ex × St → Option (List (List PV))
  | (.exit _, _) => none
  | (_, st) => some st.ys
section
variable {env : Env}
theorem yfin_normal (st : St) : yfin (.normal, st) = some st.ys := (rfl)
theorem yfin_ret (st : St) : yfin (.ret, st) = some st.ys := (rfl)
theorem iter_code {f : Nat} {fn : VFn} {caps : List PV} {stop : Option Nat} (h : env f = some (.code fn)) (hl : caps.length + 1 = fn.nargs) (hr : fn.results.isEmpty = true) : iter env f caps stop = (den env fn.body (ystart fn.ntmps caps stop)).bind yfin := by
  unfold iter iterRes
  rw [h]
  simp only [if_pos (And.intro hl hr)]
  show (den env fn.body _).bind _ = _
  congr 1
  funext ⟨e, st⟩
  cases e <;> rfl

noncomputable def round1 (env : Env) (slots : List AV) (ps : List Nat) (assign body : VCode) (nb : Nat) (x : List PV) (st : St) : Option (Ex × St) :=
  (setParams slots ps x).bind fun sl => (den env assign { st with slots := sl }).bind fun p => match p with
    | (.normal, st) => (den env body st).bind fun p => match p with
      | (.normal, st) => if nb ≤ st.boxes.length then some (.normal, { st with boxes := st.boxes.take nb }) else none
      | p => some p
    | _ => none
theorem rounds_cons {slots : List AV} {ps : List Nat} {assign body : VCode} {nb k : Nat} {x : List PV} {xs : List (List PV)} {st : St} :
    rounds (den env) slots ps assign body nb k (x :: xs) st = (round1 env slots ps assign body nb x st).bind fun p => match p with
      | (.normal, st) => rounds (den env) slots ps assign body nb (k + 1) xs st
      | (e, st) => some (some (e, k + 1), st) := by
  conv => lhs; unfold rounds
  unfold round1
  show (setParams slots ps x).bind _ = _
  cases setParams slots ps x with
  | none => rfl
  | some sl =>
    simp only [Option.bind_some]
    show (den env assign _).bind _ = _
    cases den env assign { st with slots := sl } with
    | none => rfl
    | some p =>
      obtain ⟨e, s⟩ := p
      simp only [Option.bind_some]
      cases e with
      | normal =>
        simp only
        show (den env body _).bind _ = _
        cases den env body s with
        | none => rfl
        | some p =>
          obtain ⟨e, s⟩ := p
          simp only [Option.bind_some]
          cases e with
          | normal =>
            simp only
            split <;> rfl
          | exit i => rfl
          | ret => rfl
      | exit i => rfl
      | ret => rfl
theorem rng_all {g : Opd} {ps : List Nat} {assign body : VCode} {st st1 : St} {f : Nat} {caps : List PV} {xs : List (List PV)} (hg : st.pvOf g = some (.func f caps)) (hi : iter env f caps none = some xs)
    (hr : rounds (den env) (st.slots.map AV.froze) ps assign body st.boxes.length 0 xs { st with slots := st.slots.map AV.froze } = some (none, st1)) : den env (.rng g ps assign body) st = some (.normal, { st1 with slots := st.slots.map AV.froze }) := by
  rw [den_eq]
  show ranged (den env) env g ps assign body st = _
  unfold ranged
  rw [hg]
  unfold iter at hi
  simp only [z_bind_eq, Option.bind_some, hi, hr]
theorem rng_idx (B : Nat → List Box) {g : Opd} {ps : List Nat} {assign body : VCode} {st : St} {f : Nat} {caps : List PV} {xs : List (List PV)} (hg : st.pvOf g = some (.func f caps)) (hi : iter env f caps none = some xs) (hB : st.boxes = B 0)
    (h : ∀ j x, xs[j]? = some x → ∀ sl0, ∃ sl1, round1 env (st.slots.map AV.froze) ps assign body st.boxes.length x ⟨sl0, B j, st.ys, st.stop⟩ = some (.normal, ⟨sl1, B (j + 1), st.ys, st.stop⟩)) :
    den env (.rng g ps assign body) st = some (.normal, ⟨st.slots.map AV.froze, B xs.length, st.ys, st.stop⟩) := by
  have key : ∀ (l : List (List PV)) (j : Nat), xs.drop j = l → ∀ (k : Nat) (sl0 : List AV), ∃ sl1, rounds (den env) (st.slots.map AV.froze) ps assign body st.boxes.length k l ⟨sl0, B j, st.ys, st.stop⟩ = some (none, ⟨sl1, B (j + l.length), st.ys, st.stop⟩) := by
    intro l
    induction l with
    | nil => intro j _ k sl0; exact ⟨sl0, rfl⟩
    | cons x l ih =>
      intro j hj k sl0
      have hx : xs[j]? = some x := by rw [← List.head?_drop, hj]; rfl
      have hd : xs.drop (j + 1) = l := by rw [← List.drop_drop, hj]; rfl
      obtain ⟨sl1, q⟩ := h j x hx sl0
      obtain ⟨sl2, q2⟩ := ih (j + 1) hd (k + 1) sl1
      refine ⟨sl2, ?_⟩
      rw [rounds_cons, q]
      simp only [Option.bind_some, q2, List.length_cons]
      rw [show j + 1 + l.length = j + (l.length + 1) by omega]
  obtain ⟨sl1, q⟩ := key xs 0 (by simp) 0 (st.slots.map AV.froze)
  rw [← hB, Nat.zero_add] at q
  have r := rng_all hg hi q
  exact r
noncomputable def rassign (env : Env) (body : VCode) (nb : Nat) : Ex × St → Option (Ex × St)
  | (.normal, st) => (den env body st).bind fun p => match p with
    | (.normal, st) => if nb ≤ st.boxes.length then some (.normal, { st with boxes := st.boxes.take nb }) else none
    | p => some p
  | _ => none
def rend (nb : Nat) : Ex × St → Option (Ex × St)
  | (.normal, st) => if nb ≤ st.boxes.length then some (.normal, { st with boxes := st.boxes.take nb }) else none
  | p => some p
theorem round1_eq (slots : List AV) (ps : List Nat) (assign body : VCode) (nb : Nat) (x : List PV) (st : St) : round1 env slots ps assign body nb x st = (setParams slots ps x).bind fun sl => (den env assign { st with slots := sl }).bind (rassign env body nb) := by
  unfold round1
  rfl
theorem rassign_normal (body : VCode) (nb : Nat) (st : St) : rassign env body nb (.normal, st) = (den env body st).bind (rend nb) := by
  rfl
theorem rend_normal (nb : Nat) (st : St) : rend nb (.normal, st) = if nb ≤ st.boxes.length then some (.normal, { st with boxes := st.boxes.take nb }) else none := (rfl)
theorem rend_exit (nb i : Nat) (st : St) : rend nb (.exit i, st) = some (.exit i, st) := (rfl)
theorem rend_ret (nb : Nat) (st : St) : rend nb (.ret, st) = some (.ret, st) := (rfl)
theorem setP_nil (slots : List AV) : setParams slots [] [] = some slots := (rfl)
theorem setP_cons (slots : List AV) (p : Nat) (ps : List Nat) (v : PV) (vs : List PV) : setParams slots (p :: ps) (v :: vs) = setParams (slots.set p (.pv v)) ps vs := (rfl)
theorem froze_pv (v : PV) : AV.froze (.pv v) = .pv v := (rfl)
theorem froze_row (sz : Nat) (es : List PV) : AV.froze (.row sz es) = .pv (.list sz es) := (rfl)
theorem froze_any : AV.froze .any = .any := (rfl)
theorem froze_tup (l : List AV) : AV.froze (.tup l) = .any := (rfl)
theorem froze_ref (r : Root) (i j : Nat) : AV.froze (.ref r i j) = .any := (rfl)
theorem froze_pel (r : Root) (i j : Nat) : AV.froze (.pel r i j) = .any := (rfl)
theorem froze_pbox (i j : Nat) : AV.froze (.pbox i j) = .pbox i j := (rfl)
theorem froze_fn (f : Nat) (l : List AV) : AV.froze (.fn f l) = .fn f l := (rfl)
theorem froze_yld : AV.froze .yld = .yld := (rfl)
end
def vRng := And.intro @round1_eq (And.intro @rassign_normal (And.intro @rend_normal (And.intro @rend_exit (And.intro @rend_ret (And.intro @setP_nil (And.intro @setP_cons (And.intro @froze_pv (And.intro @froze_row (And.intro @froze_any (And.intro @froze_tup (And.intro @froze_ref (And.intro @froze_pel (And.intro @froze_pbox (And.intro @froze_fn (And.intro @froze_yld (And.intro @yfin_normal @yfin_ret))))))))))))))))
end Go.Proofs.Ytncobemfpammfaa

namespace Go.Proofs.Ytncobemfpammfaa.V

def dif (a b : List Sec) (i : Nat) : Bool := decide (a[i]? ≠ b[i]?)
def difN (a b : List Sec) (n : Nat) : List Nat := (List.range n).filter (dif a b)
def difs (a b : List Sec) : List Nat := difN a b a.length
def addAt (out : List Exn) (i : Nat) : List Exn := match out.getLast? with
  | some x => if x.start + x.count = (i : Int) then out.dropLast ++ [⟨x.start, x.count + 1⟩] else out ++ [⟨i, 1⟩]
  | none => [⟨i, 1⟩]
def exts (l : List Nat) : List Exn := l.foldl addAt []
def volDiff (a b : List Sec) : List Exn := exts (difs a b)
theorem difN_succ (a b : List Sec) (n : Nat) : difN a b (n + 1) = if dif a b n then difN a b n ++ [n] else difN a b n := by
  simp only [difN, List.range_succ, List.filter_append, List.filter_cons, List.filter_nil]
  cases dif a b n <;> simp
theorem addAt_snoc (pre : List Exn) (x : Exn) (i : Nat) : addAt (pre ++ [x]) i = if x.start + x.count = (i : Int) then pre ++ [⟨x.start, x.count + 1⟩] else pre ++ [x] ++ [⟨i, 1⟩] := by
  simp [addAt]
theorem exts_snoc (l : List Nat) (i : Nat) : exts (l ++ [i]) = addAt (exts l) i := by simp [exts]
theorem snoc_cases {α : Type} (l : List α) : l = [] ∨ ∃ p x, l = p ++ [x] := by
  rcases List.eq_nil_or_concat l with h | ⟨p, x, h⟩
  · exact .inl h
  · exact .inr ⟨p, x, by rw [h]; simp⟩
theorem exts_last : ∀ (n : Nat) (l : List Nat), l.length = n → ∀ i : Nat, ∃ pre x, exts (l ++ [i]) = pre ++ [x] ∧ x.start + x.count = (i : Int) + 1 ∧ 0 ≤ x.start ∧ 1 ≤ x.count ∧ pre.length ≤ l.length := by
  intro n
  induction n with
  | zero =>
    intro l hl i
    have := List.eq_nil_of_length_eq_zero hl
    subst this
    exact ⟨[], ⟨i, 1⟩, rfl, rfl, by simp, by simp, by simp⟩
  | succ n ih =>
    intro l hl i
    rcases snoc_cases l with rfl | ⟨p, j, rfl⟩
    · simp at hl
    · obtain ⟨pre, x, e, h1, h2, h3, h4⟩ := ih p (by simpa using hl) j
      rw [exts_snoc, e, addAt_snoc]
      split
      · rename_i hx
        exact ⟨pre, _, rfl, by simp; omega, h2, by simp; omega, by simp; omega⟩
      · exact ⟨pre ++ [x], _, rfl, by simp, by simp, by simp, by simp; omega⟩
theorem difN_lt {a b : List Sec} {n i : Nat} (h : i ∈ difN a b n) : i < n := by
  simp [difN] at h; exact h.1
theorem difN_len (a b : List Sec) (n : Nat) : (difN a b n).length ≤ n := by
  have := List.length_filter_le (dif a b) (List.range n); simpa [difN] using this
theorem wrap_pred {n : Nat} (h : n ≤ lim) : IntKind.i64.wrap (((n + 1 : Nat) : Int) - 1) = (n : Int) := by
  rw [i64_fits (by unfold lim at h; omega)]; omega
theorem cal70 {a b : List Sec} : cal env 70 [.list 8 (a.map eSec), .list 8 (b.map eSec)] = some [(.func 84 [.iptr [.list 8 (a.map eSec)] 0, .iptr [.list 8 (b.map eSec)] 0], false)] := by
  rw [cal_code env70 rfl]; simp only [fn70]; simp only [start, z_map_cons, z_map_nil, z_len_cons, z_len_nil, z_repl_zero, z_repl_succ, z_cons_app, z_nil_app, Nat.reduceAdd, Nat.reduceSub]
  simp only [ List.isEmpty_nil, val_pvs, frozen_pvs, msnoc_len, msnoc_get, msnoc_set, msnoc_take, Int.le_refl, take_map_all, Nat.le_refl, St.freezeRows, BV.frozen, List.take_length, List.take_append_drop, z_repl_zero, Int.toNat_zero, true_and, and_true, and_self, eq_self, z_take_zero, List.drop_nil, List.take_nil, vAll, List.foldl_nil, List.foldl_cons, resultsOf, resultList, resultOf, zBV, splice, PV.remade, St.freezeAt, St.freezeBox, St.freezeCap, PV.single, plain, act, dstOf, if_true, if_false, reduceCtorEq, St.get, St.put, St.pvOf, St.putRow, St.consume, St.freeze, St.row, St.elems, St.grab, St.takeRow, St.setRow, St.place, St.optPv, St.setCell, St.setCellRow, binPV, intBin, unPV, BV.val, Nat.reduceEqDiff, bound, consumeAll, buildParts, capsOf, capOf, List.append_nil, Nat.reduceAdd, Nat.reduceLT, Nat.reduceLeDiff, beq_self_eq_true, List.length_map, Nat.beq, dcall, dcallP, List.mapM_cons, St.snapFn, St.snap, St.layAll, St.lay, St.freezeArg, St.freezeArg1]
def yI (l : List Nat) : List (List PV) := l.map fun (i : Nat) => [PV.int .i64 (i : Int)]
theorem yI_snoc (l : List Nat) (i : Nat) : yI (l ++ [i]) = yI l ++ [[.int .i64 (i : Int)]] := by simp [yI]
theorem iter84 {a b : List Sec} (hl : a.length ≤ lim) (hab : a.length = b.length) : iter env 84 [.iptr [.list 8 (a.map eSec)] 0, .iptr [.list 8 (b.map eSec)] 0] none = some (yI (difs a b)) := by
  have loop : ∀ {st : St} (h : st.head [0, 1, 2, 6, 7] st.boxes.length = some ⟨[.yld, .pv (.iptr [.list 8 (a.map eSec)] 0), .pv (.iptr [.list 8 (b.map eSec)] 0), .any, .any, .any, .pv (.int .i64 a.length), .pv (.int .i64 (0 : Nat)), .any, .any, .any, .any, .any, .any, .any, .any, .any, .any, .any, .any, .any, .any, .any, .any, .any, .any], [], yI (difN a b 0), some none⟩),
     den env fn84_l1 st = some (.normal, ⟨[.any, .any, .any, .any, .any, .any, .any, .any, .any, .any, .any, .any, .any, .any, .any, .any, .any, .any, .any, .any, .any, .any, .any, .any, .any, .any], [], yI (difN a b a.length), some none⟩) := by
    intro st h
    unfold fn84_l1
    refine clean_up (env := env) a.length (fun i => ⟨[.yld, .pv (.iptr [.list 8 (a.map eSec)] 0), .pv (.iptr [.list 8 (b.map eSec)] 0), .any, .any, .any, .pv (.int .i64 a.length), .pv (.int .i64 i), .any, .any, .any, .any, .any, .any, .any, .any, .any, .any, .any, .any, .any, .any, .any, .any, .any, .any], [], yI (difN a b i), some none⟩) (fun _ => some (.normal, ⟨[.any, .any, .any, .any, .any, .any, .any, .any, .any, .any, .any, .any, .any, .any, .any, .any, .any, .any, .any, .any, .any, .any, .any, .any, .any, .any], [], yI (difN a b a.length), some none⟩)) h (fun _ => rfl) (fun _ => rfl) ?_ ?_
    · intro i rb hi ih
      have hi1 := i64_next hi hl
      have hj : i < b.length := by omega
      have F1 : ((i : Int) < (a.length : Int)) = True := eq_true (by omega)
      by_cases hd : a[i] = b[i]
      · simp only [fn84_b0, F1, eSec, index_nat hi, index_nat hj, List.getElem?_map, List.getElem?_eq_getElem hi, List.getElem?_eq_getElem hj, part_sec, secPV_length, eqCells_sec, hd, decide_true, List.isEmpty_nil, val_pvs, frozen_pvs, msnoc_len, msnoc_get, msnoc_set, msnoc_take, Int.le_refl, take_map_all, Nat.le_refl, St.freezeRows, BV.frozen, List.take_length, List.take_append_drop, z_repl_zero, Int.toNat_zero, true_and, and_true, and_self, eq_self, z_take_zero, List.drop_nil, List.take_nil, vAll, List.foldl_nil, List.foldl_cons, resultsOf, resultList, resultOf, zBV, splice, PV.remade, St.freezeAt, St.freezeBox, St.freezeCap, PV.single, plain, act, dstOf, if_true, if_false, reduceCtorEq, St.get, St.put, St.pvOf, St.putRow, St.consume, St.freeze, St.row, St.elems, St.grab, St.takeRow, St.setRow, St.place, St.optPv, St.setCell, St.setCellRow, binPV, intBin, unPV, BV.val, Nat.reduceEqDiff, bound, consumeAll, buildParts, capsOf, capOf, List.append_nil, Nat.reduceAdd, Nat.reduceLT, Nat.reduceLeDiff, beq_self_eq_true, List.length_map, Nat.beq, dcall, dcallP, List.mapM_cons, St.snapFn, St.snap, St.layAll, St.lay, St.freezeArg, St.freezeArg1]
        rw [ih _ (by simp only [hi1]; rw [difN_succ, if_neg (by simp [dif, List.getElem?_eq_getElem hi, List.getElem?_eq_getElem hj, hd])]; rfl)]
      · have hdd : dif a b i = true := by simp [dif, List.getElem?_eq_getElem hi, List.getElem?_eq_getElem hj, hd]
        have hdf := decide_eq_false hd
        simp only [fn84_b0, F1, eSec, index_nat hi, index_nat hj, List.getElem?_map, List.getElem?_eq_getElem hi, List.getElem?_eq_getElem hj, part_sec, secPV_length, eqCells_sec, hdf, List.isEmpty_nil, val_pvs, frozen_pvs, msnoc_len, msnoc_get, msnoc_set, msnoc_take, Int.le_refl, take_map_all, Nat.le_refl, St.freezeRows, BV.frozen, List.take_length, List.take_append_drop, z_repl_zero, Int.toNat_zero, true_and, and_true, and_self, eq_self, z_take_zero, List.drop_nil, List.take_nil, vAll, List.foldl_nil, List.foldl_cons, resultsOf, resultList, resultOf, zBV, splice, PV.remade, St.freezeAt, St.freezeBox, St.freezeCap, PV.single, plain, act, dstOf, if_true, if_false, reduceCtorEq, St.get, St.put, St.pvOf, St.putRow, St.consume, St.freeze, St.row, St.elems, St.grab, St.takeRow, St.setRow, St.place, St.optPv, St.setCell, St.setCellRow, binPV, intBin, unPV, BV.val, Nat.reduceEqDiff, bound, consumeAll, buildParts, capsOf, capOf, List.append_nil, Nat.reduceAdd, Nat.reduceLT, Nat.reduceLeDiff, beq_self_eq_true, List.length_map, Nat.beq, dcall, dcallP, List.mapM_cons, St.snapFn, St.snap, St.layAll, St.lay, St.freezeArg, St.freezeArg1]
        rw [ih _ (by simp only [hi1]; rw [difN_succ, if_pos hdd, yI_snoc]; rfl)]
    · intro rb
      simp only [fn84_b0, Int.lt_irrefl, List.isEmpty_nil, val_pvs, frozen_pvs, msnoc_len, msnoc_get, msnoc_set, msnoc_take, Int.le_refl, take_map_all, Nat.le_refl, St.freezeRows, BV.frozen, List.take_length, List.take_append_drop, z_repl_zero, Int.toNat_zero, true_and, and_true, and_self, eq_self, z_take_zero, List.drop_nil, List.take_nil, vAll, List.foldl_nil, List.foldl_cons, resultsOf, resultList, resultOf, zBV, splice, PV.remade, St.freezeAt, St.freezeBox, St.freezeCap, PV.single, plain, act, dstOf, if_true, if_false, reduceCtorEq, St.get, St.put, St.pvOf, St.putRow, St.consume, St.freeze, St.row, St.elems, St.grab, St.takeRow, St.setRow, St.place, St.optPv, St.setCell, St.setCellRow, binPV, intBin, unPV, BV.val, Nat.reduceEqDiff, bound, consumeAll, buildParts, capsOf, capOf, List.append_nil, Nat.reduceAdd, Nat.reduceLT, Nat.reduceLeDiff, beq_self_eq_true, List.length_map, Nat.beq, dcall, dcallP, List.mapM_cons, St.snapFn, St.snap, St.layAll, St.lay, St.freezeArg, St.freezeArg1]
      rfl
  rw [iter_code env84 rfl rfl]
  simp only [fn84, ystart, z_map_cons, z_map_nil, z_len_cons, z_len_nil, z_repl_zero, z_repl_succ, z_cons_app, z_nil_app, Nat.reduceAdd, Nat.reduceSub]
  simp only [ List.isEmpty_nil, val_pvs, frozen_pvs, msnoc_len, msnoc_get, msnoc_set, msnoc_take, Int.le_refl, take_map_all, Nat.le_refl, St.freezeRows, BV.frozen, List.take_length, List.take_append_drop, z_repl_zero, Int.toNat_zero, true_and, and_true, and_self, eq_self, z_take_zero, List.drop_nil, List.take_nil, vAll, List.foldl_nil, List.foldl_cons, resultsOf, resultList, resultOf, zBV, splice, PV.remade, St.freezeAt, St.freezeBox, St.freezeCap, PV.single, plain, act, dstOf, if_true, if_false, reduceCtorEq, St.get, St.put, St.pvOf, St.putRow, St.consume, St.freeze, St.row, St.elems, St.grab, St.takeRow, St.setRow, St.place, St.optPv, St.setCell, St.setCellRow, binPV, intBin, unPV, BV.val, Nat.reduceEqDiff, bound, consumeAll, buildParts, capsOf, capOf, List.append_nil, Nat.reduceAdd, Nat.reduceLT, Nat.reduceLeDiff, beq_self_eq_true, List.length_map, Nat.beq, dcall, dcallP, List.mapM_cons, St.snapFn, St.snap, St.layAll, St.lay, St.freezeArg, St.freezeArg1]
  rw [loop]
  rotate_left
  · rfl
  · rfl
def endOf (l : List Nat) : Int := match l.getLast? with
  | some i => i + 1
  | none => -1
theorem endOf_snoc (l : List Nat) (i : Nat) : endOf (l ++ [i]) = (i : Int) + 1 := by simp [endOf]
theorem sorted_take {a b : List Sec} {j : Nat} {i : Nat} (h : (difs a b)[j]? = some i) : i < a.length ∧ j ≤ i ∧ ∀ k ∈ (difs a b).take j, k < i := by
  have hs : (difs a b).Pairwise (· < ·) := (List.pairwise_lt_range (n := a.length)).filter _
  obtain ⟨hj, rfl⟩ := List.getElem?_eq_some_iff.1 h
  refine ⟨difN_lt (List.getElem_mem hj), ?_, ?_⟩
  · have : ∀ (l : List Nat), l.Pairwise (· < ·) → ∀ (j : Nat) (hj : j < l.length), j ≤ l[j] := by
      intro l
      induction l with
      | nil => intro _ j hj; simp at hj
      | cons x l ih =>
        intro hp j hj
        cases j with
        | zero => simp
        | succ j =>
          have h1 := ih (List.pairwise_cons.1 hp).2
          simp only [List.length_cons, Nat.add_lt_add_iff_right] at hj
          simp only [List.getElem_cons_succ]
          cases j with
          | zero => have := (List.pairwise_cons.1 hp).1 l[0] (List.getElem_mem hj); omega
          | succ j =>
            have h2 := h1 (j + 1) hj
            have h3 : ∀ (m : Nat) (hm : m < l.length), x + m + 1 ≤ l[m] := by
              intro m
              induction m with
              | zero => intro hm; have := (List.pairwise_cons.1 hp).1 l[0] (List.getElem_mem hm); omega
              | succ m ihm =>
                intro hm
                have := ihm (by omega)
                have h4 := List.pairwise_iff_getElem.1 (List.pairwise_cons.1 hp).2 m (m + 1) (by omega) hm (by omega)
                omega
            have := h3 (j + 1) hj
            omega
    exact this _ hs j hj
  · intro k hk
    obtain ⟨m, hm, rfl⟩ := List.mem_iff_getElem.1 hk
    rw [List.getElem_take]
    simp only [List.length_take] at hm
    exact List.pairwise_iff_getElem.1 hs m j (by omega) hj (by omega)
theorem cal47 {a b : List Sec} (hl : a.length ≤ lim) (hab : a.length = b.length) : cal env 47 [.list 8 (a.map eSec), .list 8 (b.map eSec)] = some [(.list 2 ((volDiff a b).map eExt), true)] := by
  have e1 := cal70 (a := a) (b := b)
  rw [cal_code env47 rfl]; simp only [fn47]; simp only [start, z_map_cons, z_map_nil, z_len_cons, z_len_nil, z_repl_zero, z_repl_succ, z_cons_app, z_nil_app, Nat.reduceAdd, Nat.reduceSub]
  simp only [e1, List.isEmpty_nil, val_pvs, frozen_pvs, msnoc_len, msnoc_get, msnoc_set, msnoc_take, Int.le_refl, take_map_all, Nat.le_refl, St.freezeRows, BV.frozen, List.take_length, List.take_append_drop, z_repl_zero, Int.toNat_zero, true_and, and_true, and_self, eq_self, z_take_zero, List.drop_nil, List.take_nil, vAll, List.foldl_nil, List.foldl_cons, resultsOf, resultList, resultOf, zBV, splice, PV.remade, St.freezeAt, St.freezeBox, St.freezeCap, PV.single, plain, act, dstOf, if_true, if_false, reduceCtorEq, St.get, St.put, St.pvOf, St.putRow, St.consume, St.freeze, St.row, St.elems, St.grab, St.takeRow, St.setRow, St.place, St.optPv, St.setCell, St.setCellRow, binPV, intBin, unPV, BV.val, Nat.reduceEqDiff, bound, consumeAll, buildParts, capsOf, capOf, List.append_nil, Nat.reduceAdd, Nat.reduceLT, Nat.reduceLeDiff, beq_self_eq_true, List.length_map, Nat.beq, dcall, dcallP, List.mapM_cons, St.snapFn, St.snap, St.layAll, St.lay, St.freezeArg, St.freezeArg1]
  rw [rng_idx (env := env) (fun j => [⟨false, [.row 2 ((exts ((difs a b).take j)).map eExt)]⟩, ⟨false, [.pv (.int .i64 (endOf ((difs a b).take j)))]⟩]) (xs := yI (difs a b)) rfl (iter84 hl hab) rfl ?_]
  · simp only [yI, List.length_map, List.take_length, vRng, List.isEmpty_nil, val_pvs, frozen_pvs, msnoc_len, msnoc_get, msnoc_set, msnoc_take, Int.le_refl, take_map_all, Nat.le_refl, St.freezeRows, BV.frozen, List.take_length, List.take_append_drop, z_repl_zero, Int.toNat_zero, true_and, and_true, and_self, eq_self, z_take_zero, List.drop_nil, List.take_nil, vAll, List.foldl_nil, List.foldl_cons, resultsOf, resultList, resultOf, zBV, splice, PV.remade, St.freezeAt, St.freezeBox, St.freezeCap, PV.single, plain, act, dstOf, if_true, if_false, reduceCtorEq, St.get, St.put, St.pvOf, St.putRow, St.consume, St.freeze, St.row, St.elems, St.grab, St.takeRow, St.setRow, St.place, St.optPv, St.setCell, St.setCellRow, binPV, intBin, unPV, BV.val, Nat.reduceEqDiff, bound, consumeAll, buildParts, capsOf, capOf, List.append_nil, Nat.reduceAdd, Nat.reduceLT, Nat.reduceLeDiff, beq_self_eq_true, List.length_map, Nat.beq, dcall, dcallP, List.mapM_cons, St.snapFn, St.snap, St.layAll, St.lay, St.freezeArg, St.freezeArg1]
    rfl
  · intro j x hx sl0
    simp only [yI, List.getElem?_map, Option.map_eq_some_iff] at hx
    obtain ⟨i, hi, rfl⟩ := hx
    obtain ⟨k1, k2, k3⟩ := sorted_take hi
    have hlim : lim = 1073741824 := rfl
    have hj := (List.getElem?_eq_some_iff.1 hi).1
    have ht : (difs a b).take (j + 1) = (difs a b).take j ++ [i] := by rw [List.take_add_one, hi]; rfl
    have hlen : ((difs a b).take j).length = j := by simp; omega
    rw [ht]
    rcases snoc_cases ((difs a b).take j) with h0 | ⟨p, q, h0⟩
    · have F2 : ((i : Int) == -1) = false := by simp
      have F3 : (0 + 1 ≤ lim) = True := eq_true (by omega)
      have F4 : IntKind.i64.wrap ((i : Int) + 1) = (i : Int) + 1 := i64_fits (by omega)
      have e0 : exts ([] : List Nat) = [] := rfl
      have e1 : endOf ([] : List Nat) = -1 := rfl
      have e2 : exts [i] = [⟨i, 1⟩] := rfl
      have e3 : endOf [i] = (i : Int) + 1 := rfl
      refine ⟨?_, ?_⟩
      rotate_left
      · simp only [h0, fn47_b0, fn47_b1, F2, F3, F4, e0, e1, e2, e3, eExt, List.map_nil, vRng, List.isEmpty_nil, val_pvs, frozen_pvs, msnoc_len, msnoc_get, msnoc_set, msnoc_take, Int.le_refl, take_map_all, Nat.le_refl, St.freezeRows, BV.frozen, List.take_length, List.take_append_drop, z_repl_zero, Int.toNat_zero, true_and, and_true, and_self, eq_self, z_take_zero, List.drop_nil, List.take_nil, vAll, List.foldl_nil, List.foldl_cons, resultsOf, resultList, resultOf, zBV, splice, PV.remade, St.freezeAt, St.freezeBox, St.freezeCap, PV.single, plain, act, dstOf, if_true, if_false, reduceCtorEq, St.get, St.put, St.pvOf, St.putRow, St.consume, St.freeze, St.row, St.elems, St.grab, St.takeRow, St.setRow, St.place, St.optPv, St.setCell, St.setCellRow, binPV, intBin, unPV, BV.val, Nat.reduceEqDiff, bound, consumeAll, buildParts, capsOf, capOf, List.append_nil, Nat.reduceAdd, Nat.reduceLT, Nat.reduceLeDiff, beq_self_eq_true, List.length_map, Nat.beq, dcall, dcallP, List.mapM_cons, St.snapFn, St.snap, St.layAll, St.lay, St.freezeArg, St.freezeArg1]
        rfl
    · obtain ⟨pre, ⟨s, c⟩, e0, h1, h2, h3, h4⟩ := exts_last _ p rfl q
      have hqi : q < i := k3 q (by rw [h0]; simp)
      simp only at h1 h2 h3
      have hpl : p.length + 1 = j := by rw [h0] at hlen; simpa using hlen
      have F3 := wrap_pred (n := pre.length) (by omega)
      have F4 : IntKind.i64.wrap ((i : Int) + 1) = (i : Int) + 1 := i64_fits (by omega)
      have F5 : IntKind.i64.wrap (c + 1) = c + 1 := i64_fits (by omega)
      have F6 : (pre.length + 1 + 1 ≤ lim) = True := eq_true (by omega)
      have F7 : index (.int .i64 (pre.length : Int)) (pre.length + 1) = some pre.length := index_nat (by omega)
      by_cases hc : (i : Int) = (q : Int) + 1
      · have F8 : ((i : Int) == (q : Int) + 1) = true := by simpa using hc
        have e2 : exts (p ++ [q] ++ [i]) = pre ++ [⟨s, c + 1⟩] := by rw [exts_snoc, e0, addAt_snoc, if_pos (by simp only; omega)]
        refine ⟨?_, ?_⟩
        rotate_left
        · simp only [h0, fn47_b0, fn47_b1, endOf_snoc, e0, e2, F3, F4, F5, F6, F7, F8, eExt, List.map_append, List.map_cons, List.map_nil, vRng, List.isEmpty_nil, val_pvs, frozen_pvs, msnoc_len, msnoc_get, msnoc_set, msnoc_take, Int.le_refl, take_map_all, Nat.le_refl, St.freezeRows, BV.frozen, List.take_length, List.take_append_drop, z_repl_zero, Int.toNat_zero, true_and, and_true, and_self, eq_self, z_take_zero, List.drop_nil, List.take_nil, vAll, List.foldl_nil, List.foldl_cons, resultsOf, resultList, resultOf, zBV, splice, PV.remade, St.freezeAt, St.freezeBox, St.freezeCap, PV.single, plain, act, dstOf, if_true, if_false, reduceCtorEq, St.get, St.put, St.pvOf, St.putRow, St.consume, St.freeze, St.row, St.elems, St.grab, St.takeRow, St.setRow, St.place, St.optPv, St.setCell, St.setCellRow, binPV, intBin, unPV, BV.val, Nat.reduceEqDiff, bound, consumeAll, buildParts, capsOf, capOf, List.append_nil, Nat.reduceAdd, Nat.reduceLT, Nat.reduceLeDiff, beq_self_eq_true, List.length_map, Nat.beq, dcall, dcallP, List.mapM_cons, St.snapFn, St.snap, St.layAll, St.lay, St.freezeArg, St.freezeArg1]
          rfl
      · have F8 : ((i : Int) == (q : Int) + 1) = false := by simpa using hc
        have e2 : exts (p ++ [q] ++ [i]) = pre ++ [⟨s, c⟩] ++ [⟨i, 1⟩] := by rw [exts_snoc, e0, addAt_snoc, if_neg (by simp only; omega)]
        refine ⟨?_, ?_⟩
        rotate_left
        · simp only [h0, fn47_b0, fn47_b1, endOf_snoc, e0, e2, F3, F4, F5, F6, F7, F8, eExt, List.map_append, List.map_cons, List.map_nil, vRng, List.isEmpty_nil, val_pvs, frozen_pvs, msnoc_len, msnoc_get, msnoc_set, msnoc_take, Int.le_refl, take_map_all, Nat.le_refl, St.freezeRows, BV.frozen, List.take_length, List.take_append_drop, z_repl_zero, Int.toNat_zero, true_and, and_true, and_self, eq_self, z_take_zero, List.drop_nil, List.take_nil, vAll, List.foldl_nil, List.foldl_cons, resultsOf, resultList, resultOf, zBV, splice, PV.remade, St.freezeAt, St.freezeBox, St.freezeCap, PV.single, plain, act, dstOf, if_true, if_false, reduceCtorEq, St.get, St.put, St.pvOf, St.putRow, St.consume, St.freeze, St.row, St.elems, St.grab, St.takeRow, St.setRow, St.place, St.optPv, St.setCell, St.setCellRow, binPV, intBin, unPV, BV.val, Nat.reduceEqDiff, bound, consumeAll, buildParts, capsOf, capOf, List.append_nil, Nat.reduceAdd, Nat.reduceLT, Nat.reduceLeDiff, beq_self_eq_true, List.length_map, Nat.beq, dcall, dcallP, List.mapM_cons, St.snapFn, St.snap, St.layAll, St.lay, St.freezeArg, St.freezeArg1]
          rfl
end Go.Proofs.Ytncobemfpammfaa.V
