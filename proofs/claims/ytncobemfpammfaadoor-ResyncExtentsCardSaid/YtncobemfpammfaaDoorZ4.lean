/-
  Part 4 of the texts that the statement stands on.
-/
import Derived.Test.YtncobemfpammfaaDoorZ3
import Derived.IntWalk
import Derived.Sort.Defs
import Derived.Lib.BitFns
import Derived.Shelf.Lays7
import Derived.Ground.Names7Prog
import Derived.Test.YtncobemfpammfaaDoorProg
import Derived.Shelf.Spec.TrailingZeros
import Derived.Lib.TrailingZeros
set_option linter.all false
namespace Go.Proofs.YtncobemfpammfaaDoor

def bcase {α : Type} (b : Bool) (x y : α) : α := match b with
  | true => x
  | false => y
section
variable {env : Env} {α β : Type}
theorem bcase_true (x y : α) : bcase true x y = x := (rfl)
theorem bcase_false (x y : α) : bcase false x y = y := (rfl)
theorem bcase_bind (b : Bool) (x y : Option α) (f : α → Option β) : (bcase b x y).bind f = bcase b (x.bind f) (y.bind f) := by cases b <;> rfl
theorem bcase_map (b : Bool) (x y : Option α) (f : α → β) : (bcase b x y).map f = bcase b (x.map f) (y.map f) := by cases b <;> rfl
theorem bcase_not (b : Bool) (x y : α) : bcase (!b) x y = bcase b y x := by cases b <;> rfl
theorem bcase_bne {γ : Type} [BEq γ] (a b : γ) (x y : α) : bcase (a != b) x y = bcase (a == b) y x := by unfold bne; rw [bcase_not]
theorem beq_t (b : Bool) : (b == true) = b := by cases b <;> rfl
theorem beq_f (b : Bool) : (b == false) = !b := by cases b <;> rfl
theorem bcase_split {b : Bool} {x y r : α} (h1 : b = true → x = r) (h0 : b = false → y = r) : bcase b x y = r := by
  cases b
  · exact h0 rfl
  · exact h1 rfl

noncomputable def dops (env : Env) (l : List VOp) (st : St) : Option St := ops (den env) env l st
noncomputable def dop (env : Env) (o : VOp) (st : St) : Option St := op (den env) env o st
noncomputable def next (env : Env) (b : VCode) : Ex × St → Option (Ex × St)
  | (.normal, st) => den env b st
  | r => some r
def endBlock (id : Nat) : Ex × St → Ex × St
  | (.normal, st) => (.normal, st)
  | (.exit j, st) => (bcase (Nat.beq j id) .normal (.exit j), st)
  | (.ret, st) => (.ret, st)
def cleanEnd (post : List Nat) (nb : Nat) (p : Ex × St) : Option (Ex × St) := (p.2.head post nb).map fun st => (p.1, st)
def fin (rs : List VRes) : Ex × St → Option (List Res)
  | (.exit _, _) => none
  | (_, st) => resultsOf st rs
def start (n : Nat) (args : List PV) : St := ⟨args.map .pv ++ List.replicate (n - args.length) .any, [], [], none⟩

theorem den_skip (st : St) : den env .skip st = some (.normal, st) := by rw [den_eq]; rfl
theorem den_ops (l : List VOp) (st : St) : den env (.ops l) st = (dops env l st).map fun st => (.normal, st) := by rw [den_eq]; rfl
theorem den_drw (z a f q) (l : List VOp) (st : St) : den env (.drw z a f q l) st = (dops env l (z.foldl St.freezeAt st)).map fun st => (.normal, st) := by rw [den_eq]; rfl
noncomputable def dalts (env : Env) (keep : List Nat) (vo : List VOp) (st : St) (l : List DAlt) : Option St := runAlts (den env) env keep vo st l
noncomputable def dalt (env : Env) (keep : List Nat) (vo : List VOp) (st : St) (x : DAlt) : Option St := altRun (den env) env keep vo st x
noncomputable def dagree (env : Env) (keep : List Nat) (vo : List VOp) (st s : St) (l : List DAlt) : Option St := agree s (l.map (altRun (den env) env keep vo st))
def sameAs (s s' : St) (r : Option St) : Option St := if s'.same s then r else none
theorem den_drs (z k vo l) (st : St) : den env (.drs z k vo l) st = (dalts env k vo (z.foldl St.freezeAt st) l).map fun st => (.normal, st) := by rw [den_eq]; rfl
theorem dalts_cons (k vo) (st : St) (x : DAlt) (l : List DAlt) : dalts env k vo st (x :: l) = (dalt env k vo st x).bind fun s => dagree env k vo st s l := (rfl)
theorem dagree_nil (k vo) (st s : St) : dagree env k vo st s [] = some s := (rfl)
theorem dagree_cons (k vo) (st s : St) (x : DAlt) (l : List DAlt) : dagree env k vo st s (x :: l) = (dalt env k vo st x).bind fun s' => sameAs s s' (dagree env k vo st s l) := by
  show (altRun (den env) env k vo st x).bind _ = _
  unfold dalt dagree sameAs
  congr 1
theorem sameAs_same (s : St) (r : Option St) : sameAs s s r = r := by
  show (if s.same s then r else none) = r
  rw [St.same_refl]; rfl
theorem dalt_eq (k vo) (st : St) (a f q o w) : dalt env k vo st ⟨a, f, q, o, w⟩ = (dops env (pickV vo o) st).bind (altEnd k st.boxes.length w) := (rfl)
theorem altEnd_false (k : List Nat) (nb : Nat) (s : St) : altEnd k nb false s = s.head k s.boxes.length := by
  unfold altEnd
  cases s.head k s.boxes.length <;> rfl
theorem altEnd_true (k : List Nat) (nb : Nat) (s : St) : altEnd k nb true s = (s.head k s.boxes.length).bind fun s => s.swap2 nb := (rfl)
theorem pickV_nil (vo : List VOp) : pickV vo [] = [] := (rfl)
theorem pickV_one (vo : List VOp) (i : Nat) (l : List Nat) : pickV vo (i :: l) = vo.getD i default :: pickV vo l := (rfl)
theorem den_seq (a b : VCode) (st : St) : den env (.seq a b) st = (den env a st).bind (next env b) := by
  rw [den_eq]
  show (den env a st).bind _ = _
  congr 1
  funext ⟨e, st⟩
  cases e <;> rfl
theorem den_cond (c : Opd) (a b : VCode) (st : St) : den env (.cond c a b) st = (match st.pvOf c with
    | some (.bool t) => bcase t (den env a st) (den env b st)
    | _ => none) := by
  rw [den_eq]
  show (st.pvOf c).bind _ = _
  cases st.pvOf c with
  | none => rfl
  | some v =>
    cases v <;> try rfl
    rename_i t
    cases t <;> rfl
theorem den_block (i : Nat) (a : VCode) (st : St) : den env (.block i a) st = (den env a st).map (endBlock i) := by
  rw [den_eq]
  show (den env a st).bind _ = _
  cases den env a st with
  | none => rfl
  | some r =>
    obtain ⟨e, st⟩ := r
    cases e with
    | normal => rfl
    | ret => rfl
    | exit j =>
      show some (_, _) = some (_, _)
      by_cases h : j = i
      · subst h; simp [bcase]
      · have : Nat.beq j i = false := by cases e : Nat.beq j i with
        | false => rfl
        | true => exact absurd (Nat.eq_of_beq_eq_true e) h
        simp [bcase, h, this]
theorem den_loop (keep : List Nat) (a : VCode) (st : St) : den env (.loop keep a) st = den env (.round keep st.boxes.length a) st := by rw [den_eq]; rfl
theorem den_round (keep : List Nat) (nb : Nat) (a : VCode) (st : St) : den env (.round keep nb a) st = (st.head keep nb).bind fun st => (den env a st).bind (next env (.round keep nb a)) := by
  rw [den_eq]
  show (st.head keep nb).bind _ = _
  congr 1
  funext st
  show (den env a st).bind _ = _
  congr 1
  funext ⟨e, st⟩
  cases e <;> rfl
theorem den_clean (pre post : List Nat) (a : VCode) (st : St) : den env (.clean pre post a) st = (st.head pre st.boxes.length).bind fun s => (den env a s).bind (cleanEnd post st.boxes.length) := by
  rw [den_eq]
  show (st.head pre _).bind _ = _
  congr 1
  funext s
  show (den env a s).bind _ = _
  congr 1
  funext ⟨e, s⟩
  show (s.head post _).bind _ = (s.head post _).map _
  cases s.head post st.boxes.length <;> rfl
theorem den_exit (i : Nat) (st : St) : den env (.exit i) st = some (.exit i, st) := by rw [den_eq]; rfl
theorem den_ret (st : St) : den env .ret st = some (.ret, st) := by rw [den_eq]; rfl
theorem next_normal (b : VCode) (st : St) : next env b (.normal, st) = den env b st := (rfl)
theorem next_exit (b : VCode) (i : Nat) (st : St) : next env b (.exit i, st) = some (.exit i, st) := (rfl)
theorem next_ret (b : VCode) (st : St) : next env b (.ret, st) = some (.ret, st) := (rfl)
theorem endBlock_normal (i : Nat) (st : St) : endBlock i (.normal, st) = (.normal, st) := (rfl)
theorem endBlock_ret (i : Nat) (st : St) : endBlock i (.ret, st) = (.ret, st) := (rfl)
theorem endBlock_exit (i j : Nat) (st : St) : endBlock i (.exit j, st) = (bcase (Nat.beq j i) .normal (.exit j), st) := (rfl)
theorem fin_normal (rs : List VRes) (st : St) : fin rs (.normal, st) = resultsOf st rs := (rfl)
theorem fin_ret (rs : List VRes) (st : St) : fin rs (.ret, st) = resultsOf st rs := (rfl)
theorem cal_code {f : Nat} {fn : VFn} {args : List PV} (h : env f = some (.code fn)) (hl : args.length = fn.nargs) : cal env f args = (den env fn.body (start fn.ntmps args)).bind (Go.Proofs.YtncobemfpammfaaDoor.fin fn.results) := by
  unfold cal callRes
  rw [h]
  simp only [if_pos hl]
  show (den env fn.body _).bind _ = _
  congr 1
  funext ⟨e, st⟩
  cases e <;> rfl
theorem cal_ext {f : Nat} {g : List PV → Option (List Res)} {args : List PV} (h : env f = some (.ext g)) : cal env f args = g args := by
  unfold cal callRes
  rw [h]
theorem clean_loop' {keep post : List Nat} {id : Nat} {b : VCode} {st S0 : St} {R : Option (Ex × St)} (h : st.head keep st.boxes.length = some S0) (h2 : S0.head keep S0.boxes.length = some S0)
    (key : ∀ rb, rb = VCode.round keep S0.boxes.length b → (((den env b S0).bind (next env rb)).map (endBlock id)).bind (cleanEnd post st.boxes.length) = R) : den env (.clean keep post (.block id (.loop keep b))) st = R := by
  rw [den_clean, h, Option.bind_some, den_block, den_loop, den_round, h2, Option.bind_some]
  exact key _ rfl
theorem round_on {keep : List Nat} {nb : Nat} {b rb : VCode} {st S1 : St} (hrb : rb = .round keep nb b) (h : st.head keep nb = some S1) : den env rb st = (den env b S1).bind (next env rb) := by
  rw [hrb, den_round, h, Option.bind_some]
noncomputable def tailOf (env : Env) (id : Nat) (post : List Nat) (nb : Nat) (x : Option (Ex × St)) : Option (Ex × St) := (x.map (endBlock id)).bind (cleanEnd post nb)
theorem clean_rec {β : Type} {keep post : List Nat} {id nb : Nat} {b : VCode} (S : β → St) (R : β → Option (Ex × St)) (P : β → Prop) (μ : β → Nat) (x0 : β) {st : St} (h : st.head keep st.boxes.length = some (S x0)) (hP : P x0)
    (hS : ∀ x, (S x).boxes.length = nb) (hh : ∀ x, (S x).head keep nb = some (S x))
    (step : ∀ x rb, P x → (∀ y, μ y < μ x → P y → ∀ s, s.head keep nb = some (S y) → tailOf env id post nb (den env rb s) = R y) → tailOf env id post nb ((den env b (S x)).bind (next env rb)) = R x) :
    den env (.clean keep post (.block id (.loop keep b))) st = R x0 := by
  have hb : st.boxes.length = nb := by rw [← (head_same h).1]; exact hS x0
  refine clean_loop' h (by rw [hS]; exact hh x0) ?_
  intro rb hrb
  rw [hS] at hrb
  rw [hb]
  have key : ∀ (k : Nat) (x : β), μ x < k → P x → tailOf env id post nb ((den env b (S x)).bind (next env rb)) = R x := by
    intro k
    induction k with
    | zero => intro x hx; omega
    | succ k ih =>
      intro x hx hPx
      refine step x rb hPx fun y hy hPy s hs => ?_
      rw [round_on hrb hs]
      exact ih y (by omega) hPy
  exact key (μ x0 + 1) x0 (by omega) hP
theorem clean_up {keep post : List Nat} {id nb : Nat} {b : VCode} (n : Nat) (S : Nat → St) (R : Nat → Option (Ex × St)) {st : St} (h : st.head keep st.boxes.length = some (S 0)) (hS : ∀ i, (S i).boxes.length = nb) (hh : ∀ i, (S i).head keep nb = some (S i))
    (step : ∀ i rb, i < n → (∀ s, s.head keep nb = some (S (i + 1)) → tailOf env id post nb (den env rb s) = R (i + 1)) → tailOf env id post nb ((den env b (S i)).bind (next env rb)) = R i)
    (last : ∀ rb, tailOf env id post nb ((den env b (S n)).bind (next env rb)) = R n) :
    den env (.clean keep post (.block id (.loop keep b))) st = R 0 := by
  refine clean_rec S R (fun i => i ≤ n) (fun i => n - i) 0 h (Nat.zero_le _) hS hh fun i rb hi ih => ?_
  by_cases hn : i = n
  · subst hn; exact last rb
  · exact step i rb (by omega) fun s hs => ih (i + 1) (by omega) (by omega) s hs
theorem tail_normal {id nb : Nat} {post : List Nat} (st : St) : tailOf env id post nb (some (.normal, st)) = cleanEnd post nb (.normal, st) := (rfl)
theorem tail_ret {id nb : Nat} {post : List Nat} (st : St) : tailOf env id post nb (some (.ret, st)) = cleanEnd post nb (.ret, st) := (rfl)
theorem tail_exit {id j nb : Nat} {post : List Nat} (st : St) : tailOf env id post nb (some (.exit j, st)) = cleanEnd post nb (bcase (Nat.beq j id) .normal (.exit j), st) := (rfl)
theorem tail_bcase {id nb : Nat} {post : List Nat} (b : Bool) (x y : Option (Ex × St)) : tailOf env id post nb (bcase b x y) = bcase b (tailOf env id post nb x) (tailOf env id post nb y) := by cases b <;> rfl
theorem z_bind_some (a : α) (f : α → Option β) : (some a).bind f = f a := (rfl)
theorem z_bind_none (f : α → Option β) : (none : Option α).bind f = none := (rfl)
theorem z_map_some (a : α) (f : α → β) : (some a).map f = some (f a) := (rfl)
theorem z_map_none (f : α → β) : (none : Option α).map f = none := (rfl)
theorem z_ite_true (x y : α) : (if True then x else y) = x := (rfl)
theorem z_ite_false (x y : α) : (if False then x else y) = y := (rfl)
theorem z_bind_eq {γ δ : Type} (x : Option γ) (f : γ → Option δ) : (x >>= f) = x.bind f := (rfl)
theorem z_pure {γ : Type} (x : γ) : (pure x : Option γ) = some x := (rfl)
theorem z_len_cons {γ : Type} (a : γ) (l : List γ) : (a :: l).length = l.length + 1 := (rfl)
theorem z_len_nil {γ : Type} : ([] : List γ).length = 0 := (rfl)
theorem z_nil_app {γ : Type} (l : List γ) : [] ++ l = l := (rfl)
theorem z_cons_app {γ : Type} (a : γ) (l m : List γ) : (a :: l) ++ m = a :: (l ++ m) := (rfl)
theorem z_take_succ {γ : Type} (a : γ) (l : List γ) (n : Nat) : (a :: l).take (n + 1) = a :: l.take n := (rfl)
theorem z_take_zero {γ : Type} (l : List γ) : l.take 0 = [] := (rfl)
theorem z_drop_succ {γ : Type} (a : γ) (l : List γ) (n : Nat) : (a :: l).drop (n + 1) = l.drop n := (rfl)
theorem z_drop_zero {γ : Type} (l : List γ) : l.drop 0 = l := (rfl)
theorem z_get_zero {γ : Type} (a : γ) (l : List γ) : (a :: l)[0]? = some a := (rfl)
theorem z_get_succ {γ : Type} (a : γ) (l : List γ) (n : Nat) : (a :: l)[n + 1]? = l[n]? := (rfl)
theorem z_get_8 {γ : Type} (a0 a1 a2 a3 a4 a5 a6 a7 : γ) (l : List γ) (n : Nat) : (a0 :: a1 :: a2 :: a3 :: a4 :: a5 :: a6 :: a7 :: l)[n + 8]? = l[n]? := (rfl)
theorem z_getD_zero {γ : Type} (a : γ) (l : List γ) (d : γ) : (a :: l).getD 0 d = a := (rfl)
theorem z_getD_succ {γ : Type} (a : γ) (l : List γ) (n : Nat) (d : γ) : (a :: l).getD (n + 1) d = l.getD n d := (rfl)
theorem z_getD_8 {γ : Type} (a0 a1 a2 a3 a4 a5 a6 a7 : γ) (l : List γ) (n : Nat) (d : γ) : (a0 :: a1 :: a2 :: a3 :: a4 :: a5 :: a6 :: a7 :: l).getD (n + 8) d = l.getD n d := (rfl)
theorem z_set_zero {γ : Type} (a x : γ) (l : List γ) : (a :: l).set 0 x = x :: l := (rfl)
theorem z_set_succ {γ : Type} (a x : γ) (l : List γ) (n : Nat) : (a :: l).set (n + 1) x = a :: l.set n x := (rfl)
theorem z_set_8 {γ : Type} (a0 a1 a2 a3 a4 a5 a6 a7 x : γ) (l : List γ) (n : Nat) : (a0 :: a1 :: a2 :: a3 :: a4 :: a5 :: a6 :: a7 :: l).set (n + 8) x = a0 :: a1 :: a2 :: a3 :: a4 :: a5 :: a6 :: a7 :: l.set n x := (rfl)
theorem z_mapM_nil {γ δ : Type} (f : γ → Option δ) : ([] : List γ).mapM f = some [] := (rfl)
theorem z_any_cons {γ : Type} (a : γ) (l : List γ) (p : γ → Bool) : (a :: l).any p = (p a || l.any p) := (rfl)
theorem z_any_nil {γ : Type} (p : γ → Bool) : ([] : List γ).any p = false := (rfl)
theorem z_all_cons {γ : Type} (a : γ) (l : List γ) (p : γ → Bool) : (a :: l).all p = (p a && l.all p) := (rfl)
theorem z_all_nil {γ : Type} (p : γ → Bool) : ([] : List γ).all p = true := (rfl)
theorem z_foldl_cons {γ δ : Type} (f : δ → γ → δ) (b : δ) (a : γ) (l : List γ) : (a :: l).foldl f b = l.foldl f (f b a) := (rfl)
theorem z_foldl_nil {γ δ : Type} (f : δ → γ → δ) (b : δ) : ([] : List γ).foldl f b = b := (rfl)
theorem z_map_cons {γ δ : Type} (f : γ → δ) (a : γ) (l : List γ) : (a :: l).map f = f a :: l.map f := (rfl)
theorem z_map_nil {γ δ : Type} (f : γ → δ) : ([] : List γ).map f = [] := (rfl)
theorem z_repl_zero {γ : Type} (a : γ) : List.replicate 0 a = [] := (rfl)
theorem z_repl_succ {γ : Type} (a : γ) (n : Nat) : List.replicate (n + 1) a = a :: List.replicate n a := (rfl)

theorem dops_nil (st : St) : dops env [] st = some st := (rfl)
theorem dops_cons (o : VOp) (l : List VOp) (st : St) : dops env (o :: l) st = (dop env o st).bind (dops env l) := (rfl)
theorem dop_grd {g : Nat} {w : Bool} {o : VOp} (st : St) : dop env (.grd g w o) st = (match st.slots.getD g .any with
    | .pv (.bool b) => bcase (b == w) (op1 (den env) env o st) (match dstOf o with
      | some d => some (st.put d (.tup false []))
      | none => some st)
    | .tup _ l => bcase l.isEmpty (match dstOf o with
      | some d => some (st.put d (.tup false []))
      | none => some st) none
    | _ => none) := by
  unfold dop op
  simp only
  generalize st.slots.getD g .any = v
  cases v with
  | pv p =>
    cases p with
    | bool b => cases b <;> cases w <;> rfl
    | _ => rfl
  | tup k l => cases l <;> rfl
  | _ => rfl
theorem dop_pick {d c x y} (st : St) : dop env (.pick d c x y) st = (match st.pvOf c with
    | some (.bool b) => bcase b ((st.pvOf x).map fun v => st.put d (.pv v)) ((st.pvOf y).map fun v => st.put d (.pv v))
    | _ => none) := by
  show (st.pvOf c).bind _ = _
  cases st.pvOf c with
  | none => rfl
  | some v =>
    cases v <;> try rfl
    rename_i t
    cases t
    · show (st.pvOf y).bind _ = Option.map _ (st.pvOf y)
      cases st.pvOf y <;> rfl
    · show (st.pvOf x).bind _ = Option.map _ (st.pvOf x)
      cases st.pvOf x <;> rfl
def afterCall (d : Nat) (args : List Opd) (caps : List AV) (st : St) (fl : Bool) (rs : List Res) : Option St :=
  some ((bcase (fl && !(rs.all (·.1.scalar))) (caps.foldl (fun s v => s.freezeArg1 (.c .void) v) (args.foldl St.freezeArg st)) st).layAll d rs)
theorem afterCall_false (d : Nat) (args : List Opd) (caps : List AV) (st : St) (rs : List Res) : afterCall d args caps st false rs = some (st.layAll d rs) := by
  simp only [afterCall, Bool.false_and, bcase_false]
theorem afterCall_true (d : Nat) (args : List Opd) (caps : List AV) (st : St) (r : Res) (rs : List Res) : afterCall d args caps st true (r :: rs) = bcase ((r :: rs).all (·.1.scalar)) (some (st.layAll d (r :: rs))) (some ((caps.foldl (fun s v => s.freezeArg1 (.c .void) v) (args.foldl St.freezeArg st)).layAll d (r :: rs))) := by
  unfold afterCall
  rw [Bool.true_and]
  cases h : (r :: rs).all (·.1.scalar) <;> rfl
noncomputable def dcall (env : Env) (d f : Nat) (args : List Opd) (caps : List AV) (st : St) : Option St :=
  (args.mapM fun x => st.snapFn (st.get x)).bind fun l => (caps.mapM st.snap).bind fun k => (cal env f (l.map (·.1) ++ k.map (·.1))).bind (afterCall d args caps st (l.any (·.2) || k.any (·.2)))
noncomputable def dcallP (env : Env) (d f : Nat) (args : List Opd) (caps : List PV) (st : St) : Option St :=
  (args.mapM fun x => st.snapFn (st.get x)).bind fun l => (cal env f (l.map (·.1) ++ caps)).bind (afterCall d args [] st (l.any (·.2)))
theorem snaps_pv (st : St) : ∀ caps : List PV, (caps.map AV.pv).mapM st.snap = some (caps.map fun v => (v, false))
  | [] => rfl
  | c :: l => by
    rw [List.map_cons, List.mapM_cons, snaps_pv st l]
    rfl
theorem freeze_pv (st : St) : ∀ caps : List PV, (caps.map AV.pv).foldl (fun s v => s.freezeArg1 (.c .void) v) st = st
  | [] => rfl
  | c :: l => freeze_pv st l
theorem dcall_eq (d f : Nat) (args : List Opd) (caps : List AV) (st : St) : callOn (den env) env d f args caps st = dcall env d f args caps st := by
  unfold callOn dcall
  show Option.bind _ _ = Option.bind _ _
  congr 1; funext l
  show Option.bind _ _ = Option.bind _ _
  congr 1; funext k
  show Option.bind _ _ = Option.bind _ _
  congr 1; funext rs
  show some _ = some _
  congr 2
  cases h : (l.any (·.2) || k.any (·.2)) && !(rs.all (·.1.scalar)) <;> rfl
theorem dcallP_eq (d f : Nat) (args : List Opd) (caps : List PV) (st : St) : dcall env d f args (caps.map .pv) st = dcallP env d f args caps st := by
  unfold dcallP dcall
  congr 1; funext l
  rw [snaps_pv, Option.bind_some, List.map_map, List.any_map]
  have h1 : (Prod.fst ∘ fun v : PV => (v, false)) = id := rfl
  have h2 : caps.any (Prod.snd ∘ fun v : PV => (v, false)) = false := by
    induction caps with
    | nil => rfl
    | cons c cs ih => simp [List.any_cons, ih]
  rw [h1, List.map_id, h2, Bool.or_false]
  congr 1; funext rs
  unfold afterCall
  rw [freeze_pv]
  rfl
theorem dop_call {d f args} (st : St) : dop env (.call d f args) st = dcallP env d f args [] st := (dcall_eq ..).trans (dcallP_eq (caps := []) ..)
theorem op1_call {d f args} (st : St) : op1 (den env) env (.call d f args) st = dcallP env d f args [] st := (dcall_eq ..).trans (dcallP_eq (caps := []) ..)
theorem dop_callv {d x args} (st : St) : dop env (.callv d x args) st = (match st.get x with
    | .pv (.func f caps) => dcallP env d f args caps st
    | .fn f caps => dcall env d f args caps st
    | _ => none) := by
  show (match st.get x with
    | .pv (.func f caps) => callOn (den env) env d f args (caps.map .pv) st
    | .fn f caps => callOn (den env) env d f args caps st
    | _ => none) = _
  split <;> simp only [dcall_eq, dcallP_eq]
theorem op1_callv {d x args} (st : St) : op1 (den env) env (.callv d x args) st = dop env (.callv d x args) st := (rfl)
theorem op1_pick {d c x y} (st : St) : op1 (den env) env (.pick d c x y) st = dop env (.pick d c x y) st := (rfl)
theorem dop_mov {d x} (st : St) : dop env (.mov d x) st = plain (.mov d x) st := (rfl)
theorem dop_asg {d x} (st : St) : dop env (.asg d x) st = plain (.asg d x) st := (rfl)
theorem dop_bin {d o x y} (st : St) : dop env (.bin d o x y) st = plain (.bin d o x y) st := (rfl)
theorem dop_eqa {d neg n x y} (st : St) : dop env (.eqa d neg n x y) st = plain (.eqa d neg n x y) st := (rfl)
theorem dop_eqb {d neg x y} (st : St) : dop env (.eqb d neg x y) st = plain (.eqb d neg x y) st := (rfl)
theorem dop_isn {d neg x} (st : St) : dop env (.isn d neg x) st = plain (.isn d neg x) st := (rfl)
theorem dop_cut {d sz x} (st : St) : dop env (.cut d sz x) st = plain (.cut d sz x) st := (rfl)
theorem dop_asl {d n x} (st : St) : dop env (.asl d n x) st = plain (.asl d n x) st := (rfl)
theorem dop_bldo {d z l q m} (st : St) : dop env (.bldo d z l q m) st = plain (.bldo d z l q m) st := (rfl)
theorem op1_bldo {d z l q m} (st : St) : op1 (den env) env (.bldo d z l q m) st = plain (.bldo d z l q m) st := (rfl)
theorem dop_stw {n p x} (st : St) : dop env (.stw n p x) st = act (den env) env (.stw n p x) st := (rfl)
theorem op1_stw {n p x} (st : St) : op1 (den env) env (.stw n p x) st = act (den env) env (.stw n p x) st := (rfl)
theorem dop_srt {d f x g} (st : St) : dop env (.srt d f x g) st = act (den env) env (.srt d f x g) st := (rfl)
theorem op1_srt {d f x g} (st : St) : op1 (den env) env (.srt d f x g) st = act (den env) env (.srt d f x g) st := (rfl)
theorem dop_mvz {d x} (st : St) : dop env (.mvz d x) st = plain (.mvz d x) st := (rfl)
theorem op1_mvz {d x} (st : St) : op1 (den env) env (.mvz d x) st = plain (.mvz d x) st := (rfl)
theorem dop_ldz {d n x} (st : St) : dop env (.ldz d n x) st = plain (.ldz d n x) st := (rfl)
theorem op1_asl {d n x} (st : St) : op1 (den env) env (.asl d n x) st = plain (.asl d n x) st := (rfl)
theorem op1_ldz {d n x} (st : St) : op1 (den env) env (.ldz d n x) st = plain (.ldz d n x) st := (rfl)
theorem op1_isn {d neg x} (st : St) : op1 (den env) env (.isn d neg x) st = plain (.isn d neg x) st := (rfl)
theorem op1_cut {d sz x} (st : St) : op1 (den env) env (.cut d sz x) st = plain (.cut d sz x) st := (rfl)
theorem dop_un {d o x} (st : St) : dop env (.un d o x) st = plain (.un d o x) st := (rfl)
theorem dop_conv {d k x} (st : St) : dop env (.conv d k x) st = plain (.conv d k x) st := (rfl)
theorem dop_load {d n p} (st : St) : dop env (.load d n p) st = plain (.load d n p) st := (rfl)
theorem dop_fadr {d p off} (st : St) : dop env (.fadr d p off) st = plain (.fadr d p off) st := (rfl)
theorem dop_aadr {d p i len sz} (st : St) : dop env (.aadr d p i len sz) st = plain (.aadr d p i len sz) st := (rfl)
theorem dop_iadr {d sz x i} (st : St) : dop env (.iadr d sz x i) st = plain (.iadr d sz x i) st := (rfl)
theorem dop_fld {d x off n} (st : St) : dop env (.fld d x off n) st = plain (.fld d x off n) st := (rfl)
theorem dop_idx {d x i len sz n} (st : St) : dop env (.idx d x i len sz n) st = plain (.idx d x i len sz n) st := (rfl)
theorem dop_sli {d sz x lo hi} (st : St) : dop env (.sli d sz x lo hi) st = plain (.sli d sz x lo hi) st := (rfl)
theorem dop_len {d x} (st : St) : dop env (.len d x) st = plain (.len d x) st := (rfl)
theorem dop_lens {d x} (st : St) : dop env (.lens d x) st = plain (.lens d x) st := (rfl)
theorem dop_ext {d x i} (st : St) : dop env (.ext d x i) st = plain (.ext d x i) st := (rfl)
theorem dop_build {d z parts} (st : St) : dop env (.build d z parts) st = plain (.build d z parts) st := (rfl)
theorem dop_mn {d mx x y} (st : St) : dop env (.mn d mx x y) st = plain (.mn d mx x y) st := (rfl)
theorem dop_mkf {d f caps} (st : St) : dop env (.mkf d f caps) st = plain (.mkf d f caps) st := (rfl)
theorem dop_alloc {d z} (st : St) : dop env (.alloc d z) st = act (den env) env (.alloc d z) st := (rfl)
theorem dop_box {d x} (st : St) : dop env (.box d x) st = act (den env) env (.box d x) st := (rfl)
theorem dop_store {d n p x} (st : St) : dop env (.store d n p x) st = act (den env) env (.store d n p x) st := (rfl)
theorem dop_mksl {d sz parts} (st : St) : dop env (.mksl d sz parts) st = act (den env) env (.mksl d sz parts) st := (rfl)
theorem dop_make {d z n c} (st : St) : dop env (.make d z n c) st = act (den env) env (.make d z n c) st := (rfl)
theorem dop_app {d sz x y} (st : St) : dop env (.app d sz x y) st = act (den env) env (.app d sz x y) st := (rfl)
theorem dop_cpy {d sz x y} (st : St) : dop env (.cpy d sz x y) st = act (den env) env (.cpy d sz x y) st := (rfl)
theorem dop_yield {d x args} (st : St) : dop env (.yield d x args) st = act (den env) env (.yield d x args) st := (rfl)
theorem op1_mov {d x} (st : St) : op1 (den env) env (.mov d x) st = plain (.mov d x) st := (rfl)
theorem op1_asg {d x} (st : St) : op1 (den env) env (.asg d x) st = plain (.asg d x) st := (rfl)
theorem op1_bin {d o x y} (st : St) : op1 (den env) env (.bin d o x y) st = plain (.bin d o x y) st := (rfl)
theorem op1_eqa {d neg n x y} (st : St) : op1 (den env) env (.eqa d neg n x y) st = plain (.eqa d neg n x y) st := (rfl)
theorem op1_eqb {d neg x y} (st : St) : op1 (den env) env (.eqb d neg x y) st = plain (.eqb d neg x y) st := (rfl)
theorem op1_un {d o x} (st : St) : op1 (den env) env (.un d o x) st = plain (.un d o x) st := (rfl)
theorem op1_conv {d k x} (st : St) : op1 (den env) env (.conv d k x) st = plain (.conv d k x) st := (rfl)
theorem op1_load {d n p} (st : St) : op1 (den env) env (.load d n p) st = plain (.load d n p) st := (rfl)
theorem op1_fadr {d p off} (st : St) : op1 (den env) env (.fadr d p off) st = plain (.fadr d p off) st := (rfl)
theorem op1_aadr {d p i len sz} (st : St) : op1 (den env) env (.aadr d p i len sz) st = plain (.aadr d p i len sz) st := (rfl)
theorem op1_iadr {d sz x i} (st : St) : op1 (den env) env (.iadr d sz x i) st = plain (.iadr d sz x i) st := (rfl)
theorem op1_fld {d x off n} (st : St) : op1 (den env) env (.fld d x off n) st = plain (.fld d x off n) st := (rfl)
theorem op1_idx {d x i len sz n} (st : St) : op1 (den env) env (.idx d x i len sz n) st = plain (.idx d x i len sz n) st := (rfl)
theorem op1_sli {d sz x lo hi} (st : St) : op1 (den env) env (.sli d sz x lo hi) st = plain (.sli d sz x lo hi) st := (rfl)
theorem op1_len {d x} (st : St) : op1 (den env) env (.len d x) st = plain (.len d x) st := (rfl)
theorem op1_lens {d x} (st : St) : op1 (den env) env (.lens d x) st = plain (.lens d x) st := (rfl)
theorem op1_ext {d x i} (st : St) : op1 (den env) env (.ext d x i) st = plain (.ext d x i) st := (rfl)
theorem op1_build {d z parts} (st : St) : op1 (den env) env (.build d z parts) st = plain (.build d z parts) st := (rfl)
theorem op1_mn {d mx x y} (st : St) : op1 (den env) env (.mn d mx x y) st = plain (.mn d mx x y) st := (rfl)
theorem op1_mkf {d f caps} (st : St) : op1 (den env) env (.mkf d f caps) st = plain (.mkf d f caps) st := (rfl)
theorem op1_alloc {d z} (st : St) : op1 (den env) env (.alloc d z) st = act (den env) env (.alloc d z) st := (rfl)
theorem op1_box {d x} (st : St) : op1 (den env) env (.box d x) st = act (den env) env (.box d x) st := (rfl)
theorem op1_store {d n p x} (st : St) : op1 (den env) env (.store d n p x) st = act (den env) env (.store d n p x) st := (rfl)
theorem op1_mksl {d sz parts} (st : St) : op1 (den env) env (.mksl d sz parts) st = act (den env) env (.mksl d sz parts) st := (rfl)
theorem op1_make {d z n c} (st : St) : op1 (den env) env (.make d z n c) st = act (den env) env (.make d z n c) st := (rfl)
theorem op1_app {d sz x y} (st : St) : op1 (den env) env (.app d sz x y) st = act (den env) env (.app d sz x y) st := (rfl)
theorem op1_cpy {d sz x y} (st : St) : op1 (den env) env (.cpy d sz x y) st = act (den env) env (.cpy d sz x y) st := (rfl)
theorem op1_yield {d x args} (st : St) : op1 (den env) env (.yield d x args) st = act (den env) env (.yield d x args) st := (rfl)
theorem killS_pv (d : Nat) (v : PV) : AV.kill d (.pv v) = .pv v := (rfl)
theorem killS_any (d : Nat) : AV.kill d .any = .any := (rfl)
theorem killS_row (d sz : Nat) (es : List PV) : AV.kill d (.row sz es) = .row sz es := (rfl)
theorem killS_pbox (d o j : Nat) : AV.kill d (.pbox o j) = .pbox o j := (rfl)
theorem killS_fn (d f : Nat) (l : List AV) : AV.kill d (.fn f l) = .fn f l := (rfl)
theorem killS_tup (d : Nat) (k : Bool) (l : List AV) : AV.kill d (.tup k l) = .tup k l := (rfl)
theorem killS_yld (d : Nat) : AV.kill d .yld = .yld := (rfl)
theorem killS_refs (d t off len : Nat) : AV.kill d (.ref (.slot t) off len) = bcase (decide (t = d)) .any (.ref (.slot t) off len) := by
  by_cases h : t = d <;> simp [AV.kill, AV.roots, h, bcase]
theorem killS_refc (d o j off len : Nat) : AV.kill d (.ref (.cell o j) off len) = .ref (.cell o j) off len := (rfl)
theorem killS_pels (d t i j : Nat) : AV.kill d (.pel (.slot t) i j) = bcase (decide (t = d)) .any (.pel (.slot t) i j) := by
  by_cases h : t = d <;> simp [AV.kill, AV.roots, h, bcase]
theorem killS_pelc (d o q i j : Nat) : AV.kill d (.pel (.cell o q) i j) = .pel (.cell o q) i j := (rfl)
theorem killc_pv (d : Nat) (v : PV) : AV.killCell d (.pv v) = .pv v := (rfl)
theorem killc_any (d : Nat) : AV.killCell d .any = .any := (rfl)
theorem killc_row (d sz : Nat) (es : List PV) : AV.killCell d (.row sz es) = .row sz es := (rfl)
theorem killc_pbox (d o j : Nat) : AV.killCell d (.pbox o j) = .pbox o j := (rfl)
theorem killc_fn (d f : Nat) (l : List AV) : AV.killCell d (.fn f l) = .fn f l := (rfl)
theorem killc_tup (d : Nat) (k : Bool) (l : List AV) : AV.killCell d (.tup k l) = .tup k l := (rfl)
theorem killc_yld (d : Nat) : AV.killCell d .yld = .yld := (rfl)
theorem killc_refc (d t j off len : Nat) : AV.killCell d (.ref (.cell t j) off len) = bcase (decide (t = d)) .any (.ref (.cell t j) off len) := by
  by_cases h : t = d <;> simp [AV.killCell, AV.rootsCell, h, bcase]
theorem killc_refs (d t off len : Nat) : AV.killCell d (.ref (.slot t) off len) = .ref (.slot t) off len := (rfl)
theorem killc_pelc (d t q i j : Nat) : AV.killCell d (.pel (.cell t q) i j) = bcase (decide (t = d)) .any (.pel (.cell t q) i j) := by
  by_cases h : t = d <;> simp [AV.killCell, AV.rootsCell, h, bcase]
theorem killc_pels (d t i j : Nat) : AV.killCell d (.pel (.slot t) i j) = .pel (.slot t) i j := (rfl)
theorem take_map_all {γ δ : Type} (f : γ → δ) (l : List γ) : (l.map f).take l.length = l.map f := List.take_of_length_le (by simp)
theorem scal_int (k : IntKind) (n : Int) : (PV.int k n).scalar = true := (rfl)
theorem scal_bool (b : Bool) : (PV.bool b).scalar = true := (rfl)
theorem scal_str (b : ByteArray) : (PV.str b).scalar = true := (rfl)
theorem scal_list (sz : Nat) (es : List PV) : (PV.list sz es).scalar = false := (rfl)
theorem scal_func (f : Nat) (es : List PV) : (PV.func f es).scalar = false := (rfl)
theorem cells_int (k : IntKind) (n : Int) : (PV.int k n).cells = [.int k n] := (rfl)
theorem cells_bool (b : Bool) : (PV.bool b).cells = [.bool b] := (rfl)
theorem cells_str (b : ByteArray) : (PV.str b).cells = [.str b] := (rfl)
theorem cells_list (sz : Nat) (es : List PV) : (PV.list sz es).cells = [.list sz es] := (rfl)
theorem cells_func (f : Nat) (es : List PV) : (PV.func f es).cells = [.func f es] := (rfl)
theorem cells_agg (cs : List PV) : (PV.agg cs).cells = cs := (rfl)
theorem part_one (c : PV) (cs : List PV) : part (c :: cs) 0 none = some c := (rfl)
theorem part_succ (c : PV) (cs : List PV) (n : Nat) (m : Option Nat) : part (c :: cs) (n + 1) m = part cs n m := by
  cases m with
  | none => rfl
  | some m =>
    simp only [part, List.length_cons, List.drop_succ_cons]
    by_cases h : n + m ≤ cs.length
    · rw [if_pos h, if_pos (by omega)]
    · rw [if_neg h, if_neg (by omega)]
theorem part_more (c : PV) (cs : List PV) (m : Nat) : part (c :: cs) 0 (some m) = if m ≤ (c :: cs).length then some (.agg ((c :: cs).take m)) else none := by
  simp only [part, Nat.zero_add, List.drop_zero]
theorem i64_fits {n : Int} (h : -9223372036854775808 ≤ n ∧ n ≤ 9223372036854775807) : IntKind.i64.wrap n = n := Go.IntWalk.i64_in n h
theorem i64_next {i n : Nat} (h : i < n) (hn : n ≤ lim) : IntKind.i64.wrap ((i : Int) + 1) = ((i + 1 : Nat) : Int) := by
  unfold lim at hn
  rw [Go.IntWalk.i64_in _ (by omega)]
  omega
theorem index_nat {k : IntKind} {i n : Nat} (h : i < n) : index (.int k (i : Int)) n = some i := by
  simp only [index]
  rw [if_pos (by omega)]
  simp
end
end Go.Proofs.YtncobemfpammfaaDoor

namespace Go.Proofs.YtncobemfpammfaaDoor
open V
def cloneX (n : Nat) : List PV → Option (List Res)
  | [.list sz es] => if sz = n ∧ es.length ≤ lim then some [(.list sz es, true)] else none
  | _ => none
def decAll {α : Type} (f : PV → Option α) : List PV → Option (List α)
  | [] => some []
  | p :: l => match f p with
    | some x => match decAll f l with
      | some xs => some (x :: xs)
      | none => none
    | none => none
theorem decAll_eq {α : Type} {f : PV → Option α} {enc : α → PV} (hf : ∀ p x, f p = some x → p = enc x) : ∀ {l : List PV} {xs : List α}, decAll f l = some xs → l = xs.map enc
  | [], _, h => by cases h; rfl
  | p :: l, xs, h => by
    unfold decAll at h
    split at h
    case h_2 => cases h
    rename_i x hx
    split at h
    case h_2 => cases h
    rename_i ys hy
    cases h
    rw [List.map_cons, ← hf p x hx, ← decAll_eq hf hy]
theorem decAll_enc {α : Type} {f : PV → Option α} {enc : α → PV} : ∀ {l : List α}, (∀ x ∈ l, f (enc x) = some x) → decAll f (l.map enc) = some l
  | [], _ => rfl
  | x :: l, h => by
    simp only [List.map_cons, decAll, h x (by simp), decAll_enc (l := l) fun y hy => h y (by simp [hy])]
end Go.Proofs.YtncobemfpammfaaDoor

namespace Go.Proofs.YtncobemfpammfaaDoor

structure End where
  pos : Nat
  list : Nat
  step : Int
  deriving DecidableEq, Inhabited
def eEnd (e : End) : PV := .agg [.int .i64 (e.pos : Int), .int .i64 (e.list : Int), .int .i64 e.step]
def decEnd : PV → Option End
  | .agg [.int .i64 a, .int .i64 b, .int .i64 c] => if 0 ≤ a ∧ 0 ≤ b then some ⟨a.toNat, b.toNat, c⟩ else none
  | _ => none
theorem decEnd_enc (e : End) : decEnd (eEnd e) = some e := by
  simp [decEnd, eEnd]
theorem decEnd_eq {p : PV} {e : End} (h : decEnd p = some e) : p = eEnd e := by
  unfold decEnd at h
  split at h
  · split at h
    · rename_i hc
      cases h
      simp only [eEnd, Int.toNat_of_nonneg hc.1, Int.toNat_of_nonneg hc.2]
    · cases h
  · cases h
def ltEnd (x y : End) : Bool := decide (x.pos < y.pos)
def sortE (l : List End) : List End := (Sort.pdq ltEnd l.toArray 0 l.length (Lib.bitLen l.length) true true).toList
def sortEndsX (g : Nat) : PV → List PV → Option (List PV)
  | .func f [], es => if f = g then if es.length ≤ 1000000 then (decAll decEnd es).map fun l => (sortE l).map eEnd else none else none
  | _, _ => none
theorem sortEndsX_enc {g : Nat} {l : List End} (h : l.length ≤ 1000000) : sortEndsX g (.func g []) (l.map eEnd) = some ((sortE l).map eEnd) := by
  unfold sortEndsX
  simp only [if_true, List.length_map, h]
  rw [decAll_enc fun x _ => decEnd_enc x]
  rfl
theorem sortEndsX_eq {g : Nat} {c : PV} {es es' : List PV} (h : sortEndsX g c es = some es') : ∃ l : List End, c = .func g [] ∧ es = l.map eEnd ∧ l.length ≤ 1000000 ∧ es' = (sortE l).map eEnd := by
  unfold sortEndsX at h
  split at h
  · split at h
    · rename_i hg
      split at h
      · rename_i hl
        obtain ⟨l, h1, h2⟩ := Option.map_eq_some_iff.1 h
        have := decAll_eq (fun p x h => decEnd_eq h) h1
        subst this
        exact ⟨l, by rw [hg], rfl, by simpa using hl, h2.symm⟩
      · cases h
    · cases h
  · cases h
end Go.Proofs.YtncobemfpammfaaDoor

namespace Go.Proofs
open Go.Shelf
def Tryd.tz_ren : Go.Shelf.Ren := ⟨fun | 29 => 60 | n => n, fun | 22 => 102 | 3 => 3 | 4 => 4 | 25 => 110 | 54 => 127 | 0 => 0 | 5 => 5 | n => n, fun | 1 => 0 | n => n⟩
theorem Tryd.tz : Go.Proofs.Lays7.n29 Tryd.prog Tryd.tz_ren := {
  mixed := by kernel_rfl
  f29 := Tryd.func60.trans (congrArg some (by kernel_rfl))
  t0 := Tryd.underlying0
  a0 := Tryd.isAgg0
  z0 := Tryd.sizeOf0
  v0 := Tryd.zeroValue0
  i0 := by kernel_rfl
  t3 := Tryd.underlying3
  a3 := Tryd.isAgg3
  z3 := Tryd.sizeOf3
  v3 := Tryd.zeroValue3
  i3 := by kernel_rfl
  t4 := Tryd.underlying4
  a4 := Tryd.isAgg4
  z4 := Tryd.sizeOf4
  v4 := Tryd.zeroValue4
  i4 := by kernel_rfl
  t5 := Tryd.underlying5
  a5 := Tryd.isAgg5
  z5 := Tryd.sizeOf5
  v5 := Tryd.zeroValue5
  i5 := by kernel_rfl
  t22 := Tryd.underlying102
  a22 := Tryd.isAgg102
  z22 := Tryd.sizeOf102
  v22 := Tryd.zeroValue102
  i22 := by kernel_rfl
  t25 := Tryd.underlying110
  a25 := Tryd.isAgg110
  z25 := Tryd.sizeOf110
  v25 := Tryd.zeroValue110
  i25 := by kernel_rfl
  t54 := Tryd.underlying127
  a54 := Tryd.isAgg127
  z54 := Tryd.sizeOf127
  g1 := by kernel_rfl }
end Go.Proofs

namespace Go.Proofs.YtncobemfpammfaaDoor
open Go.RowKit Go.Shelf
def tzX : List PV → Option (List Res)
  | [.int .u64 n] => if 0 ≤ n ∧ n < 18446744073709551616 then some [(.int .i64 (Lib.ctz 64 n.toNat : Nat), false)] else none
  | _ => none
theorem tab_at {T : Tags} {w : World} (h : GlobOk T w) : TabAt 0 Lib.deBruijn64tab w := fun j hj => by
  have hp := h _ (List.mem_singleton.2 rfl)
  obtain ⟨b, off, e1, _, _, h3⟩ := hp.iptr_inv
  obtain ⟨eb, eo⟩ : 0 = b ∧ 0 = off + 0 := by
    injection e1 with e1
    injection e1 with e1
    injection e1 with e2 e3
    exact ⟨e2, e3⟩
  have eo : off = 0 := by omega
  subst eb; subst eo
  obtain ⟨u, c1, _, c2⟩ := h3 j (PV.int .u8 ((Lib.deBruijn64tab[j] : Nat) : Int)) (by simp [List.getElem?_eq_getElem hj])
  rw [c2.int_inv] at c1
  rw [show Lib.deBruijn64tab.getD j 0 = Lib.deBruijn64tab[j] by simp [List.getD_eq_getElem?_getD, List.getElem?_eq_getElem hj]]
  simpa using c1
theorem tz_ok : ∀ args rs, tzX args = some rs → callable Tryd.prog 60 = true ∧ CallOk Tryd.prog 60 args rs := fun args rs h => by
  unfold tzX at h
  split at h
  case h_2 => cases h
  rename_i n
  split at h
  case isFalse => cases h
  rename_i hn
  cases h
  refine ⟨by kernel_rfl, fun T0 w vs h1 h2 h3 h4 hG => ?_⟩
  match vs, h3 with
  | [v], _ =>
    have hv := (h4 0 _ v rfl rfl).int_inv
    subst hv
    have hc := Any7.bits_TrailingZeros64 Tryd.tz n.toNat (by omega) w (fun _ => tab_at hG)
    rw [Int.toNat_of_nonneg hn.1] at hc
    refine Calls.mono hc ?_
    rintro e w' ⟨rfl, rfl⟩
    refine ⟨_, T0, rfl, Below.refl _ _, fun _ _ => rfl, h2, #[_], rfl, rfl, fun i r u hr hu => ?_⟩
    match i with
    | 0 => cases hr; cases hu; exact .int _ _
    | i + 1 => simp at hr
end Go.Proofs.YtncobemfpammfaaDoor

namespace Go.Proofs.YtncobemfpammfaaDoor

def fn3 : VFn := ⟨2, 41, [.tmp 4], (.seq (.ops [.asg 4 (.c (.bool false))]) (.seq (.seq (.ops [.mov 9 (.t 0), .call 10 4 [(.t 9)], .un 11 .not (.t 10), .mov 12 (.t 11), .grd 12 false (.mov 13 (.t 1)), .grd 12 false (.call 14 4 [(.t 13)]), .grd 12 false (.un 15 .not (.t 14)), .pick 16 (.t 12) (.c (.bool true)) (.t 15)]) (.cond (.t 16) (.seq (.ops [.call 17 5 [], .asg 4 (.t 17)]) .ret) .skip)) (.seq (.ops [.mov 19 (.t 0), .mov 20 (.t 1), .call 21 6 [(.t 19), (.t 20)], .mov 18 (.t 21), .ext 22 (.t 18) 0, .ext 23 (.t 18) 1, .asg 5 (.t 22), .asg 6 (.t 23)]) (.seq (.ops [.mov 25 (.t 0), .mov 26 (.t 1), .call 27 7 [(.t 25), (.t 26)], .mov 24 (.t 27), .ext 28 (.t 24) 0, .ext 29 (.t 24) 1, .asg 7 (.t 28), .asg 8 (.t 29)]) (.seq (.ops [.call 30 5 [], .mov 31 (.t 30), .grd 31 true (.mov 32 (.t 5)), .grd 31 true (.mov 33 (.t 7)), .grd 31 true (.call 34 8 [(.t 32), (.t 33)]), .pick 35 (.t 31) (.t 34) (.c (.bool false)), .mov 36 (.t 35), .grd 36 true (.mov 37 (.t 6)), .grd 36 true (.mov 38 (.t 8)), .grd 36 true (.bin 39 .eql (.t 37) (.t 38)), .pick 40 (.t 36) (.t 39) (.c (.bool false)), .asg 4 (.t 40)]) .ret)))))⟩
def fn4_b0 : VCode := (.seq (.seq (.ops [.mov 4 (.t 3), .mov 5 (.t 0), .len 6 (.t 5), .bin 7 .lss (.t 4) (.t 6), .mov 8 (.t 7), .grd 8 true (.mov 9 (.t 3)), .grd 8 true (.bin 10 .lss (.t 9) (.c (.int .i64 20))), .pick 11 (.t 8) (.t 10) (.c (.bool false))]) (.cond (.t 11) .skip (.exit 0))) (.seq (.block 1 (.seq (.ops [.mov 14 (.t 0), .mov 15 (.t 3), .iadr 16 2 (.t 14) (.t 15), .fadr 17 (.t 16) 0, .load 18 none (.t 17), .bin 19 .gtr (.t 18) (.c (.int .i64 200)), .mov 20 (.t 19), .grd 20 true (.mov 21 (.t 0)), .grd 20 true (.mov 22 (.t 3)), .grd 20 true (.iadr 23 2 (.t 21) (.t 22)), .grd 20 true (.fadr 24 (.t 23) 0), .grd 20 true (.load 25 none (.t 24)), .grd 20 true (.bin 26 .leq (.t 25) (.c (.int .i64 4096))), .pick 27 (.t 20) (.t 26) (.c (.bool false)), .mov 28 (.t 27), .grd 28 false (.mov 29 (.t 0)), .grd 28 false (.mov 30 (.t 3)), .grd 28 false (.iadr 31 2 (.t 29) (.t 30)), .grd 28 false (.fadr 32 (.t 31) 1), .grd 28 false (.load 33 none (.t 32)), .grd 28 false (.len 34 (.t 33)), .grd 28 false (.bin 35 .gtr (.t 34) (.c (.int .i64 100))), .pick 36 (.t 28) (.c (.bool true)) (.t 35)]) (.cond (.t 36) (.seq (.ops [.asg 2 (.c (.bool false))]) .ret) .skip))) (.ops [.mov 12 (.t 3), .bin 13 .add (.t 12) (.c (.int .i64 1)), .asg 3 (.t 13)])))
def fn4_l1 : VCode :=
(.clean [0, 3] [0, 2] (.block 0 (.loop [0, 3] fn4_b0)))
def fn4 : VFn := ⟨1, 40, [.tmp 2], (.seq (.ops [.asg 2 (.c (.bool false))]) (.seq (.seq (.ops [.asg 3 (.c (.int .i64 0))])
    fn4_l1) (.seq (.ops [.mov 37 (.t 0), .len 38 (.t 37), .bin 39 .leq (.t 38) (.c (.int .i64 20)), .asg 2 (.t 39)]) .ret)))⟩
def fn5 : VFn := ⟨0, 107, [.tmp 0], (.seq (.ops [.asg 0 (.c (.bool false))]) (.seq (.ops [.build 15 [(.int .u8 0), (.int .u8 0), (.int .u8 0), (.int .u8 0), (.int .u8 0), (.int .u8 0), (.int .u8 0), (.int .u8 0)] [(0, 1, (.c (.int .u8 1)))], .build 16 [(.int .u8 0), (.int .u8 0), (.int .u8 0), (.int .u8 0), (.int .u8 0), (.int .u8 0), (.int .u8 0), (.int .u8 0)] [(0, 1, (.c (.int .u8 2)))], .build 17 [(.int .u8 0), (.int .u8 0), (.int .u8 0), (.int .u8 0), (.int .u8 0), (.int .u8 0), (.int .u8 0), (.int .u8 0)] [(0, 1, (.c (.int .u8 3)))], .alloc 1 [(.int .u8 0), (.int .u8 0), (.int .u8 0), (.int .u8 0), (.int .u8 0), (.int .u8 0), (.int .u8 0), (.int .u8 0)], .alloc 2 [(.int .u8 0), (.int .u8 0), (.int .u8 0), (.int .u8 0), (.int .u8 0), (.int .u8 0), (.int .u8 0), (.int .u8 0)], .alloc 3 [(.int .u8 0), (.int .u8 0), (.int .u8 0), (.int .u8 0), (.int .u8 0), (.int .u8 0), (.int .u8 0), (.int .u8 0)], .store none 8 (.t 1) (.t 15), .store none 8 (.t 2) (.t 16), .store none 8 (.t 3) (.t 17)]) (.seq (.drs [] [1, 2, 3, 4, 5, 24, 31] [.load 18 (some 8) (.t 1), .load 19 (some 8) (.t 2), .build 20 [(.int .u8 0), (.int .u8 0), (.int .u8 0), (.int .u8 0), (.int .u8 0), (.int .u8 0), (.int .u8 0), (.int .u8 0)] [], .build 21 [(.int .u8 0), (.int .u8 0), (.int .u8 0), (.int .u8 0), (.int .u8 0), (.int .u8 0), (.int .u8 0), (.int .u8 0)] [], .load 22 (some 8) (.t 3), .mksl 23 8 [(.t 18), (.t 19), (.t 20), (.t 21), (.t 22)], .mksl 24 1 [(.t 23)], .build 25 [(.int .u8 0), (.int .u8 0), (.int .u8 0), (.int .u8 0), (.int .u8 0), (.int .u8 0), (.int .u8 0), (.int .u8 0)] [], .load 26 (some 8) (.t 2), .build 27 [(.int .u8 0), (.int .u8 0), (.int .u8 0), (.int .u8 0), (.int .u8 0), (.int .u8 0), (.int .u8 0), (.int .u8 0)] [], .build 28 [(.int .u8 0), (.int .u8 0), (.int .u8 0), (.int .u8 0), (.int .u8 0), (.int .u8 0), (.int .u8 0), (.int .u8 0)] [], .build 29 [(.int .u8 0), (.int .u8 0), (.int .u8 0), (.int .u8 0), (.int .u8 0), (.int .u8 0), (.int .u8 0), (.int .u8 0)] [], .mksl 30 8 [(.t 25), (.t 26), (.t 27), (.t 28), (.t 29)], .mksl 31 1 [(.t 30)], .asg 4 (.t 24), .asg 5 (.t 31)]
     [⟨[([0, 1, 2, 3, 4, 7, 8, 9, 10, 11], 5), ([], 6), ([14], 12), ([], 13)], none, [15], [0, 1, 2, 3, 4, 7, 8, 9, 10, 11, 5, 6, 14, 12, 13, 15], false⟩, ⟨[([0, 1, 2, 3, 4, 7, 8, 9, 10, 11], 5), ([], 12), ([], 6), ([14], 13)], none, [15], [0, 1, 2, 3, 4, 7, 8, 9, 10, 11, 5, 12, 6, 14, 13, 15], false⟩, ⟨[([0, 1, 2, 3, 4, 7, 8, 9, 10, 11], 5), ([], 12), ([], 13), ([], 6)], none, [14, 15], [0, 1, 2, 3, 4, 7, 8, 9, 10, 11, 5, 12, 13, 6, 14, 15], false⟩, ⟨[([0, 1, 2, 3, 4, 7, 8, 9, 10, 11], 12), ([], 5), ([], 6), ([14], 13)], none, [15], [0, 1, 2, 3, 4, 7, 8, 9, 10, 11, 12, 5, 6, 14, 13, 15], false⟩, ⟨[([0, 1, 2, 3, 4, 7, 8, 9, 10, 11], 12), ([], 5), ([], 13), ([], 6)], none, [14, 15], [0, 1, 2, 3, 4, 7, 8, 9, 10, 11, 12, 5, 13, 6, 14, 15], false⟩, ⟨[([0, 1, 2, 3, 4, 7, 8, 9, 10, 11], 12), ([], 13), ([], 5), ([], 6)], none, [14, 15], [0, 1, 2, 3, 4, 7, 8, 9, 10, 11, 12, 13, 5, 6, 14, 15], false⟩]) (.seq (.ops [.build 32 [(.int .i64 0), (.int .i64 0)] [(0, 1, (.c (.int .i64 0))), (1, 1, (.c (.int .i64 2)))], .build 33 [(.int .i64 0), (.int .i64 0)] [(0, 1, (.c (.int .i64 4))), (1, 1, (.c (.int .i64 1)))], .mksl 34 2 [(.t 32), (.t 33)], .mksl 35 1 [(.t 34)], .asg 6 (.t 35)]) (.seq (.ops [.mov 37 (.t 4), .mov 38 (.t 6), .call 39 9 [(.t 37), (.t 38)], .mov 36 (.t 39), .ext 40 (.t 36) 0, .ext 41 (.t 36) 1, .asg 7 (.t 40), .asg 8 (.t 41)]) (.seq (.ops [.mov 43 (.t 4), .mov 44 (.t 5), .mov 45 (.t 6), .call 46 10 [(.t 43), (.t 44), (.t 45)], .mov 42 (.t 46), .ext 47 (.t 42) 0, .ext 48 (.t 42) 1, .asg 9 (.t 47), .asg 10 (.t 48)]) (.seq (.ops [.mov 50 (.t 4), .mov 51 (.t 5), .mov 52 (.t 9), .call 53 11 [(.t 50), (.t 51), (.t 52)], .mov 49 (.t 53), .ext 54 (.t 49) 0, .ext 55 (.t 49) 1, .asg 11 (.t 54), .asg 12 (.t 55)]) (.seq (.ops [.mov 57 (.t 4), .mov 58 (.t 5), .mov 59 (.t 6), .call 60 11 [(.t 57), (.t 58), (.t 59)], .mov 56 (.t 60), .ext 61 (.t 56) 0, .ext 62 (.t 56) 1, .asg 13 (.t 61), .asg 14 (.t 62)]) (.seq (.seq (.ops [.mov 63 (.t 8), .mov 64 (.t 10), .bin 65 .add (.t 63) (.t 64), .mov 66 (.t 12), .bin 67 .add (.t 65) (.t 66), .mov 68 (.t 14), .bin 69 .add (.t 67) (.t 68), .bin 70 .neq (.t 69) (.c (.int .i64 0)), .mov 71 (.t 70), .grd 71 false (.mov 72 (.t 7)), .grd 71 false (.load 73 (some 8) (.t 1)), .grd 71 false (.load 74 (some 8) (.t 2)), .grd 71 false (.mksl 75 8 [(.t 73), (.t 74)]), .grd 71 false (.build 76 [(.int .i64 0), (.int .i64 0), (.list 0 [])] [(2, 1, (.t 75))]), .grd 71 false (.load 77 (some 8) (.t 3)), .grd 71 false (.mksl 78 8 [(.t 77)]), .grd 71 false (.build 79 [(.int .i64 0), (.int .i64 0), (.list 0 [])] [(1, 1, (.c (.int .i64 4))), (2, 1, (.t 78))]), .grd 71 false (.mksl 80 3 [(.t 76), (.t 79)]), .grd 71 false (.call 81 12 [(.t 72), (.t 80)]), .grd 71 false (.un 82 .not (.t 81)), .pick 83 (.t 71) (.c (.bool true)) (.t 82)]) (.cond (.t 83) (.seq (.ops [.asg 0 (.c (.bool false))]) .ret) .skip)) (.seq (.ops [.mov 84 (.t 9), .build 85 [(.int .i64 0), (.int .i64 0)] [(0, 1, (.c (.int .i64 0))), (1, 1, (.c (.int .i64 1)))], .build 86 [(.int .i64 0), (.int .i64 0)] [(0, 1, (.c (.int .i64 4))), (1, 1, (.c (.int .i64 1)))], .mksl 87 2 [(.t 85), (.t 86)], .mksl 88 1 [(.t 87)], .call 89 8 [(.t 84), (.t 88)], .mov 90 (.t 89), .grd 90 true (.mov 91 (.t 11)), .pick 92 (.t 90) (.t 91) (.c (.bool false)), .mov 93 (.t 92), .grd 93 true (.mov 94 (.t 13)), .grd 93 true (.un 95 .not (.t 94)), .pick 96 (.t 93) (.t 95) (.c (.bool false)), .mov 97 (.t 96), .grd 97 true (.mov 98 (.t 6)), .grd 97 true (.call 99 13 [(.t 98)]), .grd 97 true (.bin 100 .eql (.t 99) (.c (.int .i64 3))), .pick 101 (.t 97) (.t 100) (.c (.bool false)), .mov 102 (.t 101), .grd 102 true (.mov 103 (.t 9)), .grd 102 true (.call 104 13 [(.t 103)]), .grd 102 true (.bin 105 .eql (.t 104) (.c (.int .i64 2))), .pick 106 (.t 102) (.t 105) (.c (.bool false)), .asg 0 (.t 106)]) .ret))))))))))⟩
def fn6 : VFn := ⟨2, 19, [.tmp 4, .tmp 5], (.seq (.ops [.asg 4 (.nil 1), .asg 5 (.c (.int .i64 0))]) (.seq (.ops [.mov 9 (.t 0), .mov 10 (.t 1), .call 11 14 [(.t 9), (.t 10)], .mov 8 (.t 11), .ext 12 (.t 8) 0, .ext 13 (.t 8) 1, .asg 6 (.t 12), .asg 7 (.t 13)]) (.seq (.seq (.ops [.mov 14 (.t 7), .bin 15 .neq (.t 14) (.c (.int .i64 0))]) (.cond (.t 15) (.seq (.ops [.mov 16 (.t 7), .asg 4 (.nil 1), .asg 5 (.t 16)]) .ret) .skip)) (.seq (.ops [.mov 17 (.t 6), .call 18 15 [(.t 17), (.c (.func 16 []))], .asg 4 (.t 18), .asg 5 (.c (.int .i64 0))]) .ret))))⟩
def fn7_b0 : VCode := (.seq (.seq (.ops [.mov 19 (.t 9), .mov 20 (.t 6), .len 21 (.t 20), .bin 22 .lss (.t 19) (.t 21)]) (.cond (.t 22) .skip (.exit 0))) (.seq (.block 1 (.ops [.mov 25 (.t 8), .mov 26 (.t 6), .mov 27 (.t 9), .iadr 28 2 (.t 26) (.t 27), .load 29 (some 2) (.t 28), .call 30 19 [(.t 29)], .mksl 31 1 [(.t 30)], .app 32 1 (.t 25) (.t 31), .asg 8 (.t 32)])) (.ops [.mov 23 (.t 9), .bin 24 .add (.t 23) (.c (.int .i64 1)), .asg 9 (.t 24)])))
def fn7_l1 : VCode :=
(.clean [6, 8, 9, 14, 32] [4, 5, 8] (.block 0 (.loop [6, 8, 9, 14, 32] fn7_b0)))
def fn7 : VFn := ⟨2, 34, [.tmp 4, .tmp 5], (.seq (.ops [.asg 4 (.nil 1), .asg 5 (.c (.int .i64 0))]) (.seq (.ops [.mov 11 (.t 0), .mov 12 (.t 1), .call 13 18 [(.t 11), (.t 12)], .mov 10 (.t 13), .ext 14 (.t 10) 0, .ext 15 (.t 10) 1, .asg 6 (.t 14), .asg 7 (.t 15)]) (.seq (.seq (.ops [.mov 16 (.t 7), .bin 17 .neq (.t 16) (.c (.int .i64 0))]) (.cond (.t 17) (.seq (.ops [.mov 18 (.t 7), .asg 4 (.nil 1), .asg 5 (.t 18)]) .ret) .skip)) (.seq (.ops [.asg 8 (.nil 1)]) (.seq (.seq (.ops [.asg 9 (.c (.int .i64 0))])
       fn7_l1) (.seq (.ops [.mov 33 (.t 8), .asg 4 (.t 33), .asg 5 (.c (.int .i64 0))]) .ret))))))⟩
def fn8_b0 : VCode := (.seq (.seq (.ops [.mov 29 (.t 6), .mov 30 (.t 0), .mov 31 (.t 5), .iadr 32 1 (.t 30) (.t 31), .load 33 none (.t 32), .len 34 (.t 33), .bin 35 .lss (.t 29) (.t 34)]) (.cond (.t 35) .skip (.exit 2))) (.seq (.block 3 (.seq (.drw [] [] none [0, 1, 2, 3, 4, 5, 6, 7, 8, 9, 10, 11, 12, 13, 14] [.mov 38 (.t 0), .mov 39 (.t 5), .iadr 40 1 (.t 38) (.t 39), .load 41 none (.t 40), .mov 42 (.t 6), .iadr 43 2 (.t 41) (.t 42), .load 44 (some 2) (.t 43), .mov 45 (.t 1), .mov 46 (.t 5), .iadr 47 1 (.t 45) (.t 46), .load 48 none (.t 47), .mov 49 (.t 6), .iadr 50 2 (.t 48) (.t 49), .load 51 (some 2) (.t 50), .eqa 52 true 2 (.t 44) (.t 51)]) (.cond (.t 52) (.seq (.ops [.asg 4 (.c (.bool false))]) .ret) .skip))) (.ops [.mov 36 (.t 6), .bin 37 .add (.t 36) (.c (.int .i64 1)), .asg 6 (.t 37)])))
def fn8_l1 : VCode :=
(.clean [0, 1, 5, 6] [0, 1, 4, 5] (.block 2 (.loop [0, 1, 5, 6] fn8_b0)))
def fn8_b2 : VCode := (.seq (.seq (.ops [.mov 12 (.t 5), .mov 13 (.t 0), .len 14 (.t 13), .bin 15 .lss (.t 12) (.t 14)]) (.cond (.t 15) .skip (.exit 0))) (.seq (.block 1 (.seq (.seq (.drw [] [] none [0, 1, 2, 3, 4, 5, 6, 7, 8, 9, 10] [.mov 18 (.t 0), .mov 19 (.t 5), .iadr 20 1 (.t 18) (.t 19), .load 21 none (.t 20), .len 22 (.t 21), .mov 23 (.t 1), .mov 24 (.t 5), .iadr 25 1 (.t 23) (.t 24), .load 26 none (.t 25), .len 27 (.t 26), .bin 28 .neq (.t 22) (.t 27)]) (.cond (.t 28) (.seq (.ops [.asg 4 (.c (.bool false))]) .ret) .skip)) (.seq (.ops [.asg 6 (.c (.int .i64 0))])
      fn8_l1))) (.ops [.mov 16 (.t 5), .bin 17 .add (.t 16) (.c (.int .i64 1)), .asg 5 (.t 17)])))
def fn8_l3 : VCode :=
(.clean [0, 1, 5] [4] (.block 0 (.loop [0, 1, 5] fn8_b2)))
def fn8 : VFn := ⟨2, 53, [.tmp 4], (.seq (.ops [.asg 4 (.c (.bool false))]) (.seq (.seq (.ops [.mov 7 (.t 0), .len 8 (.t 7), .mov 9 (.t 1), .len 10 (.t 9), .bin 11 .neq (.t 8) (.t 10)]) (.cond (.t 11) (.seq (.ops [.asg 4 (.c (.bool false))]) .ret) .skip)) (.seq (.seq (.ops [.asg 5 (.c (.int .i64 0))])
     fn8_l3) (.seq (.ops [.asg 4 (.c (.bool true))]) .ret))))⟩
def fn9_b0 : VCode := (.seq (.ops [.asg 9 (.t 24)]) (.ops [.alloc 10 [(.int .i64 0), (.int .i64 0)], .store none 2 (.t 10) (.t 25)]))
def fn9_b1 : VCode := (.block 1 (.drw [] [([0, 1, 2, 3, 4, 5, 6, 7, 8, 9, 10, 11, 12, 13, 14, 15], 16), ([17], 18)] (some ([], [], 19, [([], 20)])) [] [.load 26 none (.t 8), .mov 27 (.t 9), .fadr 28 (.t 10) 0, .load 29 none (.t 28), .load 30 none (.t 2), .mov 31 (.t 9), .iadr 32 1 (.t 30) (.t 31), .load 33 none (.t 32), .fadr 34 (.t 10) 0, .load 35 none (.t 34), .fadr 36 (.t 10) 0, .load 37 none (.t 36), .fadr 38 (.t 10) 1, .load 39 none (.t 38), .bin 40 .add (.t 37) (.t 39), .sli 41 8 (.t 33) (some (.t 35)) (some (.t 40)), .call 42 23 [(.t 41)], .build 43 [(.int .i64 0), (.int .i64 0), (.list 0 [])] [(0, 1, (.t 27)), (1, 1, (.t 29)), (2, 1, (.t 42))], .mksl 44 3 [(.t 43)], .app 45 3 (.t 26) (.t 44), .store none 1 (.t 8) (.t 45)]))
def fn9 : VFn := ⟨2, 47, [.tmp 4, .tmp 5], (.seq (.ops [.box 2 (.t 0), .asg 4 (.nil 3), .asg 5 (.c (.int .i64 0))]) (.seq (.seq (.ops [.load 11 none (.t 2), .call 12 20 [(.t 11)], .asg 6 (.t 12)]) (.seq (.ops [.mov 13 (.t 6), .bin 14 .neq (.t 13) (.c (.int .i64 0))]) (.cond (.t 14) (.seq (.ops [.mov 15 (.t 6), .asg 4 (.nil 3), .asg 5 (.t 15)]) .ret) .skip))) (.seq (.seq (.ops [.load 16 none (.t 2), .mov 17 (.t 1), .call 18 21 [(.t 16), (.t 17)], .asg 7 (.t 18)]) (.seq (.ops [.mov 19 (.t 7), .bin 20 .neq (.t 19) (.c (.int .i64 0))]) (.cond (.t 20) (.seq (.ops [.mov 21 (.t 7), .asg 4 (.nil 3), .asg 5 (.t 21)]) .ret) .skip))) (.seq (.ops [.alloc 8 [(.list 3 [])]]) (.seq (.seq (.ops [.mov 22 (.t 1), .call 23 22 [(.t 22)]]) (.block 0 (.rng (.t 23) [24, 25] fn9_b0 fn9_b1))) (.seq (.ops [.load 46 none (.t 8), .asg 4 (.t 46), .asg 5 (.c (.int .i64 0))]) .ret))))))⟩
def fn10 : VFn := ⟨3, 29, [.tmp 6, .tmp 7], (.seq (.ops [.box 5 (.t 2), .asg 6 (.nil 1), .asg 7 (.c (.int .i64 0))]) (.seq (.ops [.mov 12 (.t 0), .mov 13 (.t 1), .call 14 24 [(.t 12), (.t 13)], .mov 11 (.t 14), .ext 15 (.t 11) 0, .ext 16 (.t 11) 1, .asg 8 (.t 15), .asg 9 (.t 16)]) (.seq (.seq (.ops [.mov 17 (.t 9), .bin 18 .neq (.t 17) (.c (.int .i64 0))]) (.cond (.t 18) (.seq (.ops [.mov 19 (.t 9), .asg 6 (.nil 1), .asg 7 (.t 19)]) .ret) .skip)) (.seq (.seq (.ops [.mov 20 (.t 0), .load 21 none (.t 5), .call 22 21 [(.t 20), (.t 21)], .asg 10 (.t 22)]) (.seq (.ops [.mov 23 (.t 10), .bin 24 .neq (.t 23) (.c (.int .i64 0))]) (.cond (.t 24) (.seq (.ops [.mov 25 (.t 10), .asg 6 (.nil 1), .asg 7 (.t 25)]) .ret) .skip))) (.seq (.ops [.mov 26 (.t 8), .mkf 27 26 [(.t 5)], .call 28 25 [(.t 26), (.t 27)], .asg 6 (.t 28), .asg 7 (.c (.int .i64 0))]) .ret)))))⟩
def fn11 : VFn := ⟨3, 34, [.tmp 6, .tmp 7], (.seq (.ops [.asg 6 (.c (.bool false)), .asg 7 (.c (.int .i64 0))]) (.seq (.seq (.ops [.mov 13 (.t 0), .mov 14 (.t 1), .mov 15 (.t 2), .call 16 10 [(.t 13), (.t 14), (.t 15)], .mov 12 (.t 16), .ext 17 (.t 12) 0, .ext 18 (.t 12) 1, .asg 8 (.t 17), .asg 9 (.t 18)]) (.seq (.ops [.mov 19 (.t 9), .bin 20 .neq (.t 19) (.c (.int .i64 0))]) (.cond (.t 20) (.seq (.ops [.mov 21 (.t 9), .asg 6 (.c (.bool false)), .asg 7 (.t 21)]) .ret) .skip))) (.seq (.ops [.mov 23 (.t 0), .mov 24 (.t 1), .call 25 24 [(.t 23), (.t 24)], .mov 22 (.t 25), .ext 26 (.t 22) 0, .ext 27 (.t 22) 1, .asg 10 (.t 26), .asg 11 (.t 27)]) (.seq (.seq (.ops [.mov 28 (.t 11), .bin 29 .neq (.t 28) (.c (.int .i64 0))]) (.cond (.t 29) (.seq (.ops [.mov 30 (.t 11), .asg 6 (.c (.bool false)), .asg 7 (.t 30)]) .ret) .skip)) (.seq (.ops [.mov 31 (.t 10), .mov 32 (.t 2), .call 33 28 [(.t 31), (.t 32), (.c (.func 29 []))], .asg 6 (.t 33), .asg 7 (.c (.int .i64 0))]) .ret)))))⟩
def fn12 : VFn := ⟨2, 8, [.tmp 4], (.seq (.ops [.asg 4 (.c (.bool false))]) (.seq (.ops [.mov 5 (.t 0), .mov 6 (.t 1), .call 7 31 [(.t 5), (.t 6)], .asg 4 (.t 7)]) .ret))⟩
def fn13_b0 : VCode := (.seq (.ops [.bin 10 .lss (.t 9) (.t 8)]) (.seq (.cond (.t 10) .skip (.exit 0)) (.seq (.block 1 (.seq (.ops [.iadr 11 1 (.t 7) (.t 9), .load 12 none (.t 11), .asg 5 (.t 12)]) (.ops [.mov 13 (.t 3), .mov 14 (.t 5), .bin 15 .add (.t 13) (.t 14), .asg 3 (.t 15)]))) (.ops [.bin 16 .add (.t 9) (.c (.int .i64 1)), .mov 9 (.t 16)]))))
def fn13_l1 : VCode :=
(.clean [3, 7, 8, 9] [2, 3] (.block 0 (.loop [3, 7, 8, 9] fn13_b0)))
def fn13 : VFn := ⟨1, 18, [.tmp 2], (.seq (.ops [.asg 2 (.c (.int .i64 0))]) (.seq (.ops [.asg 3 (.c (.int .i64 0))]) (.seq (.seq (.ops [.mov 6 (.t 0), .call 7 32 [(.t 6), (.c (.func 33 []))], .len 8 (.t 7), .mov 9 (.c (.int .i64 0))])
     fn13_l1) (.seq (.ops [.mov 17 (.t 3), .asg 2 (.t 17)]) .ret))))⟩
def fn14 : VFn := ⟨2, 16, [.tmp 4, .tmp 5], (.seq (.ops [.asg 4 (.nil 2), .asg 5 (.c (.int .i64 0))]) (.seq (.seq (.ops [.mov 6 (.t 0), .len 7 (.t 6), .mov 8 (.t 1), .len 9 (.t 8), .bin 10 .neq (.t 7) (.t 9)]) (.cond (.t 10) (.seq (.ops [.asg 4 (.nil 2), .asg 5 (.c (.int .i64 6))]) .ret) .skip)) (.seq (.ops [.mov 11 (.t 0), .mov 12 (.t 1), .call 13 35 [(.t 11), (.t 12), (.c (.func 36 []))], .ext 14 (.t 13) 0, .ext 15 (.t 13) 1, .asg 4 (.t 14), .asg 5 (.t 15)]) .ret)))⟩
def fn15_b0 : VCode := (.seq (.ops [.bin 11 .lss (.t 10) (.t 9)]) (.seq (.cond (.t 11) .skip (.exit 0)) (.seq (.block 1 (.seq (.ops [.mov 12 (.t 10), .iadr 13 2 (.t 8) (.t 10), .load 14 (some 2) (.t 13), .alloc 7 [(.int .i64 0), (.list 1 [])], .asg 6 (.t 12), .store none 2 (.t 7) (.t 14)]) (.ops [.mov 15 (.t 5), .mov 16 (.t 1), .mov 17 (.t 6), .load 18 (some 2) (.t 7), .callv 19 (.t 16) [(.t 17), (.t 18)], .mksl 20 1 [(.t 19)], .app 21 1 (.t 15) (.t 20), .asg 5 (.t 21)]))) (.ops [.bin 22 .add (.t 10) (.c (.int .i64 1)), .mov 10 (.t 22)]))))
def fn15_l1 : VCode :=
(.clean [0, 1, 5, 8, 9, 10, 21] [4, 5] (.block 0 (.loop [0, 1, 5, 8, 9, 10, 21] fn15_b0)))
def fn15 : VFn := ⟨2, 24, [.tmp 4], (.seq (.ops [.asg 4 (.nil 1)]) (.seq (.ops [.asg 5 (.nil 1)]) (.seq (.seq (.ops [.mov 8 (.t 0), .len 9 (.t 8), .mov 10 (.c (.int .i64 0))])
     fn15_l1) (.seq (.ops [.mov 23 (.t 5), .asg 4 (.t 23)]) .ret))))⟩
def fn16 : VFn := ⟨2, 7, [.tmp 4], (.seq (.ops [.box 3 (.t 1), .asg 4 (.nil 2)]) (.seq (.ops [.load 5 (some 2) (.t 3), .call 6 17 [(.t 5)], .asg 4 (.t 6)]) .ret))⟩
def fn17_b0 : VCode := (.ops [.asg 4 (.t 8)])
def fn17_b1 : VCode := (.block 1 (.seq (.seq (.ops [.load 9 none (.t 3), .len 10 (.t 9), .asg 5 (.t 10)]) (.seq (.drw [] [] none [0, 1, 2, 3, 4, 5, 6, 7, 8, 9, 10, 11, 12, 13, 14, 15, 16, 17, 18] [.mov 11 (.t 5), .bin 12 .gtr (.t 11) (.c (.int .i64 0)), .mov 13 (.t 12), .grd 13 true (.load 14 none (.t 3)), .grd 13 true (.mov 15 (.t 5)), .grd 13 true (.bin 16 .sub (.t 15) (.c (.int .i64 1))), .grd 13 true (.iadr 17 2 (.t 14) (.t 16)), .grd 13 true (.fadr 18 (.t 17) 0), .grd 13 true (.load 19 none (.t 18)), .grd 13 true (.load 20 none (.t 3)), .grd 13 true (.mov 21 (.t 5)), .grd 13 true (.bin 22 .sub (.t 21) (.c (.int .i64 1))), .grd 13 true (.iadr 23 2 (.t 20) (.t 22)), .grd 13 true (.fadr 24 (.t 23) 1), .grd 13 true (.load 25 none (.t 24)), .grd 13 true (.bin 26 .add (.t 19) (.t 25)), .grd 13 true (.mov 27 (.t 4)), .grd 13 true (.bin 28 .eql (.t 26) (.t 27)), .pick 29 (.t 13) (.t 28) (.c (.bool false))]) (.cond (.t 29) (.seq (.ops [.load 30 none (.t 3), .mov 31 (.t 5), .bin 32 .sub (.t 31) (.c (.int .i64 1)), .iadr 33 2 (.t 30) (.t 32), .fadr 34 (.t 33) 1, .load 35 none (.t 34), .bin 36 .add (.t 35) (.c (.int .i64 1)), .iadr 37 2 (.t 30) (.t 32), .fadr 38 (.t 37) 1, .store none 1 (.t 38) (.t 36)]) (.exit 1)) .skip))) (.ops [.load 39 none (.t 3), .mov 40 (.t 4), .build 41 [(.int .i64 0), (.int .i64 0)] [(0, 1, (.t 40)), (1, 1, (.c (.int .i64 1)))], .mksl 42 2 [(.t 41)], .app 43 2 (.t 39) (.t 42), .store none 1 (.t 3) (.t 43)])))
def fn17 : VFn := ⟨1, 45, [.tmp 2], (.seq (.ops [.box 1 (.t 0), .asg 2 (.nil 2)]) (.seq (.ops [.alloc 3 [(.list 2 [])]]) (.seq (.seq (.ops [.load 6 (some 2) (.t 1), .call 7 37 [(.t 6), (.c (.int .i64 0))]]) (.block 0 (.rng (.t 7) [8] fn17_b0 fn17_b1))) (.seq (.ops [.load 44 none (.t 3), .asg 2 (.t 44)]) .ret))))⟩
def fn18_b0 : VCode := (.seq (.seq (.ops [.mov 15 (.t 7), .mov 16 (.t 0), .len 17 (.t 16), .bin 18 .lss (.t 15) (.t 17)]) (.cond (.t 18) .skip (.exit 0))) (.seq (.block 1 (.seq (.drs [] [0, 1, 6, 7, 8, 9, 39] [.mov 22 (.t 0), .mov 23 (.t 7), .iadr 24 2 (.t 22) (.t 23), .load 25 (some 2) (.t 24), .mov 26 (.t 1), .mov 27 (.t 7), .iadr 28 2 (.t 26) (.t 27), .load 29 (some 2) (.t 28), .call 30 38 [(.t 25), (.t 29)], .mov 21 (.t 30), .ext 31 (.t 21) 0, .ext 32 (.t 21) 1, .alloc 8 [(.int .i64 0), (.list 1 [])], .store none 2 (.t 8) (.t 31), .asg 9 (.t 32)]
      [⟨[([0, 1, 2, 3, 4, 5, 6, 7], 8), ([9, 10, 11], 12)], (some ([], [], 13, [])), [14], [0, 1, 2, 3, 4, 5, 6, 7, 8, 9, 10, 11, 12, 13, 14], false⟩, ⟨[([0, 1, 2, 3, 4, 5, 6, 7], 12), ([], 8)], (some ([9, 10], [11], 13, [])), [14], [0, 1, 2, 3, 4, 5, 6, 7, 12, 8, 9, 10, 11, 13, 14], false⟩]) (.seq (.seq (.ops [.mov 33 (.t 9), .bin 34 .neq (.t 33) (.c (.int .i64 0))]) (.cond (.t 34) (.seq (.ops [.mov 35 (.t 9), .asg 4 (.nil 2), .asg 5 (.t 35)]) .ret) .skip)) (.ops [.mov 36 (.t 6), .load 37 (some 2) (.t 8), .mksl 38 2 [(.t 37)], .app 39 2 (.t 36) (.t 38), .asg 6 (.t 39)])))) (.ops [.mov 19 (.t 7), .bin 20 .add (.t 19) (.c (.int .i64 1)), .asg 7 (.t 20)])))
def fn18_l1 : VCode :=
(.clean [0, 1, 6, 7, 39] [4, 5, 6] (.block 0 (.loop [0, 1, 6, 7, 39] fn18_b0)))
def fn18 : VFn := ⟨2, 41, [.tmp 4, .tmp 5], (.seq (.ops [.asg 4 (.nil 2), .asg 5 (.c (.int .i64 0))]) (.seq (.seq (.ops [.mov 10 (.t 0), .len 11 (.t 10), .mov 12 (.t 1), .len 13 (.t 12), .bin 14 .neq (.t 11) (.t 13)]) (.cond (.t 14) (.seq (.ops [.asg 4 (.nil 2), .asg 5 (.c (.int .i64 6))]) .ret) .skip)) (.seq (.ops [.asg 6 (.nil 2)]) (.seq (.seq (.ops [.asg 7 (.c (.int .i64 0))])
      fn18_l1) (.seq (.ops [.mov 40 (.t 6), .asg 4 (.t 40), .asg 5 (.c (.int .i64 0))]) .ret)))))⟩
def fn19_b0 : VCode := (.seq (.seq (.ops [.mov 9 (.t 4), .fadr 10 (.t 1) 0, .load 11 none (.t 10), .bin 12 .lss (.t 9) (.t 11)]) (.cond (.t 12) .skip (.exit 0))) (.seq (.block 1 (.seq (.seq (.ops [.load 15 (some 2) (.t 1), .mov 16 (.t 4), .call 17 40 [(.t 15), (.t 16)], .un 18 .not (.t 17)]) (.cond (.t 18) (.exit 1) .skip)) (.seq (.ops [.mov 19 (.t 3), .len 20 (.t 19), .asg 5 (.t 20)]) (.seq (.drw [] [] none [0, 1, 2, 3, 4, 5, 6, 7, 8, 9, 10, 11, 12, 13, 14, 15, 16, 17, 18] [.mov 21 (.t 5), .bin 22 .gtr (.t 21) (.c (.int .i64 0)), .mov 23 (.t 22), .grd 23 true (.mov 24 (.t 3)), .grd 23 true (.mov 25 (.t 5)), .grd 23 true (.bin 26 .sub (.t 25) (.c (.int .i64 1))), .grd 23 true (.iadr 27 2 (.t 24) (.t 26)), .grd 23 true (.fadr 28 (.t 27) 0), .grd 23 true (.load 29 none (.t 28)), .grd 23 true (.mov 30 (.t 3)), .grd 23 true (.mov 31 (.t 5)), .grd 23 true (.bin 32 .sub (.t 31) (.c (.int .i64 1))), .grd 23 true (.iadr 33 2 (.t 30) (.t 32)), .grd 23 true (.fadr 34 (.t 33) 1), .grd 23 true (.load 35 none (.t 34)), .grd 23 true (.bin 36 .add (.t 29) (.t 35)), .grd 23 true (.mov 37 (.t 4)), .grd 23 true (.bin 38 .eql (.t 36) (.t 37)), .pick 39 (.t 23) (.t 38) (.c (.bool false))]) (.cond (.t 39) (.ops [.mov 40 (.t 3), .mov 41 (.t 5), .bin 42 .sub (.t 41) (.c (.int .i64 1)), .iadr 43 2 (.t 40) (.t 42), .fadr 44 (.t 43) 1, .load 45 none (.t 44), .bin 46 .add (.t 45) (.c (.int .i64 1)), .iadr 47 2 (.t 40) (.t 42), .fadr 48 (.t 47) 1, .store none 1 (.t 48) (.t 46)]) (.ops [.mov 49 (.t 3), .mov 50 (.t 4), .build 51 [(.int .i64 0), (.int .i64 0)] [(0, 1, (.t 50)), (1, 1, (.c (.int .i64 1)))], .mksl 52 2 [(.t 51)], .app 53 2 (.t 49) (.t 52), .asg 3 (.t 53)])))))) (.ops [.mov 13 (.t 4), .bin 14 .add (.t 13) (.c (.int .i64 1)), .asg 4 (.t 14)])))
def fn19_l1 : VCode :=
(.clean [1, 3, 4, 53] [2, 3] (.block 0 (.loop [1, 3, 4, 53] fn19_b0)))
def fn19 : VFn := ⟨1, 55, [.tmp 2], (.seq (.ops [.box 1 (.t 0), .asg 2 (.nil 2)]) (.seq (.ops [.asg 3 (.nil 2)]) (.seq (.seq (.ops [.load 6 (some 2) (.t 1), .call 7 39 [(.t 6)], .bin 8 .neq (.t 7) (.c (.int .i64 0))]) (.cond (.t 8) (.seq (.ops [.asg 2 (.nil 2)]) .ret) .skip)) (.seq (.seq (.ops [.asg 4 (.c (.int .i64 0))])
      fn19_l1) (.seq (.ops [.mov 54 (.t 3), .asg 2 (.t 54)]) .ret)))))⟩
def fn20 : VFn := ⟨1, 6, [.tmp 2], (.seq (.ops [.asg 2 (.c (.int .i64 0))]) (.seq (.ops [.mov 3 (.t 0), .call 4 42 [(.t 3)], .call 5 41 [(.t 4)], .asg 2 (.t 5)]) .ret))⟩
def fn21 : VFn := ⟨2, 16, [.tmp 4], (.seq (.ops [.box 2 (.t 0), .asg 4 (.c (.int .i64 0))]) (.seq (.seq (.ops [.mov 6 (.t 1), .len 7 (.t 6), .load 8 none (.t 2), .len 9 (.t 8), .bin 10 .neq (.t 7) (.t 9)]) (.cond (.t 10) (.seq (.ops [.asg 4 (.c (.int .i64 6))]) .ret) .skip)) (.seq (.ops [.mov 11 (.t 1), .mkf 12 44 [(.t 2)], .call 13 43 [(.t 11), (.t 12)], .asg 5 (.t 13)]) (.seq (.seq (.ops [.mov 14 (.t 5), .call 15 46 [(.t 14), (.c (.bool false))]]) (.cond (.t 15) (.seq (.ops [.asg 4 (.c (.int .i64 3))]) .ret) .skip)) (.seq (.ops [.asg 4 (.c (.int .i64 0))]) .ret)))))⟩
def fn22 : VFn := ⟨1, 4, [.tmp 2], (.seq (.ops [.box 1 (.t 0), .asg 2 (.c .nilf)]) (.seq (.ops [.mkf 3 47 [(.t 1)], .asg 2 (.t 3)]) .ret))⟩
def fn23 : VFn := ⟨1, 8, [.tmp 2], (.seq (.ops [.asg 2 (.nil 8)]) (.seq (.seq (.ops [.mov 3 (.t 0), .isn 4 false (.t 3)]) (.cond (.t 4) (.seq (.ops [.asg 2 (.nil 8)]) .ret) .skip)) (.seq (.ops [.mksl 5 8 [], .mov 6 (.t 0), .app 7 8 (.t 5) (.t 6), .asg 2 (.t 7)]) .ret)))⟩
def fn24_b0 : VCode := (.seq (.ops [.bin 18 .lss (.t 17) (.t 16)]) (.seq (.cond (.t 18) .skip (.exit 0)) (.seq (.block 1 (.seq (.ops [.mov 19 (.t 17), .asg 8 (.t 19)]) (.drw [] [([0, 1, 2, 3, 4, 5, 6, 7, 8], 9), ([], 10)] (some ([], [], 11, [])) [12] [.mov 20 (.t 7), .mov 21 (.t 0), .mov 22 (.t 8), .iadr 23 1 (.t 21) (.t 22), .load 24 none (.t 23), .mov 25 (.t 1), .mov 26 (.t 8), .iadr 27 1 (.t 25) (.t 26), .load 28 none (.t 27), .call 29 49 [(.t 24), (.t 28)], .mksl 30 1 [(.t 29)], .app 31 1 (.t 20) (.t 30), .asg 7 (.t 31)]))) (.ops [.bin 32 .add (.t 17) (.c (.int .i64 1)), .mov 17 (.t 32)]))))
def fn24_l1 : VCode :=
(.clean [0, 1, 7, 16, 17, 31] [4, 5, 7] (.block 0 (.loop [0, 1, 7, 16, 17, 31] fn24_b0)))
def fn24 : VFn := ⟨2, 34, [.tmp 4, .tmp 5], (.seq (.ops [.asg 4 (.nil 1), .asg 5 (.c (.int .i64 0))]) (.seq (.seq (.ops [.mov 9 (.t 0), .mov 10 (.t 1), .call 11 48 [(.t 9), (.t 10)], .asg 6 (.t 11)]) (.seq (.ops [.mov 12 (.t 6), .bin 13 .neq (.t 12) (.c (.int .i64 0))]) (.cond (.t 13) (.seq (.ops [.mov 14 (.t 6), .asg 4 (.nil 1), .asg 5 (.t 14)]) .ret) .skip))) (.seq (.ops [.asg 7 (.nil 1)]) (.seq (.seq (.ops [.mov 15 (.t 0), .len 16 (.t 15), .mov 17 (.c (.int .i64 0))])
      fn24_l1) (.seq (.ops [.mov 33 (.t 7), .asg 4 (.t 33), .asg 5 (.c (.int .i64 0))]) .ret)))))⟩
def fn25_b0 : VCode := (.seq (.ops [.bin 11 .lss (.t 10) (.t 9)]) (.seq (.cond (.t 11) .skip (.exit 0)) (.seq (.block 1 (.seq (.ops [.mov 12 (.t 10), .iadr 13 1 (.t 8) (.t 10), .load 14 none (.t 13), .asg 6 (.t 12), .asg 7 (.t 14)]) (.ops [.mov 15 (.t 5), .mov 16 (.t 1), .mov 17 (.t 6), .mov 18 (.t 7), .callv 19 (.t 16) [(.t 17), (.t 18)], .mksl 20 1 [(.t 19)], .app 21 1 (.t 15) (.t 20), .asg 5 (.t 21)]))) (.ops [.bin 22 .add (.t 10) (.c (.int .i64 1)), .mov 10 (.t 22)]))))
def fn25_l1 : VCode :=
(.clean [0, 1, 5, 8, 9, 10, 21] [4, 5] (.block 0 (.loop [0, 1, 5, 8, 9, 10, 21] fn25_b0)))
def fn25 : VFn := ⟨2, 24, [.tmp 4], (.seq (.ops [.asg 4 (.nil 1)]) (.seq (.ops [.asg 5 (.nil 1)]) (.seq (.seq (.ops [.mov 8 (.t 0), .len 9 (.t 8), .mov 10 (.c (.int .i64 0))])
     fn25_l1) (.seq (.ops [.mov 23 (.t 5), .asg 4 (.t 23)]) .ret))))⟩
def fn26 : VFn := ⟨3, 12, [.tmp 5], (.seq (.ops [.asg 5 (.nil 2)]) (.seq (.ops [.mov 6 (.t 1), .load 7 none (.t 2), .mov 8 (.t 0), .iadr 9 1 (.t 7) (.t 8), .load 10 none (.t 9), .call 11 27 [(.t 6), (.t 10)], .asg 5 (.t 11)]) .ret))⟩
def fn27 : VFn := ⟨2, 9, [.tmp 4], (.seq (.ops [.asg 4 (.nil 2)]) (.seq (.ops [.mov 5 (.t 0), .mov 6 (.t 1), .call 7 51 [(.t 5), (.t 6), (.c (.func 52 []))], .call 8 50 [(.t 7)], .asg 4 (.t 8)]) .ret))⟩
def fn28_b0 : VCode := (.seq (.ops [.bin 18 .lss (.t 17) (.t 16)]) (.seq (.cond (.t 18) .skip (.exit 0)) (.seq (.block 1 (.seq (.ops [.mov 19 (.t 17), .iadr 20 1 (.t 15) (.t 17), .load 21 none (.t 20), .asg 7 (.t 19), .asg 8 (.t 21)]) (.seq (.ops [.mov 22 (.t 1), .mov 23 (.t 7), .iadr 24 1 (.t 22) (.t 23), .load 25 none (.t 24), .asg 9 (.t 25)]) (.seq (.ops [.mov 26 (.t 2), .mov 27 (.t 8), .mov 28 (.t 9), .callv 29 (.t 26) [(.t 27), (.t 28)], .un 30 .not (.t 29)]) (.cond (.t 30) (.seq (.ops [.asg 6 (.c (.bool false))]) .ret) .skip))))) (.ops [.bin 31 .add (.t 17) (.c (.int .i64 1)), .mov 17 (.t 31)]))))
def fn28_l1 : VCode :=
(.clean [0, 1, 2, 15, 16, 17] [6] (.block 0 (.loop [0, 1, 2, 15, 16, 17] fn28_b0)))
def fn28 : VFn := ⟨3, 32, [.tmp 6], (.seq (.ops [.asg 6 (.c (.bool false))]) (.seq (.seq (.ops [.mov 10 (.t 0), .len 11 (.t 10), .mov 12 (.t 1), .len 13 (.t 12), .bin 14 .neq (.t 11) (.t 13)]) (.cond (.t 14) (.seq (.ops [.asg 6 (.c (.bool false))]) .ret) .skip)) (.seq (.seq (.ops [.mov 15 (.t 0), .len 16 (.t 15), .mov 17 (.c (.int .i64 0))])
     fn28_l1) (.seq (.ops [.asg 6 (.c (.bool true))]) .ret))))⟩
def fn29 : VFn := ⟨2, 8, [.tmp 4], (.seq (.ops [.asg 4 (.c (.bool false))]) (.seq (.ops [.mov 5 (.t 0), .mov 6 (.t 1), .call 7 30 [(.t 5), (.t 6)], .asg 4 (.t 7)]) .ret))⟩
def fn30_b0 : VCode := (.seq (.ops [.bin 14 .lss (.t 13) (.t 12)]) (.seq (.cond (.t 14) .skip (.exit 0)) (.seq (.block 1 (.seq (.ops [.mov 15 (.t 13), .asg 5 (.t 15)]) (.seq (.drw [] [] none [0, 1, 2, 3, 4, 5, 6, 7, 8] [.mov 16 (.t 0), .mov 17 (.t 5), .iadr 18 2 (.t 16) (.t 17), .load 19 (some 2) (.t 18), .mov 20 (.t 1), .mov 21 (.t 5), .iadr 22 2 (.t 20) (.t 21), .load 23 (some 2) (.t 22), .eqa 24 true 2 (.t 19) (.t 23)]) (.cond (.t 24) (.seq (.ops [.asg 4 (.c (.bool false))]) .ret) .skip)))) (.ops [.bin 25 .add (.t 13) (.c (.int .i64 1)), .mov 13 (.t 25)]))))
def fn30_l1 : VCode :=
(.clean [0, 1, 12, 13] [4] (.block 0 (.loop [0, 1, 12, 13] fn30_b0)))
def fn30 : VFn := ⟨2, 26, [.tmp 4], (.seq (.ops [.asg 4 (.c (.bool false))]) (.seq (.seq (.ops [.mov 6 (.t 0), .len 7 (.t 6), .mov 8 (.t 1), .len 9 (.t 8), .bin 10 .neq (.t 7) (.t 9)]) (.cond (.t 10) (.seq (.ops [.asg 4 (.c (.bool false))]) .ret) .skip)) (.seq (.seq (.ops [.mov 11 (.t 0), .len 12 (.t 11), .mov 13 (.c (.int .i64 0))])
     fn30_l1) (.seq (.ops [.asg 4 (.c (.bool true))]) .ret))))⟩
def fn31_b0 : VCode := (.seq (.seq (.ops [.mov 11 (.t 5), .mov 12 (.t 0), .len 13 (.t 12), .bin 14 .lss (.t 11) (.t 13)]) (.cond (.t 14) .skip (.exit 0))) (.seq (.block 1 (.seq (.drw [] [([0, 1, 2, 3, 4, 5, 6, 7, 8, 9, 10, 11, 12, 13, 14, 15, 16, 17, 18, 19, 20, 21, 22, 23, 24, 25, 26, 27, 28, 29, 30, 31, 32, 33, 34], 35)] none [36, 37] [.mov 17 (.t 0), .mov 18 (.t 5), .iadr 19 3 (.t 17) (.t 18), .fadr 20 (.t 19) 0, .load 21 none (.t 20), .mov 22 (.t 1), .mov 23 (.t 5), .iadr 24 3 (.t 22) (.t 23), .fadr 25 (.t 24) 0, .load 26 none (.t 25), .bin 27 .neq (.t 21) (.t 26), .mov 28 (.t 27), .grd 28 false (.mov 29 (.t 0)), .grd 28 false (.mov 30 (.t 5)), .grd 28 false (.iadr 31 3 (.t 29) (.t 30)), .grd 28 false (.fadr 32 (.t 31) 1), .grd 28 false (.load 33 none (.t 32)), .grd 28 false (.mov 34 (.t 1)), .grd 28 false (.mov 35 (.t 5)), .grd 28 false (.iadr 36 3 (.t 34) (.t 35)), .grd 28 false (.fadr 37 (.t 36) 1), .grd 28 false (.load 38 none (.t 37)), .grd 28 false (.bin 39 .neq (.t 33) (.t 38)), .pick 40 (.t 28) (.c (.bool true)) (.t 39), .mov 41 (.t 40), .grd 41 false (.mov 42 (.t 0)), .grd 41 false (.mov 43 (.t 5)), .grd 41 false (.iadr 44 3 (.t 42) (.t 43)), .grd 41 false (.fadr 45 (.t 44) 2), .grd 41 false (.load 46 none (.t 45)), .grd 41 false (.mov 47 (.t 1)), .grd 41 false (.mov 48 (.t 5)), .grd 41 false (.iadr 49 3 (.t 47) (.t 48)), .grd 41 false (.fadr 50 (.t 49) 2), .grd 41 false (.load 51 none (.t 50)), .grd 41 false (.call 52 53 [(.t 46), (.t 51)]), .grd 41 false (.un 53 .not (.t 52)), .pick 54 (.t 41) (.c (.bool true)) (.t 53)]) (.cond (.t 54) (.seq (.ops [.asg 4 (.c (.bool false))]) .ret) .skip))) (.ops [.mov 15 (.t 5), .bin 16 .add (.t 15) (.c (.int .i64 1)), .asg 5 (.t 16)])))
def fn31_l1 : VCode :=
(.clean [0, 1, 5] [4] (.block 0 (.loop [0, 1, 5] fn31_b0)))
def fn31 : VFn := ⟨2, 55, [.tmp 4], (.seq (.ops [.asg 4 (.c (.bool false))]) (.seq (.seq (.ops [.mov 6 (.t 0), .len 7 (.t 6), .mov 8 (.t 1), .len 9 (.t 8), .bin 10 .neq (.t 7) (.t 9)]) (.cond (.t 10) (.seq (.ops [.asg 4 (.c (.bool false))]) .ret) .skip)) (.seq (.seq (.ops [.asg 5 (.c (.int .i64 0))])
     fn31_l1) (.seq (.ops [.asg 4 (.c (.bool true))]) .ret))))⟩
def fn32_b0 : VCode := (.seq (.ops [.bin 11 .lss (.t 10) (.t 9)]) (.seq (.cond (.t 11) .skip (.exit 0)) (.seq (.block 1 (.seq (.ops [.mov 12 (.t 10), .iadr 13 1 (.t 8) (.t 10), .load 14 none (.t 13), .asg 6 (.t 12), .asg 7 (.t 14)]) (.ops [.mov 15 (.t 5), .mov 16 (.t 1), .mov 17 (.t 6), .mov 18 (.t 7), .callv 19 (.t 16) [(.t 17), (.t 18)], .mksl 20 1 [(.t 19)], .app 21 1 (.t 15) (.t 20), .asg 5 (.t 21)]))) (.ops [.bin 22 .add (.t 10) (.c (.int .i64 1)), .mov 10 (.t 22)]))))
def fn32_l1 : VCode :=
(.clean [0, 1, 5, 8, 9, 10, 21] [4, 5] (.block 0 (.loop [0, 1, 5, 8, 9, 10, 21] fn32_b0)))
def fn32 : VFn := ⟨2, 24, [.tmp 4], (.seq (.ops [.asg 4 (.nil 1)]) (.seq (.ops [.asg 5 (.nil 1)]) (.seq (.seq (.ops [.mov 8 (.t 0), .len 9 (.t 8), .mov 10 (.c (.int .i64 0))])
     fn32_l1) (.seq (.ops [.mov 23 (.t 5), .asg 4 (.t 23)]) .ret))))⟩
def fn33 : VFn := ⟨2, 7, [.tmp 4], (.seq (.ops [.asg 4 (.c (.int .i64 0))]) (.seq (.ops [.mov 5 (.t 1), .call 6 34 [(.t 5)], .asg 4 (.t 6)]) .ret))⟩
def fn34_b0 : VCode := (.seq (.ops [.bin 10 .lss (.t 9) (.t 8)]) (.seq (.cond (.t 10) .skip (.exit 0)) (.seq (.block 1 (.seq (.ops [.iadr 11 2 (.t 7) (.t 9), .load 12 (some 2) (.t 11), .alloc 5 [(.int .i64 0), (.int .i64 0)], .store none 2 (.t 5) (.t 12)]) (.ops [.mov 13 (.t 3), .fadr 14 (.t 5) 1, .load 15 none (.t 14), .bin 16 .add (.t 13) (.t 15), .asg 3 (.t 16)]))) (.ops [.bin 17 .add (.t 9) (.c (.int .i64 1)), .mov 9 (.t 17)]))))
def fn34_l1 : VCode :=
(.clean [3, 7, 8, 9] [2, 3] (.block 0 (.loop [3, 7, 8, 9] fn34_b0)))
def fn34 : VFn := ⟨1, 19, [.tmp 2], (.seq (.ops [.asg 2 (.c (.int .i64 0))]) (.seq (.ops [.asg 3 (.c (.int .i64 0))]) (.seq (.seq (.ops [.mov 6 (.t 0), .call 7 54 [(.t 6), (.nil 2)], .len 8 (.t 7), .mov 9 (.c (.int .i64 0))])
     fn34_l1) (.seq (.ops [.mov 18 (.t 3), .asg 2 (.t 18)]) .ret))))⟩
def fn35_b0 : VCode := (.seq (.ops [.bin 15 .lss (.t 14) (.t 13)]) (.seq (.cond (.t 15) .skip (.exit 0)) (.seq (.block 1 (.seq (.ops [.mov 16 (.t 14), .asg 9 (.t 16)]) (.seq (.drs [] [0, 1, 2, 8, 10, 11, 13, 14, 36] [.mov 18 (.t 2), .mov 19 (.t 0), .mov 20 (.t 9), .iadr 21 2 (.t 19) (.t 20), .load 22 (some 2) (.t 21), .mov 23 (.t 1), .mov 24 (.t 9), .iadr 25 2 (.t 23) (.t 24), .load 26 (some 2) (.t 25), .callv 27 (.t 18) [(.t 22), (.t 26)], .mov 17 (.t 27), .ext 28 (.t 17) 0, .ext 29 (.t 17) 1, .alloc 10 [(.int .i64 0), (.list 1 [])], .store none 2 (.t 10) (.t 28), .asg 11 (.t 29)]
        [⟨[([0, 1, 2, 3, 4, 5, 6, 7, 8], 9), ([10, 11, 12], 13)], (some ([], [], 14, [])), [15], [0, 1, 2, 3, 4, 5, 6, 7, 8, 9, 10, 11, 12, 13, 14, 15], false⟩, ⟨[([0, 1, 2, 3, 4, 5, 6, 7, 8], 13), ([], 9)], (some ([10, 11], [12], 14, [])), [15], [0, 1, 2, 3, 4, 5, 6, 7, 8, 13, 9, 10, 11, 12, 14, 15], false⟩]) (.seq (.seq (.ops [.mov 30 (.t 11), .bin 31 .neq (.t 30) (.c (.int .i64 0))]) (.cond (.t 31) (.seq (.ops [.mov 32 (.t 11), .asg 6 (.nil 2), .asg 7 (.t 32)]) .ret) .skip)) (.ops [.mov 33 (.t 8), .load 34 (some 2) (.t 10), .mksl 35 2 [(.t 34)], .app 36 2 (.t 33) (.t 35), .asg 8 (.t 36)]))))) (.ops [.bin 37 .add (.t 14) (.c (.int .i64 1)), .mov 14 (.t 37)]))))
def fn35_l1 : VCode :=
(.clean [0, 1, 2, 8, 13, 14, 36] [6, 7, 8] (.block 0 (.loop [0, 1, 2, 8, 13, 14, 36] fn35_b0)))
def fn35 : VFn := ⟨3, 39, [.tmp 6, .tmp 7], (.seq (.ops [.asg 6 (.nil 2), .asg 7 (.c (.int .i64 0))]) (.seq (.ops [.asg 8 (.nil 2)]) (.seq (.seq (.ops [.mov 12 (.t 0), .len 13 (.t 12), .mov 14 (.c (.int .i64 0))])
     fn35_l1) (.seq (.ops [.mov 38 (.t 8), .asg 6 (.t 38), .asg 7 (.c (.int .i64 0))]) .ret))))⟩
def fn36 : VFn := ⟨2, 11, [.cell 4 (some 2), .tmp 5], (.seq (.ops [.box 2 (.t 0), .box 3 (.t 1), .alloc 4 [(.int .i64 0), (.list 1 [])], .asg 5 (.c (.int .i64 0))]) (.seq (.ops [.load 6 (some 2) (.t 2), .load 7 (some 2) (.t 3), .call 8 55 [(.t 6), (.t 7), (.c (.func 56 []))], .ext 9 (.t 8) 0, .ext 10 (.t 8) 1, .store none 2 (.t 4) (.t 9), .asg 5 (.t 10)]) .ret))⟩
def fn37 : VFn := ⟨2, 6, [.tmp 4], (.seq (.ops [.box 2 (.t 0), .box 3 (.t 1), .asg 4 (.c .nilf)]) (.seq (.ops [.mkf 5 57 [(.t 2), (.t 3)], .asg 4 (.t 5)]) .ret))⟩
def fn38_b0 : VCode := (.seq (.seq (.ops [.mov 18 (.t 8), .fadr 19 (.t 7) 1, .load 20 none (.t 19), .len 21 (.t 20), .bin 22 .lss (.t 18) (.t 21)]) (.cond (.t 22) .skip (.exit 0))) (.seq (.block 1 (.drw [] [] (some ([0, 1, 2, 3, 4, 5, 6, 7, 8, 9, 10, 11, 12, 13, 14], [], 15, [])) [] [.fadr 25 (.t 7) 1, .load 26 none (.t 25), .mov 27 (.t 8), .fadr 28 (.t 2) 1, .load 29 none (.t 28), .mov 30 (.t 8), .iadr 31 1 (.t 29) (.t 30), .load 32 none (.t 31), .fadr 33 (.t 3) 1, .load 34 none (.t 33), .mov 35 (.t 8), .iadr 36 1 (.t 34) (.t 35), .load 37 none (.t 36), .bin 38 .or (.t 32) (.t 37), .iadr 39 1 (.t 26) (.t 27), .store none 1 (.t 39) (.t 38)])) (.ops [.mov 23 (.t 8), .bin 24 .add (.t 23) (.c (.int .i64 1)), .asg 8 (.t 24)])))
def fn38_l1 : VCode :=
(.clean [2, 3, 4, 7, 8] [4, 5, 7] (.block 0 (.loop [2, 3, 4, 7, 8] fn38_b0)))
def fn38 : VFn := ⟨2, 41, [.cell 4 (some 2), .tmp 5], (.seq (.ops [.box 2 (.t 0), .box 3 (.t 1), .alloc 4 [(.int .i64 0), (.list 1 [])], .asg 5 (.c (.int .i64 0))]) (.seq (.seq (.ops [.load 9 (some 2) (.t 2), .load 10 (some 2) (.t 3), .call 11 61 [(.t 9), (.t 10)], .asg 6 (.t 11)]) (.seq (.ops [.mov 12 (.t 6), .bin 13 .neq (.t 12) (.c (.int .i64 0))]) (.cond (.t 13) (.seq (.ops [.build 14 [(.int .i64 0), (.list 1 [])] [], .mov 15 (.t 6), .store none 2 (.t 4) (.t 14), .asg 5 (.t 15)]) .ret) .skip))) (.seq (.ops [.load 16 (some 2) (.t 2), .call 17 62 [(.t 16)], .alloc 7 [(.int .i64 0), (.list 1 [])], .stw 2 (.t 7) (.t 17)]) (.seq (.seq (.ops [.asg 8 (.c (.int .i64 0))])
      fn38_l1) (.seq (.ops [.load 40 (some 2) (.t 7), .store none 2 (.t 4) (.t 40), .asg 5 (.c (.int .i64 0))]) .ret)))))⟩
def fn39_b0 : VCode := (.seq (.seq (.ops [.mov 24 (.t 3), .fadr 25 (.t 1) 1, .load 26 none (.t 25), .len 27 (.t 26), .bin 28 .mul (.c (.int .i64 64)) (.t 27), .bin 29 .lss (.t 24) (.t 28)]) (.cond (.t 29) .skip (.exit 0))) (.seq (.block 1 (.seq (.ops [.load 32 (some 2) (.t 1), .mov 33 (.t 3), .call 34 40 [(.t 32), (.t 33)]]) (.cond (.t 34) (.seq (.ops [.asg 2 (.c (.int .i64 3))]) .ret) .skip))) (.ops [.mov 30 (.t 3), .bin 31 .add (.t 30) (.c (.int .i64 1)), .asg 3 (.t 31)])))
def fn39_l1 : VCode :=
(.clean [1, 3] [2] (.block 0 (.loop [1, 3] fn39_b0)))
def fn39 : VFn := ⟨1, 35, [.tmp 2], (.seq (.ops [.box 1 (.t 0), .asg 2 (.c (.int .i64 0))]) (.seq (.seq (.ops [.fadr 4 (.t 1) 0, .load 5 none (.t 4), .bin 6 .lss (.t 5) (.c (.int .i64 0)), .mov 7 (.t 6), .grd 7 false (.fadr 8 (.t 1) 0), .grd 7 false (.load 9 none (.t 8)), .grd 7 false (.bin 10 .gtr (.t 9) (.c (.int .i64 4096))), .pick 11 (.t 7) (.c (.bool true)) (.t 10), .mov 12 (.t 11), .grd 12 false (.fadr 13 (.t 1) 1), .grd 12 false (.load 14 none (.t 13)), .grd 12 false (.len 15 (.t 14)), .grd 12 false (.fadr 16 (.t 1) 0), .grd 12 false (.load 17 none (.t 16)), .grd 12 false (.bin 18 .add (.t 17) (.c (.int .i64 63))), .grd 12 false (.bin 19 .quo (.t 18) (.c (.int .i64 64))), .grd 12 false (.bin 20 .neq (.t 15) (.t 19)), .pick 21 (.t 12) (.c (.bool true)) (.t 20)]) (.cond (.t 21) (.seq (.ops [.asg 2 (.c (.int .i64 3))]) .ret) .skip)) (.seq (.seq (.ops [.fadr 22 (.t 1) 0, .load 23 none (.t 22), .asg 3 (.t 23)])
     fn39_l1) (.seq (.ops [.asg 2 (.c (.int .i64 0))]) .ret))))⟩
def fn40 : VFn := ⟨2, 17, [.tmp 4], (.seq (.ops [.box 2 (.t 0), .asg 4 (.c (.bool false))]) (.seq (.ops [.fadr 5 (.t 2) 1, .load 6 none (.t 5), .mov 7 (.t 1), .bin 8 .quo (.t 7) (.c (.int .i64 64)), .iadr 9 1 (.t 6) (.t 8), .load 10 none (.t 9), .mov 11 (.t 1), .bin 12 .rem (.t 11) (.c (.int .i64 64)), .conv 13 .u64 (.t 12), .bin 14 .shr (.t 10) (.t 13), .bin 15 .and (.t 14) (.c (.int .u64 1)), .bin 16 .eql (.t 15) (.c (.int .u64 1)), .asg 4 (.t 16)]) .ret))⟩
def fn41 : VFn := ⟨1, 13, [.tmp 2], (.seq (.ops [.asg 2 (.c (.int .i64 0))]) (.seq (.seq (.ops [.mov 3 (.t 0), .len 4 (.t 3), .bin 5 .lss (.t 4) (.c (.int .i64 1)), .mov 6 (.t 5), .grd 6 false (.mov 7 (.t 0)), .grd 6 false (.len 8 (.t 7)), .grd 6 false (.bin 9 .gtr (.t 8) (.c (.int .i64 8))), .pick 10 (.t 6) (.c (.bool true)) (.t 9)]) (.cond (.t 10) (.seq (.ops [.asg 2 (.c (.int .i64 6))]) .ret) .skip)) (.seq (.seq (.ops [.mov 11 (.t 0), .call 12 63 [(.t 11), (.c (.func 64 []))]]) (.cond (.t 12) (.seq (.ops [.asg 2 (.c (.int .i64 2))]) .ret) .skip)) (.seq (.ops [.asg 2 (.c (.int .i64 0))]) .ret))))⟩
def fn42 : VFn := ⟨1, 5, [.tmp 2], (.seq (.ops [.asg 2 (.nil 1)]) (.seq (.ops [.mov 3 (.t 0), .call 4 65 [(.t 3), (.c (.func 66 []))], .asg 2 (.t 4)]) .ret))⟩
def fn43_b0 : VCode := (.seq (.ops [.bin 11 .lss (.t 10) (.t 9)]) (.seq (.cond (.t 11) .skip (.exit 0)) (.seq (.block 1 (.seq (.ops [.mov 12 (.t 10), .iadr 13 1 (.t 8) (.t 10), .load 14 none (.t 13), .asg 6 (.t 12), .asg 7 (.t 14)]) (.ops [.mov 15 (.t 5), .mov 16 (.t 1), .mov 17 (.t 6), .mov 18 (.t 7), .callv 19 (.t 16) [(.t 17), (.t 18)], .mksl 20 1 [(.t 19)], .app 21 1 (.t 15) (.t 20), .asg 5 (.t 21)]))) (.ops [.bin 22 .add (.t 10) (.c (.int .i64 1)), .mov 10 (.t 22)]))))
def fn43_l1 : VCode :=
(.clean [0, 1, 5, 8, 9, 10, 21] [4, 5] (.block 0 (.loop [0, 1, 5, 8, 9, 10, 21] fn43_b0)))
def fn43 : VFn := ⟨2, 24, [.tmp 4], (.seq (.ops [.asg 4 (.nil 1)]) (.seq (.ops [.asg 5 (.nil 1)]) (.seq (.seq (.ops [.mov 8 (.t 0), .len 9 (.t 8), .mov 10 (.c (.int .i64 0))])
     fn43_l1) (.seq (.ops [.mov 23 (.t 5), .asg 4 (.t 23)]) .ret))))⟩
def fn44 : VFn := ⟨3, 14, [.tmp 5], (.seq (.ops [.asg 5 (.c (.bool false))]) (.seq (.ops [.mov 6 (.t 1), .load 7 none (.t 2), .mov 8 (.t 0), .iadr 9 1 (.t 7) (.t 8), .load 10 none (.t 9), .len 11 (.t 10), .call 12 45 [(.t 6), (.t 11)], .bin 13 .eql (.t 12) (.c (.int .i64 0)), .asg 5 (.t 13)]) .ret))⟩
def fn45_b0 : VCode := (.seq (.ops [.bin 17 .lss (.t 16) (.t 15)]) (.seq (.cond (.t 17) .skip (.exit 0)) (.seq (.block 1 (.seq (.ops [.iadr 18 2 (.t 14) (.t 16), .load 19 (some 2) (.t 18), .alloc 7 [(.int .i64 0), (.int .i64 0)], .store none 2 (.t 7) (.t 19)]) (.seq (.block 2 (.seq (.ops [.fadr 21 (.t 7) 1, .load 22 none (.t 21), .bin 23 .leq (.t 22) (.c (.int .i64 0)), .asg 20 (.t 23)]) (.cond (.t 20) (.seq (.ops [.asg 4 (.c (.int .i64 1))]) .ret) (.seq (.ops [.fadr 25 (.t 7) 0, .load 26 none (.t 25), .bin 27 .lss (.t 26) (.c (.int .i64 0)), .mov 28 (.t 27), .grd 28 false (.fadr 29 (.t 7) 1), .grd 28 false (.load 30 none (.t 29)), .grd 28 false (.mov 31 (.t 1)), .grd 28 false (.fadr 32 (.t 7) 0), .grd 28 false (.load 33 none (.t 32)), .grd 28 false (.bin 34 .sub (.t 31) (.t 33)), .grd 28 false (.bin 35 .gtr (.t 30) (.t 34)), .pick 36 (.t 28) (.c (.bool true)) (.t 35), .asg 24 (.t 36)]) (.cond (.t 24) (.seq (.ops [.asg 4 (.c (.int .i64 2))]) .ret) (.seq (.ops [.fadr 38 (.t 7) 0, .load 39 none (.t 38), .mov 40 (.t 5), .bin 41 .lss (.t 39) (.t 40), .asg 37 (.t 41)]) (.cond (.t 37) (.seq (.ops [.asg 4 (.c (.int .i64 3))]) .ret) .skip))))))) (.ops [.fadr 42 (.t 7) 0, .load 43 none (.t 42), .fadr 44 (.t 7) 1, .load 45 none (.t 44), .bin 46 .add (.t 43) (.t 45), .bin 47 .add (.t 46) (.c (.int .i64 1)), .asg 5 (.t 47)])))) (.ops [.bin 48 .add (.t 16) (.c (.int .i64 1)), .mov 16 (.t 48)]))))
def fn45_l1 : VCode :=
(.clean [0, 1, 5, 14, 15, 16] [4] (.block 0 (.loop [0, 1, 5, 14, 15, 16] fn45_b0)))
def fn45 : VFn := ⟨2, 49, [.tmp 4], (.seq (.ops [.asg 4 (.c (.int .i64 0))]) (.seq (.seq (.ops [.mov 8 (.t 1), .bin 9 .lss (.t 8) (.c (.int .i64 0)), .mov 10 (.t 9), .grd 10 false (.mov 11 (.t 1)), .grd 10 false (.bin 12 .gtr (.t 11) (.c (.int .i64 4096))), .pick 13 (.t 10) (.c (.bool true)) (.t 12)]) (.cond (.t 13) (.seq (.ops [.asg 4 (.c (.int .i64 2))]) .ret) .skip)) (.seq (.ops [.asg 5 (.c (.int .i64 0))]) (.seq (.seq (.ops [.mov 14 (.t 0), .len 15 (.t 14), .mov 16 (.c (.int .i64 0))])
      fn45_l1) (.seq (.ops [.asg 4 (.c (.int .i64 0))]) .ret)))))⟩
def fn46 : VFn := ⟨2, 9, [.tmp 4], (.seq (.ops [.asg 4 (.c (.bool false))]) (.seq (.ops [.mov 5 (.t 0), .mov 6 (.t 1), .call 7 67 [(.t 5), (.t 6)], .bin 8 .geq (.t 7) (.c (.int .i64 0)), .asg 4 (.t 8)]) .ret))⟩
def fn47_b0 : VCode := (.seq (.ops [.bin 17 .lss (.t 16) (.t 15)]) (.seq (.cond (.t 17) .skip (.exit 2)) (.seq (.block 3 (.seq (.ops [.iadr 18 2 (.t 14) (.t 16), .load 19 (some 2) (.t 18), .alloc 6 [(.int .i64 0), (.int .i64 0)], .store none 2 (.t 6) (.t 19)]) (.seq (.ops [.mov 20 (.t 0), .mov 21 (.t 3), .load 22 (some 2) (.t 6), .yield 23 (.t 20) [(.t 21), (.t 22)], .un 24 .not (.t 23)]) (.cond (.t 24) .ret .skip)))) (.ops [.bin 25 .add (.t 16) (.c (.int .i64 1)), .mov 16 (.t 25)]))))
def fn47_l1 : VCode :=
(.clean [0, 3, 4, 7, 8, 9, 13, 14, 15, 16] [0, 7, 8, 9] (.block 2 (.loop [0, 3, 4, 7, 8, 9, 13, 14, 15, 16] fn47_b0)))
def fn47_b2 : VCode := (.seq (.ops [.bin 10 .lss (.t 9) (.t 8)]) (.seq (.cond (.t 10) .skip (.exit 0)) (.seq (.block 1 (.seq (.ops [.mov 11 (.t 9), .iadr 12 1 (.t 7) (.t 9), .load 13 none (.t 12), .asg 3 (.t 11), .asg 4 (.t 13)]) (.seq (.ops [.mov 14 (.t 4), .len 15 (.t 14), .mov 16 (.c (.int .i64 0))])
       fn47_l1))) (.ops [.bin 26 .add (.t 9) (.c (.int .i64 1)), .mov 9 (.t 26)]))))
def fn47_l3 : VCode :=
(.clean [0, 7, 8, 9] [] (.block 0 (.loop [0, 7, 8, 9] fn47_b2)))
def fn47 : VFn := ⟨2, 27, [], (.seq (.ops [.load 7 none (.t 1), .len 8 (.t 7), .mov 9 (.c (.int .i64 0))])
  fn47_l3)⟩
def fn48_b0 : VCode := (.seq (.ops [.bin 13 .lss (.t 12) (.t 11)]) (.seq (.cond (.t 13) .skip (.exit 0)) (.seq (.block 1 (.seq (.ops [.iadr 14 1 (.t 10) (.t 12), .load 15 none (.t 14), .asg 6 (.t 15)]) (.seq (.ops [.mov 16 (.t 6), .call 17 20 [(.t 16)], .asg 7 (.t 17)]) (.seq (.ops [.mov 18 (.t 7), .bin 19 .neq (.t 18) (.c (.int .i64 0))]) (.cond (.t 19) (.seq (.ops [.mov 20 (.t 7), .asg 4 (.t 20)]) .ret) .skip))))) (.ops [.bin 21 .add (.t 12) (.c (.int .i64 1)), .mov 12 (.t 21)]))))
def fn48_l1 : VCode :=
(.clean [0, 1, 10, 11, 12] [0, 1, 4] (.block 0 (.loop [0, 1, 10, 11, 12] fn48_b0)))
def fn48 : VFn := ⟨2, 28, [.tmp 4], (.seq (.ops [.asg 4 (.c (.int .i64 0))]) (.seq (.seq (.ops [.mov 8 (.t 0), .mov 9 (.t 1), .mksl 10 1 [(.t 8), (.t 9)], .len 11 (.t 10), .mov 12 (.c (.int .i64 0))])
    fn48_l1) (.seq (.seq (.ops [.mov 22 (.t 0), .call 23 42 [(.t 22)], .mov 24 (.t 1), .call 25 42 [(.t 24)], .call 26 68 [(.t 23), (.t 25)], .un 27 .not (.t 26)]) (.cond (.t 27) (.seq (.ops [.asg 4 (.c (.int .i64 22))]) .ret) .skip)) (.seq (.ops [.asg 4 (.c (.int .i64 0))]) .ret))))⟩
def fn49_b0 : VCode := (.ops [.asg 7 (.t 11)])
def fn49_b1 : VCode := (.block 1 (.seq (.seq (.ops [.mov 12 (.t 7), .load 13 none (.t 6), .bin 14 .eql (.t 12) (.t 13)]) (.cond (.t 14) (.ops [.load 15 none (.t 5), .load 16 none (.t 5), .len 17 (.t 16), .bin 18 .sub (.t 17) (.c (.int .i64 1)), .iadr 19 2 (.t 15) (.t 18), .fadr 20 (.t 19) 1, .load 21 none (.t 20), .bin 22 .add (.t 21) (.c (.int .i64 1)), .iadr 23 2 (.t 15) (.t 18), .fadr 24 (.t 23) 1, .store none 1 (.t 24) (.t 22)]) (.ops [.load 25 none (.t 5), .mov 26 (.t 7), .build 27 [(.int .i64 0), (.int .i64 0)] [(0, 1, (.t 26)), (1, 1, (.c (.int .i64 1)))], .mksl 28 2 [(.t 27)], .app 29 2 (.t 25) (.t 28), .store none 1 (.t 5) (.t 29)]))) (.ops [.mov 30 (.t 7), .bin 31 .add (.t 30) (.c (.int .i64 1)), .store none 1 (.t 6) (.t 31)])))
def fn49 : VFn := ⟨2, 33, [.tmp 4], (.seq (.ops [.asg 4 (.nil 2)]) (.seq (.ops [.alloc 5 [(.list 2 [])]]) (.seq (.ops [.alloc 6 [(.int .i64 0)], .store none 1 (.t 6) (.c (.int .i64 (-1)))]) (.seq (.seq (.ops [.mov 8 (.t 0), .mov 9 (.t 1), .call 10 69 [(.t 8), (.t 9)]]) (.block 0 (.rng (.t 10) [11] fn49_b0 fn49_b1))) (.seq (.ops [.load 32 none (.t 5), .asg 4 (.t 32)]) .ret)))))⟩
def fn50 : VFn := ⟨1, 5, [.tmp 2], (.seq (.ops [.asg 2 (.nil 2)]) (.seq (.ops [.mov 3 (.t 0), .call 4 70 [(.c (.nils 2)), (.t 3)], .asg 2 (.t 4)]) .ret))⟩
def fn51 : VFn := ⟨3, 8, [.tmp 6], (.seq (.ops [.box 3 (.t 0), .box 4 (.t 1), .box 5 (.t 2), .asg 6 (.c .nilf)]) (.seq (.ops [.mkf 7 71 [(.t 3), (.t 4), (.t 5)], .asg 6 (.t 7)]) .ret))⟩
def fn52 : VFn := ⟨2, 9, [.tmp 4], (.seq (.ops [.asg 4 (.c (.bool false))]) (.seq (.ops [.mov 5 (.t 0), .mov 6 (.t 5), .grd 6 true (.mov 7 (.t 1)), .pick 8 (.t 6) (.t 7) (.c (.bool false)), .asg 4 (.t 8)]) .ret))⟩
def fn53_b0 : VCode := (.seq (.seq (.ops [.mov 11 (.t 5), .mov 12 (.t 0), .len 13 (.t 12), .bin 14 .lss (.t 11) (.t 13)]) (.cond (.t 14) .skip (.exit 0))) (.seq (.block 1 (.seq (.drw [] [] none [0, 1, 2, 3, 4, 5, 6, 7, 8] [.mov 17 (.t 0), .mov 18 (.t 5), .iadr 19 8 (.t 17) (.t 18), .load 20 (some 8) (.t 19), .mov 21 (.t 1), .mov 22 (.t 5), .iadr 23 8 (.t 21) (.t 22), .load 24 (some 8) (.t 23), .eqa 25 true 8 (.t 20) (.t 24)]) (.cond (.t 25) (.seq (.ops [.asg 4 (.c (.bool false))]) .ret) .skip))) (.ops [.mov 15 (.t 5), .bin 16 .add (.t 15) (.c (.int .i64 1)), .asg 5 (.t 16)])))
def fn53_l1 : VCode :=
(.clean [0, 1, 5] [4] (.block 0 (.loop [0, 1, 5] fn53_b0)))
def fn53 : VFn := ⟨2, 26, [.tmp 4], (.seq (.ops [.asg 4 (.c (.bool false))]) (.seq (.seq (.ops [.mov 6 (.t 0), .len 7 (.t 6), .mov 8 (.t 1), .len 9 (.t 8), .bin 10 .neq (.t 7) (.t 9)]) (.cond (.t 10) (.seq (.ops [.asg 4 (.c (.bool false))]) .ret) .skip)) (.seq (.seq (.ops [.asg 5 (.c (.int .i64 0))])
     fn53_l1) (.seq (.ops [.asg 4 (.c (.bool true))]) .ret))))⟩
def fn54 : VFn := ⟨2, 9, [.tmp 4], (.seq (.ops [.asg 4 (.nil 2)]) (.seq (.ops [.mov 5 (.t 0), .mov 6 (.t 1), .call 7 51 [(.t 5), (.t 6), (.c (.func 73 []))], .call 8 50 [(.t 7)], .asg 4 (.t 8)]) .ret))⟩
def fn55_b0 : VCode := (.seq (.ops [.bin 37 .lss (.t 36) (.t 35)]) (.seq (.cond (.t 37) .skip (.exit 0)) (.seq (.block 1 (.seq (.ops [.mov 38 (.t 36), .asg 11 (.t 38)]) (.drw [] [([0, 1, 2, 3, 4, 5, 6, 7, 8, 9, 10, 11, 12], 13)] (some ([14], [], 15, [])) [] [.mov 39 (.t 10), .mov 40 (.t 11), .mov 41 (.t 2), .fadr 42 (.t 3) 1, .load 43 none (.t 42), .mov 44 (.t 11), .iadr 45 1 (.t 43) (.t 44), .load 46 none (.t 45), .fadr 47 (.t 4) 1, .load 48 none (.t 47), .mov 49 (.t 11), .iadr 50 1 (.t 48) (.t 49), .load 51 none (.t 50), .callv 52 (.t 41) [(.t 46), (.t 51)], .iadr 53 1 (.t 39) (.t 40), .store none 1 (.t 53) (.t 52)]))) (.ops [.bin 54 .add (.t 36) (.c (.int .i64 1)), .mov 36 (.t 54)]))))
def fn55_l1 : VCode :=
(.clean [2, 3, 4, 6, 10, 33, 35, 36] [3, 6, 7, 10] (.block 0 (.loop [2, 3, 4, 6, 10, 33, 35, 36] fn55_b0)))
def fn55 : VFn := ⟨3, 59, [.cell 6 (some 2), .tmp 7], (.seq (.ops [.box 3 (.t 0), .box 4 (.t 1), .alloc 6 [(.int .i64 0), (.list 1 [])], .asg 7 (.c (.int .i64 0))]) (.seq (.seq (.ops [.load 12 (some 2) (.t 3), .call 13 58 [(.t 12)], .asg 8 (.t 13)]) (.seq (.ops [.mov 14 (.t 8), .bin 15 .neq (.t 14) (.c (.int .i64 0))]) (.cond (.t 15) (.seq (.ops [.build 16 [(.int .i64 0), (.list 1 [])] [], .mov 17 (.t 8), .store none 2 (.t 6) (.t 16), .asg 7 (.t 17)]) .ret) .skip))) (.seq (.seq (.ops [.load 18 (some 2) (.t 4), .call 19 58 [(.t 18)], .asg 9 (.t 19)]) (.seq (.ops [.mov 20 (.t 9), .bin 21 .neq (.t 20) (.c (.int .i64 0))]) (.cond (.t 21) (.seq (.ops [.build 22 [(.int .i64 0), (.list 1 [])] [], .mov 23 (.t 9), .store none 2 (.t 6) (.t 22), .asg 7 (.t 23)]) .ret) .skip))) (.seq (.seq (.ops [.fadr 24 (.t 3) 0, .load 25 none (.t 24), .fadr 26 (.t 4) 0, .load 27 none (.t 26), .bin 28 .neq (.t 25) (.t 27)]) (.cond (.t 28) (.seq (.ops [.build 29 [(.int .i64 0), (.list 1 [])] [], .store none 2 (.t 6) (.t 29), .asg 7 (.c (.int .i64 22))]) .ret) .skip)) (.seq (.ops [.fadr 30 (.t 3) 1, .load 31 none (.t 30), .len 32 (.t 31), .make 33 (.int .u64 0) (.t 32) (.t 32), .asg 10 (.t 33)]) (.seq (.seq (.ops [.mov 34 (.t 10), .len 35 (.t 34), .mov 36 (.c (.int .i64 0))])
        fn55_l1) (.seq (.ops [.fadr 55 (.t 3) 0, .load 56 none (.t 55), .mov 57 (.t 10), .build 58 [(.int .i64 0), (.list 1 [])] [(0, 1, (.t 56)), (1, 1, (.t 57))], .store none 2 (.t 6) (.t 58), .asg 7 (.c (.int .i64 0))]) .ret)))))))⟩
def fn56 : VFn := ⟨2, 8, [.tmp 4], (.seq (.ops [.asg 4 (.c (.int .u64 0))]) (.seq (.ops [.mov 5 (.t 0), .mov 6 (.t 1), .bin 7 .or (.t 5) (.t 6), .asg 4 (.t 7)]) .ret))⟩
def fn57_b0 : VCode := (.seq (.seq (.ops [.mov 24 (.t 5), .bin 25 .neq (.t 24) (.c (.int .u64 0))]) (.cond (.t 25) .skip (.exit 2))) (.block 3 (.seq (.seq (.ops [.mov 26 (.t 0), .mov 27 (.t 4), .bin 28 .mul (.t 27) (.c (.int .i64 64)), .mov 29 (.t 5), .call 30 60 [(.t 29)], .bin 31 .add (.t 28) (.t 30), .yield 32 (.t 26) [(.t 31)], .un 33 .not (.t 32)]) (.cond (.t 33) .ret .skip)) (.ops [.mov 34 (.t 5), .mov 35 (.t 5), .bin 36 .sub (.t 35) (.c (.int .u64 1)), .bin 37 .and (.t 34) (.t 36), .asg 5 (.t 37)]))))
def fn57_l1 : VCode :=
(.clean [0, 1, 2, 4, 5, 10, 11, 12] [0, 1, 2, 10, 11, 12] (.block 2 (.loop [0, 1, 2, 4, 5, 10, 11, 12] fn57_b0)))
def fn57_b2 : VCode := (.seq (.ops [.bin 13 .lss (.t 12) (.t 11)]) (.seq (.cond (.t 13) .skip (.exit 0)) (.seq (.block 1 (.seq (.ops [.mov 14 (.t 12), .iadr 15 1 (.t 10) (.t 12), .load 16 none (.t 15), .asg 4 (.t 14), .asg 5 (.t 16)]) (.seq (.ops [.mov 17 (.t 5), .mov 18 (.t 4), .load 19 none (.t 2), .fadr 20 (.t 1) 0, .load 21 none (.t 20), .call 22 59 [(.t 18), (.t 19), (.t 21)], .bin 23 .and (.t 17) (.t 22), .asg 5 (.t 23)])
       fn57_l1))) (.ops [.bin 38 .add (.t 12) (.c (.int .i64 1)), .mov 12 (.t 38)]))))
def fn57_l3 : VCode :=
(.clean [0, 1, 2, 10, 11, 12] [] (.block 0 (.loop [0, 1, 2, 10, 11, 12] fn57_b2)))
def fn57 : VFn := ⟨3, 39, [], (.seq (.seq (.ops [.load 6 (some 2) (.t 1), .call 7 58 [(.t 6)], .bin 8 .neq (.t 7) (.c (.int .i64 0))]) (.cond (.t 8) .ret .skip)) (.seq (.ops [.fadr 9 (.t 1) 1, .load 10 none (.t 9), .len 11 (.t 10), .mov 12 (.c (.int .i64 0))])
   fn57_l3))⟩
def fn58 : VFn := ⟨1, 39, [.tmp 2], (.seq (.ops [.box 1 (.t 0), .asg 2 (.c (.int .i64 0))]) (.seq (.seq (.drw [] [([0, 1, 2, 3, 4, 5, 6, 7, 8, 9, 10, 11, 12, 13], 14)] none [15, 16] [.fadr 4 (.t 1) 0, .load 5 none (.t 4), .bin 6 .lss (.t 5) (.c (.int .i64 0)), .mov 7 (.t 6), .grd 7 false (.fadr 8 (.t 1) 0), .grd 7 false (.load 9 none (.t 8)), .grd 7 false (.bin 10 .gtr (.t 9) (.c (.int .i64 4096))), .pick 11 (.t 7) (.c (.bool true)) (.t 10), .mov 12 (.t 11), .grd 12 false (.fadr 13 (.t 1) 1), .grd 12 false (.load 14 none (.t 13)), .grd 12 false (.len 15 (.t 14)), .grd 12 false (.fadr 16 (.t 1) 0), .grd 12 false (.load 17 none (.t 16)), .grd 12 false (.call 18 74 [(.t 17)]), .grd 12 false (.bin 19 .neq (.t 15) (.t 18)), .pick 20 (.t 12) (.c (.bool true)) (.t 19)]) (.cond (.t 20) (.seq (.ops [.asg 2 (.c (.int .i64 3))]) .ret) .skip)) (.seq (.seq (.ops [.fadr 21 (.t 1) 0, .load 22 none (.t 21), .bin 23 .rem (.t 22) (.c (.int .i64 64)), .asg 3 (.t 23)]) (.seq (.ops [.mov 24 (.t 3), .bin 25 .gtr (.t 24) (.c (.int .i64 0)), .mov 26 (.t 25), .grd 26 true (.fadr 27 (.t 1) 1), .grd 26 true (.load 28 none (.t 27)), .grd 26 true (.fadr 29 (.t 1) 1), .grd 26 true (.load 30 none (.t 29)), .grd 26 true (.len 31 (.t 30)), .grd 26 true (.bin 32 .sub (.t 31) (.c (.int .i64 1))), .grd 26 true (.iadr 33 1 (.t 28) (.t 32)), .grd 26 true (.load 34 none (.t 33)), .grd 26 true (.mov 35 (.t 3)), .grd 26 true (.bin 36 .shr (.t 34) (.t 35)), .grd 26 true (.bin 37 .neq (.t 36) (.c (.int .u64 0))), .pick 38 (.t 26) (.t 37) (.c (.bool false))]) (.cond (.t 38) (.seq (.ops [.asg 2 (.c (.int .i64 3))]) .ret) .skip))) (.seq (.ops [.asg 2 (.c (.int .i64 0))]) .ret))))⟩
def fn59 : VFn := ⟨3, 27, [.tmp 6], (.seq (.ops [.asg 6 (.c (.int .u64 0))]) (.seq (.ops [.mov 7 (.t 1), .mov 8 (.t 0), .bin 9 .mul (.t 8) (.c (.int .i64 64)), .bin 10 .sub (.t 7) (.t 9), .mn 11 true (.t 10) (.c (.int .i64 0)), .mov 12 (.t 2), .mov 13 (.t 0), .bin 14 .mul (.t 13) (.c (.int .i64 64)), .bin 15 .sub (.t 12) (.t 14), .mn 16 false (.t 15) (.c (.int .i64 64)), .asg 1 (.t 11), .asg 2 (.t 16)]) (.seq (.seq (.ops [.mov 17 (.t 1), .mov 18 (.t 2), .bin 19 .geq (.t 17) (.t 18)]) (.cond (.t 19) (.seq (.ops [.asg 6 (.c (.int .u64 0))]) .ret) .skip)) (.seq (.ops [.mov 20 (.t 2), .mov 21 (.t 1), .bin 22 .sub (.t 20) (.t 21), .bin 23 .sub (.c (.int .i64 64)) (.t 22), .bin 24 .shr (.c (.int .u64 18446744073709551615)) (.t 23), .mov 25 (.t 1), .bin 26 .shl (.t 24) (.t 25), .asg 6 (.t 26)]) .ret))))⟩
def fn61 : VFn := ⟨2, 18, [.tmp 4], (.seq (.ops [.box 2 (.t 0), .box 3 (.t 1), .asg 4 (.c (.int .i64 0))]) (.seq (.seq (.ops [.load 5 (some 2) (.t 2), .call 6 39 [(.t 5)], .bin 7 .neq (.t 6) (.c (.int .i64 0)), .mov 8 (.t 7), .grd 8 false (.load 9 (some 2) (.t 3)), .grd 8 false (.call 10 39 [(.t 9)]), .grd 8 false (.bin 11 .neq (.t 10) (.c (.int .i64 0))), .pick 12 (.t 8) (.c (.bool true)) (.t 11)]) (.cond (.t 12) (.seq (.ops [.asg 4 (.c (.int .i64 3))]) .ret) .skip)) (.seq (.seq (.ops [.fadr 13 (.t 2) 0, .load 14 none (.t 13), .fadr 15 (.t 3) 0, .load 16 none (.t 15), .bin 17 .neq (.t 14) (.t 16)]) (.cond (.t 17) (.seq (.ops [.asg 4 (.c (.int .i64 22))]) .ret) .skip)) (.seq (.ops [.asg 4 (.c (.int .i64 0))]) .ret))))⟩
def fn62 : VFn := ⟨1, 10, [.own 2 2], (.seq (.ops [.box 1 (.t 0), .alloc 2 [(.int .i64 0), (.list 1 [])]]) (.seq (.drw [(.t 1)] [([3, 4, 0, 1], 2)] (some ([], [], 5, [([6], 7)])) [] [.fadr 6 (.t 1) 1, .load 7 none (.t 6), .fadr 3 (.t 1) 0, .ldz 4 none (.t 3), .mksl 5 1 [], .app 8 1 (.t 5) (.t 7), .bldo 9 [(.int .i64 0), (.list 1 [])] [(0, 1, (.t 4))] 1 8, .stw 2 (.t 2) (.t 9)]) .ret))⟩
def fn63 : VFn := ⟨2, 9, [.tmp 4], (.seq (.ops [.asg 4 (.c (.bool false))]) (.seq (.ops [.mov 5 (.t 0), .mov 6 (.t 1), .call 7 75 [(.t 5), (.t 6)], .bin 8 .geq (.t 7) (.c (.int .i64 0)), .asg 4 (.t 8)]) .ret))⟩
def fn64 : VFn := ⟨1, 9, [.tmp 2], (.seq (.ops [.asg 2 (.c (.bool false))]) (.seq (.ops [.mov 3 (.t 0), .bin 4 .lss (.t 3) (.c (.int .i64 1)), .mov 5 (.t 4), .grd 5 false (.mov 6 (.t 0)), .grd 5 false (.bin 7 .gtr (.t 6) (.c (.int .i64 4096))), .pick 8 (.t 5) (.c (.bool true)) (.t 7), .asg 2 (.t 8)]) .ret))⟩
def fn65_b0 : VCode := (.seq (.ops [.bin 14 .lss (.t 13) (.t 12)]) (.seq (.cond (.t 14) .skip (.exit 0)) (.seq (.block 1 (.seq (.ops [.iadr 15 1 (.t 11) (.t 13), .load 16 none (.t 15), .asg 7 (.t 16)]) (.ops [.mov 17 (.t 5), .mov 18 (.t 1), .mov 19 (.t 7), .callv 20 (.t 18) [(.t 19)], .mksl 21 1 [(.t 20)], .app 22 1 (.t 17) (.t 21), .asg 5 (.t 22)]))) (.ops [.bin 23 .add (.t 13) (.c (.int .i64 1)), .mov 13 (.t 23)]))))
def fn65_l1 : VCode :=
(.clean [0, 1, 5, 10, 11, 12, 13, 22] [4, 5] (.block 0 (.loop [0, 1, 5, 10, 11, 12, 13, 22] fn65_b0)))
def fn65 : VFn := ⟨2, 25, [.tmp 4], (.seq (.ops [.asg 4 (.nil 1)]) (.seq (.ops [.mov 8 (.t 0), .len 9 (.t 8), .make 10 (.int .i64 0) (.c (.int .i64 0)) (.t 9), .asg 5 (.t 10)]) (.seq (.seq (.ops [.mov 11 (.t 0), .len 12 (.t 11), .mov 13 (.c (.int .i64 0))])
     fn65_l1) (.seq (.ops [.mov 24 (.t 5), .asg 4 (.t 24)]) .ret))))⟩
def fn66 : VFn := ⟨1, 5, [.tmp 2], (.seq (.ops [.asg 2 (.c (.int .i64 0))]) (.seq (.ops [.mov 3 (.t 0), .len 4 (.t 3), .asg 2 (.t 4)]) .ret))⟩
def fn67_b0 : VCode := (.seq (.ops [.bin 9 .lss (.t 8) (.t 7)]) (.seq (.cond (.t 9) .skip (.exit 0)) (.seq (.block 1 (.seq (.ops [.mov 10 (.t 8), .asg 5 (.t 10)]) (.seq (.ops [.mov 11 (.t 1), .mov 12 (.t 0), .mov 13 (.t 5), .iadr 14 1 (.t 12) (.t 13), .load 15 none (.t 14), .eqb 16 false (.t 11) (.t 15)]) (.cond (.t 16) (.seq (.ops [.mov 17 (.t 5), .asg 4 (.t 17)]) .ret) .skip)))) (.ops [.bin 18 .add (.t 8) (.c (.int .i64 1)), .mov 8 (.t 18)]))))
def fn67_l1 : VCode :=
(.clean [0, 1, 7, 8] [4] (.block 0 (.loop [0, 1, 7, 8] fn67_b0)))
def fn67 : VFn := ⟨2, 19, [.tmp 4], (.seq (.ops [.asg 4 (.c (.int .i64 0))]) (.seq (.seq (.ops [.mov 6 (.t 0), .len 7 (.t 6), .mov 8 (.c (.int .i64 0))])
    fn67_l1) (.seq (.ops [.asg 4 (.c (.int .i64 (-1)))]) .ret)))⟩
def fn68_b0 : VCode := (.seq (.ops [.bin 14 .lss (.t 13) (.t 12)]) (.seq (.cond (.t 14) .skip (.exit 0)) (.seq (.block 1 (.seq (.ops [.mov 15 (.t 13), .asg 5 (.t 15)]) (.seq (.drw [] [] none [0, 1, 2, 3, 4, 5, 6, 7, 8] [.mov 16 (.t 0), .mov 17 (.t 5), .iadr 18 1 (.t 16) (.t 17), .load 19 none (.t 18), .mov 20 (.t 1), .mov 21 (.t 5), .iadr 22 1 (.t 20) (.t 21), .load 23 none (.t 22), .bin 24 .neq (.t 19) (.t 23)]) (.cond (.t 24) (.seq (.ops [.asg 4 (.c (.bool false))]) .ret) .skip)))) (.ops [.bin 25 .add (.t 13) (.c (.int .i64 1)), .mov 13 (.t 25)]))))
def fn68_l1 : VCode :=
(.clean [0, 1, 12, 13] [4] (.block 0 (.loop [0, 1, 12, 13] fn68_b0)))
def fn68 : VFn := ⟨2, 26, [.tmp 4], (.seq (.ops [.asg 4 (.c (.bool false))]) (.seq (.seq (.ops [.mov 6 (.t 0), .len 7 (.t 6), .mov 8 (.t 1), .len 9 (.t 8), .bin 10 .neq (.t 7) (.t 9)]) (.cond (.t 10) (.seq (.ops [.asg 4 (.c (.bool false))]) .ret) .skip)) (.seq (.seq (.ops [.mov 11 (.t 0), .len 12 (.t 11), .mov 13 (.c (.int .i64 0))])
     fn68_l1) (.seq (.ops [.asg 4 (.c (.bool true))]) .ret))))⟩
def fn69 : VFn := ⟨2, 6, [.tmp 4], (.seq (.ops [.box 2 (.t 0), .box 3 (.t 1), .asg 4 (.c .nilf)]) (.seq (.ops [.mkf 5 76 [(.t 2), (.t 3)], .asg 4 (.t 5)]) .ret))⟩
def fn70_b0 : VCode := (.ops [.alloc 5 [(.int .i64 0), (.int .i64 0)], .store none 2 (.t 5) (.t 7)])
def fn70_b1 : VCode := (.block 1 (.ops [.load 8 none (.t 2), .load 9 (some 2) (.t 5), .mksl 10 2 [(.t 9)], .app 11 2 (.t 8) (.t 10), .store none 1 (.t 2) (.t 11)]))
def fn70 : VFn := ⟨2, 13, [.tmp 4], (.seq (.ops [.box 2 (.t 0), .asg 4 (.nil 2)]) (.seq (.seq (.ops [.mov 6 (.t 1)]) (.block 0 (.rng (.t 6) [7] fn70_b0 fn70_b1))) (.seq (.ops [.load 12 none (.t 2), .asg 4 (.t 12)]) .ret)))⟩
def fn71_b0 : VCode := (.seq (.ops [.bin 19 .lss (.t 18) (.t 17)]) (.seq (.cond (.t 19) .skip (.exit 0)) (.seq (.block 1 (.seq (.ops [.mov 20 (.t 18), .iadr 21 3 (.t 16) (.t 18), .load 22 (some 3) (.t 21), .alloc 10 [(.int .i64 0), (.int .i64 0), (.int .i64 0)], .asg 9 (.t 20), .store none 3 (.t 10) (.t 22)]) (.seq (.drw [] [] (some ([0, 1, 2, 3, 4, 5, 6, 7], [], 8, [])) [] [.fadr 23 (.t 10) 1, .load 24 none (.t 23), .aadr 25 (.t 6) (.t 24) 2 1, .load 26 none (.t 25), .fadr 27 (.t 10) 2, .load 28 none (.t 27), .bin 29 .add (.t 26) (.t 28), .aadr 30 (.t 6) (.t 24) 2 1, .store none 1 (.t 30) (.t 29)]) (.seq (.seq (.drw [] [] none [0, 1, 2, 3, 4, 5, 6, 7, 8, 9, 10, 11, 12, 13, 14, 15] [.mov 31 (.t 9), .bin 32 .add (.t 31) (.c (.int .i64 1)), .mov 33 (.t 5), .len 34 (.t 33), .bin 35 .lss (.t 32) (.t 34), .mov 36 (.t 35), .grd 36 true (.mov 37 (.t 5)), .grd 36 true (.mov 38 (.t 9)), .grd 36 true (.bin 39 .add (.t 38) (.c (.int .i64 1))), .grd 36 true (.iadr 40 3 (.t 37) (.t 39)), .grd 36 true (.fadr 41 (.t 40) 0), .grd 36 true (.load 42 none (.t 41)), .grd 36 true (.fadr 43 (.t 10) 0), .grd 36 true (.load 44 none (.t 43)), .grd 36 true (.bin 45 .eql (.t 42) (.t 44)), .pick 46 (.t 36) (.t 45) (.c (.bool false))]) (.cond (.t 46) (.exit 1) .skip)) (.seq (.ops [.load 47 none (.t 3), .aadr 48 (.t 6) (.c (.int .i64 0)) 2 1, .load 49 none (.t 48), .bin 50 .gtr (.t 49) (.c (.int .i64 0)), .aadr 51 (.t 6) (.c (.int .i64 1)) 2 1, .load 52 none (.t 51), .bin 53 .gtr (.t 52) (.c (.int .i64 0)), .callv 54 (.t 47) [(.t 50), (.t 53)], .asg 11 (.t 54)]) (.seq (.seq (.ops [.mov 55 (.t 11), .mov 56 (.t 55), .grd 56 true (.mov 57 (.t 8)), .grd 56 true (.un 58 .not (.t 57)), .pick 59 (.t 56) (.t 58) (.c (.bool false))]) (.cond (.t 59) (.ops [.fadr 60 (.t 10) 0, .load 61 none (.t 60), .asg 7 (.t 61)]) .skip)) (.seq (.seq (.ops [.mov 62 (.t 11), .un 63 .not (.t 62), .mov 64 (.t 63), .grd 64 true (.mov 65 (.t 8)), .pick 66 (.t 64) (.t 65) (.c (.bool false)), .mov 67 (.t 66), .grd 67 true (.mov 68 (.t 0)), .grd 67 true (.mov 69 (.t 7)), .grd 67 true (.fadr 70 (.t 10) 0), .grd 67 true (.load 71 none (.t 70)), .grd 67 true (.mov 72 (.t 7)), .grd 67 true (.bin 73 .sub (.t 71) (.t 72)), .grd 67 true (.build 74 [(.int .i64 0), (.int .i64 0)] [(0, 1, (.t 69)), (1, 1, (.t 73))]), .grd 67 true (.yield 75 (.t 68) [(.t 74)]), .grd 67 true (.un 76 .not (.t 75)), .pick 77 (.t 67) (.t 76) (.c (.bool false))]) (.cond (.t 77) .ret .skip)) (.ops [.mov 78 (.t 11), .asg 8 (.t 78)])))))))) (.ops [.bin 79 .add (.t 18) (.c (.int .i64 1)), .mov 18 (.t 79)]))))
def fn71_l1 : VCode :=
(.clean [0, 3, 5, 6, 7, 8, 15, 16, 17, 18] [] (.block 0 (.loop [0, 3, 5, 6, 7, 8, 15, 16, 17, 18] fn71_b0)))
def fn71 : VFn := ⟨4, 80, [], (.seq (.ops [.load 12 none (.t 1), .load 13 none (.t 2), .mksl 14 1 [(.t 12), (.t 13)], .call 15 72 [(.t 14)], .asg 5 (.t 15)]) (.seq (.ops [.alloc 6 [(.int .i64 0), (.int .i64 0)]]) (.seq (.ops [.asg 7 (.c (.int .i64 0)), .asg 8 (.c (.bool false))]) (.seq (.ops [.mov 16 (.t 5), .len 17 (.t 16), .mov 18 (.c (.int .i64 0))])
     fn71_l1))))⟩
def fn72_b0 : VCode := (.seq (.ops [.bin 21 .lss (.t 20) (.t 19)]) (.seq (.cond (.t 21) .skip (.exit 2)) (.seq (.block 3 (.seq (.ops [.iadr 22 2 (.t 18) (.t 20), .load 23 (some 2) (.t 22), .alloc 7 [(.int .i64 0), (.int .i64 0)], .store none 2 (.t 7) (.t 23)]) (.seq (.ops [.load 25 (some 2) (.t 7), .call 26 77 [(.t 25)], .mov 24 (.t 26), .ext 27 (.t 24) 0, .ext 28 (.t 24) 1, .ext 29 (.t 24) 2, .asg 8 (.t 27), .asg 9 (.t 28), .asg 10 (.t 29)]) (.seq (.ops [.mov 30 (.t 10)]) (.cond (.t 30) (.ops [.mov 31 (.t 3), .mov 32 (.t 8), .mov 33 (.t 4), .build 34 [(.int .i64 0), (.int .i64 0), (.int .i64 0)] [(0, 1, (.t 32)), (1, 1, (.t 33)), (2, 1, (.c (.int .i64 1)))], .mov 35 (.t 9), .mov 36 (.t 4), .build 37 [(.int .i64 0), (.int .i64 0), (.int .i64 0)] [(0, 1, (.t 35)), (1, 1, (.t 36)), (2, 1, (.c (.int .i64 (-1))))], .mksl 38 3 [(.t 34), (.t 37)], .app 39 3 (.t 31) (.t 38), .asg 3 (.t 39)]) .skip))))) (.ops [.bin 40 .add (.t 20) (.c (.int .i64 1)), .mov 20 (.t 40)]))))
def fn72_l1 : VCode :=
(.clean [0, 3, 4, 5, 11, 12, 13, 17, 18, 19, 20, 39] [0, 2, 3, 11, 12, 13, 39] (.block 2 (.loop [0, 3, 4, 5, 11, 12, 13, 17, 18, 19, 20, 39] fn72_b0)))
def fn72_b2 : VCode := (.seq (.ops [.bin 14 .lss (.t 13) (.t 12)]) (.seq (.cond (.t 14) .skip (.exit 0)) (.seq (.block 1 (.seq (.ops [.mov 15 (.t 13), .iadr 16 1 (.t 11) (.t 13), .load 17 none (.t 16), .asg 4 (.t 15), .asg 5 (.t 17)]) (.seq (.ops [.mov 18 (.t 5), .len 19 (.t 18), .mov 20 (.c (.int .i64 0))])
       fn72_l1))) (.ops [.bin 41 .add (.t 13) (.c (.int .i64 1)), .mov 13 (.t 41)]))))
def fn72_l3 : VCode :=
(.clean [0, 3, 11, 12, 13, 39] [2, 3] (.block 0 (.loop [0, 3, 11, 12, 13, 39] fn72_b2)))
def fn72 : VFn := ⟨1, 45, [.tmp 2], (.seq (.ops [.asg 2 (.nil 3)]) (.seq (.ops [.asg 3 (.nil 3)]) (.seq (.seq (.ops [.mov 11 (.t 0), .len 12 (.t 11), .mov 13 (.c (.int .i64 0))])
     fn72_l3) (.seq (.ops [.mov 42 (.t 3), .srt 43 78 (.t 42) (.c (.func 79 []))]) (.seq (.ops [.mov 44 (.t 3), .asg 2 (.t 44)]) .ret)))))⟩
def fn73 : VFn := ⟨2, 9, [.tmp 4], (.seq (.ops [.asg 4 (.c (.bool false))]) (.seq (.ops [.mov 5 (.t 0), .mov 6 (.t 5), .grd 6 false (.mov 7 (.t 1)), .pick 8 (.t 6) (.c (.bool true)) (.t 7), .asg 4 (.t 8)]) .ret))⟩
def fn74 : VFn := ⟨1, 7, [.tmp 2], (.seq (.ops [.asg 2 (.c (.int .i64 0))]) (.seq (.ops [.mov 3 (.t 0), .bin 4 .add (.t 3) (.c (.int .i64 64)), .bin 5 .sub (.t 4) (.c (.int .i64 1)), .bin 6 .quo (.t 5) (.c (.int .i64 64)), .asg 2 (.t 6)]) .ret))⟩
def fn75_b0 : VCode := (.seq (.ops [.bin 9 .lss (.t 8) (.t 7)]) (.seq (.cond (.t 9) .skip (.exit 0)) (.seq (.block 1 (.seq (.ops [.mov 10 (.t 8), .asg 5 (.t 10)]) (.seq (.ops [.mov 11 (.t 1), .mov 12 (.t 0), .mov 13 (.t 5), .iadr 14 1 (.t 12) (.t 13), .load 15 none (.t 14), .callv 16 (.t 11) [(.t 15)]]) (.cond (.t 16) (.seq (.ops [.mov 17 (.t 5), .asg 4 (.t 17)]) .ret) .skip)))) (.ops [.bin 18 .add (.t 8) (.c (.int .i64 1)), .mov 8 (.t 18)]))))
def fn75_l1 : VCode :=
(.clean [0, 1, 7, 8] [4] (.block 0 (.loop [0, 1, 7, 8] fn75_b0)))
def fn75 : VFn := ⟨2, 19, [.tmp 4], (.seq (.ops [.asg 4 (.c (.int .i64 0))]) (.seq (.seq (.ops [.mov 6 (.t 0), .len 7 (.t 6), .mov 8 (.c (.int .i64 0))])
    fn75_l1) (.seq (.ops [.asg 4 (.c (.int .i64 (-1)))]) .ret)))⟩
def fn76_b0 : VCode := (.seq (.ops [.bin 8 .lss (.t 7) (.t 6)]) (.seq (.cond (.t 8) .skip (.exit 0)) (.seq (.block 1 (.seq (.ops [.mov 9 (.t 7), .asg 4 (.t 9)]) (.seq (.drw [] [] (some ([0, 1, 2, 3, 4, 5, 6, 7, 8, 9, 10, 11], [], 12, [])) [13, 14] [.load 10 none (.t 1), .mov 11 (.t 4), .iadr 12 8 (.t 10) (.t 11), .load 13 (some 8) (.t 12), .load 14 none (.t 2), .mov 15 (.t 4), .iadr 16 8 (.t 14) (.t 15), .load 17 (some 8) (.t 16), .eqa 18 true 8 (.t 13) (.t 17), .mov 19 (.t 18), .grd 19 true (.mov 20 (.t 0)), .grd 19 true (.mov 21 (.t 4)), .grd 19 true (.yield 22 (.t 20) [(.t 21)]), .grd 19 true (.un 23 .not (.t 22)), .pick 24 (.t 19) (.t 23) (.c (.bool false))]) (.cond (.t 24) .ret .skip)))) (.ops [.bin 25 .add (.t 7) (.c (.int .i64 1)), .mov 7 (.t 25)]))))
def fn76_l1 : VCode :=
(.clean [0, 1, 2, 6, 7] [] (.block 0 (.loop [0, 1, 2, 6, 7] fn76_b0)))
def fn76 : VFn := ⟨3, 26, [], (.seq (.ops [.load 5 none (.t 1), .len 6 (.t 5), .mov 7 (.c (.int .i64 0))])
  fn76_l1)⟩
def fn77 : VFn := ⟨1, 35, [.tmp 2, .tmp 3, .tmp 4], (.seq (.ops [.box 1 (.t 0), .asg 2 (.c (.int .i64 0)), .asg 3 (.c (.int .i64 0)), .asg 4 (.c (.bool false))]) (.seq (.seq (.ops [.fadr 7 (.t 1) 1, .load 8 none (.t 7), .bin 9 .leq (.t 8) (.c (.int .i64 0))]) (.cond (.t 9) (.seq (.ops [.asg 2 (.c (.int .i64 0)), .asg 3 (.c (.int .i64 0)), .asg 4 (.c (.bool false))]) .ret) .skip)) (.seq (.ops [.fadr 10 (.t 1) 0, .load 11 none (.t 10), .mn 12 true (.t 11) (.c (.int .i64 0)), .asg 5 (.t 12), .asg 6 (.c (.int .i64 4096))]) (.seq (.seq (.ops [.fadr 13 (.t 1) 0, .load 14 none (.t 13), .bin 15 .lss (.t 14) (.c (.int .i64 0)), .mov 16 (.t 15), .grd 16 false (.fadr 17 (.t 1) 1), .grd 16 false (.load 18 none (.t 17)), .grd 16 false (.fadr 19 (.t 1) 0), .grd 16 false (.load 20 none (.t 19)), .grd 16 false (.bin 21 .sub (.c (.int .i64 4096)) (.t 20)), .grd 16 false (.bin 22 .lss (.t 18) (.t 21)), .pick 23 (.t 16) (.c (.bool true)) (.t 22)]) (.cond (.t 23) (.ops [.fadr 24 (.t 1) 0, .load 25 none (.t 24), .fadr 26 (.t 1) 1, .load 27 none (.t 26), .bin 28 .add (.t 25) (.t 27), .mn 29 false (.t 28) (.c (.int .i64 4096)), .asg 6 (.t 29)]) .skip)) (.seq (.ops [.mov 30 (.t 5), .mov 31 (.t 6), .mov 32 (.t 5), .mov 33 (.t 6), .bin 34 .lss (.t 32) (.t 33), .asg 2 (.t 30), .asg 3 (.t 31), .asg 4 (.t 34)]) .ret)))))⟩
def fn79 : VFn := ⟨2, 10, [.tmp 4], (.seq (.ops [.box 2 (.t 0), .box 3 (.t 1), .asg 4 (.c (.int .i64 0))]) (.seq (.ops [.fadr 5 (.t 2) 0, .load 6 none (.t 5), .fadr 7 (.t 3) 0, .load 8 none (.t 7), .call 9 80 [(.t 6), (.t 8)], .asg 4 (.t 9)]) .ret))⟩
def fn80 : VFn := ⟨2, 20, [.tmp 4], (.seq (.ops [.asg 4 (.c (.int .i64 0))]) (.seq (.ops [.mov 7 (.t 0), .call 8 83 [(.t 7)], .asg 5 (.t 8)]) (.seq (.ops [.mov 9 (.t 1), .call 10 83 [(.t 9)], .asg 6 (.t 10)]) (.seq (.seq (.ops [.mov 11 (.t 5)]) (.cond (.t 11) (.seq (.seq (.ops [.mov 12 (.t 6)]) (.cond (.t 12) (.seq (.ops [.asg 4 (.c (.int .i64 0))]) .ret) .skip)) (.seq (.ops [.asg 4 (.c (.int .i64 (-1)))]) .ret)) .skip)) (.seq (.seq (.ops [.mov 13 (.t 6)]) (.cond (.t 13) (.seq (.ops [.asg 4 (.c (.int .i64 1))]) .ret) .skip)) (.seq (.seq (.ops [.mov 14 (.t 0), .mov 15 (.t 1), .bin 16 .lss (.t 14) (.t 15)]) (.cond (.t 16) (.seq (.ops [.asg 4 (.c (.int .i64 (-1)))]) .ret) .skip)) (.seq (.seq (.ops [.mov 17 (.t 0), .mov 18 (.t 1), .bin 19 .gtr (.t 17) (.t 18)]) (.cond (.t 19) (.seq (.ops [.asg 4 (.c (.int .i64 1))]) .ret) .skip)) (.seq (.ops [.asg 4 (.c (.int .i64 0))]) .ret))))))))⟩
def fn83 : VFn := ⟨1, 6, [.tmp 2], (.seq (.ops [.asg 2 (.c (.bool false))]) (.seq (.ops [.mov 3 (.t 0), .mov 4 (.t 0), .bin 5 .neq (.t 3) (.t 4), .asg 2 (.t 5)]) .ret))⟩

def tab : List (Nat × VDef) := [(3, .code fn3), (4, .code fn4), (5, .code fn5), (6, .code fn6), (7, .code fn7), (8, .code fn8), (9, .code fn9), (10, .code fn10), (11, .code fn11), (12, .code fn12), (13, .code fn13), (14, .code fn14), (15, .code fn15), (16, .code fn16), (17, .code fn17), (18, .code fn18), (19, .code fn19), (20, .code fn20), (21, .code fn21), (22, .code fn22), (23, .ext (cloneX 8)), (24, .code fn24), (25, .code fn25), (26, .code fn26), (27, .code fn27), (28, .code fn28), (29, .code fn29), (30, .code fn30), (31, .code fn31), (32, .code fn32), (33, .code fn33), (34, .code fn34), (35, .code fn35), (36, .code fn36), (37, .code fn37), (38, .code fn38), (39, .code fn39), (40, .code fn40), (41, .code fn41), (42, .code fn42), (43, .code fn43), (44, .code fn44), (45, .code fn45), (46, .code fn46), (47, .code fn47), (48, .code fn48), (49, .code fn49), (50, .code fn50), (51, .code fn51), (52, .code fn52), (53, .code fn53), (54, .code fn54), (55, .code fn55), (56, .code fn56), (57, .code fn57), (58, .code fn58), (59, .code fn59), (60, .ext tzX), (61, .code fn61), (62, .code fn62), (63, .code fn63), (64, .code fn64), (65, .code fn65), (66, .code fn66), (67, .code fn67), (68, .code fn68), (69, .code fn69), (70, .code fn70), (71, .code fn71), (72, .code fn72), (73, .code fn73), (74, .code fn74), (75, .code fn75), (76, .code fn76), (77, .code fn77), (78, .srt (sortEndsX 79)), (79, .code fn79), (80, .code fn80), (83, .code fn83)]
def env : Env := fun f => tab.lookup f
theorem env3 : env 3 = some (.code fn3) := rfl
theorem env4 : env 4 = some (.code fn4) := rfl
theorem env5 : env 5 = some (.code fn5) := rfl
theorem env6 : env 6 = some (.code fn6) := rfl
theorem env7 : env 7 = some (.code fn7) := rfl
theorem env8 : env 8 = some (.code fn8) := rfl
theorem env9 : env 9 = some (.code fn9) := rfl
theorem env10 : env 10 = some (.code fn10) := rfl
theorem env11 : env 11 = some (.code fn11) := rfl
theorem env12 : env 12 = some (.code fn12) := rfl
theorem env13 : env 13 = some (.code fn13) := rfl
theorem env14 : env 14 = some (.code fn14) := rfl
theorem env15 : env 15 = some (.code fn15) := rfl
theorem env16 : env 16 = some (.code fn16) := rfl
theorem env17 : env 17 = some (.code fn17) := rfl
theorem env18 : env 18 = some (.code fn18) := rfl
theorem env19 : env 19 = some (.code fn19) := rfl
theorem env20 : env 20 = some (.code fn20) := rfl
theorem env21 : env 21 = some (.code fn21) := rfl
theorem env22 : env 22 = some (.code fn22) := rfl
theorem env23 : env 23 = some (.ext (cloneX 8)) := rfl
theorem env24 : env 24 = some (.code fn24) := rfl
theorem env25 : env 25 = some (.code fn25) := rfl
theorem env26 : env 26 = some (.code fn26) := rfl
theorem env27 : env 27 = some (.code fn27) := rfl
theorem env28 : env 28 = some (.code fn28) := rfl
theorem env29 : env 29 = some (.code fn29) := rfl
theorem env30 : env 30 = some (.code fn30) := rfl
theorem env31 : env 31 = some (.code fn31) := rfl
theorem env32 : env 32 = some (.code fn32) := rfl
theorem env33 : env 33 = some (.code fn33) := rfl
theorem env34 : env 34 = some (.code fn34) := rfl
theorem env35 : env 35 = some (.code fn35) := rfl
theorem env36 : env 36 = some (.code fn36) := rfl
theorem env37 : env 37 = some (.code fn37) := rfl
theorem env38 : env 38 = some (.code fn38) := rfl
theorem env39 : env 39 = some (.code fn39) := rfl
theorem env40 : env 40 = some (.code fn40) := rfl
theorem env41 : env 41 = some (.code fn41) := rfl
theorem env42 : env 42 = some (.code fn42) := rfl
theorem env43 : env 43 = some (.code fn43) := rfl
theorem env44 : env 44 = some (.code fn44) := rfl
theorem env45 : env 45 = some (.code fn45) := rfl
theorem env46 : env 46 = some (.code fn46) := rfl
theorem env47 : env 47 = some (.code fn47) := rfl
theorem env48 : env 48 = some (.code fn48) := rfl
theorem env49 : env 49 = some (.code fn49) := rfl
theorem env50 : env 50 = some (.code fn50) := rfl
theorem env51 : env 51 = some (.code fn51) := rfl
theorem env52 : env 52 = some (.code fn52) := rfl
theorem env53 : env 53 = some (.code fn53) := rfl
theorem env54 : env 54 = some (.code fn54) := rfl
theorem env55 : env 55 = some (.code fn55) := rfl
theorem env56 : env 56 = some (.code fn56) := rfl
theorem env57 : env 57 = some (.code fn57) := rfl
theorem env58 : env 58 = some (.code fn58) := rfl
theorem env59 : env 59 = some (.code fn59) := rfl
theorem env60 : env 60 = some (.ext tzX) := rfl
theorem env61 : env 61 = some (.code fn61) := rfl
theorem env62 : env 62 = some (.code fn62) := rfl
theorem env63 : env 63 = some (.code fn63) := rfl
theorem env64 : env 64 = some (.code fn64) := rfl
theorem env65 : env 65 = some (.code fn65) := rfl
theorem env66 : env 66 = some (.code fn66) := rfl
theorem env67 : env 67 = some (.code fn67) := rfl
theorem env68 : env 68 = some (.code fn68) := rfl
theorem env69 : env 69 = some (.code fn69) := rfl
theorem env70 : env 70 = some (.code fn70) := rfl
theorem env71 : env 71 = some (.code fn71) := rfl
theorem env72 : env 72 = some (.code fn72) := rfl
theorem env73 : env 73 = some (.code fn73) := rfl
theorem env74 : env 74 = some (.code fn74) := rfl
theorem env75 : env 75 = some (.code fn75) := rfl
theorem env76 : env 76 = some (.code fn76) := rfl
theorem env77 : env 77 = some (.code fn77) := rfl
theorem env78 : env 78 = some (.srt (sortEndsX 79)) := rfl
end Go.Proofs.YtncobemfpammfaaDoor

namespace Go.Proofs.YtncobemfpammfaaDoor
open V
def vAll := (And.intro (And.intro (And.intro (And.intro (And.intro (And.intro (And.intro (And.intro @den_drs (And.intro @dalts_cons @dagree_nil)) (And.intro @dagree_cons (And.intro @sameAs_same @dalt_eq))) (And.intro (And.intro @altEnd_false (And.intro @altEnd_true @pickV_nil)) (And.intro @pickV_one (And.intro @den_skip @List.foldl_nil.{0, 0})))) (And.intro (And.intro (And.intro @List.foldl_cons.{0, 0} (And.intro @den_ops @den_drw)) (And.intro @den_seq (And.intro @den_cond @den_block))) (And.intro (And.intro @den_exit (And.intro @den_ret @next_normal)) (And.intro (And.intro @next_exit @next_ret) (And.intro @endBlock_normal @endBlock_ret))))) (And.intro (And.intro (And.intro (And.intro @endBlock_exit (And.intro @tail_normal @tail_ret)) (And.intro @tail_exit (And.intro @fin_normal @fin_ret))) (And.intro (And.intro @bcase_true (And.intro @bcase_false @z_bind_some)) (And.intro (And.intro @z_map_some @z_bind_none) (And.intro @z_map_none @resultsOf.eq_1)))) (And.intro (And.intro (And.intro @resultsOf.eq_2 (And.intro @resultsOf.eq_3 @resultList.eq_1)) (And.intro @resultList.eq_2 (And.intro @resultOf.eq_1 @resultOf.eq_2))) (And.intro (And.intro @resultOf.eq_3 (And.intro @zBV.eq_1 @zBV.eq_2)) (And.intro (And.intro @splice.eq_1 @PV.remade.eq_1) (And.intro @PV.remade.eq_2 @PV.remade.eq_3)))))) (And.intro (And.intro (And.intro (And.intro (And.intro @PV.remade.eq_4 (And.intro @St.freezeAt.eq_1 @St.freezeBox.eq_1)) (And.intro @St.freezeCap.eq_1 (And.intro @St.freezeCap.eq_2 @PV.single.eq_1))) (And.intro (And.intro @PV.single.eq_2 (And.intro @dops_nil @dops_cons)) (And.intro (And.intro @dop_grd @dop_pick) (And.intro @dop_call @dop_callv)))) (And.intro (And.intro (And.intro @op1_call (And.intro @op1_callv @op1_pick)) (And.intro @dop_mov (And.intro @dop_asg @dop_bin))) (And.intro (And.intro @dop_eqa (And.intro @dop_eqb @dop_isn)) (And.intro (And.intro @dop_cut @dop_asl) (And.intro @dop_ldz @dop_srt))))) (And.intro (And.intro (And.intro (And.intro @dop_stw (And.intro @dop_bldo @dop_mvz)) (And.intro @dop_un (And.intro @dop_conv @dop_load))) (And.intro (And.intro @dop_fadr (And.intro @dop_aadr @dop_iadr)) (And.intro (And.intro @dop_fld @dop_idx) (And.intro @dop_sli @dop_len)))) (And.intro (And.intro (And.intro @dop_lens (And.intro @dop_ext @dop_build)) (And.intro @dop_mn (And.intro @dop_mkf @dop_alloc))) (And.intro (And.intro @dop_box (And.intro @dop_store @dop_mksl)) (And.intro (And.intro @dop_make @dop_app) (And.intro @dop_cpy @dop_yield))))))) (And.intro (And.intro (And.intro (And.intro (And.intro (And.intro @op1_mov (And.intro @op1_asg @op1_bin)) (And.intro @op1_eqa (And.intro @op1_eqb @op1_isn))) (And.intro (And.intro @op1_cut (And.intro @op1_asl @op1_ldz)) (And.intro @op1_srt (And.intro @op1_stw @op1_bldo)))) (And.intro (And.intro (And.intro @op1_mvz (And.intro @op1_un @op1_conv)) (And.intro @op1_load (And.intro @op1_fadr @op1_aadr))) (And.intro (And.intro @op1_iadr (And.intro @op1_fld @op1_idx)) (And.intro (And.intro @op1_sli @op1_len) (And.intro @op1_lens @op1_ext))))) (And.intro (And.intro (And.intro (And.intro @op1_build (And.intro @op1_mn @op1_mkf)) (And.intro @op1_alloc (And.intro @op1_box @op1_store))) (And.intro (And.intro @op1_mksl (And.intro @op1_make @op1_app)) (And.intro (And.intro @op1_cpy @op1_yield) (And.intro @plain.eq_1 @plain.eq_2)))) (And.intro (And.intro (And.intro @plain.eq_3 (And.intro @plain.eq_4 @plain.eq_5)) (And.intro @plain.eq_6 (And.intro @plain.eq_7 @plain.eq_8))) (And.intro (And.intro @plain.eq_9 (And.intro @plain.eq_10 @plain.eq_11)) (And.intro (And.intro @plain.eq_12 @plain.eq_13) (And.intro @plain.eq_14 @plain.eq_15)))))) (And.intro (And.intro (And.intro (And.intro (And.intro @plain.eq_16 (And.intro @plain.eq_17 @plain.eq_18)) (And.intro @plain.eq_19 (And.intro @plain.eq_20 @plain.eq_21))) (And.intro (And.intro @plain.eq_22 (And.intro @plain.eq_23 @plain.eq_24)) (And.intro (And.intro @plain.eq_25 @plain.eq_26) (And.intro @plain.eq_27 @plain.eq_28)))) (And.intro (And.intro (And.intro @plain.eq_29 (And.intro @act.eq_1 @act.eq_2)) (And.intro @act.eq_3 (And.intro @act.eq_4 @act.eq_5))) (And.intro (And.intro @act.eq_6 (And.intro @act.eq_7 @act.eq_8)) (And.intro (And.intro @act.eq_9 @act.eq_10) (And.intro @act.eq_11 @act.eq_12))))) (And.intro (And.intro (And.intro (And.intro @act.eq_13 (And.intro @dstOf.eq_1 @dstOf.eq_2)) (And.intro @dstOf.eq_3 (And.intro @dstOf.eq_4 @dstOf.eq_5))) (And.intro (And.intro @dstOf.eq_6 (And.intro @dstOf.eq_7 @dstOf.eq_8)) (And.intro (And.intro @dstOf.eq_9 @dstOf.eq_10) (And.intro @dstOf.eq_11 @dstOf.eq_12)))) (And.intro (And.intro (And.intro @dstOf.eq_13 (And.intro @dstOf.eq_14 @dstOf.eq_15)) (And.intro @dstOf.eq_16 (And.intro @dstOf.eq_17 @dstOf.eq_18))) (And.intro (And.intro @dstOf.eq_19 (And.intro @dstOf.eq_20 @dstOf.eq_21)) (And.intro (And.intro @dstOf.eq_22 @dstOf.eq_23) (And.intro @dstOf.eq_24 @dstOf.eq_25)))))))) (And.intro (And.intro (And.intro (And.intro (And.intro (And.intro (And.intro @dstOf.eq_26 (And.intro @dstOf.eq_27 @dstOf.eq_28)) (And.intro @dstOf.eq_29 (And.intro @dstOf.eq_30 @dstOf.eq_31))) (And.intro (And.intro @dstOf.eq_32 (And.intro @dstOf.eq_33 @dstOf.eq_34)) (And.intro @dstOf.eq_35 (And.intro @dstOf.eq_36 @dstOf.eq_37)))) (And.intro (And.intro (And.intro @dstOf.eq_38 (And.intro @dstOf.eq_39 @dstOf.eq_40)) (And.intro @Bool.false_eq_true (And.intro @if_true.{1} @if_false.{1}))) (And.intro (And.intro @z_ite_true (And.intro @z_ite_false @St.get.eq_1)) (And.intro (And.intro @St.get.eq_2 @St.get.eq_3) (And.intro @St.put.eq_1 @St.pvOf.eq_1))))) (And.intro (And.intro (And.intro (And.intro @St.putRow.eq_1 (And.intro @St.consume.eq_1 @St.consume.eq_2)) (And.intro @St.consume.eq_3 (And.intro @St.freeze.eq_1 @St.row.eq_1))) (And.intro (And.intro @St.row.eq_2 (And.intro @St.row.eq_3 @St.elems.eq_1)) (And.intro (And.intro @St.grab.eq_1 @St.grab.eq_2) (And.intro @St.grab.eq_3 @allBV.eq_1)))) (And.intro (And.intro (And.intro @allBV.eq_2 (And.intro @allBV.eq_3 @allBV.eq_4)) (And.intro @ownP.eq_1 (And.intro @ownP.eq_2 @ownCells.eq_1))) (And.intro (And.intro @ownCells.eq_2 (And.intro @ownCells.eq_3 @ownCells.eq_4)) (And.intro (And.intro @St.takeRow.eq_1 @St.takeRow.eq_2) (And.intro @St.takeRow.eq_3 @St.setRow.eq_1)))))) (And.intro (And.intro (And.intro (And.intro (And.intro @St.setRow.eq_2 (And.intro @St.setRow.eq_3 @St.place.eq_1)) (And.intro @St.place.eq_2 (And.intro @St.optPv.eq_1 @St.optPv.eq_2))) (And.intro (And.intro @St.setCell.eq_1 (And.intro @St.setCellRow.eq_1 @binPV.eq_1)) (And.intro (And.intro @binPV.eq_2 @binPV.eq_3) (And.intro @binPV.eq_4 @intBin.eq_1)))) (And.intro (And.intro (And.intro @intBin.eq_2 (And.intro @intBin.eq_3 @intBin.eq_4)) (And.intro @intBin.eq_5 (And.intro @intBin.eq_6 @intBin.eq_7))) (And.intro (And.intro @intBin.eq_8 (And.intro @intBin.eq_9 @intBin.eq_10)) (And.intro (And.intro @intBin.eq_11 @intBin.eq_12) (And.intro @intBin.eq_13 @intBin.eq_14))))) (And.intro (And.intro (And.intro (And.intro @intBin.eq_15 (And.intro @intBin.eq_16 @intBin.eq_17)) (And.intro @unPV.eq_1 (And.intro @unPV.eq_2 @unPV.eq_3))) (And.intro (And.intro @unPV.eq_4 (And.intro @BV.val.eq_1 @BV.val.eq_2)) (And.intro (And.intro @cells_int @cells_bool) (And.intro @cells_str @cells_list)))) (And.intro (And.intro (And.intro @cells_func (And.intro @cells_agg @part_one)) (And.intro @part_succ (And.intro @part_more @killS_pv))) (And.intro (And.intro @killS_any (And.intro @killS_row @killS_pbox)) (And.intro (And.intro @killS_fn @killS_tup) (And.intro @killS_yld @killS_refs))))))) (And.intro (And.intro (And.intro (And.intro (And.intro (And.intro @killS_refc (And.intro @killS_pels @killS_pelc)) (And.intro @killc_pv (And.intro @killc_any @killc_row))) (And.intro (And.intro @killc_pbox (And.intro @killc_fn @killc_tup)) (And.intro (And.intro @killc_yld @killc_refs) (And.intro @killc_refc @killc_pels)))) (And.intro (And.intro (And.intro @killc_pelc (And.intro @bound.eq_1 @bound.eq_2)) (And.intro @bound.eq_3 (And.intro @consumeAll.eq_1 @consumeAll.eq_2))) (And.intro (And.intro @buildParts.eq_1 (And.intro @buildParts.eq_2 @capsOf.eq_1)) (And.intro (And.intro @capsOf.eq_2 @capOf.eq_1) (And.intro @z_bind_eq @z_pure))))) (And.intro (And.intro (And.intro (And.intro @z_map_cons (And.intro @z_map_nil @z_len_cons)) (And.intro @z_len_nil (And.intro @List.append_nil.{0} @z_nil_app))) (And.intro (And.intro @z_cons_app (And.intro @Nat.zero_add @Nat.add_zero)) (And.intro (And.intro @z_drop_zero @z_drop_succ) (And.intro @z_take_succ @z_take_zero)))) (And.intro (And.intro (And.intro @decide_true (And.intro @decide_false @Bool.not_true)) (And.intro @Bool.not_false (And.intro @Bool.true_eq_false @beq_self_eq_true.{0}))) (And.intro (And.intro @Bool.true_and (And.intro @Bool.and_true @Bool.false_and)) (And.intro (And.intro @Bool.and_false @Bool.true_or) (And.intro @Bool.false_or @Bool.or_false)))))) (And.intro (And.intro (And.intro (And.intro (And.intro @Bool.or_true (And.intro @beq_t @beq_f)) (And.intro @bcase_not (And.intro @bcase_bne @List.length_map.{0, 0}))) (And.intro (And.intro @z_getD_zero (And.intro @z_getD_8 @z_getD_succ)) (And.intro (And.intro @z_get_zero @z_get_8) (And.intro @z_get_succ @z_set_zero)))) (And.intro (And.intro (And.intro @z_set_8 (And.intro @z_set_succ @dcall.eq_1)) (And.intro @dcallP.eq_1 (And.intro @afterCall_false @afterCall_true))) (And.intro (And.intro @List.mapM_cons.{0, 0, 0} (And.intro @z_mapM_nil @St.snapFn.eq_1)) (And.intro (And.intro @St.snapFn.eq_2 @St.snap.eq_1) (And.intro @St.snap.eq_2 @St.snap.eq_3))))) (And.intro (And.intro (And.intro (And.intro @St.snap.eq_4 (And.intro @St.snap.eq_5 @St.snap.eq_6)) (And.intro @z_any_cons (And.intro @z_any_nil @z_all_cons))) (And.intro (And.intro @z_all_nil (And.intro @scal_int @scal_bool)) (And.intro (And.intro @scal_str @scal_list) (And.intro @scal_func @St.layAll.eq_1)))) (And.intro (And.intro (And.intro @St.layAll.eq_2 (And.intro @St.lay.eq_1 @St.lay.eq_2)) (And.intro @St.lay.eq_3 (And.intro @z_foldl_cons @z_foldl_nil))) (And.intro (And.intro @St.freezeArg.eq_1 (And.intro @St.freezeArg1.eq_1 @St.freezeArg1.eq_2)) (And.intro (And.intro @St.freezeArg1.eq_3 @St.freezeArg1.eq_4) (And.intro @St.freezeArg1.eq_5 @St.freezeArg1.eq_6)))))))))
def memAll := (And.intro (And.intro (And.intro (And.intro @List.isEmpty_nil.{0} (And.intro @val_pvs @frozen_pvs)) (And.intro @msnoc_len (And.intro @msnoc_get @msnoc_set))) (And.intro (And.intro @msnoc_take (And.intro @Int.le_refl @take_map_all)) (And.intro @Nat.le_refl (And.intro @St.freezeRows.eq_1 @BV.frozen.eq_1)))) (And.intro (And.intro (And.intro @BV.frozen.eq_2 (And.intro @List.take_length.{0} @List.take_append_drop.{0})) (And.intro @z_repl_zero (And.intro @Int.toNat_zero @true_and))) (And.intro (And.intro @and_true (And.intro @and_self @eq_self.{1})) (And.intro @z_take_zero (And.intro @List.drop_nil.{0} @List.take_nil.{0})))))
def slsAll := (And.intro (And.intro @Nat.zero_le (And.intro @List.take_zero.{0} @List.take_nil.{0})) (And.intro (And.intro @List.take_succ_cons.{0} @List.length_cons.{0}) (And.intro @List.length_nil.{0} @Nat.le_refl)))
end Go.Proofs.YtncobemfpammfaaDoor

namespace Go.Proofs.YtncobemfpammfaaDoor.V

theorem part_sec (x : Sec) : part (secPV x) 0 (some 8) = some (.agg (secPV x)) := by
  simp only [part, secPV_length, Nat.zero_add, List.drop_zero]
  rw [if_pos (Nat.le_refl _), List.take_of_length_le (by rw [secPV_length]; exact Nat.le_refl _)]
theorem eqCells_u8 : ∀ a b : List UInt8, a.length = b.length → eqCells (a.map fun b => .int .u8 (b.toNat : Int)) (b.map fun b => .int .u8 (b.toNat : Int)) = some (decide (a = b))
  | [], [], _ => rfl
  | x :: a, y :: b, h => by
    simp only [List.length_cons, Nat.add_right_cancel_iff] at h
    simp only [List.map_cons, eqCells, if_pos, eqCells_u8 a b h, Option.map_some, List.cons.injEq]
    congr 1
    have : ((x.toNat : Int) == (y.toNat : Int)) = decide (x = y) := by
      by_cases e : x = y
      · subst e; simp
      · have : ¬ x.toNat = y.toNat := fun h => e (UInt8.toNat_inj.1 h)
        simp [e]; omega
    rw [this, Bool.decide_and]
  | [], _ :: _, h => by simp at h
  | _ :: _, [], h => by simp at h
theorem eqCells_sec (a b : Sec) : eqCells (secPV a) (secPV b) = some (decide (a = b)) := by
  unfold secPV
  rw [eqCells_u8 _ _ (by simp)]
  congr 1
  apply decide_eq_decide.2
  exact ⟨fun h => Vector.toList_inj.1 h, fun h => by rw [h]⟩
end Go.Proofs.YtncobemfpammfaaDoor.V

namespace Go.Proofs.YtncobemfpammfaaDoor.V

def idxI {α : Type} (p : α → Bool) (l : List α) : Int := if l.any p then (l.findIdx p : Int) else -1
theorem idxI_nonneg {α : Type} (p : α → Bool) (l : List α) : decide (idxI p l ≥ 0) = l.any p := by
  unfold idxI
  cases l.any p
  · rfl
  · simp only [if_true]; exact decide_eq_true (by omega)
def eqF {α β : Type} (eq : α → β → Bool) (l : List α) (m : List β) : Bool := decide (l.length = m.length) && (l.zip m).all fun q => eq q.1 q.2
--+
theorem loop75 {α : Type} {enc : α → PV} {l : List α} {p : α → Bool} {gf : Nat} {caps : List PV} (hp : ∀ x ∈ l, cal env gf (enc x :: caps) = some [(.bool (p x), false)]) (hs : ∀ x, part (enc x).cells 0 none = some (enc x)) (hl : l.length ≤ lim)
   {st : St} (h : st.head [0, 1, 7, 8] st.boxes.length = some ⟨[.pv (.list 1 (l.map enc)), .pv (.func gf caps), .any, .any, .any, .any, .any, .pv (.int .i64 l.length), .pv (.int .i64 (0 : Nat)), .any, .any, .any, .any, .any, .any, .any, .any, .any, .any], [], [], none⟩) :
   den env fn75_l1 st = if l.any p then some (.ret, ⟨[.any, .any, .any, .any, .pv (.int .i64 (l.findIdx p)), .any, .any, .any, .any, .any, .any, .any, .any, .any, .any, .any, .any, .any, .any], [], [], none⟩) else some (.normal, ⟨[.any, .any, .any, .any, .any, .any, .any, .any, .any, .any, .any, .any, .any, .any, .any, .any, .any, .any, .any], [], [], none⟩) := by
  unfold fn75_l1
  rw [clean_up l.length (fun i => ⟨[.pv (.list 1 (l.map enc)), .pv (.func gf caps), .any, .any, .any, .any, .any, .pv (.int .i64 l.length), .pv (.int .i64 i), .any, .any, .any, .any, .any, .any, .any, .any, .any, .any], [], [], none⟩)
    (fun i => if (l.drop i).any p then some (.ret, ⟨[.any, .any, .any, .any, .pv (.int .i64 ((i + (l.drop i).findIdx p : Nat) : Int)), .any, .any, .any, .any, .any, .any, .any, .any, .any, .any, .any, .any, .any, .any], [], [], none⟩) else some (.normal, ⟨[.any, .any, .any, .any, .any, .any, .any, .any, .any, .any, .any, .any, .any, .any, .any, .any, .any, .any, .any], [], [], none⟩)) h (fun _ => rfl) (fun _ => rfl) ?_ ?_]
  · simp only [List.drop_zero, Nat.zero_add]
  · intro i rb hi ih
    have hi1 := i64_next hi hl
    have F1 : ((i : Int) < (l.length : Int)) = True := eq_true (by omega)
    simp only [fn75_b0, F1, List.length_map, index_nat hi, List.getElem?_map, List.getElem?_eq_getElem hi, hp _ (List.getElem_mem hi), hs, vAll, reduceCtorEq, Nat.reduceEqDiff, Nat.reduceAdd, Nat.reduceLT, Nat.reduceLeDiff, Nat.beq]
    (try simp only [bcase_bind, bcase_map, tail_bcase]); refine bcase_split (fun hb => ?_) (fun hb => ?_) <;> try simp only [hb,  memAll, vAll, reduceCtorEq, Nat.reduceEqDiff, Nat.reduceAdd, Nat.reduceLT, Nat.reduceLeDiff, Nat.beq]
    · rw [List.drop_eq_getElem_cons hi]
      simp only [List.any_cons, hb, Bool.true_or, if_true, List.findIdx_cons, cond_true, Nat.add_zero]
      rfl
    · rw [ih _ (by simp only [hi1]; rfl), List.drop_eq_getElem_cons hi]
      simp only [List.any_cons, hb, Bool.false_or, List.findIdx_cons, cond_false, Nat.add_assoc, Nat.add_comm 1]
  · intro rb
    simp only [fn75_b0, Int.lt_irrefl, vAll, reduceCtorEq, Nat.reduceEqDiff, Nat.reduceAdd, Nat.reduceLT, Nat.reduceLeDiff, Nat.beq]
    simp only [List.drop_length, List.any_nil, Bool.false_eq_true, if_false]
    rfl
theorem cal75 {α : Type} {enc : α → PV} {l : List α} {p : α → Bool} {gf : Nat} {caps : List PV} (hp : ∀ x ∈ l, cal env gf (enc x :: caps) = some [(.bool (p x), false)]) (hs : ∀ x, part (enc x).cells 0 none = some (enc x)) (hl : l.length ≤ lim) :
    cal env 75 [.list 1 (l.map enc), .func gf caps] = some [(.int .i64 (idxI p l), false)] := by
  rw [cal_code env75 rfl]; simp only [fn75]; simp only [start, z_map_cons, z_map_nil, z_len_cons, z_len_nil, z_repl_zero, z_repl_succ, z_cons_app, z_nil_app, Nat.reduceAdd, Nat.reduceSub]
  simp only [List.length_map, vAll, reduceCtorEq, Nat.reduceEqDiff, Nat.reduceAdd, Nat.reduceLT, Nat.reduceLeDiff, Nat.beq]
  rw [loop75 hp hs hl]
  rotate_left
  · rfl
  · simp only [idxI]
    split <;> simp only [vAll, reduceCtorEq, Nat.reduceEqDiff, Nat.reduceAdd, Nat.reduceLT, Nat.reduceLeDiff, Nat.beq]
--+
theorem cal63 {α : Type} {enc : α → PV} {l : List α} {p : α → Bool} {gf : Nat} {caps : List PV} (hp : ∀ x ∈ l, cal env gf (enc x :: caps) = some [(.bool (p x), false)]) (hs : ∀ x, part (enc x).cells 0 none = some (enc x)) (hl : l.length ≤ lim) :
    cal env 63 [.list 1 (l.map enc), .func gf caps] = some [(.bool (l.any p), false)] := by
  rw [cal_code env63 rfl]; simp only [fn63]; simp only [start, z_map_cons, z_map_nil, z_len_cons, z_len_nil, z_repl_zero, z_repl_succ, z_cons_app, z_nil_app, Nat.reduceAdd, Nat.reduceSub]
  simp only [cal75 hp hs hl, idxI_nonneg, vAll, reduceCtorEq, Nat.reduceEqDiff, Nat.reduceAdd, Nat.reduceLT, Nat.reduceLeDiff, Nat.beq]
--+
theorem loop68 {l m : List Int} (hlm : l.length = m.length) (hl : l.length ≤ lim)
   {st : St} (h : st.head [0, 1, 12, 13] st.boxes.length = some ⟨[.pv (.list 1 (l.map eI)), .pv (.list 1 (m.map eI)), .any, .any, .any, .any, .any, .any, .any, .any, .any, .any, .pv (.int .i64 l.length), .pv (.int .i64 (0 : Nat)), .any, .any, .any, .any, .any, .any, .any, .any, .any, .any, .any, .any], [], [], none⟩) :
   den env fn68_l1 st = if l = m then some (.normal, ⟨[.any, .any, .any, .any, .any, .any, .any, .any, .any, .any, .any, .any, .any, .any, .any, .any, .any, .any, .any, .any, .any, .any, .any, .any, .any, .any], [], [], none⟩) else some (.ret, ⟨[.any, .any, .any, .any, .pv (.bool false), .any, .any, .any, .any, .any, .any, .any, .any, .any, .any, .any, .any, .any, .any, .any, .any, .any, .any, .any, .any, .any], [], [], none⟩) := by
  unfold fn68_l1
  rw [clean_up l.length (fun i => ⟨[.pv (.list 1 (l.map eI)), .pv (.list 1 (m.map eI)), .any, .any, .any, .any, .any, .any, .any, .any, .any, .any, .pv (.int .i64 l.length), .pv (.int .i64 i), .any, .any, .any, .any, .any, .any, .any, .any, .any, .any, .any, .any], [], [], none⟩)
    (fun i => if l.drop i = m.drop i then some (.normal, ⟨[.any, .any, .any, .any, .any, .any, .any, .any, .any, .any, .any, .any, .any, .any, .any, .any, .any, .any, .any, .any, .any, .any, .any, .any, .any, .any], [], [], none⟩) else some (.ret, ⟨[.any, .any, .any, .any, .pv (.bool false), .any, .any, .any, .any, .any, .any, .any, .any, .any, .any, .any, .any, .any, .any, .any, .any, .any, .any, .any, .any, .any], [], [], none⟩)) h (fun _ => rfl) (fun _ => rfl) ?_ ?_]
  · simp only [List.drop_zero]
  · intro i rb hi ih
    have hi1 := i64_next hi hl
    have hj : i < m.length := by omega
    have F1 : ((i : Int) < (l.length : Int)) = True := eq_true (by omega)
    simp only [fn68_b0, F1, List.length_map, index_nat hi, index_nat hj, List.getElem?_map, List.getElem?_eq_getElem hi, List.getElem?_eq_getElem hj, eI, eSec, eExt, part_sec, secPV_length, eqCells_sec, eqCells, vAll, reduceCtorEq, Nat.reduceEqDiff, Nat.reduceAdd, Nat.reduceLT, Nat.reduceLeDiff, Nat.beq]
    (try simp only [bcase_bind, bcase_map, tail_bcase]); refine bcase_split (fun hb => ?_) (fun hb => ?_) <;> try simp only [hb,  memAll, vAll, reduceCtorEq, Nat.reduceEqDiff, Nat.reduceAdd, Nat.reduceLT, Nat.reduceLeDiff, Nat.beq]
    · rw [ih _ (by simp only [hi1]; rfl), List.drop_eq_getElem_cons hi, List.drop_eq_getElem_cons hj]
      have e : l[i] = m[i] := by
        revert hb
        generalize l[i] = x
        generalize m[i] = y
        first | (intro hb; simpa using hb) | (cases x; cases y; intro hb; simpa using hb)
      simp only [e, List.cons.injEq, true_and]
    · rw [List.drop_eq_getElem_cons hi, List.drop_eq_getElem_cons hj, if_neg (fun e => ?_)]
      · rfl
      · have e := (List.cons.inj e).1
        rw [e] at hb
        simp at hb
  · intro rb
    simp only [fn68_b0, Int.lt_irrefl, vAll, reduceCtorEq, Nat.reduceEqDiff, Nat.reduceAdd, Nat.reduceLT, Nat.reduceLeDiff, Nat.beq]
    rw [List.drop_length, hlm, List.drop_length, if_pos rfl]
    rfl
theorem cal68 {l m : List Int} (hl : l.length ≤ lim) :
    cal env 68 [.list 1 (l.map eI), .list 1 (m.map eI)] = some [(.bool (decide (l = m)), false)] := by
  rw [cal_code env68 rfl]; simp only [fn68]; simp only [start, z_map_cons, z_map_nil, z_len_cons, z_len_nil, z_repl_zero, z_repl_succ, z_cons_app, z_nil_app, Nat.reduceAdd, Nat.reduceSub]
  simp only [List.length_map, vAll, reduceCtorEq, Nat.reduceEqDiff, Nat.reduceAdd, Nat.reduceLT, Nat.reduceLeDiff, Nat.beq]
  (try simp only [bcase_bind, bcase_map, tail_bcase]); refine bcase_split (fun hb => ?_) (fun hb => ?_) <;> try simp only [hb,  memAll, vAll, reduceCtorEq, Nat.reduceEqDiff, Nat.reduceAdd, Nat.reduceLT, Nat.reduceLeDiff, Nat.beq]
  · have hlm : l.length = m.length := by simp at hb; omega
    rw [loop68 hlm hl]
    rotate_left
    · rfl
    · by_cases e : l = m
      · simp only [e, vAll, reduceCtorEq, Nat.reduceEqDiff, Nat.reduceAdd, Nat.reduceLT, Nat.reduceLeDiff, Nat.beq]
      · simp only [e, vAll, reduceCtorEq, Nat.reduceEqDiff, Nat.reduceAdd, Nat.reduceLT, Nat.reduceLeDiff, Nat.beq]
  · have : l ≠ m := fun e => by subst e; simp at hb
    simp only [this, vAll, reduceCtorEq, Nat.reduceEqDiff, Nat.reduceAdd, Nat.reduceLT, Nat.reduceLeDiff, Nat.beq]
--+
theorem loop30 {l m : List Exn} (hlm : l.length = m.length) (hl : l.length ≤ lim)
   {st : St} (h : st.head [0, 1, 12, 13] st.boxes.length = some ⟨[.pv (.list 2 (l.map eExt)), .pv (.list 2 (m.map eExt)), .any, .any, .any, .any, .any, .any, .any, .any, .any, .any, .pv (.int .i64 l.length), .pv (.int .i64 (0 : Nat)), .any, .any, .any, .any, .any, .any, .any, .any, .any, .any, .any, .any], [], [], none⟩) :
   den env fn30_l1 st = if l = m then some (.normal, ⟨[.any, .any, .any, .any, .any, .any, .any, .any, .any, .any, .any, .any, .any, .any, .any, .any, .any, .any, .any, .any, .any, .any, .any, .any, .any, .any], [], [], none⟩) else some (.ret, ⟨[.any, .any, .any, .any, .pv (.bool false), .any, .any, .any, .any, .any, .any, .any, .any, .any, .any, .any, .any, .any, .any, .any, .any, .any, .any, .any, .any, .any], [], [], none⟩) := by
  unfold fn30_l1
  rw [clean_up l.length (fun i => ⟨[.pv (.list 2 (l.map eExt)), .pv (.list 2 (m.map eExt)), .any, .any, .any, .any, .any, .any, .any, .any, .any, .any, .pv (.int .i64 l.length), .pv (.int .i64 i), .any, .any, .any, .any, .any, .any, .any, .any, .any, .any, .any, .any], [], [], none⟩)
    (fun i => if l.drop i = m.drop i then some (.normal, ⟨[.any, .any, .any, .any, .any, .any, .any, .any, .any, .any, .any, .any, .any, .any, .any, .any, .any, .any, .any, .any, .any, .any, .any, .any, .any, .any], [], [], none⟩) else some (.ret, ⟨[.any, .any, .any, .any, .pv (.bool false), .any, .any, .any, .any, .any, .any, .any, .any, .any, .any, .any, .any, .any, .any, .any, .any, .any, .any, .any, .any, .any], [], [], none⟩)) h (fun _ => rfl) (fun _ => rfl) ?_ ?_]
  · simp only [List.drop_zero]
  · intro i rb hi ih
    have hi1 := i64_next hi hl
    have hj : i < m.length := by omega
    have F1 : ((i : Int) < (l.length : Int)) = True := eq_true (by omega)
    simp only [fn30_b0, F1, List.length_map, index_nat hi, index_nat hj, List.getElem?_map, List.getElem?_eq_getElem hi, List.getElem?_eq_getElem hj, eI, eSec, eExt, part_sec, secPV_length, eqCells_sec, eqCells, vAll, reduceCtorEq, Nat.reduceEqDiff, Nat.reduceAdd, Nat.reduceLT, Nat.reduceLeDiff, Nat.beq]
    (try simp only [bcase_bind, bcase_map, tail_bcase]); refine bcase_split (fun hb => ?_) (fun hb => ?_) <;> try simp only [hb,  memAll, vAll, reduceCtorEq, Nat.reduceEqDiff, Nat.reduceAdd, Nat.reduceLT, Nat.reduceLeDiff, Nat.beq]
    · rw [ih _ (by simp only [hi1]; rfl), List.drop_eq_getElem_cons hi, List.drop_eq_getElem_cons hj]
      have e : l[i] = m[i] := by
        revert hb
        generalize l[i] = x
        generalize m[i] = y
        first | (intro hb; simpa using hb) | (cases x; cases y; intro hb; simpa using hb)
      simp only [e, List.cons.injEq, true_and]
    · rw [List.drop_eq_getElem_cons hi, List.drop_eq_getElem_cons hj, if_neg (fun e => ?_)]
      · rfl
      · have e := (List.cons.inj e).1
        rw [e] at hb
        simp at hb
  · intro rb
    simp only [fn30_b0, Int.lt_irrefl, vAll, reduceCtorEq, Nat.reduceEqDiff, Nat.reduceAdd, Nat.reduceLT, Nat.reduceLeDiff, Nat.beq]
    rw [List.drop_length, hlm, List.drop_length, if_pos rfl]
    rfl
theorem cal30 {l m : List Exn} (hl : l.length ≤ lim) :
    cal env 30 [.list 2 (l.map eExt), .list 2 (m.map eExt)] = some [(.bool (decide (l = m)), false)] := by
  rw [cal_code env30 rfl]; simp only [fn30]; simp only [start, z_map_cons, z_map_nil, z_len_cons, z_len_nil, z_repl_zero, z_repl_succ, z_cons_app, z_nil_app, Nat.reduceAdd, Nat.reduceSub]
  simp only [List.length_map, vAll, reduceCtorEq, Nat.reduceEqDiff, Nat.reduceAdd, Nat.reduceLT, Nat.reduceLeDiff, Nat.beq]
  (try simp only [bcase_bind, bcase_map, tail_bcase]); refine bcase_split (fun hb => ?_) (fun hb => ?_) <;> try simp only [hb,  memAll, vAll, reduceCtorEq, Nat.reduceEqDiff, Nat.reduceAdd, Nat.reduceLT, Nat.reduceLeDiff, Nat.beq]
  · have hlm : l.length = m.length := by simp at hb; omega
    rw [loop30 hlm hl]
    rotate_left
    · rfl
    · by_cases e : l = m
      · simp only [e, vAll, reduceCtorEq, Nat.reduceEqDiff, Nat.reduceAdd, Nat.reduceLT, Nat.reduceLeDiff, Nat.beq]
      · simp only [e, vAll, reduceCtorEq, Nat.reduceEqDiff, Nat.reduceAdd, Nat.reduceLT, Nat.reduceLeDiff, Nat.beq]
  · have : l ≠ m := fun e => by subst e; simp at hb
    simp only [this, vAll, reduceCtorEq, Nat.reduceEqDiff, Nat.reduceAdd, Nat.reduceLT, Nat.reduceLeDiff, Nat.beq]
--+
theorem loop28 {α β : Type} {enc : α → PV} {enc2 : β → PV} {eq : α → β → Bool} {l : List α} {m : List β} {gf : Nat} {caps : List PV} (hp : ∀ x ∈ l, ∀ y ∈ m, cal env gf (enc x :: enc2 y :: caps) = some [(.bool (eq x y), false)]) (hs : ∀ x, part (enc x).cells 0 none = some (enc x)) (hs2 : ∀ x, part (enc2 x).cells 0 none = some (enc2 x)) (hlm : l.length = m.length) (hl : l.length ≤ lim)
   {st : St} (h : st.head [0, 1, 2, 15, 16, 17] st.boxes.length = some ⟨[.pv (.list 1 (l.map enc)), .pv (.list 1 (m.map enc2)), .pv (.func gf caps), .any, .any, .any, .any, .any, .any, .any, .any, .any, .any, .any, .any, .pv (.list 1 (l.map enc)), .pv (.int .i64 l.length), .pv (.int .i64 (0 : Nat)), .any, .any, .any, .any, .any, .any, .any, .any, .any, .any, .any, .any, .any, .any], [], [], none⟩) :
   den env fn28_l1 st = if (l.zip m).all (fun q => eq q.1 q.2) then some (.normal, ⟨[.any, .any, .any, .any, .any, .any, .any, .any, .any, .any, .any, .any, .any, .any, .any, .any, .any, .any, .any, .any, .any, .any, .any, .any, .any, .any, .any, .any, .any, .any, .any, .any], [], [], none⟩) else some (.ret, ⟨[.any, .any, .any, .any, .any, .any, .pv (.bool false), .any, .any, .any, .any, .any, .any, .any, .any, .any, .any, .any, .any, .any, .any, .any, .any, .any, .any, .any, .any, .any, .any, .any, .any, .any], [], [], none⟩) := by
  unfold fn28_l1
  rw [clean_up l.length (fun i => ⟨[.pv (.list 1 (l.map enc)), .pv (.list 1 (m.map enc2)), .pv (.func gf caps), .any, .any, .any, .any, .any, .any, .any, .any, .any, .any, .any, .any, .pv (.list 1 (l.map enc)), .pv (.int .i64 l.length), .pv (.int .i64 i), .any, .any, .any, .any, .any, .any, .any, .any, .any, .any, .any, .any, .any, .any], [], [], none⟩)
    (fun i => if ((l.drop i).zip (m.drop i)).all (fun q => eq q.1 q.2) then some (.normal, ⟨[.any, .any, .any, .any, .any, .any, .any, .any, .any, .any, .any, .any, .any, .any, .any, .any, .any, .any, .any, .any, .any, .any, .any, .any, .any, .any, .any, .any, .any, .any, .any, .any], [], [], none⟩) else some (.ret, ⟨[.any, .any, .any, .any, .any, .any, .pv (.bool false), .any, .any, .any, .any, .any, .any, .any, .any, .any, .any, .any, .any, .any, .any, .any, .any, .any, .any, .any, .any, .any, .any, .any, .any, .any], [], [], none⟩)) h (fun _ => rfl) (fun _ => rfl) ?_ ?_]
  · simp only [List.drop_zero]
  · intro i rb hi ih
    have hi1 := i64_next hi hl
    have hj : i < m.length := by omega
    have F1 : ((i : Int) < (l.length : Int)) = True := eq_true (by omega)
    simp only [fn28_b0, F1, List.length_map, index_nat hi, index_nat hj, List.getElem?_map, List.getElem?_eq_getElem hi, List.getElem?_eq_getElem hj, hs, hs2, hp _ (List.getElem_mem hi) _ (List.getElem_mem hj), vAll, reduceCtorEq, Nat.reduceEqDiff, Nat.reduceAdd, Nat.reduceLT, Nat.reduceLeDiff, Nat.beq]
    (try simp only [bcase_bind, bcase_map, tail_bcase]); refine bcase_split (fun hb => ?_) (fun hb => ?_) <;> try simp only [hb,  memAll, vAll, reduceCtorEq, Nat.reduceEqDiff, Nat.reduceAdd, Nat.reduceLT, Nat.reduceLeDiff, Nat.beq]
    · rw [ih _ (by simp only [hi1]; rfl), List.drop_eq_getElem_cons hi, List.drop_eq_getElem_cons hj]
      simp only [List.zip_cons_cons, List.all_cons, hb, Bool.true_and]
    · rw [List.drop_eq_getElem_cons hi, List.drop_eq_getElem_cons hj]
      simp only [List.zip_cons_cons, List.all_cons, hb, Bool.false_and, Bool.false_eq_true, if_false]
      rfl
  · intro rb
    simp only [fn28_b0, Int.lt_irrefl, vAll, reduceCtorEq, Nat.reduceEqDiff, Nat.reduceAdd, Nat.reduceLT, Nat.reduceLeDiff, Nat.beq]
    rw [List.drop_length]
    rfl
theorem cal28 {α β : Type} {enc : α → PV} {enc2 : β → PV} {eq : α → β → Bool} {l : List α} {m : List β} {gf : Nat} {caps : List PV} (hp : ∀ x ∈ l, ∀ y ∈ m, cal env gf (enc x :: enc2 y :: caps) = some [(.bool (eq x y), false)]) (hs : ∀ x, part (enc x).cells 0 none = some (enc x)) (hs2 : ∀ x, part (enc2 x).cells 0 none = some (enc2 x)) (hl : l.length ≤ lim) :
    cal env 28 [.list 1 (l.map enc), .list 1 (m.map enc2), .func gf caps] = some [(.bool (eqF eq l m), false)] := by
  rw [cal_code env28 rfl]; simp only [fn28]; simp only [start, z_map_cons, z_map_nil, z_len_cons, z_len_nil, z_repl_zero, z_repl_succ, z_cons_app, z_nil_app, Nat.reduceAdd, Nat.reduceSub]
  simp only [List.length_map, vAll, reduceCtorEq, Nat.reduceEqDiff, Nat.reduceAdd, Nat.reduceLT, Nat.reduceLeDiff, Nat.beq]
  (try simp only [bcase_bind, bcase_map, tail_bcase]); refine bcase_split (fun hb => ?_) (fun hb => ?_) <;> try simp only [hb,  memAll, vAll, reduceCtorEq, Nat.reduceEqDiff, Nat.reduceAdd, Nat.reduceLT, Nat.reduceLeDiff, Nat.beq]
  · have hlm : l.length = m.length := by simp at hb; omega
    rw [loop28 hp hs hs2 hlm hl]
    rotate_left
    · rfl
    · simp only [eqF, decide_eq_true hlm, Bool.true_and]
      cases (l.zip m).all (fun q => eq q.1 q.2) <;> simp only [vAll, reduceCtorEq, Nat.reduceEqDiff, Nat.reduceAdd, Nat.reduceLT, Nat.reduceLeDiff, Nat.beq]
  · have : ¬ l.length = m.length := fun e => by rw [e] at hb; simp at hb
    simp only [eqF, decide_eq_false this, vAll, reduceCtorEq, Nat.reduceEqDiff, Nat.reduceAdd, Nat.reduceLT, Nat.reduceLeDiff, Nat.beq]
--+
theorem cal23 {es : List PV} (hl : es.length ≤ lim) : cal env 23 [.list 8 es] = some [(.list 8 es, true)] := (cal_ext env23).trans (if_pos ⟨rfl, hl⟩)
end Go.Proofs.YtncobemfpammfaaDoor.V

namespace Go.Proofs.YtncobemfpammfaaDoor.V

def sizesErr (l : List Int) : Int := if l.length < 1 ∨ 8 < l.length then 6 else if l.any (fun n => decide (n < 1) || decide (n > 4096)) then 2 else 0
def imSizes (im : Img) : List Int := im.map fun v => (v.length : Int)
def imCheck (im : Img) : Int := sizesErr (imSizes im)
theorem take_map_succ {α β : Type} (f : α → β) {l : List α} {i : Nat} (h : i < l.length) : (l.take i).map f ++ [f l[i]] = (l.take (i + 1)).map f := by
  rw [List.take_succ, List.getElem?_eq_getElem h, List.map_append]; rfl
theorem loop65 {α : Type} {enc : α → PV} {l : List α} {g : α → Int} {gf : Nat} {caps : List PV} (hp : ∀ x ∈ l, cal env gf (enc x :: caps) = some [(eI (g x), false)]) (hs : ∀ x, part (enc x).cells 0 none = some (enc x)) (hs3 : ∀ x, (enc x).cells.length = 1) (hl : l.length ≤ lim)
   {st : St} (h : st.head [0, 1, 5, 10, 11, 12, 13, 22] st.boxes.length = some ⟨[.pv (.list 1 (l.map enc)), .pv (.func gf caps), .any, .any, .any, .row 1 [], .any, .any, .any, .any, .any, .pv (.list 1 (l.map enc)), .pv (.int .i64 l.length), .pv (.int .i64 (0 : Nat)), .any, .any, .any, .any, .any, .any, .any, .any, .any, .any, .any], [], [], none⟩) :
   den env fn65_l1 st = some (.normal, ⟨[.any, .any, .any, .any, .any, .row 1 (l.map fun x => eI (g x)), .any, .any, .any, .any, .any, .any, .any, .any, .any, .any, .any, .any, .any, .any, .any, .any, .any, .any, .any], [], [], none⟩) := by
  unfold fn65_l1
  rw [clean_up l.length (fun i => ⟨[.pv (.list 1 (l.map enc)), .pv (.func gf caps), .any, .any, .any, .row 1 ((l.take i).map fun x => eI (g x)), .any, .any, .any, .any, .any, .pv (.list 1 (l.map enc)), .pv (.int .i64 l.length), .pv (.int .i64 i), .any, .any, .any, .any, .any, .any, .any, .any, .any, .any, .any], [], [], none⟩)
    (fun i => some (.normal, ⟨[.any, .any, .any, .any, .any, .row 1 (l.map fun x => eI (g x)), .any, .any, .any, .any, .any, .any, .any, .any, .any, .any, .any, .any, .any, .any, .any, .any, .any, .any, .any], [], [], none⟩)) h (fun _ => rfl) (fun _ => rfl) ?_ ?_]
  · intro i rb hi ih
    have hi1 := i64_next hi hl
    have F1 : ((i : Int) < (l.length : Int)) = True := eq_true (by omega)
    have F2 : ((l.take i).length + 1 ≤ lim) = True := eq_true (by rw [List.length_take]; omega)
    have hpi : cal env gf (enc l[i] :: caps) = some [((PV.int .i64 (g l[i])), false)] := hp _ (List.getElem_mem hi)
    try simp only [eExt] at hpi
    simp only [fn65_b0, F1, F2, index_nat hi, List.getElem?_map, List.getElem?_eq_getElem hi,  hpi, hs, hs3, memAll, vAll, reduceCtorEq, Nat.reduceEqDiff, Nat.reduceAdd, Nat.reduceLT, Nat.reduceLeDiff, Nat.beq]
    rw [ih _ (by simp only [hi1]; rw [← take_map_succ _ hi]; rfl)]
  · intro rb
    simp only [fn65_b0, Int.lt_irrefl, vAll, reduceCtorEq, Nat.reduceEqDiff, Nat.reduceAdd, Nat.reduceLT, Nat.reduceLeDiff, Nat.beq]
    rw [List.take_length]
    rfl
theorem cal65 {α : Type} {enc : α → PV} {l : List α} {g : α → Int} {gf : Nat} {caps : List PV} (hp : ∀ x ∈ l, cal env gf (enc x :: caps) = some [(eI (g x), false)]) (hs : ∀ x, part (enc x).cells 0 none = some (enc x)) (hs3 : ∀ x, (enc x).cells.length = 1) (hl : l.length ≤ lim) :
    cal env 65 [.list 1 (l.map enc), .func gf caps] = some [(.list 1 (l.map fun x => eI (g x)), true)] := by
  rw [cal_code env65 rfl]; simp only [fn65]; simp only [start, z_map_cons, z_map_nil, z_len_cons, z_len_nil, z_repl_zero, z_repl_succ, z_cons_app, z_nil_app, Nat.reduceAdd, Nat.reduceSub]
  have F1 : ((l.length : Int) ≤ (lim : Int)) = True := eq_true (by omega)
  have F2 : ((0 : Int) ≤ (l.length : Int)) = True := eq_true (by omega)
  simp only [F1, F2, Int.le_refl, memAll, vAll, reduceCtorEq, Nat.reduceEqDiff, Nat.reduceAdd, Nat.reduceLT, Nat.reduceLeDiff, Nat.beq]
  rw [loop65 hp hs hs3 hl]
  rotate_left
  · rfl
  · simp only [memAll, vAll, reduceCtorEq, Nat.reduceEqDiff, Nat.reduceAdd, Nat.reduceLT, Nat.reduceLeDiff, Nat.beq]
theorem cal64 {x : Int} : cal env 64 [eI x] = some [(.bool (decide (x < 1) || decide (x > 4096)), false)] := by
  unfold eI
  rw [cal_code env64 rfl]; simp only [fn64]; simp only [start, z_map_cons, z_map_nil, z_len_cons, z_len_nil, z_repl_zero, z_repl_succ, z_cons_app, z_nil_app, Nat.reduceAdd, Nat.reduceSub]
  simp only [ memAll, vAll, reduceCtorEq, Nat.reduceEqDiff, Nat.reduceAdd, Nat.reduceLT, Nat.reduceLeDiff, Nat.beq]
  (try simp only [bcase_bind, bcase_map, tail_bcase]); refine bcase_split (fun hb => ?_) (fun hb => ?_) <;> try simp only [hb,  memAll, vAll, reduceCtorEq, Nat.reduceEqDiff, Nat.reduceAdd, Nat.reduceLT, Nat.reduceLeDiff, Nat.beq]
theorem cal41 {l : List Int} (hl : l.length ≤ lim) : cal env 41 [.list 1 (l.map eI)] = some [(.int .i64 (sizesErr l), false)] := by
  have e1 := cal63 (l := l) (enc := eI) (fun x _ => cal64 (x := x)) (fun x => rfl) hl
  rw [cal_code env41 rfl]; simp only [fn41]; simp only [start, z_map_cons, z_map_nil, z_len_cons, z_len_nil, z_repl_zero, z_repl_succ, z_cons_app, z_nil_app, Nat.reduceAdd, Nat.reduceSub]
  simp only [e1, memAll, vAll, reduceCtorEq, Nat.reduceEqDiff, Nat.reduceAdd, Nat.reduceLT, Nat.reduceLeDiff, Nat.beq]
  repeat' ((try simp only [bcase_bind, bcase_map, tail_bcase]); refine bcase_split (fun hb => ?_) (fun hb => ?_) <;> try simp only [hb, e1, memAll, vAll, reduceCtorEq, Nat.reduceEqDiff, Nat.reduceAdd, Nat.reduceLT, Nat.reduceLeDiff, Nat.beq])
  all_goals grind [sizesErr]
theorem cal66 {v : List Sec} : cal env 66 [eSecs v] = some [(eI v.length, false)] := by
  unfold eSecs eI
  rw [cal_code env66 rfl]; simp only [fn66]; simp only [start, z_map_cons, z_map_nil, z_len_cons, z_len_nil, z_repl_zero, z_repl_succ, z_cons_app, z_nil_app, Nat.reduceAdd, Nat.reduceSub]
  simp only [ memAll, vAll, reduceCtorEq, Nat.reduceEqDiff, Nat.reduceAdd, Nat.reduceLT, Nat.reduceLeDiff, Nat.beq]
theorem cal42 {im : Img} (hl : im.length ≤ lim) : cal env 42 [.list 1 (im.map eSecs)] = some [(.list 1 ((imSizes im).map eI), true)] := by
  have e1 := cal65 (enc := eSecs) (l := im) (fun x _ => cal66 (v := x)) (fun x => rfl) (fun x => rfl) hl
  rw [cal_code env42 rfl]; simp only [fn42]; simp only [start, z_map_cons, z_map_nil, z_len_cons, z_len_nil, z_repl_zero, z_repl_succ, z_cons_app, z_nil_app, Nat.reduceAdd, Nat.reduceSub]
  simp only [e1, memAll, vAll, reduceCtorEq, Nat.reduceEqDiff, Nat.reduceAdd, Nat.reduceLT, Nat.reduceLeDiff, Nat.beq]
  simp [imSizes]
theorem cal20 {im : Img} (hl : im.length ≤ lim) : cal env 20 [.list 1 (im.map eSecs)] = some [(.int .i64 (imCheck im), false)] := by
  have h2 : (imSizes im).length ≤ lim := by simpa [imSizes] using hl
  have e1 := cal42 hl
  have e2 := cal41 h2
  rw [cal_code env20 rfl]; simp only [fn20]; simp only [start, z_map_cons, z_map_nil, z_len_cons, z_len_nil, z_repl_zero, z_repl_succ, z_cons_app, z_nil_app, Nat.reduceAdd, Nat.reduceSub]
  simp only [e1, e2, memAll, vAll, reduceCtorEq, Nat.reduceEqDiff, Nat.reduceAdd, Nat.reduceLT, Nat.reduceLeDiff, Nat.beq]
  rfl
theorem eqF_eq {α : Type} [DecidableEq α] : ∀ (l m : List α), eqF (fun x y => decide (x = y)) l m = decide (l = m)
  | [], [] => by simp [eqF]
  | [], _ :: _ => by simp [eqF]
  | _ :: _, [] => by simp [eqF]
  | x :: l, y :: m => by
    have := eqF_eq l m
    simp only [eqF, List.length_cons, List.zip_cons_cons, List.all_cons, List.cons.injEq, Bool.decide_and] at *
    rw [← this]
    by_cases h : l.length = m.length <;> simp [h]
end Go.Proofs.YtncobemfpammfaaDoor.V

namespace Go.Proofs.YtncobemfpammfaaDoor.V

end Go.Proofs.YtncobemfpammfaaDoor.V

namespace Go.Proofs.YtncobemfpammfaaDoor

noncomputable def iter (env : Env) (f : Nat) (caps : List PV) (stop : Option Nat) : Option (List (List PV)) := iterRes (den env) env f caps stop
def ystart (n : Nat) (caps : List PV) (stop : Option Nat) : St := ⟨.yld :: (caps.map .pv ++ List.replicate (n - (caps.length + 1)) .any), [], [], some stop⟩
def yfin : Ex × St → Option (List (List PV))
  | (.exit _, _) => none
  | (_, st) => some st.ys
section
variable {env : Env}
theorem yfin_normal (st : St) : yfin (.normal, st) = some st.ys := (rfl)
theorem yfin_ret (st : St) : yfin (.ret, st) = some st.ys := (rfl)
theorem iter_code {f : Nat} {fn : VFn} {caps : List PV} {stop : Option Nat} (h : env f = some (.code fn)) (hl : caps.length + 1 = fn.nargs) (hr : fn.results.isEmpty = true) : iter env f caps stop = (den env fn.body (ystart fn.ntmps caps stop)).bind yfin := by
  unfold iter iterRes
  rw [h]
  simp only [if_pos (And.intro hl hr)]
  show (den env fn.body _).bind _ = _
  congr 1
  funext ⟨e, st⟩
  cases e <;> rfl

noncomputable def round1 (env : Env) (slots : List AV) (ps : List Nat) (assign body : VCode) (nb : Nat) (x : List PV) (st : St) : Option (Ex × St) :=
  (setParams slots ps x).bind fun sl => (den env assign { st with slots := sl }).bind fun p => match p with
    | (.normal, st) => (den env body st).bind fun p => match p with
      | (.normal, st) => if nb ≤ st.boxes.length then some (.normal, { st with boxes := st.boxes.take nb }) else none
      | p => some p
    | _ => none
theorem rounds_cons {slots : List AV} {ps : List Nat} {assign body : VCode} {nb k : Nat} {x : List PV} {xs : List (List PV)} {st : St} :
    rounds (den env) slots ps assign body nb k (x :: xs) st = (round1 env slots ps assign body nb x st).bind fun p => match p with
      | (.normal, st) => rounds (den env) slots ps assign body nb (k + 1) xs st
      | (e, st) => some (some (e, k + 1), st) := by
  conv => lhs; unfold rounds
  unfold round1
  show (setParams slots ps x).bind _ = _
  cases setParams slots ps x with
  | none => rfl
  | some sl =>
    simp only [Option.bind_some]
    show (den env assign _).bind _ = _
    cases den env assign { st with slots := sl } with
    | none => rfl
    | some p =>
      obtain ⟨e, s⟩ := p
      simp only [Option.bind_some]
      cases e with
      | normal =>
        simp only
        show (den env body _).bind _ = _
        cases den env body s with
        | none => rfl
        | some p =>
          obtain ⟨e, s⟩ := p
          simp only [Option.bind_some]
          cases e with
          | normal =>
            simp only
            split <;> rfl
          | exit i => rfl
          | ret => rfl
      | exit i => rfl
      | ret => rfl
theorem rng_all {g : Opd} {ps : List Nat} {assign body : VCode} {st st1 : St} {f : Nat} {caps : List PV} {xs : List (List PV)} (hg : st.pvOf g = some (.func f caps)) (hi : iter env f caps none = some xs)
    (hr : rounds (den env) (st.slots.map AV.froze) ps assign body st.boxes.length 0 xs { st with slots := st.slots.map AV.froze } = some (none, st1)) : den env (.rng g ps assign body) st = some (.normal, { st1 with slots := st.slots.map AV.froze }) := by
  rw [den_eq]
  show ranged (den env) env g ps assign body st = _
  unfold ranged
  rw [hg]
  unfold iter at hi
  simp only [z_bind_eq, Option.bind_some, hi, hr]
theorem rng_idx (B : Nat → List Box) {g : Opd} {ps : List Nat} {assign body : VCode} {st : St} {f : Nat} {caps : List PV} {xs : List (List PV)} (hg : st.pvOf g = some (.func f caps)) (hi : iter env f caps none = some xs) (hB : st.boxes = B 0)
    (h : ∀ j x, xs[j]? = some x → ∀ sl0, ∃ sl1, round1 env (st.slots.map AV.froze) ps assign body st.boxes.length x ⟨sl0, B j, st.ys, st.stop⟩ = some (.normal, ⟨sl1, B (j + 1), st.ys, st.stop⟩)) :
    den env (.rng g ps assign body) st = some (.normal, ⟨st.slots.map AV.froze, B xs.length, st.ys, st.stop⟩) := by
  have key : ∀ (l : List (List PV)) (j : Nat), xs.drop j = l → ∀ (k : Nat) (sl0 : List AV), ∃ sl1, rounds (den env) (st.slots.map AV.froze) ps assign body st.boxes.length k l ⟨sl0, B j, st.ys, st.stop⟩ = some (none, ⟨sl1, B (j + l.length), st.ys, st.stop⟩) := by
    intro l
    induction l with
    | nil => intro j _ k sl0; exact ⟨sl0, rfl⟩
    | cons x l ih =>
      intro j hj k sl0
      have hx : xs[j]? = some x := by rw [← List.head?_drop, hj]; rfl
      have hd : xs.drop (j + 1) = l := by rw [← List.drop_drop, hj]; rfl
      obtain ⟨sl1, q⟩ := h j x hx sl0
      obtain ⟨sl2, q2⟩ := ih (j + 1) hd (k + 1) sl1
      refine ⟨sl2, ?_⟩
      rw [rounds_cons, q]
      simp only [Option.bind_some, q2, List.length_cons]
      rw [show j + 1 + l.length = j + (l.length + 1) by omega]
  obtain ⟨sl1, q⟩ := key xs 0 (by simp) 0 (st.slots.map AV.froze)
  rw [← hB, Nat.zero_add] at q
  have r := rng_all hg hi q
  exact r
theorem clean_upP {keep post : List Nat} {id nb : Nat} {b : VCode} (n : Nat) (P : Nat → Prop) (S : Nat → St) (R : Nat → Option (Ex × St)) {st : St} (h : st.head keep st.boxes.length = some (S 0)) (hP : P 0) (hS : ∀ i, (S i).boxes.length = nb) (hh : ∀ i, (S i).head keep nb = some (S i))
    (step : ∀ i rb, i < n → P i → (P (i + 1) → ∀ s, s.head keep nb = some (S (i + 1)) → tailOf env id post nb (den env rb s) = R (i + 1)) → tailOf env id post nb ((den env b (S i)).bind (next env rb)) = R i)
    (last : ∀ rb, P n → tailOf env id post nb ((den env b (S n)).bind (next env rb)) = R n) :
    den env (.clean keep post (.block id (.loop keep b))) st = R 0 := by
  refine clean_rec S R (fun i => i ≤ n ∧ P i) (fun i => n - i) 0 h ⟨Nat.zero_le _, hP⟩ hS hh fun i rb hi ih => ?_
  by_cases hn : i = n
  · subst hn; exact last rb hi.2
  · exact step i rb (by omega) hi.2 fun hp s hs => ih (i + 1) (by omega) ⟨by omega, hp⟩ s hs
noncomputable def rassign (env : Env) (body : VCode) (nb : Nat) : Ex × St → Option (Ex × St)
  | (.normal, st) => (den env body st).bind fun p => match p with
    | (.normal, st) => if nb ≤ st.boxes.length then some (.normal, { st with boxes := st.boxes.take nb }) else none
    | p => some p
  | _ => none
def rend (nb : Nat) : Ex × St → Option (Ex × St)
  | (.normal, st) => if nb ≤ st.boxes.length then some (.normal, { st with boxes := st.boxes.take nb }) else none
  | p => some p
theorem round1_eq (slots : List AV) (ps : List Nat) (assign body : VCode) (nb : Nat) (x : List PV) (st : St) : round1 env slots ps assign body nb x st = (setParams slots ps x).bind fun sl => (den env assign { st with slots := sl }).bind (rassign env body nb) := by
  unfold round1
  rfl
theorem rassign_normal (body : VCode) (nb : Nat) (st : St) : rassign env body nb (.normal, st) = (den env body st).bind (rend nb) := by
  rfl
theorem rend_normal (nb : Nat) (st : St) : rend nb (.normal, st) = if nb ≤ st.boxes.length then some (.normal, { st with boxes := st.boxes.take nb }) else none := (rfl)
theorem rend_exit (nb i : Nat) (st : St) : rend nb (.exit i, st) = some (.exit i, st) := (rfl)
theorem rend_ret (nb : Nat) (st : St) : rend nb (.ret, st) = some (.ret, st) := (rfl)
theorem setP_nil (slots : List AV) : setParams slots [] [] = some slots := (rfl)
theorem setP_cons (slots : List AV) (p : Nat) (ps : List Nat) (v : PV) (vs : List PV) : setParams slots (p :: ps) (v :: vs) = setParams (slots.set p (.pv v)) ps vs := (rfl)
theorem froze_pv (v : PV) : AV.froze (.pv v) = .pv v := (rfl)
theorem froze_row (sz : Nat) (es : List PV) : AV.froze (.row sz es) = .pv (.list sz es) := (rfl)
theorem froze_any : AV.froze .any = .any := (rfl)
theorem froze_tup (k : Bool) (l : List AV) : AV.froze (.tup k l) = .any := (rfl)
theorem froze_ref (r : Root) (i j : Nat) : AV.froze (.ref r i j) = .any := (rfl)
theorem froze_pel (r : Root) (i j : Nat) : AV.froze (.pel r i j) = .any := (rfl)
theorem froze_pbox (i j : Nat) : AV.froze (.pbox i j) = .pbox i j := (rfl)
theorem froze_fn (f : Nat) (l : List AV) : AV.froze (.fn f l) = .fn f l := (rfl)
theorem froze_yld : AV.froze .yld = .yld := (rfl)
end
def vRng := And.intro @round1_eq (And.intro @rassign_normal (And.intro @rend_normal (And.intro @rend_exit (And.intro @rend_ret (And.intro @setP_nil (And.intro @setP_cons (And.intro @froze_pv (And.intro @froze_row (And.intro @froze_any (And.intro @froze_tup (And.intro @froze_ref (And.intro @froze_pel (And.intro @froze_pbox (And.intro @froze_fn (And.intro @froze_yld (And.intro @yfin_normal @yfin_ret))))))))))))))))
end Go.Proofs.YtncobemfpammfaaDoor

namespace Go.Proofs.YtncobemfpammfaaDoor.V

def dif (a b : List Sec) (i : Nat) : Bool := decide (a[i]? ≠ b[i]?)
def difN (a b : List Sec) (n : Nat) : List Nat := (List.range n).filter (dif a b)
def difs (a b : List Sec) : List Nat := difN a b a.length
def addAt (out : List Exn) (i : Nat) : List Exn := match out.getLast? with
  | some x => if x.start + x.count = (i : Int) then out.dropLast ++ [⟨x.start, x.count + 1⟩] else out ++ [⟨i, 1⟩]
  | none => [⟨i, 1⟩]
def exts (l : List Nat) : List Exn := l.foldl addAt []
def volDiff (a b : List Sec) : List Exn := exts (difs a b)
theorem difN_succ (a b : List Sec) (n : Nat) : difN a b (n + 1) = if dif a b n then difN a b n ++ [n] else difN a b n := by
  simp only [difN, List.range_succ, List.filter_append, List.filter_cons, List.filter_nil]
  cases dif a b n <;> simp
theorem addAt_snoc (pre : List Exn) (x : Exn) (i : Nat) : addAt (pre ++ [x]) i = if x.start + x.count = (i : Int) then pre ++ [⟨x.start, x.count + 1⟩] else pre ++ [x] ++ [⟨i, 1⟩] := by
  simp [addAt]
theorem exts_snoc (l : List Nat) (i : Nat) : exts (l ++ [i]) = addAt (exts l) i := by simp [exts]
theorem snoc_cases {α : Type} (l : List α) : l = [] ∨ ∃ p x, l = p ++ [x] := by
  rcases List.eq_nil_or_concat l with h | ⟨p, x, h⟩
  · exact .inl h
  · exact .inr ⟨p, x, by rw [h]; simp⟩
theorem exts_last : ∀ (n : Nat) (l : List Nat), l.length = n → ∀ i : Nat, ∃ pre x, exts (l ++ [i]) = pre ++ [x] ∧ x.start + x.count = (i : Int) + 1 ∧ 0 ≤ x.start ∧ 1 ≤ x.count ∧ pre.length ≤ l.length := by
  intro n
  induction n with
  | zero =>
    intro l hl i
    have := List.eq_nil_of_length_eq_zero hl
    subst this
    exact ⟨[], ⟨i, 1⟩, rfl, rfl, by simp, by simp, by simp⟩
  | succ n ih =>
    intro l hl i
    rcases snoc_cases l with rfl | ⟨p, j, rfl⟩
    · simp at hl
    · obtain ⟨pre, x, e, h1, h2, h3, h4⟩ := ih p (by simpa using hl) j
      rw [exts_snoc, e, addAt_snoc]
      split
      · rename_i hx
        exact ⟨pre, _, rfl, by simp; omega, h2, by simp; omega, by simp; omega⟩
      · exact ⟨pre ++ [x], _, rfl, by simp, by simp, by simp, by simp; omega⟩
theorem difN_lt {a b : List Sec} {n i : Nat} (h : i ∈ difN a b n) : i < n := by
  simp [difN] at h; exact h.1
theorem wrap_pred {n : Nat} (h : n ≤ lim) : IntKind.i64.wrap (((n + 1 : Nat) : Int) - 1) = (n : Int) := by
  rw [i64_fits (by unfold lim at h; omega)]; omega
theorem cal69 {a b : List Sec} : cal env 69 [.list 8 (a.map eSec), .list 8 (b.map eSec)] = some [(.func 76 [.iptr [.list 8 (a.map eSec)] 0, .iptr [.list 8 (b.map eSec)] 0], false)] := by
  rw [cal_code env69 rfl]; simp only [fn69]; simp only [start, z_map_cons, z_map_nil, z_len_cons, z_len_nil, z_repl_zero, z_repl_succ, z_cons_app, z_nil_app, Nat.reduceAdd, Nat.reduceSub]
  simp only [ memAll, vAll, reduceCtorEq, Nat.reduceEqDiff, Nat.reduceAdd, Nat.reduceLT, Nat.reduceLeDiff, Nat.beq]
def yI (l : List Nat) : List (List PV) := l.map fun (i : Nat) => [PV.int .i64 (i : Int)]
theorem yI_snoc (l : List Nat) (i : Nat) : yI (l ++ [i]) = yI l ++ [[.int .i64 (i : Int)]] := by simp [yI]
theorem iter76 {a b : List Sec} (hl : a.length ≤ lim) (hab : a.length = b.length) : iter env 76 [.iptr [.list 8 (a.map eSec)] 0, .iptr [.list 8 (b.map eSec)] 0] none = some (yI (difs a b)) := by
  have loop : ∀ {st : St} (h : st.head [0, 1, 2, 6, 7] st.boxes.length = some ⟨[.yld, .pv (.iptr [.list 8 (a.map eSec)] 0), .pv (.iptr [.list 8 (b.map eSec)] 0), .any, .any, .any, .pv (.int .i64 a.length), .pv (.int .i64 (0 : Nat)), .any, .any, .any, .any, .any, .any, .any, .any, .any, .any, .any, .any, .any, .any, .any, .any, .any, .any], [], yI (difN a b 0), some none⟩),
     den env fn76_l1 st = some (.normal, ⟨[.any, .any, .any, .any, .any, .any, .any, .any, .any, .any, .any, .any, .any, .any, .any, .any, .any, .any, .any, .any, .any, .any, .any, .any, .any, .any], [], yI (difN a b a.length), some none⟩) := by
    intro st h
    unfold fn76_l1
    refine clean_up (env := env) a.length (fun i => ⟨[.yld, .pv (.iptr [.list 8 (a.map eSec)] 0), .pv (.iptr [.list 8 (b.map eSec)] 0), .any, .any, .any, .pv (.int .i64 a.length), .pv (.int .i64 i), .any, .any, .any, .any, .any, .any, .any, .any, .any, .any, .any, .any, .any, .any, .any, .any, .any, .any], [], yI (difN a b i), some none⟩) (fun _ => some (.normal, ⟨[.any, .any, .any, .any, .any, .any, .any, .any, .any, .any, .any, .any, .any, .any, .any, .any, .any, .any, .any, .any, .any, .any, .any, .any, .any, .any], [], yI (difN a b a.length), some none⟩)) h (fun _ => rfl) (fun _ => rfl) ?_ ?_
    · intro i rb hi ih
      have hi1 := i64_next hi hl
      have hj : i < b.length := by omega
      have F1 : ((i : Int) < (a.length : Int)) = True := eq_true (by omega)
      by_cases hd : a[i] = b[i]
      · simp only [fn76_b0, F1, eSec, index_nat hi, index_nat hj, List.getElem?_map, List.getElem?_eq_getElem hi, List.getElem?_eq_getElem hj, part_sec, secPV_length, eqCells_sec, hd, decide_true, memAll, vAll, reduceCtorEq, Nat.reduceEqDiff, Nat.reduceAdd, Nat.reduceLT, Nat.reduceLeDiff, Nat.beq]
        rw [ih _ (by simp only [hi1]; rw [difN_succ, if_neg (by simp [dif, List.getElem?_eq_getElem hi, List.getElem?_eq_getElem hj, hd])]; rfl)]
      · have hdd : dif a b i = true := by simp [dif, List.getElem?_eq_getElem hi, List.getElem?_eq_getElem hj, hd]
        have hdf := decide_eq_false hd
        simp only [fn76_b0, F1, eSec, index_nat hi, index_nat hj, List.getElem?_map, List.getElem?_eq_getElem hi, List.getElem?_eq_getElem hj, part_sec, secPV_length, eqCells_sec, hdf, memAll, vAll, reduceCtorEq, Nat.reduceEqDiff, Nat.reduceAdd, Nat.reduceLT, Nat.reduceLeDiff, Nat.beq]
        rw [ih _ (by simp only [hi1]; rw [difN_succ, if_pos hdd, yI_snoc]; rfl)]
    · intro rb
      simp only [fn76_b0, Int.lt_irrefl, memAll, vAll, reduceCtorEq, Nat.reduceEqDiff, Nat.reduceAdd, Nat.reduceLT, Nat.reduceLeDiff, Nat.beq]
      rfl
  rw [iter_code env76 rfl rfl]
  simp only [fn76, ystart, z_map_cons, z_map_nil, z_len_cons, z_len_nil, z_repl_zero, z_repl_succ, z_cons_app, z_nil_app, Nat.reduceAdd, Nat.reduceSub]
  simp only [ memAll, vAll, reduceCtorEq, Nat.reduceEqDiff, Nat.reduceAdd, Nat.reduceLT, Nat.reduceLeDiff, Nat.beq]
  rw [loop]
  rotate_left
  · rfl
  · rfl
def endOf (l : List Nat) : Int := match l.getLast? with
  | some i => i + 1
  | none => -1
theorem endOf_snoc (l : List Nat) (i : Nat) : endOf (l ++ [i]) = (i : Int) + 1 := by simp [endOf]
theorem sorted_take {a b : List Sec} {j : Nat} {i : Nat} (h : (difs a b)[j]? = some i) : i < a.length ∧ j ≤ i ∧ ∀ k ∈ (difs a b).take j, k < i := by
  have hs : (difs a b).Pairwise (· < ·) := (List.pairwise_lt_range (n := a.length)).filter _
  obtain ⟨hj, rfl⟩ := List.getElem?_eq_some_iff.1 h
  refine ⟨difN_lt (List.getElem_mem hj), ?_, ?_⟩
  · have : ∀ (l : List Nat), l.Pairwise (· < ·) → ∀ (j : Nat) (hj : j < l.length), j ≤ l[j] := by
      intro l
      induction l with
      | nil => intro _ j hj; simp at hj
      | cons x l ih =>
        intro hp j hj
        cases j with
        | zero => simp
        | succ j =>
          have h1 := ih (List.pairwise_cons.1 hp).2
          simp only [List.length_cons, Nat.add_lt_add_iff_right] at hj
          simp only [List.getElem_cons_succ]
          cases j with
          | zero => have := (List.pairwise_cons.1 hp).1 l[0] (List.getElem_mem hj); omega
          | succ j =>
            have h2 := h1 (j + 1) hj
            have h3 : ∀ (m : Nat) (hm : m < l.length), x + m + 1 ≤ l[m] := by
              intro m
              induction m with
              | zero => intro hm; have := (List.pairwise_cons.1 hp).1 l[0] (List.getElem_mem hm); omega
              | succ m ihm =>
                intro hm
                have := ihm (by omega)
                have h4 := List.pairwise_iff_getElem.1 (List.pairwise_cons.1 hp).2 m (m + 1) (by omega) hm (by omega)
                omega
            have := h3 (j + 1) hj
            omega
    exact this _ hs j hj
  · intro k hk
    obtain ⟨m, hm, rfl⟩ := List.mem_iff_getElem.1 hk
    rw [List.getElem_take]
    simp only [List.length_take] at hm
    exact List.pairwise_iff_getElem.1 hs m j (by omega) hj (by omega)
theorem cal49 {a b : List Sec} (hl : a.length ≤ lim) (hab : a.length = b.length) : cal env 49 [.list 8 (a.map eSec), .list 8 (b.map eSec)] = some [(.list 2 ((volDiff a b).map eExt), true)] := by
  have e1 := cal69 (a := a) (b := b)
  rw [cal_code env49 rfl]; simp only [fn49]; simp only [start, z_map_cons, z_map_nil, z_len_cons, z_len_nil, z_repl_zero, z_repl_succ, z_cons_app, z_nil_app, Nat.reduceAdd, Nat.reduceSub]
  simp only [e1, memAll, vAll, reduceCtorEq, Nat.reduceEqDiff, Nat.reduceAdd, Nat.reduceLT, Nat.reduceLeDiff, Nat.beq]
  rw [rng_idx (env := env) (fun j => [⟨false, [.row 2 ((exts ((difs a b).take j)).map eExt)]⟩, ⟨false, [.pv (.int .i64 (endOf ((difs a b).take j)))]⟩]) (xs := yI (difs a b)) rfl (iter76 hl hab) rfl ?_]
  · simp only [yI, List.length_map, List.take_length, vRng, memAll, vAll, reduceCtorEq, Nat.reduceEqDiff, Nat.reduceAdd, Nat.reduceLT, Nat.reduceLeDiff, Nat.beq]
    rfl
  · intro j x hx sl0
    simp only [yI, List.getElem?_map, Option.map_eq_some_iff] at hx
    obtain ⟨i, hi, rfl⟩ := hx
    obtain ⟨k1, k2, k3⟩ := sorted_take hi
    have hlim : lim = 1073741824 := rfl
    have hj := (List.getElem?_eq_some_iff.1 hi).1
    have ht : (difs a b).take (j + 1) = (difs a b).take j ++ [i] := by rw [List.take_add_one, hi]; rfl
    have hlen : ((difs a b).take j).length = j := by simp; omega
    rw [ht]
    rcases snoc_cases ((difs a b).take j) with h0 | ⟨p, q, h0⟩
    · have F2 : ((i : Int) == -1) = false := by simp
      have F3 : (0 + 1 ≤ lim) = True := eq_true (by omega)
      have F4 : IntKind.i64.wrap ((i : Int) + 1) = (i : Int) + 1 := i64_fits (by omega)
      have e0 : exts ([] : List Nat) = [] := rfl
      have e1 : endOf ([] : List Nat) = -1 := rfl
      have e2 : exts [i] = [⟨i, 1⟩] := rfl
      have e3 : endOf [i] = (i : Int) + 1 := rfl
      refine ⟨?_, ?_⟩
      rotate_left
      · simp only [h0, fn49_b0, fn49_b1, F2, F3, F4, e0, e1, e2, e3, eExt, List.map_nil, vRng, memAll, vAll, reduceCtorEq, Nat.reduceEqDiff, Nat.reduceAdd, Nat.reduceLT, Nat.reduceLeDiff, Nat.beq]
        rfl
    · obtain ⟨pre, ⟨s, c⟩, e0, h1, h2, h3, h4⟩ := exts_last _ p rfl q
      have hqi : q < i := k3 q (by rw [h0]; simp)
      simp only at h1 h2 h3
      have hpl : p.length + 1 = j := by rw [h0] at hlen; simpa using hlen
      have F3 := wrap_pred (n := pre.length) (by omega)
      have F4 : IntKind.i64.wrap ((i : Int) + 1) = (i : Int) + 1 := i64_fits (by omega)
      have F5 : IntKind.i64.wrap (c + 1) = c + 1 := i64_fits (by omega)
      have F6 : (pre.length + 1 + 1 ≤ lim) = True := eq_true (by omega)
      have F7 : index (.int .i64 (pre.length : Int)) (pre.length + 1) = some pre.length := index_nat (by omega)
      by_cases hc : (i : Int) = (q : Int) + 1
      · have F8 : ((i : Int) == (q : Int) + 1) = true := by simpa using hc
        have e2 : exts (p ++ [q] ++ [i]) = pre ++ [⟨s, c + 1⟩] := by rw [exts_snoc, e0, addAt_snoc, if_pos (by simp only; omega)]
        refine ⟨?_, ?_⟩
        rotate_left
        · simp only [h0, fn49_b0, fn49_b1, endOf_snoc, e0, e2, F3, F4, F5, F6, F7, F8, eExt, List.map_append, List.map_cons, List.map_nil, vRng, memAll, vAll, reduceCtorEq, Nat.reduceEqDiff, Nat.reduceAdd, Nat.reduceLT, Nat.reduceLeDiff, Nat.beq]
          rfl
      · have F8 : ((i : Int) == (q : Int) + 1) = false := by simpa using hc
        have e2 : exts (p ++ [q] ++ [i]) = pre ++ [⟨s, c⟩] ++ [⟨i, 1⟩] := by rw [exts_snoc, e0, addAt_snoc, if_neg (by simp only; omega)]
        refine ⟨?_, ?_⟩
        rotate_left
        · simp only [h0, fn49_b0, fn49_b1, endOf_snoc, e0, e2, F3, F4, F5, F6, F7, F8, eExt, List.map_append, List.map_cons, List.map_nil, vRng, memAll, vAll, reduceCtorEq, Nat.reduceEqDiff, Nat.reduceAdd, Nat.reduceLT, Nat.reduceLeDiff, Nat.beq]
          rfl
end Go.Proofs.YtncobemfpammfaaDoor.V

namespace Go.Proofs.YtncobemfpammfaaDoor.V
def ext (p : Nat → Bool) (n : Nat) : List Exn := exts ((List.range n).filter p)
theorem ext_succ (p : Nat → Bool) (n : Nat) : ext p (n + 1) = if p n then addAt (ext p n) n else ext p n := by
  unfold ext
  rw [List.range_succ, List.filter_append]
  cases h : p n
  · simp [h]
  · rw [List.filter_cons_of_pos h, List.filter_nil, exts_snoc]; rfl
theorem ext_new {p : Nat → Bool} {n : Nat} (h : n = 0 ∨ p (n - 1) = false) : addAt (ext p n) n = ext p n ++ [⟨(n : Int), 1⟩] := by
  unfold ext
  rcases snoc_cases ((List.range n).filter p) with h0 | ⟨l, j, h0⟩
  · rw [h0]; rfl
  · obtain ⟨pre, ⟨s, c⟩, e0, h1, h2, h3, h4⟩ := exts_last _ l rfl j
    have hmem : j ∈ (List.range n).filter p := by rw [h0]; simp
    obtain ⟨q1, q2⟩ := List.mem_filter.1 hmem
    have hj := List.mem_range.1 q1
    simp only at h1
    rw [h0, e0, addAt_snoc, if_neg]
    intro hh
    simp only at hh
    have : j = n - 1 := by omega
    rcases h with h | h
    · omega
    · rw [← this, q2] at h; cases h
theorem ext_false {p : Nat → Bool} {a : Nat} : ∀ k, (∀ s, a ≤ s → s < a + k → p s = false) → ext p (a + k) = ext p a
  | 0, _ => rfl
  | k + 1, h => by
    rw [← Nat.add_assoc, ext_succ, h (a + k) (by omega) (by omega), if_neg (by simp)]
    exact ext_false k fun s h1 h2 => h s h1 (by omega)
theorem ext_true {p : Nat → Bool} {a : Nat} {pre : List Exn} {s0 : Int} (h0 : ext p a = pre ++ [⟨s0, a - s0⟩]) : ∀ k, (∀ s, a ≤ s → s < a + k → p s = true) → ext p (a + k) = pre ++ [⟨s0, ((a + k : Nat) : Int) - s0⟩]
  | 0, _ => h0
  | k + 1, h => by
    rw [← Nat.add_assoc, ext_succ, h (a + k) (by omega) (by omega), if_pos rfl, ext_true h0 k fun s h1 h2 => h s h1 (by omega), addAt_snoc, if_pos (by simp only; omega)]
    congr 2
    simp only [Exn.mk.injEq, true_and]
    omega
theorem ext_begin {p : Nat → Bool} {a k : Nat} (hn : a = 0 ∨ p (a - 1) = false) (h : ∀ s, a ≤ s → s < a + (k + 1) → p s = true) : ext p (a + (k + 1)) = ext p a ++ [⟨(a : Int), ((a + (k + 1) : Nat) : Int) - a⟩] := by
  have h1 : ext p (a + 1) = ext p a ++ [⟨(a : Int), ((a + 1 : Nat) : Int) - a⟩] := by
    rw [ext_succ, h a (Nat.le_refl _) (by omega), if_pos rfl, ext_new hn]
    congr 2
    simp only [Exn.mk.injEq, true_and]
    omega
  have := ext_true (a := a + 1) h1 k fun s h2 h3 => h s (by omega) (by omega)
  rw [show a + (k + 1) = a + 1 + k by omega]
  exact this
theorem ext_congr {p q : Nat → Bool} {n : Nat} (h : ∀ s, s < n → p s = q s) : ext p n = ext q n := by
  unfold ext
  rw [List.filter_congr fun s hs => h s (List.mem_range.1 hs)]
def dep (i : Nat) (s : Nat) : List End → Int
  | [] => 0
  | x :: l => (if x.list = i ∧ x.pos ≤ s then x.step else 0) + dep i s l
def tot (i : Nat) : List End → Int
  | [] => 0
  | x :: l => (if x.list = i then x.step else 0) + tot i l
theorem dep_app (i s : Nat) : ∀ l m : List End, dep i s (l ++ m) = dep i s l + dep i s m
  | [], m => by simp [dep]
  | x :: l, m => by simp only [List.cons_append, dep, dep_app i s l m]; omega
theorem dep_all {i s : Nat} : ∀ {l : List End}, (∀ x ∈ l, x.pos ≤ s) → dep i s l = tot i l
  | [], _ => rfl
  | x :: l, h => by
    have h1 := h x (by simp)
    have ih := dep_all (i := i) (s := s) (l := l) fun y hy => h y (by simp [hy])
    simp only [dep, tot, ih, h1, and_true]
theorem dep_none {i s : Nat} : ∀ {l : List End}, (∀ x ∈ l, s < x.pos) → dep i s l = 0
  | [], _ => rfl
  | x :: l, h => by
    have h1 := h x (by simp)
    have ih := dep_none (i := i) (s := s) (l := l) fun y hy => h y (by simp [hy])
    simp only [dep, ih]
    rw [if_neg (by omega)]; rfl
theorem tot_app (i : Nat) : ∀ l m : List End, tot i (l ++ m) = tot i l + tot i m
  | [], m => by simp [tot]
  | x :: l, m => by simp only [List.cons_append, tot, tot_app i l m]; omega
def keepOf (keep : Bool → Bool → Bool) (l : List End) (s : Nat) : Bool := keep (decide (dep 0 s l > 0)) (decide (dep 1 s l > 0))
def nextSame (x : End) : List End → Bool
  | [] => false
  | y :: _ => decide (y.pos = x.pos)
def swGo (keep : Bool → Bool → Bool) : List End → Int → Int → Int → Bool → List Exn
  | [], _, _, _, _ => []
  | x :: l, d0, d1, st, ins =>
    if nextSame x l then swGo keep l (if x.list = 0 then d0 + x.step else d0) (if x.list = 1 then d1 + x.step else d1) st ins
    else
      (if !keep (decide ((if x.list = 0 then d0 + x.step else d0) > 0)) (decide ((if x.list = 1 then d1 + x.step else d1) > 0)) && ins then [⟨st, x.pos - st⟩] else []) ++
      swGo keep l (if x.list = 0 then d0 + x.step else d0) (if x.list = 1 then d1 + x.step else d1)
        (if keep (decide ((if x.list = 0 then d0 + x.step else d0) > 0)) (decide ((if x.list = 1 then d1 + x.step else d1) > 0)) && !ins then x.pos else st)
        (keep (decide ((if x.list = 0 then d0 + x.step else d0) > 0)) (decide ((if x.list = 1 then d1 + x.step else d1) > 0)))
def Asc : List End → Prop
  | [] => True
  | [_] => True
  | x :: y :: l => x.pos ≤ y.pos ∧ Asc (y :: l)
theorem Asc.tail {x : End} {l : List End} (h : Asc (x :: l)) : Asc l := by
  cases l with
  | nil => trivial
  | cons y l => exact h.2
theorem Asc.le {x : End} : ∀ {l : List End}, Asc (x :: l) → ∀ y ∈ l, x.pos ≤ y.pos
  | [], _, y, hy => by cases hy
  | z :: l, h, y, hy => by
    rcases List.mem_cons.1 hy with rfl | hy
    · exact h.1
    · exact Nat.le_trans h.1 (Asc.le h.2 y hy)
def atStart (N : Nat) : List End → Nat → Prop
  | [], a => a = N
  | x :: _, a => a = x.pos
theorem swGo_ok {keep : Bool → Bool → Bool} (hk : keep false false = false) {L : List End} {N : Nat} (hN : ∀ x ∈ L, x.pos ≤ N) (h0 : tot 0 L = 0) (h1 : tot 1 L = 0) :
    ∀ (R P : List End) (out : List Exn) (st : Int) (ins : Bool) (a : Nat), L = P ++ R → Asc R → (∀ x ∈ P, ∀ y ∈ R, x.pos ≤ y.pos) → (∀ x ∈ P, x.pos ≤ a) →
      atStart N R a → ext (keepOf keep L) a = out ++ (if ins then [⟨st, a - st⟩] else []) → (a = 0 ∨ ins = true ∨ keepOf keep L (a - 1) = false) → (R = [] → ins = false) → (a = 0 → ins = false) →
      ext (keepOf keep L) N = out ++ swGo keep R (tot 0 P) (tot 1 P) st ins
  | [], P, out, st, ins, a, hL, _, _, _, ha, he, hi, hr, _ => by
    have ha : a = N := ha
    rw [hr rfl] at he
    rw [ha] at he
    simpa [swGo] using he
  | x :: l, P, out, st, ins, a, hL, hs, hP, hPa, ha, he, hi, _, hz => by
    have ha : a = x.pos := ha
    subst ha
    have hL2 : L = (P ++ [x]) ++ l := by rw [hL]; simp
    have t0 : tot 0 (P ++ [x]) = (if x.list = 0 then tot 0 P + x.step else tot 0 P) := by
      rw [tot_app]; simp only [tot]; split <;> omega
    have t1 : tot 1 (P ++ [x]) = (if x.list = 1 then tot 1 P + x.step else tot 1 P) := by
      rw [tot_app]; simp only [tot]; split <;> omega
    have hP2 : ∀ z ∈ P ++ [x], ∀ y ∈ l, z.pos ≤ y.pos := by
      intro z hz y hy
      rcases List.mem_append.1 hz with hz | hz
      · exact hP z hz y (by simp [hy])
      · simp only [List.mem_singleton] at hz; rw [hz]; exact hs.le y hy
    have hPx : ∀ z ∈ P ++ [x], z.pos ≤ x.pos := by
      intro z hz
      rcases List.mem_append.1 hz with hz | hz
      · exact hP z hz x (by simp)
      · simp only [List.mem_singleton] at hz; rw [hz]; exact Nat.le_refl _
    unfold swGo
    rw [← t0, ← t1]
    by_cases hn : nextSame x l = true
    · rw [if_pos hn]
      cases l with
      | nil => simp [nextSame] at hn
      | cons y l =>
        have hy : y.pos = x.pos := by simpa [nextSame] using hn
        exact swGo_ok hk hN h0 h1 (y :: l) (P ++ [x]) out st ins x.pos hL2 hs.tail hP2 hPx hy.symm he hi (fun e => by cases e) hz
    · rw [if_neg hn]
      -- the next place
      obtain ⟨b, hb, hbl, hbx, hbm⟩ : ∃ b, x.pos ≤ b ∧ (∀ y ∈ l, b ≤ y.pos) ∧ (l ≠ [] → x.pos < b) ∧ atStart N l b := by
        cases l with
        | nil => exact ⟨N, hN x (by rw [hL]; simp), fun y hy => (by cases hy), fun h => absurd rfl h, rfl⟩
        | cons y l =>
          have hy : y.pos ≠ x.pos := by simpa [nextSame] using hn
          have := hs.1
          exact ⟨y.pos, hs.1, fun z hz => by
            rcases List.mem_cons.1 hz with rfl | hz
            · exact Nat.le_refl _
            · exact hs.tail.le z hz, fun _ => by omega, rfl⟩
      have hconst : ∀ s, x.pos ≤ s → s < b → keepOf keep L s = keep (decide (tot 0 (P ++ [x]) > 0)) (decide (tot 1 (P ++ [x]) > 0)) := by
        intro s hs1 hs2
        unfold keepOf
        have e : ∀ i, dep i s L = tot i (P ++ [x]) := by
          intro i
          rw [hL2, dep_app, dep_all (fun z hz => by have := hPx z hz; omega), dep_none (fun z hz => by have := hbl z hz; omega)]
          omega
        rw [e 0, e 1]
      have hlast : l = [] → keep (decide (tot 0 (P ++ [x]) > 0)) (decide (tot 1 (P ++ [x]) > 0)) = false := by
        intro hl
        have e0 : tot 0 (P ++ [x]) = 0 := by rw [← h0, hL2, hl, List.append_nil]
        have e1 : tot 1 (P ++ [x]) = 0 := by rw [← h1, hL2, hl, List.append_nil]
        rw [e0, e1]
        exact hk
      have hPb : ∀ z ∈ P ++ [x], z.pos ≤ b := fun z hz => Nat.le_trans (hPx z hz) hb
      obtain ⟨k, rfl⟩ : ∃ k, b = x.pos + k := ⟨b - x.pos, by omega⟩
      generalize keep (decide (tot 0 (P ++ [x]) > 0)) (decide (tot 1 (P ++ [x]) > 0)) = now at *
      have hprev : k ≠ 0 → keepOf keep L (x.pos + k - 1) = now := fun hk0 => hconst _ (by omega) (by omega)
      cases now with
      | false =>
        have hf := ext_false (p := keepOf keep L) (a := x.pos) k fun s q1 q2 => hconst s q1 q2
        cases ins with
        | false =>
          simp only [Bool.not_false, Bool.and_false, Bool.false_eq_true, if_false, List.nil_append, Bool.and_true, Bool.false_and, List.append_nil, if_true] at he ⊢
          refine swGo_ok hk hN h0 h1 l (P ++ [x]) out _ false (x.pos + k) hL2 hs.tail hP2 hPb hbm ?_ ?_ (fun _ => rfl) (fun _ => rfl)
          · rw [hf, he]; simp
          · by_cases hk0 : k = 0
            · subst hk0
              rcases hi with hi | hi | hi
              · exact .inl hi
              · cases hi
              · exact .inr (.inr hi)
            · exact .inr (.inr (hprev hk0))
        | true =>
          simp only [Bool.not_false, Bool.and_self, if_true, Bool.not_true, Bool.and_false, Bool.false_and, Bool.false_eq_true, if_false] at he ⊢
          rw [← List.append_assoc]
          by_cases hk0 : k = 0
          · subst hk0
            have hl : l = [] := by
              cases l with
              | nil => rfl
              | cons y l => have := hbx (by simp); omega
            subst hl
            have hb2 : x.pos + 0 = N := hbm
            simp only [swGo, List.append_nil]
            rw [← hb2]
            exact he
          · refine swGo_ok hk hN h0 h1 l (P ++ [x]) _ _ false (x.pos + k) hL2 hs.tail hP2 hPb hbm ?_ (.inr (.inr (hprev hk0))) (fun _ => rfl) (fun _ => rfl)
            rw [hf, he]; simp
      | true =>
        have hl : l ≠ [] := fun e => by have := hlast e; cases this
        have hk1 := hbx hl
        obtain ⟨j, rfl⟩ : ∃ j, k = j + 1 := ⟨k - 1, by omega⟩
        cases ins with
        | false =>
          simp only [Bool.not_true, Bool.false_and, Bool.false_eq_true, if_false, List.nil_append, Bool.not_false, Bool.and_self, if_true, List.append_nil] at he ⊢
          refine swGo_ok hk hN h0 h1 l (P ++ [x]) out _ true (x.pos + (j + 1)) hL2 hs.tail hP2 hPb hbm ?_ (.inr (.inl rfl)) (fun e => absurd e hl) (fun e => by omega)
          have hi2 : x.pos = 0 ∨ keepOf keep L (x.pos - 1) = false := by
            rcases hi with hi | hi | hi
            · exact .inl hi
            · cases hi
            · exact .inr hi
          rw [ext_begin hi2 fun s q1 q2 => hconst s q1 q2, he]
          simp
        | true =>
          simp only [Bool.not_true, Bool.false_and, Bool.false_eq_true, if_false, List.nil_append, Bool.and_false, if_true] at he ⊢
          refine swGo_ok hk hN h0 h1 l (P ++ [x]) out st true (x.pos + (j + 1)) hL2 hs.tail hP2 hPb hbm ?_ (.inr (.inl rfl)) (fun e => absurd e hl) (fun e => by omega)
          rw [ext_true he (j + 1) fun s q1 q2 => hconst s q1 q2]
          simp
theorem sweep_ok {keep : Bool → Bool → Bool} (hk : keep false false = false) {L : List End} {N : Nat} (hs : Asc L) (hN : ∀ x ∈ L, x.pos ≤ N) (h0 : tot 0 L = 0) (h1 : tot 1 L = 0) :
    swGo keep L 0 0 0 false = ext (keepOf keep L) N := by
  cases L with
  | nil =>
    have : ext (keepOf keep ([] : List End)) (0 + N) = ext (keepOf keep []) 0 := ext_false N fun s _ _ => hk
    rw [Nat.zero_add] at this
    rw [this]; rfl
  | cons x l =>
    have hb : ext (keepOf keep (x :: l)) (0 + x.pos) = ext (keepOf keep (x :: l)) 0 := ext_false x.pos fun s _ h2 => by
      unfold keepOf
      have e : ∀ i, dep i s (x :: l) = 0 := fun i => dep_none fun y hy => by
        rcases List.mem_cons.1 hy with rfl | hy
        · omega
        · have := hs.le y hy; omega
      rw [e 0, e 1]
      exact hk
    rw [Nat.zero_add] at hb
    have := swGo_ok hk hN h0 h1 (x :: l) [] [] 0 false x.pos rfl hs (fun z hz => by cases hz) (fun z hz => by cases hz) rfl (by rw [hb]; rfl) (by
      by_cases h : x.pos = 0
      · exact .inl h
      · refine .inr (.inr ?_)
        unfold keepOf
        have e : ∀ i, dep i (x.pos - 1) (x :: l) = 0 := fun i => dep_none fun y hy => by
          rcases List.mem_cons.1 hy with rfl | hy
          · omega
          · have := hs.le y hy; omega
        rw [e 0, e 1]
        exact hk) (fun e => by cases e) (fun _ => rfl)
    rw [this]; rfl
end Go.Proofs.YtncobemfpammfaaDoor.V

namespace Go.Proofs.YtncobemfpammfaaDoor.V
abbrev Wd := BitVec 64
structure Bm where
  size : Int
  ws : List Wd
  deriving DecidableEq
def eW (w : Wd) : PV := .int .u64 (w.toNat : Int)
def eBm (b : Bm) : PV := .agg [.int .i64 b.size, .list 1 (b.ws.map eW)]
def bit (ws : List Wd) (i : Nat) : Bool := (ws.getD (i / 64) 0).getLsbD (i % 64)
theorem bit_at {ws : List Wd} {k : Nat} (h : k < ws.length) {j : Nat} (hj : j < 64) : bit ws (64 * k + j) = ws[k].getLsbD j := by
  unfold bit
  have e1 : (64 * k + j) / 64 = k := by omega
  have e2 : (64 * k + j) % 64 = j := by omega
  rw [e1, e2]; simp [h]
theorem bit_of {ws : List Wd} {i : Nat} (h : i / 64 < ws.length) : bit ws i = ws[i / 64].getLsbD (i % 64) := by
  unfold bit; simp [h]
theorem bit_out {ws : List Wd} {i : Nat} (h : 64 * ws.length ≤ i) : bit ws i = false := by
  unfold bit
  have : ws.length ≤ i / 64 := by omega
  rw [List.getD_eq_getElem?_getD, List.getElem?_eq_none this]; simp
theorem w_of (w : Wd) : BitVec.ofInt 64 (w.toNat : Int) = w := by
  apply BitVec.eq_of_toNat_eq
  have := w.isLt
  rw [BitVec.toNat_ofInt]
  omega
theorem u64_wrap (n : Int) : IntKind.u64.wrap n = n % 2 ^ 64 := by
  simp only [IntKind.wrap, IntKind.bits, IntKind.signed, Bool.false_and, Bool.false_eq_true, if_false]
theorem w_wrap (w : Wd) : IntKind.u64.wrap (w.toNat : Int) = (w.toNat : Int) := by
  have := w.isLt
  simp only [IntKind.wrap, IntKind.bits, IntKind.signed, Bool.false_and, Bool.false_eq_true, if_false]
  omega
theorem w_or (a b : Wd) : IntKind.u64.wrap ((BitVec.ofInt IntKind.u64.bits (a.toNat : Int) ||| BitVec.ofInt IntKind.u64.bits (b.toNat : Int)).toNat : Int) = ((a ||| b).toNat : Int) := by
  show IntKind.u64.wrap ((BitVec.ofInt 64 (a.toNat : Int) ||| BitVec.ofInt 64 (b.toNat : Int)).toNat : Int) = _
  rw [w_of, w_of, w_wrap]
theorem w_and (a b : Wd) : IntKind.u64.wrap ((BitVec.ofInt IntKind.u64.bits (a.toNat : Int) &&& BitVec.ofInt IntKind.u64.bits (b.toNat : Int)).toNat : Int) = ((a &&& b).toNat : Int) := by
  show IntKind.u64.wrap ((BitVec.ofInt 64 (a.toNat : Int) &&& BitVec.ofInt 64 (b.toNat : Int)).toNat : Int) = _
  rw [w_of, w_of, w_wrap]
theorem w_shr (w : Wd) {s : Int} {n : Nat} (hs : s = (n : Int)) : (w.toNat : Int).fdiv (2 ^ (min s.toNat IntKind.u64.bits)) = ((w >>> n).toNat : Int) := by
  subst hs
  rw [BitVec.toNat_ushiftRight, Nat.shiftRight_eq_div_pow, Int.toNat_natCast]
  have hw := w.isLt
  show (w.toNat : Int).fdiv (2 ^ (min n 64)) = _
  by_cases h : n ≤ 64
  · have h2 : (0 : Int) ≤ 2 ^ n := by have := Int.natCast_nonneg (2 ^ n); push_cast at this; exact this
    rw [Nat.min_eq_left h, Int.fdiv_eq_ediv_of_nonneg _ h2]
    push_cast
    rfl
  · rw [Nat.min_eq_right (by omega), Int.fdiv_eq_ediv_of_nonneg _ (by decide)]
    have h1 : w.toNat / 2 ^ n = 0 := Nat.div_eq_of_lt (Nat.lt_of_lt_of_le hw (Nat.pow_le_pow_right (by decide) (by omega)))
    rw [h1]
    omega
theorem w_shl (w : Wd) {s : Int} {n : Nat} (hs : s = (n : Int)) : IntKind.u64.wrap ((w.toNat : Int) * 2 ^ (min s.toNat IntKind.u64.bits)) = ((w <<< n).toNat : Int) := by
  subst hs
  rw [BitVec.toNat_shiftLeft, Nat.shiftLeft_eq, Int.toNat_natCast]
  have hw := w.isLt
  rw [u64_wrap]
  show ((w.toNat : Int) * 2 ^ (min n 64)) % 2 ^ 64 = _
  by_cases h : n ≤ 64
  · have e2 : ((2 ^ n : Nat) : Int) = 2 ^ n := by push_cast; rfl
    have e3 : ((2 ^ 64 : Nat) : Int) = 2 ^ 64 := by decide
    rw [Nat.min_eq_left h, Int.natCast_emod, Int.natCast_mul, e2, e3]
  · rw [Nat.min_eq_right (by omega)]
    have e : 2 ^ n = 2 ^ 64 * 2 ^ (n - 64) := by rw [← Nat.pow_add]; congr 1; omega
    have : w.toNat * 2 ^ n % 2 ^ 64 = 0 := by
      rw [e, Nat.mul_left_comm]; exact Nat.mul_mod_right _ _
    rw [this]
    exact Int.mul_emod_left _ _
theorem w_sub (a b : Wd) : IntKind.u64.wrap ((a.toNat : Int) - (b.toNat : Int)) = ((a - b).toNat : Int) := by
  have h1 := a.isLt
  have h2 := b.isLt
  simp only [IntKind.wrap, IntKind.bits, IntKind.signed, Bool.false_and, Bool.false_eq_true, if_false]
  rw [BitVec.toNat_sub]
  omega
theorem w_beq (a b : Wd) : ((a.toNat : Int) == (b.toNat : Int)) = decide (a = b) := by
  by_cases h : a = b
  · subst h; simp
  · have : a.toNat ≠ b.toNat := fun e => h (BitVec.eq_of_toNat_eq e)
    simp [h]; omega

/-! Masks. -/
def maskW (k : Nat) (a b : Int) : Wd :=
  if max (a - 64 * (k : Int)) 0 ≥ min (b - 64 * (k : Int)) 64 then 0
  else (BitVec.allOnes 64 >>> (64 - (min (b - 64 * (k : Int)) 64 - max (a - 64 * (k : Int)) 0)).toNat) <<< (max (a - 64 * (k : Int)) 0).toNat
theorem mask_bit (k : Nat) (a b : Int) {j : Nat} (hj : j < 64) : (maskW k a b).getLsbD j = decide (a ≤ 64 * (k : Int) + j ∧ 64 * (k : Int) + j < b) := by
  unfold maskW
  split
  · rename_i h
    rw [show (0 : Wd).getLsbD j = false by simp]
    symm
    apply decide_eq_false
    omega
  · rename_i h
    rw [BitVec.getLsbD_shiftLeft, BitVec.getLsbD_ushiftRight, BitVec.getLsbD_allOnes]
    rw [Bool.eq_iff_iff]
    simp only [Bool.and_eq_true, decide_eq_true_eq, Bool.not_eq_true', decide_eq_false_iff_not]
    omega
def bitsOf (w : Wd) : List Nat := (List.range 64).filter fun j => w.getLsbD j
theorem bits_zero : bitsOf 0 = [] := by
  unfold bitsOf
  rw [List.filter_eq_nil_iff]
  intro j _
  simp
theorem ctz_low {w : Wd} (h : w ≠ 0) : Lib.ctz 64 w.toNat < 64 ∧ (∀ j, j < Lib.ctz 64 w.toNat → w.getLsbD j = false) ∧ w.getLsbD (Lib.ctz 64 w.toNat) = true ∧ ∀ j, j < 64 → (w &&& (w - 1)).getLsbD j = (w.getLsbD j && decide (j ≠ Lib.ctz 64 w.toNat)) := by
  have h0 : 0 < w.toNat := by
    rcases Nat.eq_zero_or_pos w.toNat with e | e
    · exact absurd (BitVec.eq_of_toNat_eq (by simpa using e)) h
    · exact e
  have hl : Lib.ctz 64 w.toNat = Lib.ctzFrom 64 w.toNat := by unfold Lib.ctz; rw [if_neg (by omega)]
  rw [hl]
  obtain ⟨m, h1, h2⟩ := Lib.ctzFrom_spec 64 w.toNat h0 w.isLt
  generalize Lib.ctzFrom 64 w.toNat = c at h1 h2
  have hbit : ∀ j, w.getLsbD j = if j < c then false else (2 * m + 1).testBit (j - c) := fun j => by
    rw [← BitVec.testBit_toNat, h1, Nat.testBit_two_pow_mul]
    by_cases hc : j < c
    · rw [if_pos hc, decide_eq_false (by omega), Bool.false_and]
    · rw [if_neg hc, decide_eq_true (by omega), Bool.true_and]
  have hsub : (w - 1).toNat = 2 ^ c * (2 * m) + (2 ^ c - 1) := by
    have hp : 0 < 2 ^ c := Nat.pow_pos (by decide)
    rw [BitVec.toNat_sub]
    have := w.isLt
    have e1 : (1 : Wd).toNat = 1 := rfl
    rw [e1, show 2 ^ 64 - 1 + w.toNat = (w.toNat - 1) + 2 ^ 64 by omega, Nat.add_mod_right, Nat.mod_eq_of_lt (by omega), h1, Nat.mul_add, Nat.mul_one]
    omega
  have hbit2 : ∀ j, (w - 1).getLsbD j = if j < c then true else (2 * m).testBit (j - c) := fun j => by
    rw [← BitVec.testBit_toNat, hsub]
    have hp : 2 ^ c - 1 < 2 ^ c := by have : 0 < 2 ^ c := Nat.pow_pos (by decide); omega
    by_cases hc : j < c
    · rw [if_pos hc, Nat.testBit_two_pow_mul_add _ hp, if_pos hc, Nat.testBit_two_pow_sub_one]
      simp [hc]
    · rw [if_neg hc, Nat.testBit_two_pow_mul_add _ hp, if_neg hc]
  refine ⟨h2, fun j hj => by rw [hbit, if_pos hj], by rw [hbit, if_neg (Nat.lt_irrefl _), Nat.sub_self]; simp, fun j hj => ?_⟩
  rw [BitVec.getLsbD_and, hbit, hbit2]
  by_cases hc : j < c
  · simp [hc]
  · rw [if_neg hc, if_neg hc]
    by_cases he : j = c
    · subst he; simp
    · obtain ⟨d, hd⟩ : ∃ d, j - c = d + 1 := ⟨j - c - 1, by omega⟩
      rw [hd, Nat.testBit_succ, Nat.testBit_succ, show (2 * m + 1) / 2 = m by omega, show 2 * m / 2 = m by omega]
      simp [he]
theorem filter_first {p q : Nat → Bool} {c n : Nat} (hc : c < n) (hlow : ∀ j, j < c → p j = false) (hp : p c = true) (hq : ∀ j, j < n → q j = (p j && decide (j ≠ c))) : (List.range n).filter p = c :: (List.range n).filter q := by
  have e : List.range n = List.range c ++ (c :: (List.range (n - c - 1)).map (c + 1 + ·)) := by
    apply List.ext_getElem
    · simp; omega
    · intro i h1 h2
      simp only [List.length_range] at h1
      rw [List.getElem_range, List.getElem_append]
      split
      · simp
      · rename_i h
        simp only [List.length_range] at h ⊢
        obtain ⟨d, hd⟩ : ∃ d, i = c + d := ⟨i - c, by omega⟩
        subst hd
        cases d with
        | zero => simp
        | succ d => simp [show c + (d + 1) - c = d + 1 by omega]; omega
  have hq' : ∀ j, j ∈ List.range n → q j = (p j && decide (j ≠ c)) := fun j hj => hq j (List.mem_range.1 hj)
  rw [List.filter_congr hq', e, List.filter_append, List.filter_append]
  have h1 : (List.range c).filter p = [] := by
    rw [List.filter_eq_nil_iff]; intro j hj; rw [hlow j (List.mem_range.1 hj)]; simp
  have h2 : (List.range c).filter (fun j => p j && decide (j ≠ c)) = [] := by
    rw [List.filter_eq_nil_iff]; intro j hj; rw [hlow j (List.mem_range.1 hj)]; simp
  rw [h1, h2, List.nil_append, List.nil_append, List.filter_cons_of_pos hp, List.filter_cons_of_neg (by simp)]
  congr 1
  apply List.filter_congr
  intro j hj
  obtain ⟨d, _, rfl⟩ := List.mem_map.1 hj
  simp; omega
theorem bits_cons {w : Wd} (h : w ≠ 0) : bitsOf w = Lib.ctz 64 w.toNat :: bitsOf (w &&& (w - 1)) := by
  obtain ⟨h1, h2, h3, h4⟩ := ctz_low h
  exact filter_first h1 h2 h3 h4
def elemsW (ws : List Wd) (a b : Int) : List Nat := (List.range (64 * ws.length)).filter fun (i : Nat) => bit ws i && decide (a ≤ (i : Int) ∧ (i : Int) < b)
theorem range_add (n m : Nat) : List.range (n + m) = List.range n ++ (List.range m).map (n + ·) := List.range_add
theorem elems_take {ws : List Wd} {k : Nat} (h : k < ws.length) (a b : Int) : (List.range (64 * (k + 1))).filter (fun (i : Nat) => bit ws i && decide (a ≤ (i : Int) ∧ (i : Int) < b))
    = (List.range (64 * k)).filter (fun (i : Nat) => bit ws i && decide (a ≤ (i : Int) ∧ (i : Int) < b)) ++ (bitsOf (ws[k] &&& maskW k a b)).map (64 * k + ·) := by
  rw [show 64 * (k + 1) = 64 * k + 64 by omega, List.range_add, List.filter_append, List.filter_map]
  congr 2
  unfold bitsOf
  apply List.filter_congr
  intro j hj
  have hj := List.mem_range.1 hj
  rw [BitVec.getLsbD_and, mask_bit k a b hj]
  show (bit ws (64 * k + j) && _) = _
  rw [bit_at h hj]
  push_cast
  rfl
def zipB (f : Wd → Wd → Wd) (a b : List Wd) : List Wd := List.zipWith f a b
def wdsN (n : Int) : Int := (n + 63) / 64
def okB (b : Bm) : Bool := decide (0 ≤ b.size ∧ b.size ≤ 4096 ∧ (b.ws.length : Int) = wdsN b.size) && (List.range (64 * b.ws.length)).all fun (i : Nat) => decide ((i : Int) < b.size) || !bit b.ws i
theorem okB_iff {b : Bm} : okB b = true ↔ (0 ≤ b.size ∧ b.size ≤ 4096 ∧ (b.ws.length : Int) = wdsN b.size) ∧ ∀ i : Nat, b.size ≤ (i : Int) → bit b.ws i = false := by
  unfold okB
  simp only [Bool.and_eq_true, decide_eq_true_eq, List.all_eq_true, List.mem_range, Bool.or_eq_true, Bool.not_eq_true']
  refine and_congr Iff.rfl ⟨fun h i hi => ?_, fun h i hi => ?_⟩
  · by_cases c : i < 64 * b.ws.length
    · exact (h i c).resolve_left (by omega)
    · exact bit_out (by omega)
  · by_cases c : (i : Int) < b.size
    · exact .inl c
    · exact .inr (h i (by omega))
theorem okB_size {b : Bm} (h : okB b = true) : 0 ≤ b.size ∧ b.size ≤ 4096 ∧ b.ws.length ≤ 64 ∧ b.size ≤ 64 * (b.ws.length : Int) ∧ 64 * (b.ws.length : Int) < b.size + 64 := by
  have := (okB_iff.1 h).1
  unfold wdsN at this
  omega
theorem rest_iff {b : Bm} (h : 0 ≤ b.size ∧ b.size ≤ 4096 ∧ (b.ws.length : Int) = wdsN b.size) : okB b = true ↔ (b.size % 64 = 0 ∨ ∀ (hw : b.ws.length - 1 < b.ws.length), b.ws[b.ws.length - 1] >>> (b.size % 64).toNat = 0) := by
  rw [okB_iff]
  unfold wdsN at h ⊢
  constructor
  · rintro ⟨_, h2⟩
    by_cases c : b.size % 64 = 0
    · exact .inl c
    · refine .inr fun hw => ?_
      apply BitVec.eq_of_getLsbD_eq
      intro j hj
      rw [BitVec.getLsbD_ushiftRight]
      by_cases cj : (b.size % 64).toNat + j < 64
      · rw [← bit_at hw cj, h2 _ (by omega)]; simp
      · rw [BitVec.getLsbD_of_ge _ _ (by omega)]; simp
  · intro hr
    refine ⟨by omega, fun i hi => ?_⟩
    by_cases c : i < 64 * b.ws.length
    · have hw : b.ws.length - 1 < b.ws.length := by omega
      have hk : i / 64 = b.ws.length - 1 := by omega
      rcases hr with hr | hr
      · omega
      · have := congrArg (fun w : Wd => w.getLsbD (i % 64 - (b.size % 64).toNat)) (hr hw)
        simp only [BitVec.getLsbD_ushiftRight, BitVec.getLsbD_zero] at this
        rw [show (b.size % 64).toNat + (i % 64 - (b.size % 64).toNat) = i % 64 by omega] at this
        rw [show i = 64 * (b.ws.length - 1) + i % 64 by omega, bit_at hw (Nat.mod_lt _ (by decide))]
        simpa using this
    · exact bit_out (by omega)
def bmExts (b : Bm) : List Exn := ext (bit b.ws) b.size.toNat
def bmE (b : Bm) : Int := if okB b then 0 else 3
theorem elems_ok {b : Bm} (h : okB b = true) (a : Int) (ha : a ≤ 0) : elemsW b.ws a b.size = (List.range b.size.toNat).filter (bit b.ws) := by
  unfold elemsW
  obtain ⟨h1, h2, h3, h4, h5⟩ := okB_size h
  rw [show 64 * b.ws.length = b.size.toNat + (64 * b.ws.length - b.size.toNat) by omega, List.range_add, List.filter_append]
  have e : (((List.range (64 * b.ws.length - b.size.toNat)).map (b.size.toNat + ·)).filter fun (i : Nat) => bit b.ws i && decide (a ≤ (i : Int) ∧ (i : Int) < b.size)) = [] := by
    rw [List.filter_eq_nil_iff]
    intro i hi
    obtain ⟨d, _, rfl⟩ := List.mem_map.1 hi
    rw [decide_eq_false (by omega)]; simp
  rw [e, List.append_nil]
  apply List.filter_congr
  intro i hi
  have hi := List.mem_range.1 hi
  rw [decide_eq_true (by omega), Bool.and_true]
end Go.Proofs.YtncobemfpammfaaDoor.V

namespace Go.Proofs.YtncobemfpammfaaDoor.V
theorem bmE_ok {b : Bm} (h : okB b = true) : bmE b = 0 := by unfold bmE; rw [if_pos h]
theorem bmE_no {b : Bm} (h : okB b = false) : bmE b = 3 := by unfold bmE; rw [if_neg (by rw [h]; exact Bool.false_ne_true)]
theorem q64 {n : Int} (h : 0 ≤ n) : (n + 64 - 1).tdiv 64 = wdsN n := by
  unfold wdsN; rw [Int.tdiv_eq_ediv_of_nonneg (by omega)]; congr 1; omega
theorem q63 {n : Int} (h : 0 ≤ n) : (n + 63).tdiv 64 = wdsN n := by
  unfold wdsN; rw [Int.tdiv_eq_ediv_of_nonneg (by omega)]
theorem z64 : ((64 : Int) = 0) = False := eq_false (by decide)
theorem cal74 {n : Int} (h : 0 ≤ n ∧ n ≤ 4096) : cal env 74 [.int .i64 n] = some [(.int .i64 (wdsN n), false)] := by
  have W1 : IntKind.i64.wrap (n + 64) = n + 64 := i64_fits (by omega)
  have W2 : IntKind.i64.wrap (n + 64 - 1) = n + 64 - 1 := i64_fits (by omega)
  have W3 : IntKind.i64.wrap (wdsN n) = wdsN n := i64_fits (by unfold wdsN; omega)
  rw [cal_code env74 rfl]; simp only [fn74]; simp only [start, z_map_cons, z_map_nil, z_len_cons, z_len_nil, z_repl_zero, z_repl_succ, z_cons_app, z_nil_app, Nat.reduceAdd, Nat.reduceSub]
  simp only [W1, W2, q64 h.1, W3, z64, memAll, vAll, reduceCtorEq, Nat.reduceEqDiff, Nat.reduceAdd, Nat.reduceLT, Nat.reduceLeDiff, Nat.beq]
theorem cal58 {b : Bm} : cal env 58 [eBm b] = some [(.int .i64 (bmE b), false)] := by
  unfold eBm
  have P : ∀ x y : PV, part [x, y] 0 (some 2) = some (.agg [x, y]) := fun _ _ => rfl
  by_cases c0 : b.size < 0
  · have hE : bmE b = 3 := bmE_no (by rw [Bool.eq_false_iff]; intro h; have := okB_size h; omega)
    rw [hE]
    rw [cal_code env58 rfl]; simp only [fn58]; simp only [start, z_map_cons, z_map_nil, z_len_cons, z_len_nil, z_repl_zero, z_repl_succ, z_cons_app, z_nil_app, Nat.reduceAdd, Nat.reduceSub]
    simp only [c0, P, memAll, vAll, reduceCtorEq, Nat.reduceEqDiff, Nat.reduceAdd, Nat.reduceLT, Nat.reduceLeDiff, Nat.beq]
  · by_cases c1 : b.size > 4096
    · have hE : bmE b = 3 := bmE_no (by rw [Bool.eq_false_iff]; intro h; have := okB_size h; omega)
      rw [hE]
      have F1 : (b.size > 4096) = True := eq_true c1
      rw [cal_code env58 rfl]; simp only [fn58]; simp only [start, z_map_cons, z_map_nil, z_len_cons, z_len_nil, z_repl_zero, z_repl_succ, z_cons_app, z_nil_app, Nat.reduceAdd, Nat.reduceSub]
      simp only [c0, F1, P, memAll, vAll, reduceCtorEq, Nat.reduceEqDiff, Nat.reduceAdd, Nat.reduceLT, Nat.reduceLeDiff, Nat.beq]
    · have F1 : (b.size > 4096) = False := eq_false c1
      have e1 := cal74 (n := b.size) (by omega)
      by_cases c2 : (b.ws.length : Int) = wdsN b.size
      · have F2 : ((b.ws.length : Int) != wdsN b.size) = false := by simp [c2]
        have hr := rest_iff (b := b) ⟨by omega, by omega, c2⟩
        have hw := c2
        unfold wdsN at hw
        have M : b.size.tmod 64 = b.size % 64 := Int.tmod_eq_emod_of_nonneg (by omega)
        by_cases c3 : b.size % 64 = 0
        · have hE : bmE b = 0 := bmE_ok (hr.2 (.inl c3))
          rw [hE]
          have F3 : (b.size % 64 > 0) = False := eq_false (by omega)
          rw [cal_code env58 rfl]; simp only [fn58]; simp only [start, z_map_cons, z_map_nil, z_len_cons, z_len_nil, z_repl_zero, z_repl_succ, z_cons_app, z_nil_app, Nat.reduceAdd, Nat.reduceSub]
          simp only [c0, F1, F2, F3, M, e1, z64, P, memAll, vAll, reduceCtorEq, Nat.reduceEqDiff, Nat.reduceAdd, Nat.reduceLT, Nat.reduceLeDiff, Nat.beq]
        · have F3 : (b.size % 64 > 0) = True := eq_true (by omega)
          have hi : b.ws.length - 1 < b.ws.length := by omega
          have W : IntKind.i64.wrap ((b.ws.length : Int) - 1) = ((b.ws.length - 1 : Nat) : Int) := by rw [i64_fits (by omega)]; omega
          have S0 : (b.size % 64 < 0) = False := eq_false (by omega)
          have S := w_shr b.ws[b.ws.length - 1] (s := b.size % 64) (n := (b.size % 64).toNat) (by omega)
          have B := w_beq (b.ws[b.ws.length - 1] >>> (b.size % 64).toNat) 0
          have B0 : ((0 : Wd).toNat : Int) = 0 := rfl
          rw [B0] at B
          have B' : (((b.ws[b.ws.length - 1] >>> (b.size % 64).toNat).toNat : Int) != 0) = !decide (b.ws[b.ws.length - 1] >>> (b.size % 64).toNat = 0) := by unfold bne; rw [B]
          by_cases c4 : b.ws[b.ws.length - 1] >>> (b.size % 64).toNat = 0
          · have hE : bmE b = 0 := bmE_ok (hr.2 (.inr fun _ => c4))
            rw [hE]
            rw [decide_eq_true c4] at B'
            rw [cal_code env58 rfl]; simp only [fn58]; simp only [start, z_map_cons, z_map_nil, z_len_cons, z_len_nil, z_repl_zero, z_repl_succ, z_cons_app, z_nil_app, Nat.reduceAdd, Nat.reduceSub]
            simp only [c0, F1, F2, F3, M, e1, z64, P, W, S0, S, B', index_nat hi, eW, List.getElem?_map, List.getElem?_eq_getElem hi, memAll, vAll, reduceCtorEq, Nat.reduceEqDiff, Nat.reduceAdd, Nat.reduceLT, Nat.reduceLeDiff, Nat.beq]
          · have hE : bmE b = 3 := bmE_no (by
              rw [Bool.eq_false_iff]; intro h
              rcases hr.1 h with h | h
              · exact c3 h
              · exact c4 (h hi))
            rw [hE]
            rw [decide_eq_false c4] at B'
            rw [cal_code env58 rfl]; simp only [fn58]; simp only [start, z_map_cons, z_map_nil, z_len_cons, z_len_nil, z_repl_zero, z_repl_succ, z_cons_app, z_nil_app, Nat.reduceAdd, Nat.reduceSub]
            simp only [c0, F1, F2, F3, M, e1, z64, P, W, S0, S, B', index_nat hi, eW, List.getElem?_map, List.getElem?_eq_getElem hi, memAll, vAll, reduceCtorEq, Nat.reduceEqDiff, Nat.reduceAdd, Nat.reduceLT, Nat.reduceLeDiff, Nat.beq]
      · have F2 : ((b.ws.length : Int) != wdsN b.size) = true := by simp [c2]
        have hE : bmE b = 3 := bmE_no (by rw [Bool.eq_false_iff]; intro h; exact c2 (okB_iff.1 h).1.2.2)
        rw [hE]
        rw [cal_code env58 rfl]; simp only [fn58]; simp only [start, z_map_cons, z_map_nil, z_len_cons, z_len_nil, z_repl_zero, z_repl_succ, z_cons_app, z_nil_app, Nat.reduceAdd, Nat.reduceSub]
        simp only [c0, F1, F2, e1, P, memAll, vAll, reduceCtorEq, Nat.reduceEqDiff, Nat.reduceAdd, Nat.reduceLT, Nat.reduceLeDiff, Nat.beq]
theorem cal59 {k : Nat} {a b : Int} (hk : k ≤ 100000) (ha : -1000000 ≤ a ∧ a ≤ 1000000) (hb' : -1000000 ≤ b ∧ b ≤ 1000000) : cal env 59 [.int .i64 (k : Nat), .int .i64 a, .int .i64 b] = some [(eW (maskW k a b), false)] := by
  have W0 : IntKind.i64.wrap ((k : Int) * 64) = 64 * (k : Int) := by rw [i64_fits (by omega)]; omega
  have W1 : IntKind.i64.wrap (a - 64 * (k : Int)) = a - 64 * (k : Int) := i64_fits (by omega)
  have W2 : IntKind.i64.wrap (b - 64 * (k : Int)) = b - 64 * (k : Int) := i64_fits (by omega)
  have X1 : (if a - 64 * (k : Int) < 0 then 0 else a - 64 * (k : Int)) = max (a - 64 * (k : Int)) 0 := by split <;> omega
  have X2 : (if 64 < b - 64 * (k : Int) then 64 else b - 64 * (k : Int)) = min (b - 64 * (k : Int)) 64 := by split <;> omega
  unfold maskW eW
  generalize hf : max (a - 64 * (k : Int)) 0 = f at X1 ⊢
  generalize ht : min (b - 64 * (k : Int)) 64 = t at X2 ⊢
  by_cases c : f ≥ t
  · have F1 : (f ≥ t) = True := eq_true c
    rw [if_pos c]
    have B0 : ((0 : Wd).toNat : Int) = 0 := rfl
    rw [B0]
    rw [cal_code env59 rfl]; simp only [fn59]; simp only [start, z_map_cons, z_map_nil, z_len_cons, z_len_nil, z_repl_zero, z_repl_succ, z_cons_app, z_nil_app, Nat.reduceAdd, Nat.reduceSub]
    simp only [W0, W1, W2, X1, X2, F1, memAll, vAll, reduceCtorEq, Nat.reduceEqDiff, Nat.reduceAdd, Nat.reduceLT, Nat.reduceLeDiff, Nat.beq]
  · have F1 : (f ≥ t) = False := eq_false c
    rw [if_neg c]
    have W3 : IntKind.i64.wrap (t - f) = t - f := i64_fits (by omega)
    have W4 : IntKind.i64.wrap (64 - (t - f)) = 64 - (t - f) := i64_fits (by omega)
    have A : (18446744073709551615 : Int) = ((BitVec.allOnes 64).toNat : Int) := rfl
    have S0 : (64 - (t - f) < 0) = False := eq_false (by omega)
    have S1 : (f < 0) = False := eq_false (by omega)
    have S2 := w_shr (BitVec.allOnes 64) (s := 64 - (t - f)) (n := (64 - (t - f)).toNat) (by omega)
    have S3 := w_shl (BitVec.allOnes 64 >>> (64 - (t - f)).toNat) (s := f) (n := f.toNat) (by omega)
    rw [← A] at S2
    rw [cal_code env59 rfl]; simp only [fn59]; simp only [start, z_map_cons, z_map_nil, z_len_cons, z_len_nil, z_repl_zero, z_repl_succ, z_cons_app, z_nil_app, Nat.reduceAdd, Nat.reduceSub]
    simp only [W0, W1, W2, W3, W4, X1, X2, F1, S0, S1, S2, S3, memAll, vAll, reduceCtorEq, Nat.reduceEqDiff, Nat.reduceAdd, Nat.reduceLT, Nat.reduceLeDiff, Nat.beq]
end Go.Proofs.YtncobemfpammfaaDoor.V

namespace Go.Proofs.YtncobemfpammfaaDoor.V
def eB2 (b : Bm) : List PV := [.int .i64 b.size, .list 1 (b.ws.map eW)]
def tz (w : Wd) : Nat := Lib.ctz 64 w.toNat
theorem cal60 {w : Wd} : cal env 60 [.int .u64 (w.toNat : Int)] = some [(.int .i64 (tz w : Nat), false)] := by
  rw [cal_ext env60]
  have := w.isLt
  have e : tzX [.int .u64 (w.toNat : Int)] = if (0 : Int) ≤ (w.toNat : Int) ∧ (w.toNat : Int) < 18446744073709551616 then some [(.int .i64 (Lib.ctz 64 (w.toNat : Int).toNat : Nat), false)] else none := rfl
  rw [e, if_pos (by omega), Int.toNat_natCast]
  rfl
theorem loop57 {b : Bm} {a : Int} {k : Nat} {w0 : Wd} {ys0 : List (List PV)} (hk : k ≤ 100000)
   {st : St} (h : st.head [0, 1, 2, 4, 5, 10, 11, 12] st.boxes.length = some ⟨[.yld, .pv (.iptr (eB2 b) 0), .pv (.iptr [.int .i64 a] 0), .any, .pv (.int .i64 (k : Nat)), .pv (eW w0), .any, .any, .any, .any, .pv (.list 1 (b.ws.map eW)), .pv (.int .i64 b.ws.length), .pv (.int .i64 (k : Nat)), .any, .any, .any, .any, .any, .any, .any, .any, .any, .any, .any, .any, .any, .any, .any, .any, .any, .any, .any, .any, .any, .any, .any, .any, .any, .any], [], ys0, some none⟩) :
   den env fn57_l1 st = some (.normal, ⟨[.yld, .pv (.iptr (eB2 b) 0), .pv (.iptr [.int .i64 a] 0), .any, .any, .any, .any, .any, .any, .any, .pv (.list 1 (b.ws.map eW)), .pv (.int .i64 b.ws.length), .pv (.int .i64 (k : Nat)), .any, .any, .any, .any, .any, .any, .any, .any, .any, .any, .any, .any, .any, .any, .any, .any, .any, .any, .any, .any, .any, .any, .any, .any, .any, .any], [], ys0 ++ yI ((bitsOf w0).map (64 * k + ·)), some none⟩) := by
  unfold fn57_l1
  refine clean_rec (env := env) (fun p : Wd × List (List PV) => ⟨[.yld, .pv (.iptr (eB2 b) 0), .pv (.iptr [.int .i64 a] 0), .any, .pv (.int .i64 (k : Nat)), .pv (eW p.1), .any, .any, .any, .any, .pv (.list 1 (b.ws.map eW)), .pv (.int .i64 b.ws.length), .pv (.int .i64 (k : Nat)), .any, .any, .any, .any, .any, .any, .any, .any, .any, .any, .any, .any, .any, .any, .any, .any, .any, .any, .any, .any, .any, .any, .any, .any, .any, .any], [], p.2, some none⟩)
    (fun p => some (.normal, ⟨[.yld, .pv (.iptr (eB2 b) 0), .pv (.iptr [.int .i64 a] 0), .any, .any, .any, .any, .any, .any, .any, .pv (.list 1 (b.ws.map eW)), .pv (.int .i64 b.ws.length), .pv (.int .i64 (k : Nat)), .any, .any, .any, .any, .any, .any, .any, .any, .any, .any, .any, .any, .any, .any, .any, .any, .any, .any, .any, .any, .any, .any, .any, .any, .any, .any], [], p.2 ++ yI ((bitsOf p.1).map (64 * k + ·)), some none⟩)) (fun _ => True) (fun p => (bitsOf p.1).length) (w0, ys0) h trivial (fun _ => rfl) (fun _ => rfl) ?_
  rintro ⟨w, ys⟩ rb _ ih
  simp only [eW] at ih ⊢
  have B := w_beq w 0
  have B0 : ((0 : Wd).toNat : Int) = 0 := rfl
  rw [B0] at B
  have B' : ((w.toNat : Int) != 0) = !decide (w = 0) := by unfold bne; rw [B]
  by_cases c : w = 0
  · rw [decide_eq_true c] at B'
    subst c
    simp only [fn57_b0, B', bits_zero, List.map_nil, memAll, vAll, reduceCtorEq, Nat.reduceEqDiff, Nat.reduceAdd, Nat.reduceLT, Nat.reduceLeDiff, Nat.beq]
    simp only [yI, List.map_nil, List.append_nil]
    rfl
  · rw [decide_eq_false c] at B'
    have e1 := cal60 (w := w)
    have ht := (ctz_low c).1
    have W0 : IntKind.i64.wrap ((k : Int) * 64) = 64 * (k : Int) := by rw [i64_fits (by omega)]; omega
    have W1 : IntKind.i64.wrap (64 * (k : Int) + ((tz w : Nat) : Int)) = ((64 * k + tz w : Nat) : Int) := by unfold tz; rw [i64_fits (by omega)]; omega
    have W2 := w_sub w 1
    have W3 := w_and w (w - 1)
    have B1 : ((1 : Wd).toNat : Int) = 1 := rfl
    rw [B1] at W2
    have hc := bits_cons c
    simp only [fn57_b0, B', e1, W0, W1, W2, W3, memAll, vAll, reduceCtorEq, Nat.reduceEqDiff, Nat.reduceAdd, Nat.reduceLT, Nat.reduceLeDiff, Nat.beq]
    rw [ih (w &&& (w - 1), ys ++ [[.int .i64 ((64 * k + tz w : Nat) : Int)]]) (by simp only; rw [hc, List.length_cons]; omega) trivial _ rfl]
    rw [hc]
    simp only [yI, List.map_cons, List.append_assoc, List.cons_append, List.nil_append]
    rfl
theorem loop57b {b : Bm} {a : Int} (hb : b.ws.length ≤ 64) (hs : 0 ≤ b.size ∧ b.size ≤ 4096) (ha : -1000000 ≤ a ∧ a ≤ 1000000)
   {st : St} (h : st.head [0, 1, 2, 10, 11, 12] st.boxes.length = some ⟨[.yld, .pv (.iptr (eB2 b) 0), .pv (.iptr [.int .i64 a] 0), .any, .any, .any, .any, .any, .any, .any, .pv (.list 1 (b.ws.map eW)), .pv (.int .i64 b.ws.length), .pv (.int .i64 (0 : Nat)), .any, .any, .any, .any, .any, .any, .any, .any, .any, .any, .any, .any, .any, .any, .any, .any, .any, .any, .any, .any, .any, .any, .any, .any, .any, .any], [], [], some none⟩) :
   den env fn57_l3 st = some (.normal, ⟨[.any, .any, .any, .any, .any, .any, .any, .any, .any, .any, .any, .any, .any, .any, .any, .any, .any, .any, .any, .any, .any, .any, .any, .any, .any, .any, .any, .any, .any, .any, .any, .any, .any, .any, .any, .any, .any, .any, .any], [], yI (elemsW b.ws a b.size), some none⟩) := by
  unfold fn57_l3
  refine clean_up (env := env) b.ws.length (fun k => ⟨[.yld, .pv (.iptr (eB2 b) 0), .pv (.iptr [.int .i64 a] 0), .any, .any, .any, .any, .any, .any, .any, .pv (.list 1 (b.ws.map eW)), .pv (.int .i64 b.ws.length), .pv (.int .i64 k), .any, .any, .any, .any, .any, .any, .any, .any, .any, .any, .any, .any, .any, .any, .any, .any, .any, .any, .any, .any, .any, .any, .any, .any, .any, .any], [], yI ((List.range (64 * k)).filter fun (i : Nat) => bit b.ws i && decide (a ≤ (i : Int) ∧ (i : Int) < b.size)), some none⟩)
    (fun _ => some (.normal, ⟨[.any, .any, .any, .any, .any, .any, .any, .any, .any, .any, .any, .any, .any, .any, .any, .any, .any, .any, .any, .any, .any, .any, .any, .any, .any, .any, .any, .any, .any, .any, .any, .any, .any, .any, .any, .any, .any, .any, .any], [], yI (elemsW b.ws a b.size), some none⟩)) h (fun _ => rfl) (fun _ => rfl) ?_ ?_
  · intro k rb hi ih
    have hi1 := i64_next hi (by unfold lim; omega)
    have F1 : ((k : Int) < (b.ws.length : Int)) = True := eq_true (by omega)
    have e1 := cal59 (k := k) (a := a) (b := b.size) (by omega) ha (by omega)
    have W3 := w_and b.ws[k] (maskW k a b.size)
    rw [elems_take hi] at ih
    unfold eW at e1
    simp only [fn57_b2, F1, e1, W3, eB2, eW, index_nat hi, List.getElem?_map, List.getElem?_eq_getElem hi, memAll, vAll, reduceCtorEq, Nat.reduceEqDiff, Nat.reduceAdd, Nat.reduceLT, Nat.reduceLeDiff, Nat.beq]
    rw [loop57 (b := b) (a := a) (k := k) (w0 := b.ws[k] &&& maskW k a b.size) (ys0 := yI ((List.range (64 * k)).filter fun (i : Nat) => bit b.ws i && decide (a ≤ (i : Int) ∧ (i : Int) < b.size))) (by omega)]
    rotate_left
    · rfl
    simp only [memAll, vAll, reduceCtorEq, Nat.reduceEqDiff, Nat.reduceAdd, Nat.reduceLT, Nat.reduceLeDiff, Nat.beq]
    rw [ih _ (by simp only [hi1]; simp only [yI, List.map_append]; rfl)]
  · intro rb
    simp only [fn57_b2, Int.lt_irrefl, memAll, vAll, reduceCtorEq, Nat.reduceEqDiff, Nat.reduceAdd, Nat.reduceLT, Nat.reduceLeDiff, Nat.beq]
    rfl
theorem iter57 {b : Bm} {a : Int} (ha : -1000000 ≤ a ∧ a ≤ 1000000) : iter env 57 [.iptr (eB2 b) 0, .iptr [.int .i64 a] 0] none = some (yI (if okB b then elemsW b.ws a b.size else [])) := by
  have P : part (eB2 b) 0 (some 2) = some (eBm b) := rfl
  have e1 := cal58 (b := b)
  rw [iter_code env57 rfl rfl]
  simp only [fn57, ystart, z_map_cons, z_map_nil, z_len_cons, z_len_nil, z_repl_zero, z_repl_succ, z_cons_app, z_nil_app, Nat.reduceAdd, Nat.reduceSub]
  cases c : okB b with
  | false =>
    rw [bmE_no c] at e1
    have Z : ((3 : Int) != 0) = true := rfl
    simp only [P, e1, Z, vRng, memAll, vAll, reduceCtorEq, Nat.reduceEqDiff, Nat.reduceAdd, Nat.reduceLT, Nat.reduceLeDiff, Nat.beq]
    rfl
  | true =>
    rw [bmE_ok c] at e1
    have Z : ((0 : Int) != 0) = false := rfl
    obtain ⟨h1, h2, h3, _⟩ := okB_size c
    have P2 : part (eB2 b) 1 none = some (.list 1 (b.ws.map eW)) := rfl
    simp only [P, P2, e1, Z, List.length_map, vRng, memAll, vAll, reduceCtorEq, Nat.reduceEqDiff, Nat.reduceAdd, Nat.reduceLT, Nat.reduceLeDiff, Nat.beq]
    rw [loop57b (a := a) h3 ⟨h1, h2⟩ ha]
    rotate_left
    · rfl
    · rfl
theorem cal37 {b : Bm} {a : Int} : cal env 37 [eBm b, .int .i64 a] = some [(.func 57 [.iptr (eB2 b) 0, .iptr [.int .i64 a] 0], false)] := by
  unfold eBm eB2
  rw [cal_code env37 rfl]; simp only [fn37]; simp only [start, z_map_cons, z_map_nil, z_len_cons, z_len_nil, z_repl_zero, z_repl_succ, z_cons_app, z_nil_app, Nat.reduceAdd, Nat.reduceSub]
  simp only [ memAll, vAll, reduceCtorEq, Nat.reduceEqDiff, Nat.reduceAdd, Nat.reduceLT, Nat.reduceLeDiff, Nat.beq]
end Go.Proofs.YtncobemfpammfaaDoor.V

namespace Go.Proofs.YtncobemfpammfaaDoor

def look : List (Nat × AV) → Nat → AV
  | [], _ => .any
  | (j, v) :: l, i => bcase (Nat.beq i j) v (look l i)
def sl (n : Nat) (l : List (Nat × AV)) : List AV := (List.range n).map (look l)
def mapA (f : AV → AV) : List (Nat × AV) → List (Nat × AV)
  | [] => []
  | (j, v) :: l => (j, f v) :: mapA f l
def keepA (l : List (Nat × AV)) : List Nat → List (Nat × AV)
  | [] => []
  | k :: ks => (k, look l k) :: keepA l ks
def argsA : Nat → List PV → List (Nat × AV)
  | _, [] => []
  | k, v :: l => (k, .pv v) :: argsA (k + 1) l
def lowA (nb : Nat) : List (Nat × AV) → Bool
  | [] => true
  | (_, v) :: l => AV.low nb v && lowA nb l
def insA (n : Nat) : List Nat → Bool
  | [] => true
  | k :: ks => decide (k < n) && insA n ks
theorem look_hit (i : Nat) (v : AV) (l : List (Nat × AV)) : look ((i, v) :: l) i = v := by
  show bcase (Nat.beq i i) v _ = v
  rw [Nat.beq_refl]; rfl
theorem look_nil (i : Nat) : look [] i = .any := (rfl)
theorem sl_get {n i : Nat} {l : List (Nat × AV)} (h' : i < n) : (sl n l).getD i .any = look l i := by
  simp [sl, List.getD_eq_getElem?_getD, h']
theorem sl_some {n i : Nat} {l : List (Nat × AV)} (h' : i < n) : (sl n l)[i]? = some (look l i) := by
  simp [sl, h']
theorem look_cons (l : List (Nat × AV)) (i j : Nat) (v : AV) : look ((j, v) :: l) i = if i = j then v else look l i := by
  show bcase (Nat.beq i j) v _ = _
  by_cases h : i = j
  · subst h; rw [Nat.beq_refl, if_pos rfl]; rfl
  · rw [if_neg h]
    have : Nat.beq i j = false := by
      cases e : Nat.beq i j with
      | false => rfl
      | true => exact absurd (Nat.eq_of_beq_eq_true e) h
    rw [this]; rfl
theorem sl_set (n i : Nat) (v : AV) (l : List (Nat × AV)) : (sl n l).set i v = sl n ((i, v) :: l) := by
  apply List.ext_getElem (by simp [sl])
  intro k h1 h2
  have hk : k < n := by simpa [sl] using h2
  simp only [sl, List.getElem_set, List.getElem_map, List.getElem_range, look_cons]
  by_cases h : i = k
  · subst h; simp
  · rw [if_neg h, if_neg (fun e => h e.symm)]
theorem look_skip {i j : Nat} {v : AV} {l : List (Nat × AV)} (h : (i == j) = false) : look ((j, v) :: l) i = look l i := by
  rw [look_cons, if_neg (by simpa using h)]
theorem look_mapA (f : AV → AV) (hf : f .any = .any) : ∀ (l : List (Nat × AV)) (i : Nat), look (mapA f l) i = f (look l i)
  | [], i => hf.symm
  | (j, v) :: l, i => by
    show look ((j, f v) :: mapA f l) i = _
    rw [look_cons, look_cons, look_mapA f hf l i]
    split <;> rfl
theorem sl_map {f : AV → AV} (hf : f .any = .any) (n : Nat) (l : List (Nat × AV)) : (sl n l).map f = sl n (mapA f l) := by
  unfold sl
  rw [List.map_map]
  apply List.map_congr_left
  intro i _
  exact (look_mapA f hf l i).symm
theorem sl_kill (n d : Nat) (l : List (Nat × AV)) : (sl n l).map (AV.kill d) = sl n (mapA (AV.kill d) l) := sl_map rfl n l
theorem sl_killc (n d : Nat) (l : List (Nat × AV)) : (sl n l).map (AV.killCell d) = sl n (mapA (AV.killCell d) l) := sl_map rfl n l
theorem sl_froze (n : Nat) (l : List (Nat × AV)) : (sl n l).map AV.froze = sl n (mapA AV.froze l) := sl_map rfl n l
theorem mapA_nil (f : AV → AV) : mapA f [] = [] := (rfl)
theorem mapA_cons (f : AV → AV) (j : Nat) (v : AV) (l : List (Nat × AV)) : mapA f ((j, v) :: l) = (j, f v) :: mapA f l := (rfl)
theorem keepA_nil (l : List (Nat × AV)) : keepA l [] = [] := (rfl)
theorem keepA_cons (l : List (Nat × AV)) (k : Nat) (ks : List Nat) : keepA l (k :: ks) = (k, look l k) :: keepA l ks := (rfl)
theorem lowA_nil (nb : Nat) : lowA nb [] = true := (rfl)
theorem lowA_cons (nb k : Nat) (v : AV) (l : List (Nat × AV)) : lowA nb ((k, v) :: l) = (AV.low nb v && lowA nb l) := (rfl)
theorem insA_nil (n : Nat) : insA n [] = true := (rfl)
theorem insA_cons (n k : Nat) (l : List Nat) : insA n (k :: l) = (decide (k < n) && insA n l) := (rfl)
theorem argsA_nil (k : Nat) : argsA k [] = [] := (rfl)
theorem argsA_cons (k : Nat) (v : PV) (l : List PV) : argsA k (v :: l) = (k, .pv v) :: argsA (k + 1) l := (rfl)
theorem look_keepA (l : List (Nat × AV)) : ∀ (ks : List Nat) (i : Nat), look (keepA l ks) i = if ks.contains i then look l i else .any
  | [], i => rfl
  | k :: ks, i => by
    rw [keepA_cons, look_cons, look_keepA l ks i, List.contains_cons]
    by_cases h : i = k
    · subst h; simp
    · have : (i == k) = false := by simpa using h
      rw [if_neg h, this, Bool.false_or]
theorem lowA_iff (nb n : Nat) (l : List (Nat × AV)) : ∀ ks : List Nat, insA n ks = true → (lowA nb (keepA l ks) = true ↔ ∀ k ∈ ks, (look l k).low nb = true)
  | [], _ => by simp [keepA, lowA]
  | k :: ks, h => by
    rw [insA_cons, Bool.and_eq_true] at h
    rw [keepA_cons, lowA_cons, Bool.and_eq_true, lowA_iff nb n l ks h.2]
    simp
theorem head_sl {n nb : Nat} {l : List (Nat × AV)} {keep : List Nat} {bx : List Box} {ys : List (List PV)} {sp : Option (Option Nat)} (h : insA n keep = true) (hb : nb ≤ bx.length) (hl : lowA nb (keepA l keep) = true) :
    St.head ⟨sl n l, bx, ys, sp⟩ keep nb = some ⟨sl n (keepA l keep), bx.take nb, ys, sp⟩ := by
  have e : ((sl n l).zipIdx.map fun (v, i) => if keep.contains i then v else AV.any) = sl n (keepA l keep) := by
    apply List.ext_getElem (by simp [sl])
    intro i h1 h2
    simp only [sl, List.getElem_map, List.getElem_zipIdx, List.getElem_range, look_keepA, Nat.zero_add]
  unfold St.head
  simp only
  rw [e, if_pos]
  rw [Bool.and_eq_true, decide_eq_true_eq]
  refine ⟨?_, hb⟩
  rw [List.all_eq_true]
  intro v hv
  unfold sl at hv
  obtain ⟨i, hi, rfl⟩ := List.mem_map.1 hv
  rw [look_keepA]
  split
  · rename_i hc
    exact (lowA_iff nb n l keep h).1 hl i (by simpa using hc)
  · rfl
theorem clean_sl {n nb : Nat} {e : Ex} {l : List (Nat × AV)} {keep : List Nat} {bx : List Box} {ys : List (List PV)} {sp : Option (Option Nat)} (h : insA n keep = true) (hb : nb ≤ bx.length) (hl : lowA nb (keepA l keep) = true) :
    cleanEnd keep nb (e, ⟨sl n l, bx, ys, sp⟩) = some (e, ⟨sl n (keepA l keep), bx.take nb, ys, sp⟩) := by
  unfold cleanEnd
  simp only
  rw [head_sl h hb hl]
  rfl
theorem start_sl {n : Nat} {args : List PV} (hn : args.length ≤ n) : start n args = ⟨sl n (argsA 0 args), [], [], none⟩ := by
  have key : ∀ (l : List PV) (k i : Nat), look (argsA k l) i = if k ≤ i then ((l[i - k]?).map AV.pv).getD .any else .any := by
    intro l
    induction l with
    | nil => intro k i; simp [argsA, look]
    | cons v l ih =>
      intro k i
      rw [argsA_cons, look_cons, ih]
      by_cases h1 : i = k
      · subst h1; simp
      · rw [if_neg h1]
        by_cases h2 : k ≤ i
        · rw [if_pos (by omega), if_pos h2, show i - k = (i - (k + 1)) + 1 by omega, List.getElem?_cons_succ]
        · rw [if_neg (by omega), if_neg h2]
  unfold start
  congr 1
  apply List.ext_getElem (by simp [sl]; omega)
  intro i h1 h2
  simp only [sl, List.getElem_map, List.getElem_range, key, Nat.zero_le, if_true, Nat.sub_zero]
  by_cases hi : i < args.length
  · rw [List.getElem_append_left (by simpa using hi)]
    simp [hi]
  · rw [List.getElem_append_right (by simp; omega)]
    simp [hi]
theorem low_pv (nb : Nat) (v : PV) : AV.low nb (.pv v) = true := (rfl)
theorem low_any (nb : Nat) : AV.low nb .any = true := (rfl)
theorem low_yld (nb : Nat) : AV.low nb .yld = true := (rfl)
theorem low_row (nb sz : Nat) (es : List PV) : AV.low nb (.row sz es) = true := (rfl)
theorem low_pbox (nb o j : Nat) : AV.low nb (.pbox o j) = decide (o < nb) := (rfl)
theorem low_refs (nb t off len : Nat) : AV.low nb (.ref (.slot t) off len) = true := (rfl)
theorem low_refc (nb o j off len : Nat) : AV.low nb (.ref (.cell o j) off len) = decide (o < nb) := (rfl)
theorem low_pels (nb t i j : Nat) : AV.low nb (.pel (.slot t) i j) = true := (rfl)
theorem low_pelc (nb o q i j : Nat) : AV.low nb (.pel (.cell o q) i j) = decide (o < nb) := (rfl)
theorem low_fn (nb f : Nat) (caps : List AV) : AV.low nb (.fn f caps) = caps.all fun c => match c with
    | .pv _ => true
    | .pbox o _ => o < nb
    | _ => false := (rfl)
def slAll := And.intro @look_hit (And.intro @look_skip (And.intro @look_nil (And.intro @sl_get (And.intro @sl_some (And.intro @sl_set (And.intro @sl_kill (And.intro @sl_killc (And.intro @sl_froze (And.intro @mapA_nil (And.intro @mapA_cons (And.intro @keepA_nil (And.intro @keepA_cons (And.intro @lowA_nil (And.intro @lowA_cons (And.intro @insA_nil (And.intro @insA_cons (And.intro @argsA_nil (And.intro @argsA_cons (And.intro @head_sl (And.intro @clean_sl (And.intro @start_sl (And.intro @low_pv (And.intro @low_any (And.intro @low_yld (And.intro @low_row (And.intro @low_pbox (And.intro @low_refs (And.intro @low_refc (And.intro @low_pels (And.intro @low_pelc (@low_fn)))))))))))))))))))))))))))))))
end Go.Proofs.YtncobemfpammfaaDoor
