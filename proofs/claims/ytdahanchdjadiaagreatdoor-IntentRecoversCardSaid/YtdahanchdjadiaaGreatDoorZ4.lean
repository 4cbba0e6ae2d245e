/-
  Part 4 of the texts that the statement stands on.
-/
import Derived.Test.YtdahanchdjadiaaGreatDoorZ3
import Derived.IntWalk
import Derived.Sort.Defs
import Derived.Lib.BitFns
import Derived.Shelf.Lays7
import Derived.Ground.Names7Prog
import Derived.Test.YtdahanchdjadiaaGreatDoorProg
import Derived.Shelf.Spec.TrailingZeros
import Derived.Lib.TrailingZeros
set_option linter.all false
namespace Go.Proofs.YtdahanchdjadiaaGreatDoor
open Go.RowKit

section
variable {P : Program} {L K : Nat} {σ σ' : Nat → Nat} {T T' T1 T2 : Tags} {st st' st1 : St} {a a1 : Act} {w w1 : World} {r : Root}
  {rec : VCode → St → Option (Ex × St)} {env : Env}

theorem results_ok {gs : List ResultVar} {vs : List VRes} {xs : List Res} (h : Sim L σ T st a w) (hm : mResL P gs vs = true) (hp : resultsOf st vs = some xs) :
    ∃ (us : List Value) (T' : Tags), (gs.mapM (readOf a.tmps)).run P w = .ok us w ∧ us.length = xs.length ∧ Still T T' ∧ (∀ b, w.heap.size ≤ b → T' b = .other) ∧ ∀ (j : Nat) x u, xs[j]? = some x → us[j]? = some u → RKo T' w st.slots.length j x u := by
  have gen : resultList st vs = some xs → ∃ (us : List Value) (T' : Tags), (gs.mapM (readOf a.tmps)).run P w = .ok us w ∧ us.length = xs.length ∧ Still T T' ∧ (∀ b, w.heap.size ≤ b → T' b = .other) ∧ ∀ (j : Nat) x u, xs[j]? = some x → us[j]? = some u → RKo T' w st.slots.length j x u := fun hl => by
    obtain ⟨us, T', k1, k2, k3, k4, k5, _⟩ := result_list 0 h hm hl (Nat.le_refl _)
    exact ⟨us, T', k1, k2, k3, k4, fun j x u hx hu => .inl (by simpa using k5 j x u hx hu)⟩
  unfold resultsOf at hp
  split at hp
  case h_3 => exact gen hp
  case h_2 =>
    rename_i t n
    split at hp
    case h_2 => cases hp
    rename_i p j hs
    split at hp
    case h_2 => cases hp
    rename_i bx h1
    split at hp
    · cases hp
    · rename_i hf
      simp only [Bool.or_eq_true, Bool.not_eq_true', decide_eq_false_iff_not, not_or, Bool.not_eq_true, Classical.not_not] at hf
      obtain ⟨cs, h2, rfl⟩ := map_some' hp
      obtain ⟨T0, hgs, hc⟩ : ∃ T0, gs = [.cell t T0] ∧ cellN P T0 = some (some n) := by
        match gs, hm with
        | [.tmp s], hm => simp [mResL, mRes] at hm
        | [.cell s T0], hm => simp [mResL, mRes] at hm; exact ⟨T0, by rw [hm.1], hm.2⟩
        | [], hm => simp [mResL] at hm
        | _ :: _ :: _, hm => simp [mResL] at hm
      subst hgs
      obtain ⟨u, T', r1, r2, r3, r4⟩ := result_own (P := P) (K := st.slots.length) h hc hs h1 hf.1 hf.2 h2
      refine ⟨[u], T', ?_, rfl, r2, r3, fun j x u' hx hu => ?_⟩
      · simp only [List.mapM_cons, List.mapM_nil, Sem.run_bind, r1, Result.andThen_ok, Sem.run_pure]
      · cases j with
        | zero =>
          simp only [List.getElem?_cons_zero, Option.some.injEq] at hx hu
          subst hx; subst hu; exact r4
        | succ j => simp at hx
  rename_i t
  split at hp
  case h_2 => exact gen hp
  rename_i f caps hs
  obtain ⟨⟨p, fl⟩, h1, h2⟩ := map_some' hp
  subst h2
  have hmo : mOpd (.tmp t) (.t t) = true := by simp [mOpd]
  have hg : st.get (.t t) = .fn f caps := hs
  have hsn : st.snapFn (st.get (.t t)) = some (p, fl) := by rw [hg]; exact h1
  obtain ⟨k1, _, k3⟩ := h.snapF hmo hsn
  obtain ⟨T1, q1, q2, q3, q4⟩ := Froz.args [.t t] (Froz.refl T st) h (fun x hx => by simp only [List.mem_singleton] at hx; subst hx; exact k1)
  have hgs : gs = [.tmp t] := by
    match gs, hm with
    | [.tmp s], hm => simp [mResL, mRes] at hm; rw [hm]
    | [.cell s T0], hm => simp [mResL, mRes] at hm
    | [], hm => simp [mResL] at hm
    | _ :: _ :: _, hm => simp [mResL] at hm
  subst hgs
  refine ⟨[a.eval (.tmp t)], T1, by simp [readOf, Act.eval], rfl, q3, q2.fresh, fun j x u hx hu => ?_⟩
  cases j with
  | zero =>
    simp only [List.getElem?_cons_zero, Option.some.injEq] at hx hu
    subst hx; subst hu
    exact .inl (RK.pv (k3 T1 q3 (q4 _ (by simp))))
  | succ j => simp at hx

theorem prep_avoid {ok good : Nat → Prop} (hg : ∀ b, Cellish w b → good b) {x : PV} {v : Value} (h : PRep ok w x v) : PRep (fun b => ok b ∧ good b) w x v := by
  induction h with
  | int k n => exact .int k n
  | bool b => exact .bool b
  | str s => exact .str s
  | nilf => exact .nilf
  | void v h => exact .void v h
  | nil sz a => exact .nil sz a
  | nils sz a => exact .nils sz a
  | list sz es b off c cv h1 h2 h3 h4 h6 h7 h8 ih => exact .list sz es b off c cv ⟨h1, hg b h2⟩ h2 h3 h4 h6 h7 ih
  | agg cs arr h1 h2 h3 ih => exact .agg cs arr h1 h2 ih
  | func f caps arr h1 h2 ih => exact .func f caps arr h1 ih
  | iptr cs j b off cv h1 h2 h3 h4 ih => exact .iptr cs j b off cv ⟨h1, hg b h2⟩ h2 h3 ih

def drop (T : Tags) (ms : List Nat) : Tags := fun b => if b ∈ ms then .other else T b
theorem Sim.drop (h : Sim L σ T st a w) {ms : List Nat} (hms : ∀ r ∈ ms, ¬ Cellish w r) (hw : ∀ b, b ∉ ms → w1.heap[b]? = w.heap[b]?) (hsz : w1.heap.size = w.heap.size) : Sim L σ (drop T ms) st a w1 := by
  have hg : ∀ b, Cellish w b → b ∉ ms := fun b hc hb => hms b hb hc
  have hp : ∀ {x v}, PRep (fun b => T b = .ro) w x v → PRep (fun b => Go.Proofs.YtdahanchdjadiaaGreatDoor.drop T ms b = .ro) w1 x v := fun h =>
    (prep_avoid hg h).frame fun b hb _ => ⟨by simp [Go.Proofs.YtdahanchdjadiaaGreatDoor.drop, hb.1, hb.2], hw b hb.2⟩
  have hrow : ∀ {r sz es v}, RowRep T w r sz es v → RowRep (Go.Proofs.YtdahanchdjadiaaGreatDoor.drop T ms) w1 r sz es v := fun {r sz es v} h => by
    rcases h with h | ⟨b, c, arr, E, h1, h2, h3, h4, h5, h6, h7, h8⟩
    · exact .inl h
    · have hb : b ∉ ms := hg b ⟨_, _, _, h3⟩
      refine .inr ⟨b, c, arr, E, h1, by simp [Go.Proofs.YtdahanchdjadiaaGreatDoor.drop, hb, h2], (hw b hb).trans h3, h4, h5, h6, h7, fun i e j x hi hj => ?_⟩
      obtain ⟨u, k1, k2, k3⟩ := h8 i e j x hi hj
      exact ⟨u, k1, k2, hp k3⟩
  have hbox : ∀ o, o < st.boxes.length → σ o ∉ ms := fun o ho => hg _ (h.boxes o _ (List.getElem?_eq_getElem ho)).cellish
  have hhdr : ∀ r : Root, r.low st.boxes.length → hdr σ a w1 r = hdr σ a w r := fun r hr => by
    cases r with
    | slot t => rfl
    | part t i => rfl
    | cell o j => exact World.cell?_of_block (w := w) (a := ⟨σ o, j, none⟩) (hw _ (hbox o hr))
  refine ⟨h.size, fun t av v ht hv => ?_, fun o bx ho => ?_, fun b hb => ?_⟩
  · have hA := h.slots t av v ht hv
    cases av with
    | pv x => exact hp hA
    | row sz es => exact hrow hA
    | ref r off len => exact ⟨hA.1, fun sz es hr => by rw [hhdr r hA.1]; exact hA.2 sz es hr⟩
    | pbox o j => exact hA
    | pel r i j => exact ⟨hA.1, fun sz es hr => by rw [hhdr r hA.1]; exact hA.2 sz es hr⟩
    | fn f caps =>
      obtain ⟨arr, e1, e2, e3⟩ := hA
      refine ⟨arr, e1, e2, fun k x u hx hu => ?_⟩
      have := e3 k x u hx hu
      cases x with
      | pv p => exact hp this
      | _ => exact this
    | tup k l =>
      obtain ⟨arr, e1, e2, e3⟩ := hA
      refine ⟨arr, e1, e2, fun k x u hx hu => ?_⟩
      have := e3 k x u hx hu
      cases x with
      | pv p => exact hp this
      | row sz es => exact hrow this
      | _ => exact this
    | yld => exact hA
    | any => trivial
  · have hb := hbox o (List.getElem?_eq_some_iff.1 ho).1
    obtain ⟨arr, E, g1, g2, g3, g4, g5⟩ := h.boxes o bx ho
    refine ⟨arr, E, (hw _ hb).trans g1, g2, by simp only [Go.Proofs.YtdahanchdjadiaaGreatDoor.drop, if_neg hb]; exact g3, g4, fun j bv u hj hu => ?_⟩
    obtain ⟨k1, k2⟩ := g5 j bv u hj hu
    refine ⟨k1, ?_⟩
    cases bv with
    | pv x => exact hp k2
    | row sz es => exact hrow k2
  · unfold Go.Proofs.YtdahanchdjadiaaGreatDoor.drop
    split
    · rfl
    · exact h.fresh b (by omega)

def outT (T : Tags) (K : Nat) : Tags := fun b => match T b with
  | .ro => .ro
  | .row (.part k i) => if k = K then .row (.part 0 i) else .other
  | _ => .other
theorem PartRep.frameTo {k : Nat} {x : AV} {v : Value} (h : PartRep T w K k x v) : PartRep (outT T K) w 0 k x v := by
  cases x with
  | pv p => exact PRep.frame (fun b e _ => ⟨by simp [outT, e], rfl⟩) h
  | row sz es => exact RowRep.frame (fun b e _ => ⟨by simp [outT, e], rfl⟩) (fun b e _ => ⟨by simp [outT, e], rfl⟩) h
  | any => trivial
  | _ => exact h
theorem RK.out0 {i : Nat} {x : Res} {u : Value} (h : RK T w K i x u) : R1 (outT T K) w i x u := by
  have hp : ∀ {x v}, PRep (fun b => T b = .ro) w x v → PRep (fun b => outT T K b = .ro) w x v := fun h => h.frame fun b hb _ => ⟨by simp [outT, hb], rfl⟩
  have hrow : ∀ {sz es}, RowRep T w (.part K i) sz es u → RowRep (outT T K) w (.part 0 i) sz es u := fun h => RowRep.frame (fun b e _ => ⟨by simp [outT, e], rfl⟩) (fun b e _ => ⟨by simp [outT, e], rfl⟩) h
  obtain ⟨v, own⟩ := x
  cases v <;> cases own <;> first | exact hrow h | exact hp h | exact False.elim h

theorem RK.out {i : Nat} {x : Res} {u : Value} (h : RKo T w K i x u) : R1 (outT T K) w i x u := by
  rcases h with h | ⟨_, cs, rfl, arr, rfl, h1, h2⟩
  · exact RK.out0 h
  · exact ⟨arr, rfl, h1, fun k x v hx hv => PartRep.frameTo (h2 k x v hx hv)⟩

def fnOk (P : Program) (f : Nat) (fn : VFn) : Bool :=
  match P.funcs[f]? with
  | some g => (match g.body with
    | some c => mC P c fn.body
    | none => false) && g.name != "runtime.NumGoroutine" && g.ntmps == fn.ntmps && decide (fn.nargs ≤ fn.ntmps) && mResL P g.results.toList fn.results
  | none => false
theorem fnOk_eq {f : Nat} {fn : VFn} (h : fnOk P f fn = true) : callable P f = true ∧ ∃ g c, P.funcs[f]? = some g ∧ g.body = some c ∧ mC P c fn.body = true ∧ g.ntmps = fn.ntmps ∧ fn.nargs ≤ fn.ntmps ∧ mResL P g.results.toList fn.results = true := by
  unfold fnOk at h
  split at h
  case h_2 => cases h
  rename_i g hf
  simp only [Bool.and_eq_true, beq_iff_eq, bne_iff_ne, decide_eq_true_eq] at h
  obtain ⟨⟨⟨⟨h1, h2⟩, h3⟩, h4⟩, h5⟩ := h
  split at h1
  case h_2 => cases h1
  rename_i c hb
  exact ⟨by simp [callable, hf, h2, hb], g, c, hf, hb, h1, h3, h4, h5⟩
def EnvOk (P : Program) (env : Env) : Prop := ∀ f d, env f = some d → match d with
  | .code fn => fnOk P f fn = true
  | .ext g => ∀ args rs, g args = some rs → callable P f = true ∧ CallOk P f args rs
  | .srt h => callable P f = true ∧ SortOk P f h

def plainJ (T0 : Tags) (w : World) : Nat → Tags → World → Prop := fun _ T w' => Below w.heap.size w w' ∧ ∀ b, b < w.heap.size → T b = T0 b
theorem plainJ_keep {T0 : Tags} (h0 : ∀ b, T0 b = .ro ∨ T0 b = .other) {k : Nat} {w w1 w2 : World} (hc : Chg T T' w1 w2) (h : plainJ T0 w k T w1) : plainJ T0 w k T' w2 := by
  obtain ⟨h1, h2⟩ := h
  refine ⟨h1.trans ⟨hc.os, hc.tape, hc.output, hc.size, fun b hb => hc.same b (Nat.lt_of_lt_of_le hb h1.size) ?_⟩, fun b hb => ?_⟩
  · rw [h2 b hb]; exact h0 b
  · rcases h0 b with e | e
    · rw [e]; exact hc.ro b (by rw [h2 b hb, e])
    · rw [e]; exact hc.other b (Nat.lt_of_lt_of_le hb h1.size) (by rw [h2 b hb, e])

theorem init_sim {T0 : Tags} {args : List PV} {vs : List Value} {n : Nat} (hf : ∀ b, w.heap.size ≤ b → T0 b = .other) (hl : vs.length = args.length) (hr : ∀ (i : Nat) x v, args[i]? = some x → vs[i]? = some v → PRep (fun b => T0 b = .ro) w x v) (ys : List (List PV)) (stop : Option (Option Nat)) :
    Sim L σ T0 ⟨args.map .pv ++ List.replicate (n - args.length) .any, [], ys, stop⟩ { tmps := vs.toArray ++ Array.replicate (n - vs.toArray.size) undef, defers := [] } w := by
  refine ⟨by simp [hl], fun t av v ht hv => ?_, fun o bx ho => by simp at ho, hf⟩
  simp only at ht hv
  rcases Nat.lt_or_ge t args.length with h | h
  · rw [List.getElem?_append_left (by simpa using h), List.getElem?_map, List.getElem?_eq_getElem h] at ht
    rw [Array.getElem?_append_left (by simpa [hl] using h)] at hv
    cases ht
    exact hr t _ v (List.getElem?_eq_getElem h) (by simpa using hv)
  · rw [List.getElem?_append_right (by simpa using h), List.getElem?_replicate] at ht
    split at ht
    · cases ht; trivial
    · cases ht

theorem code_call (hR : RecOk P rec) {f : Nat} {fn : VFn} {args : List PV} {rs : List Res} (hfn : fnOk P f fn = true) (hl : args.length = fn.nargs) {e : Ex} (he : ∀ i, e ≠ .exit i)
    (hb : rec fn.body ⟨args.map .pv ++ List.replicate (fn.ntmps - args.length) .any, [], [], none⟩ = some (e, st)) (hrs : resultsOf st fn.results = some rs) : CallOk P f args rs := by
  intro T0 w vs h0 hf hlen hr hG
  obtain ⟨_, g, c, k1, k2, k3, k4, k5, k6⟩ := fnOk_eq hfn
  refine (callsIn_wide (n := 0)).1 (callsIn_of_wp_marks k1 k2 trivial ?_)
  rw [k4]
  have hsim : Sim 0 (fun _ => 0) T0 ⟨args.map .pv ++ List.replicate (fn.ntmps - args.length) .any, [], [], none⟩ { tmps := vs.toArray ++ Array.replicate (fn.ntmps - vs.toArray.size) undef, defers := [] } w := init_sim hf hlen hr [] none
  have hC : Ctx.Ok ⟨st.ys, none, plainJ T0 w⟩ P 0 := ⟨fun k T T' w1 w2 hc h => plainJ_keep (k := k) h0 hc h, fun k T w1 h => hG.frame fun b e hb => ⟨(h.2 b hb).trans e, h.1.block b hb⟩, fun s k T w ps vs hs => by cases hs⟩
  have hJ : plainJ T0 w 0 T0 w := ⟨Below.refl _ _, fun _ _ => rfl⟩
  refine wpIn_mono (hR.wp (F := Fence.wide) (L := 0) (C := ⟨st.ys, none, plainJ T0 w⟩) (n := 0) (.inl rfl) (Ctx.rec_wide _) hC c fn.body _ e st k3 hb rfl (List.prefix_refl _) _ T0 _ w hsim hJ) ?_
  rintro x a' w' ⟨rfl, σ', T', ms, q1, q2, q3, q4, q5, q6⟩
  obtain ⟨p1, p2⟩ := q2
  have key : LeavesInM Fence.wide 0 P g a'.tmps (fun e w' => ∃ v T', e = .returned v ∧ Below w.heap.size w w' ∧ (∀ b, b < w.heap.size → T' b = T0 b) ∧ (∀ b, w'.heap.size ≤ b → T' b = .other) ∧ ResRep T' w' rs v) a'.defers .returning w' := by
    rw [q5, List.append_nil]
    refine leavesM_marks (B := w.heap.size) q6.2 (fun r hr => ⟨(q6.1 r hr).1, (q6.1 r hr).2.2⟩) fun w2 e1 e2 e3 e4 e5 => ?_
    have q1' := q1.drop (fun r hr ⟨arr, E, q, e⟩ => by rw [(q6.1 r hr).2.2] at e; cases e) e5 e4
    obtain ⟨us, T2, r1, r2, r3, r4, r5⟩ := results_ok q1' k6 hrs
    have hms : ∀ b, b < w.heap.size → b ∉ ms := fun b hb hm => by have := (q6.1 b hm).1; omega
    have hT2 : ∀ b, b < w.heap.size → T2 b = T0 b := fun b hb => by
      have e : drop T' ms b = T0 b := by simp only [drop, if_neg (hms b hb)]; exact p2 b hb
      rcases h0 b with e0 | e0
      · rw [e0]; exact r3.ro b (by rw [e, e0])
      · rw [e0]; exact r3.other b (by rw [e, e0])
    refine ⟨_, results_run r1, _, outT T2 st.slots.length, rfl, p1.trans ⟨e1, e2, e3, by omega, fun b hb => e5 b (hms b hb)⟩, fun b hb => ?_, fun b hb => ?_, us.toArray, by simpa using r2, rfl, fun i x u hx hu => RK.out (r5 i x u hx (by simpa using hu))⟩
    · simp only [outT, hT2 b hb]
      rcases h0 b with e0 | e0 <;> rw [e0]
    · simp only [outT, r4 b hb]
  cases e with
  | normal => exact key
  | ret => exact key
  | exit i => exact absurd rfl (he i)

theorem init_simL {T0 : Tags} {x : LArg} {v : Value} {args : List PV} {vs : List Value} {n : Nat} (hf : ∀ b, w.heap.size ≤ b → T0 b = .other) (hx : LRep T0 w v x) (hl : vs.length = args.length) (hr : ∀ (i : Nat) x v, args[i]? = some x → vs[i]? = some v → PRep (fun b => T0 b = .ro) w x v) :
    ∃ σ : Nat → Nat, Sim 0 σ T0 ⟨x.av :: (args.map .pv ++ List.replicate (n - (args.length + 1)) .any), x.boxes, [], none⟩ { tmps := (v :: vs).toArray ++ Array.replicate (n - (v :: vs).toArray.size) undef, defers := [] } w ∧ ∀ b, v = .pointer (some ⟨b, 0, none⟩) → (∃ cs, x = .box cs) → σ 0 = b := by
  obtain ⟨b0, hb0⟩ : ∃ b0, ∀ cs, x = .box cs → v = .pointer (some ⟨b0, 0, none⟩) ∧ BoxRep T0 w b0 0 ⟨false, cs.map .pv⟩ := by
    cases x with
    | box cs => obtain ⟨b, h1, h2⟩ := hx; exact ⟨b, fun cs' e => by cases e; exact ⟨h1, h2⟩⟩
    | row sz es => exact ⟨0, fun _ e => by cases e⟩
    | own l => exact ⟨0, fun _ e => by cases e⟩
  refine ⟨fun _ => b0, ⟨by simp [hl]; omega, fun t av u ht hu => ?_, fun o bx ho => ?_, hf⟩, fun b hb ⟨cs, hcs⟩ => ?_⟩
  · cases t with
    | zero =>
      simp only [List.getElem?_cons_zero, Option.some.injEq] at ht
      have hu' : u = v := by
        have : ((v :: vs).toArray ++ Array.replicate (n - (v :: vs).toArray.size) undef)[0]? = some v := by rw [Array.getElem?_append_left (by simp)]; rfl
        rw [this] at hu; exact (Option.some.inj hu).symm
      subst hu'
      subst ht
      cases x with
      | row sz es => exact hx
      | own l => obtain ⟨arr, h1, h2, h3⟩ := hx; exact ⟨arr, h1, h2, h3⟩
      | box cs => exact ⟨by simp [LArg.boxes], (hb0 cs rfl).1⟩
    | succ t =>
      rw [List.getElem?_cons_succ] at ht
      rcases Nat.lt_or_ge t args.length with h | h
      · rw [List.getElem?_append_left (by simpa using h), List.getElem?_map, List.getElem?_eq_getElem h] at ht
        simp only at hu
        rw [Array.getElem?_append_left (by simp [hl]; omega)] at hu
        cases ht
        exact hr t _ u (List.getElem?_eq_getElem h) (by simpa using hu)
      · rw [List.getElem?_append_right (by simpa using h), List.getElem?_replicate] at ht
        split at ht
        · cases ht; trivial
        · cases ht
  · cases x with
    | box cs =>
      cases o with
      | zero =>
        simp only [LArg.boxes, List.getElem?_cons_zero, Option.some.injEq] at ho
        subst ho
        exact (hb0 cs rfl).2
      | succ o => simp [LArg.boxes] at ho
    | row sz es => simp [LArg.boxes] at ho
    | own l => simp [LArg.boxes] at ho
  · have := (hb0 cs hcs).1
    rw [this] at hb
    injection hb with hb
    injection hb with hb
    injection hb with hb

def linJ (T0 : Tags) (w : World) : Nat → Tags → World → Prop := fun _ T w' => w.heap.size ≤ w'.heap.size ∧ w'.os = w.os ∧ w'.tape = w.tape ∧ w'.output = w.output ∧ ∀ b, b < w.heap.size → (T0 b = .ro ∨ T0 b = .other) → w'.heap[b]? = w.heap[b]? ∧ T b = T0 b
theorem linJ_keep {T0 : Tags} {k : Nat} {w w1 w2 : World} (hc : Chg T T' w1 w2) (h : linJ T0 w k T w1) : linJ T0 w k T' w2 := by
  obtain ⟨h1, h2, h3, h4, h5⟩ := h
  refine ⟨Nat.le_trans h1 hc.size, hc.os.trans h2, hc.tape.trans h3, hc.output.trans h4, fun b hb e => ?_⟩
  obtain ⟨k1, k2⟩ := h5 b hb e
  have hl := Nat.lt_of_lt_of_le hb h1
  refine ⟨(hc.same b hl (by rw [k2]; exact e)).trans k1, ?_⟩
  rcases e with e | e
  · rw [e]; exact hc.ro b (by rw [k2, e])
  · rw [e]; exact hc.other b hl (by rw [k2, e])

theorem code_callL (hR : RecOk P rec) {f : Nat} {fn : VFn} {x : LArg} {args : List PV} {rs : List Res} {out : Option (List PV)} (hfn : fnOk P f fn = true) {e : Ex} (he : ∀ i, e ≠ .exit i)
    (hb : rec fn.body ⟨x.av :: (args.map .pv ++ List.replicate (fn.ntmps - (args.length + 1)) .any), x.boxes, [], none⟩ = some (e, st)) (hrs : linRes x st fn.results = some (rs, out)) : CallOkL P f x args rs out := by
  intro T0 w v vs hf hx hlen hr hG
  obtain ⟨_, g, c, k1, k2, k3, k4, k5, k6⟩ := fnOk_eq hfn
  refine (callsIn_wide (n := 0)).1 (callsIn_of_wp_marks k1 k2 trivial ?_)
  rw [k4]
  obtain ⟨σ0, hsim, hσ0⟩ := init_simL (n := fn.ntmps) hf hx hlen hr
  have hC : Ctx.Ok ⟨st.ys, none, linJ T0 w⟩ P 0 := ⟨fun k T T' w1 w2 hc h => linJ_keep (k := k) hc h, fun k T w1 h => hG.frame fun b e hb => ⟨by rw [(h.2.2.2.2 b hb (.inl e)).2, e], (h.2.2.2.2 b hb (.inl e)).1⟩, fun s k T w ps vs hs => by cases hs⟩
  have hJ : linJ T0 w 0 T0 w := ⟨Nat.le_refl _, rfl, rfl, rfl, fun _ _ _ => ⟨rfl, rfl⟩⟩
  refine wpIn_mono (hR.wp (F := Fence.wide) (L := 0) (C := ⟨st.ys, none, linJ T0 w⟩) (n := 0) (.inl rfl) (Ctx.rec_wide _) hC c fn.body _ e st k3 hb rfl (List.prefix_refl _) _ T0 _ w hsim hJ) ?_
  rintro x' a' w' ⟨rfl, σ', T', ms, q1, q2, q3, q4, q5, q6⟩
  obtain ⟨p1, p2, p3, p4, p5⟩ := q2
  have key : LeavesInM Fence.wide 0 P g a'.tmps (fun e w' => ∃ u T', e = .returned u ∧ w.heap.size ≤ w'.heap.size ∧ w'.os = w.os ∧ w'.tape = w.tape ∧ w'.output = w.output ∧ (∀ b, b < w.heap.size → (T0 b = .ro ∨ T0 b = .other) → w'.heap[b]? = w.heap[b]? ∧ T' b = T0 b) ∧ (∀ b, w'.heap.size ≤ b → T' b = .other) ∧ ResRep T' w' rs u ∧ LOut T' w' v out) a'.defers .returning w' := by
    rw [q5, List.append_nil]
    refine leavesM_marks (B := w.heap.size) q6.2 (fun r hr => ⟨(q6.1 r hr).1, (q6.1 r hr).2.2⟩) fun w2 e1 e2 e3 e4 e5 => ?_
    have q1' := q1.drop (fun r hr ⟨arr, E, q, e⟩ => by rw [(q6.1 r hr).2.2] at e; cases e) e5 e4
    have hms : ∀ b, b < w.heap.size → b ∉ ms := fun b hb hm => by have := (q6.1 b hm).1; omega
    -- what the results leave of the tags
    have fin : ∀ (T1 T2 : Tags) (K : Nat), Still (Go.Proofs.YtdahanchdjadiaaGreatDoor.drop T' ms) T1 → Still T1 T2 → ∀ b, b < w.heap.size → (T0 b = .ro ∨ T0 b = .other) → w2.heap[b]? = w.heap[b]? ∧ outT T2 K b = T0 b := fun T1 T2 K s1 s2 b hb e => by
      obtain ⟨y1, y2⟩ := p5 b hb e
      refine ⟨(e5 b (hms b hb)).trans y1, ?_⟩
      have ed : Go.Proofs.YtdahanchdjadiaaGreatDoor.drop T' ms b = T0 b := by simp only [Go.Proofs.YtdahanchdjadiaaGreatDoor.drop, if_neg (hms b hb)]; exact y2
      rcases e with e | e
      · simp only [outT, s2.ro b (s1.ro b (by rw [ed, e])), e]
      · simp only [outT, s2.other b (s1.other b (by rw [ed, e])), e]
    have plain : (∀ cs, x ≠ .box cs) → resultsOf st fn.results = some rs → out = none → ∃ u T', (results g a'.tmps).run P w2 = .ok u w2 ∧ (∀ b, b < w.heap.size → (T0 b = .ro ∨ T0 b = .other) → w2.heap[b]? = w.heap[b]? ∧ T' b = T0 b) ∧ (∀ b, w2.heap.size ≤ b → T' b = .other) ∧ ResRep T' w2 rs u ∧ LOut T' w2 v out := fun _ h1 h2 => by
      obtain ⟨us, T2, r1, r2, r3, r4, r5⟩ := results_ok q1' k6 h1
      refine ⟨_, outT T2 st.slots.length, results_run r1, fin _ T2 _ (Still.refl _) r3, fun b hb => by simp only [outT, r4 b hb], ⟨us.toArray, by simpa using r2, rfl, fun i x u hx hu => RK.out (r5 i x u hx (by simpa using hu))⟩, by rw [h2]; trivial⟩
    have pack : ∀ (u : Value) (T2 : Tags), (∀ b, b < w.heap.size → (T0 b = .ro ∨ T0 b = .other) → w2.heap[b]? = w.heap[b]? ∧ T2 b = T0 b) → (∀ b, w2.heap.size ≤ b → T2 b = .other) → ResRep T2 w2 rs u → LOut T2 w2 v out → ∃ u' T', Ending.returned u = .returned u' ∧ w.heap.size ≤ w2.heap.size ∧ w2.os = w.os ∧ w2.tape = w.tape ∧ w2.output = w.output ∧ (∀ b, b < w.heap.size → (T0 b = .ro ∨ T0 b = .other) → w2.heap[b]? = w.heap[b]? ∧ T' b = T0 b) ∧ (∀ b, w2.heap.size ≤ b → T' b = .other) ∧ ResRep T' w2 rs u' ∧ LOut T' w2 v out := fun u T2 s1 s2 s3 s4 =>
      ⟨u, T2, rfl, by omega, e1.trans p2, e2.trans p3, e3.trans p4, s1, s2, s3, s4⟩
    unfold linRes at hrs
    cases x with
    | row sz es =>
      obtain ⟨l, h1, h2⟩ := map_some' hrs
      cases h2
      obtain ⟨u, T2, s0, s1, s2, s3, s4⟩ := plain (fun _ e => by cases e) h1 rfl
      exact ⟨u, s0, pack u T2 s1 s2 s3 s4⟩
    | own lo =>
      obtain ⟨l, h1, h2⟩ := map_some' hrs
      cases h2
      obtain ⟨u, T2, s0, s1, s2, s3, s4⟩ := plain (fun _ e => by cases e) h1 rfl
      exact ⟨u, s0, pack u T2 s1 s2 s3 s4⟩
    | box cs =>
      simp only at hrs
      split at hrs
      case h_2 => cases hrs
      rename_i bx hbx
      split at hrs
      · cases hrs
      rename_i hfz
      have hfz : bx.fz = false := by simpa using hfz
      obtain ⟨l, h1, h2⟩ := map_some' hrs
      cases h2
      obtain ⟨T1, t1, t2, _, _, _⟩ := q1'.freezeRowsB 0
      obtain ⟨us, T2, r1, r2, r3, r4, r5, _, r7⟩ := result_list 0 t1 k6 h1 (Nat.le_refl _)
      have hσ : σ' 0 = σ0 0 := q3 0 (by simp [LArg.boxes])
      obtain ⟨arr, E, g1, g2, g3, g4, g5⟩ := t1.boxes 0 bx hbx
      have hT1 : T1 (σ' 0) = .box 0 := by rw [g3]; simp [hfz]
      have hrow : ∀ (j s : Nat) (l : List PV), bx.cs[j]? ≠ some (BV.row s l) := fun j s l e => by
        unfold St.freezeRows at hbx
        cases h0 : st.boxes[0]? with
        | none => rw [h0] at hbx; simp only at hbx; rw [h0] at hbx; cases hbx
        | some b0 =>
          rw [h0] at hbx
          have hl0 : 0 < st.boxes.length := (List.getElem?_eq_some_iff.1 h0).1
          simp only [List.getElem?_set_self hl0, Option.some.injEq] at hbx
          rw [← hbx] at e
          obtain ⟨x, _, hx⟩ := frozen_get e
          cases hx
      refine ⟨_, results_run r1, pack _ (outT T2 (st.freezeRows 0).slots.length) (fin T1 T2 _ t2 r3) (fun b hb => by simp only [outT, r4 b hb]) ⟨us.toArray, by simpa using r2, rfl, fun i x u hx hu => RK.out (.inl (by simpa using r5 i x u hx (by simpa using hu)))⟩ fun b hv => ?_⟩
      have hb0 : σ' 0 = b := hσ.trans (hσ0 b hv ⟨cs, rfl⟩)
      rw [hb0] at g1 hT1
      refine ⟨by simp only [outT, r7 b 0 hT1], arr, E, g1, by simpa using g2, fun j x u hx hu => ?_⟩
      rw [List.getElem?_map] at hx
      cases hc : bx.cs[j]? with
      | none => rw [hc] at hx; cases hx
      | some bv =>
        rw [hc] at hx
        have hx := Option.some.inj hx
        subst hx
        obtain ⟨y1, y2⟩ := g5 j bv u hc hu
        refine ⟨y1, ?_⟩
        cases bv with
        | pv p => exact PRep.frame (fun b hb _ => ⟨by simp only [outT, r3.ro b hb], rfl⟩) y2
        | row s l => exact absurd hc (hrow j s l)
  cases e with
  | normal => exact key
  | ret => exact key
  | exit i => exact absurd rfl (he i)

theorem calls_ok (hR : RecOk P rec) (hE : EnvOk P env) : CallsOk P rec env := by
  refine ⟨?_, (fun f h e => hE f _ e), ?_⟩
  rotate_left
  · intro f x args rs out h
    unfold callLin at h
    split at h
    · rename_i fn hfn
      have hok : fnOk P f fn = true := hE f _ hfn
      split at h
      case isFalse => cases h
      replace h := bind_some h
      obtain ⟨⟨e, st⟩, h1, h⟩ := h
      simp only at h
      refine ⟨(fnOk_eq hok).1, ?_⟩
      split at h
      · cases h
      · rename_i hne
        exact code_callL hR hok (fun i e => hne i e) h1 h
    · cases h
  intro f args rs h
  unfold callRes at h
  split at h
  · rename_i g hg
    exact hE f _ hg args rs h
  · rename_i fn hfn
    have hok : fnOk P f fn = true := hE f _ hfn
    split at h
    case isFalse => cases h
    rename_i hl
    replace h := bind_some h
    obtain ⟨⟨e, st⟩, h1, h⟩ := h
    simp only at h
    refine ⟨(fnOk_eq hok).1, ?_⟩
    split at h
    · cases h
    · rename_i hne
      exact code_call hR hok hl (fun i e => hne i e) h1 h
  · cases h
  · cases h
theorem iters_ok (hE : EnvOk P env) : ItersOk P env := fun f fn hfn => by
  have hok : fnOk P f fn = true := hE f _ hfn
  obtain ⟨k0, g, c, k1, k2, k3, k4, k5, k6⟩ := fnOk_eq hok
  refine ⟨k0, g, c, k1, k2, k3, k4, k5, fun he => ?_⟩
  have : fn.results = [] := by simpa using he
  rw [this] at k6
  have : g.results.toList = [] := by
    match h : g.results.toList, k6 with
    | [], _ => rfl
    | _ :: _, k6 => simp [mResL] at k6
  exact Array.toList_eq_nil_iff.1 this
theorem vm_ok (hE : EnvOk P env) : ∀ n, RecOk P (vm env n)
  | 0 => ⟨(fun _ _ _ _ _ _ h => by simp [vm] at h), (fun _ _ _ _ _ _ _ _ h => by simp [vm] at h), (fun _ _ _ _ _ _ _ _ _ h => by simp [vm] at h), (fun _ _ _ _ _ _ _ _ _ _ _ h => by simp [vm] at h)⟩
  | n + 1 => step_ok (vm_ok hE n) (iters_ok hE) (calls_ok (vm_ok hE n) hE)
theorem vmCall_ok (hE : EnvOk P env) {n f : Nat} {args : List PV} {rs : List Res} (h : vmCall env n f args = some rs) : callable P f = true ∧ CallOk P f args rs := (calls_ok (vm_ok hE n) hE).1 f args rs h
end
end Go.Proofs.YtdahanchdjadiaaGreatDoor

namespace Go.Proofs.YtdahanchdjadiaaGreatDoor

abbrev Rec := VCode → St → Option (Ex × St)
def RLe (f g : Rec) : Prop := ∀ c st r, f c st = some r → g c st = some r
open Classical in
noncomputable def den (env : Env) (c : VCode) (st : St) : Option (Ex × St) :=
  if h : ∃ n r, vm env n c st = some r then some (Classical.choose (Classical.choose_spec h)) else none

structure Good {α : Type} (env : Env) (F : Rec → Option α) : Prop where
  mono : ∀ f g, RLe f g → ∀ r, F f = some r → F g = some r
  cont : (∀ m n, m ≤ n → RLe (vm env m) (vm env n)) → ∀ r, F (den env) = some r → ∃ n, F (vm env n) = some r

section
variable {α β : Type} {env : Env}
theorem Good.const (x : Option α) : Good env (fun _ => x) := ⟨fun _ _ _ _ h => h, fun _ _ h => ⟨0, h⟩⟩
theorem Good.app (c : VCode) (st : St) : Good env (fun rec => rec c st) := ⟨fun _ _ h r => h c st r, fun _ r h => by
  unfold den at h
  split at h
  case isFalse => cases h
  rename_i hx
  cases h
  exact ⟨_, Classical.choose_spec (Classical.choose_spec hx)⟩⟩
theorem Good.bind {F : Rec → Option α} {G : α → Rec → Option β} (hF : Good env F) (hG : ∀ a, Good env (G a)) : Good env (fun rec => (F rec).bind fun a => G a rec) := ⟨fun f g h r e => by
  obtain ⟨a, h1, h2⟩ := Option.bind_eq_some_iff.1 e
  exact Option.bind_eq_some_iff.2 ⟨a, hF.mono f g h a h1, (hG a).mono f g h r h2⟩, fun hm r e => by
  obtain ⟨a, h1, h2⟩ := Option.bind_eq_some_iff.1 e
  obtain ⟨m, h3⟩ := hF.cont hm a h1
  obtain ⟨n, h4⟩ := (hG a).cont hm r h2
  exact ⟨max m n, Option.bind_eq_some_iff.2 ⟨a, hF.mono _ _ (hm m _ (Nat.le_max_left m n)) a h3, (hG a).mono _ _ (hm n _ (Nat.le_max_right m n)) r h4⟩⟩⟩
theorem Good.map {F : Rec → Option α} {g : α → β} (hF : Good env F) : Good env (fun rec => (F rec).map g) := by
  have := hF.bind (G := fun a _ => some (g a)) fun a => Good.const _
  refine ⟨fun f g' h r e => ?_, fun hm r e => ?_⟩
  · have := this.mono f g' h r (by simpa [Option.map_eq_bind, Function.comp_def] using e)
    simpa [Option.map_eq_bind, Function.comp_def] using this
  · obtain ⟨n, hn⟩ := this.cont hm r (by simpa [Option.map_eq_bind, Function.comp_def] using e)
    exact ⟨n, by simpa [Option.map_eq_bind, Function.comp_def] using hn⟩
theorem Good.callRes (f : Nat) (args : List PV) : Good env (fun rec => callRes rec env f args) := by
  unfold Go.Proofs.YtdahanchdjadiaaGreatDoor.callRes
  split
  · exact Good.const _
  · split
    · refine (Good.app _ _).bind fun a => ?_
      obtain ⟨e, st⟩ := a
      cases e <;> exact Good.const _
    · exact Good.const _
  · exact Good.const _
  · exact Good.const _
theorem Good.iterRes (f : Nat) (args : List PV) (s : Option Nat) : Good env (fun rec => iterRes rec env f args s) := by
  unfold Go.Proofs.YtdahanchdjadiaaGreatDoor.iterRes
  split
  · split
    · refine (Good.app _ _).bind fun a => ?_
      obtain ⟨e, st⟩ := a
      cases e <;> exact Good.const _
    · exact Good.const _
  · exact Good.const _
theorem Good.callOn (d f : Nat) (args : List Opd) (caps : List AV) (st : St) : Good env (fun rec => callOn rec env d f args caps st) := by
  unfold Go.Proofs.YtdahanchdjadiaaGreatDoor.callOn
  exact (Good.const _).bind fun l => (Good.const _).bind fun k => (Good.callRes f _).bind fun rs => Good.const _
theorem Good.callLin (f : Nat) (x : LArg) (args : List PV) : Good env (fun rec => callLin rec env f x args) := by
  unfold Go.Proofs.YtdahanchdjadiaaGreatDoor.callLin
  split
  · split
    · refine (Good.app _ _).bind fun a => ?_
      obtain ⟨e, st⟩ := a
      cases e <;> exact Good.const _
    · exact Good.const _
  · exact Good.const _
theorem Good.callOnL (d f : Nat) (x : Opd) (args : List Opd) (caps : List AV) (st : St) : Good env (fun rec => callOnL rec env d f x args caps st) := by
  unfold Go.Proofs.YtdahanchdjadiaaGreatDoor.callOnL
  exact (Good.const _).bind fun l => (Good.const _).bind fun k => (Good.const _).bind fun q => (Good.callLin f _ _).bind fun r => Good.const _
theorem Good.act (o : VOp) (st : St) : Good env (fun rec => act rec env o st) := by
  cases o
  case call d f args => exact Good.callOn d f args [] st
  case callv d x args =>
    unfold Go.Proofs.YtdahanchdjadiaaGreatDoor.act
    simp only
    split
    · exact Good.callOn _ _ _ _ _
    · exact Good.callOn _ _ _ _ _
    · exact Good.const _
  case lin d f x args => exact Good.callOnL d f x args [] st
  case linv d g x args =>
    unfold Go.Proofs.YtdahanchdjadiaaGreatDoor.act
    simp only
    split
    · exact Good.callOnL _ _ _ _ _ _
    · exact Good.callOnL _ _ _ _ _ _
    · exact Good.const _
  all_goals exact Good.const _
theorem Good.op1 (o : VOp) (st : St) : Good env (fun rec => op1 rec env o st) := by
  unfold Go.Proofs.YtdahanchdjadiaaGreatDoor.op1
  split
  · exact Good.act o st
  · exact Good.const _
theorem Good.op (o : VOp) (st : St) : Good env (fun rec => op rec env o st) := by
  unfold Go.Proofs.YtdahanchdjadiaaGreatDoor.op
  split
  · split
    · split
      · exact Good.op1 _ _
      · exact Good.const _
    · exact Good.const _
    · exact Good.const _
  · exact Good.op1 _ _
theorem Good.ops : ∀ (l : List VOp) (st : St), Good env (fun rec => ops rec env l st)
  | [], st => Good.const _
  | o :: l, st => (Good.op o st).bind fun st => Good.ops l st
theorem Good.rounds (slots : List AV) (ps : List Nat) (assign body : VCode) (nb : Nat) : ∀ (xs : List (List PV)) (k : Nat) (st : St), Good env (fun rec => rounds rec slots ps assign body nb k xs st)
  | [], k, st => by unfold Go.Proofs.YtdahanchdjadiaaGreatDoor.rounds; exact Good.const _
  | x :: xs, k, st => by
    unfold Go.Proofs.YtdahanchdjadiaaGreatDoor.rounds
    refine (Good.const _).bind fun sl => (Good.app _ _).bind fun a => ?_
    obtain ⟨e, st⟩ := a
    cases e
    case normal =>
      refine (Good.app _ _).bind fun a => ?_
      obtain ⟨e, st⟩ := a
      cases e
      case normal =>
        simp only
        split
        · exact Good.rounds slots ps assign body nb xs (k + 1) _
        · exact Good.const _
      all_goals exact Good.const _
    all_goals exact Good.const _
theorem Good.ranged (g : Opd) (ps : List Nat) (assign body : VCode) (st : St) : Good env (fun rec => ranged rec env g ps assign body st) := by
  unfold Go.Proofs.YtdahanchdjadiaaGreatDoor.ranged
  refine (Good.const _).bind fun v => ?_
  cases v <;> try exact Good.const _
  simp only
  refine (Good.iterRes _ _ _).bind fun xs => (Good.rounds _ _ _ _ _ _ _ _).bind fun r => ?_
  obtain ⟨r, st1⟩ := r
  cases r with
  | none => exact Good.const _
  | some p =>
    obtain ⟨e, k⟩ := p
    refine (Good.iterRes _ _ _).bind fun xs => (Good.rounds _ _ _ _ _ _ _ _).bind fun r => ?_
    obtain ⟨r, st1⟩ := r
    cases r <;> exact Good.const _
theorem Good.altRun (keep : List Nat) (vo : List VOp) (st : St) (x : DAlt) : Good env (fun rec => altRun rec env keep vo st x) := by
  unfold Go.Proofs.YtdahanchdjadiaaGreatDoor.altRun
  exact (Good.ops _ _).bind fun s => Good.const _
theorem Good.agree (keep : List Nat) (vo : List VOp) (st s : St) : ∀ l : List DAlt, Good env (fun rec => agree s (l.map (Go.Proofs.YtdahanchdjadiaaGreatDoor.altRun rec env keep vo st)))
  | [] => Good.const _
  | x :: xs => by
    simp only [List.map_cons, Go.Proofs.YtdahanchdjadiaaGreatDoor.agree]
    refine (Good.altRun keep vo st x).bind fun s' => ?_
    split
    · exact Good.agree keep vo st s xs
    · exact Good.const _
theorem Good.runAlts (keep : List Nat) (vo : List VOp) (st : St) (l : List DAlt) : Good env (fun rec => runAlts rec env keep vo st l) := by
  cases l with
  | nil => exact Good.const _
  | cons x xs =>
    simp only [Go.Proofs.YtdahanchdjadiaaGreatDoor.runAlts]
    exact (Good.altRun keep vo st x).bind fun s => Good.agree keep vo st s xs
theorem Good.step (c : VCode) (st : St) : Good env (fun rec => step rec env c st) := by
  cases c
  case ops l => exact (Good.ops l st).map
  case drw fz _ _ _ l => exact (Good.ops l (fz.foldl St.freezeAt st)).map
  case drs fz keep vo alts => exact (Good.runAlts keep vo (fz.foldl St.freezeAt st) alts).map
  case seq a b =>
    refine (Good.app _ _).bind fun x => ?_
    obtain ⟨e, st⟩ := x
    cases e
    case normal => exact Good.app _ _
    all_goals exact Good.const _
  case cond c a b =>
    refine (Good.const _).bind fun v => ?_
    cases v <;> try exact Good.const _
    simp only
    split
    · exact Good.app _ _
    · exact Good.app _ _
  case block i a =>
    refine (Good.app _ _).bind fun x => ?_
    obtain ⟨e, st⟩ := x
    exact Good.const _
  case loop => exact Good.app _ _
  case round keep nb a =>
    refine (Good.const _).bind fun s => (Good.app _ _).bind fun x => ?_
    obtain ⟨e, st⟩ := x
    cases e
    case normal => exact Good.app _ _
    all_goals exact Good.const _
  case rng g ps assign body => exact Good.ranged g ps assign body st
  case clean pre post a =>
    refine (Good.const _).bind fun s => (Good.app _ _).bind fun x => ?_
    obtain ⟨e, st⟩ := x
    exact Good.const _
  all_goals exact Good.const _

theorem vm_succ (env : Env) : ∀ n, RLe (vm env n) (vm env (n + 1))
  | 0, c, st, r, h => by simp [vm] at h
  | n + 1, c, st, r, h => (Good.step (env := env) c st).mono _ _ (vm_succ env n) r h
theorem vm_le (env : Env) (m n : Nat) (h : m ≤ n) : RLe (vm env m) (vm env n) := by
  induction h with
  | refl => exact fun _ _ _ h => h
  | step _ ih => exact fun c st r h => vm_succ env _ c st r (ih c st r h)
theorem den_of_vm {n : Nat} {c : VCode} {st : St} {r : Ex × St} (h : vm env n c st = some r) : den env c st = some r := by
  have hx : ∃ n r, vm env n c st = some r := ⟨n, r, h⟩
  unfold den
  rw [dif_pos hx]
  have h2 := Classical.choose_spec (Classical.choose_spec hx)
  have h3 := vm_le env _ _ (Nat.le_max_left n (Classical.choose hx)) c st r h
  have h4 := vm_le env _ _ (Nat.le_max_right n (Classical.choose hx)) c st _ h2
  rw [h3] at h4
  exact h4.symm
theorem vm_of_den {c : VCode} {st : St} {r : Ex × St} (h : den env c st = some r) : ∃ n, vm env n c st = some r :=
  (Good.app c st).cont (vm_le env) r h
theorem vm_den (env : Env) (n : Nat) : RLe (vm env n) (den env) := fun _ _ _ h => den_of_vm h
theorem den_eq (env : Env) (c : VCode) (st : St) : den env c st = step (den env) env c st := by
  apply Option.ext
  intro r
  constructor
  · intro h
    obtain ⟨n, hn⟩ := vm_of_den h
    cases n with
    | zero => simp [vm] at hn
    | succ n => exact (Good.step c st).mono _ _ (vm_den env n) r hn
  · intro h
    obtain ⟨n, hn⟩ := (Good.step c st).cont (vm_le env) r h
    exact den_of_vm (n := n + 1) hn
noncomputable def cal (env : Env) (f : Nat) (args : List PV) : Option (List Res) := callRes (den env) env f args
noncomputable def calL (env : Env) (f : Nat) (x : LArg) (args : List PV) : Option (List Res × Option (List PV)) := callLin (den env) env f x args
theorem vmCall_of_cal {f : Nat} {args : List PV} {rs : List Res} (h : cal env f args = some rs) : ∃ n, vmCall env n f args = some rs :=
  (Good.callRes (env := env) f args).cont (vm_le env) rs h
end
end Go.Proofs.YtdahanchdjadiaaGreatDoor

namespace Go.Proofs.YtdahanchdjadiaaGreatDoor

def bcase {α : Type} (b : Bool) (x y : α) : α := match b with
  | true => x
  | false => y
section
variable {env : Env} {α β : Type}
theorem bcase_true (x y : α) : bcase true x y = x := (rfl)
theorem bcase_false (x y : α) : bcase false x y = y := (rfl)
theorem bcase_bind (b : Bool) (x y : Option α) (f : α → Option β) : (bcase b x y).bind f = bcase b (x.bind f) (y.bind f) := by cases b <;> rfl
theorem bcase_map (b : Bool) (x y : Option α) (f : α → β) : (bcase b x y).map f = bcase b (x.map f) (y.map f) := by cases b <;> rfl
theorem bcase_not (b : Bool) (x y : α) : bcase (!b) x y = bcase b y x := by cases b <;> rfl
theorem bcase_bne {γ : Type} [BEq γ] (a b : γ) (x y : α) : bcase (a != b) x y = bcase (a == b) y x := by unfold bne; rw [bcase_not]
theorem beq_t (b : Bool) : (b == true) = b := by cases b <;> rfl
theorem beq_f (b : Bool) : (b == false) = !b := by cases b <;> rfl
theorem bcase_split {b : Bool} {x y r : α} (h1 : b = true → x = r) (h0 : b = false → y = r) : bcase b x y = r := by
  cases b
  · exact h0 rfl
  · exact h1 rfl

noncomputable def dops (env : Env) (l : List VOp) (st : St) : Option St := ops (den env) env l st
noncomputable def dop (env : Env) (o : VOp) (st : St) : Option St := op (den env) env o st
noncomputable def next (env : Env) (b : VCode) : Ex × St → Option (Ex × St)
  | (.normal, st) => den env b st
  | r => some r
def endBlock (id : Nat) : Ex × St → Ex × St
  | (.normal, st) => (.normal, st)
  | (.exit j, st) => (bcase (Nat.beq j id) .normal (.exit j), st)
  | (.ret, st) => (.ret, st)
def cleanEnd (post : List Nat) (nb : Nat) (p : Ex × St) : Option (Ex × St) := (p.2.head post nb).map fun st => (p.1, st)
def fin (rs : List VRes) : Ex × St → Option (List Res)
  | (.exit _, _) => none
  | (_, st) => resultsOf st rs
def start (n : Nat) (args : List PV) : St := ⟨args.map .pv ++ List.replicate (n - args.length) .any, [], [], none⟩

theorem den_skip (st : St) : den env .skip st = some (.normal, st) := by rw [den_eq]; rfl
theorem den_ops (l : List VOp) (st : St) : den env (.ops l) st = (dops env l st).map fun st => (.normal, st) := by rw [den_eq]; rfl
theorem den_drw (z a f q) (l : List VOp) (st : St) : den env (.drw z a f q l) st = (dops env l (z.foldl St.freezeAt st)).map fun st => (.normal, st) := by rw [den_eq]; rfl
noncomputable def dalts (env : Env) (keep : List Nat) (vo : List VOp) (st : St) (l : List DAlt) : Option St := runAlts (den env) env keep vo st l
noncomputable def dalt (env : Env) (keep : List Nat) (vo : List VOp) (st : St) (x : DAlt) : Option St := altRun (den env) env keep vo st x
noncomputable def dagree (env : Env) (keep : List Nat) (vo : List VOp) (st s : St) (l : List DAlt) : Option St := agree s (l.map (altRun (den env) env keep vo st))
def sameAs (s s' : St) (r : Option St) : Option St := if s'.same s then r else none
theorem den_drs (z k vo l) (st : St) : den env (.drs z k vo l) st = (dalts env k vo (z.foldl St.freezeAt st) l).map fun st => (.normal, st) := by rw [den_eq]; rfl
theorem dalts_cons (k vo) (st : St) (x : DAlt) (l : List DAlt) : dalts env k vo st (x :: l) = (dalt env k vo st x).bind fun s => dagree env k vo st s l := (rfl)
theorem dagree_nil (k vo) (st s : St) : dagree env k vo st s [] = some s := (rfl)
theorem dagree_cons (k vo) (st s : St) (x : DAlt) (l : List DAlt) : dagree env k vo st s (x :: l) = (dalt env k vo st x).bind fun s' => sameAs s s' (dagree env k vo st s l) := by
  show (altRun (den env) env k vo st x).bind _ = _
  unfold dalt dagree sameAs
  congr 1
theorem sameAs_same (s : St) (r : Option St) : sameAs s s r = r := by
  show (if s.same s then r else none) = r
  rw [St.same_refl]; rfl
theorem dalt_eq (k vo) (st : St) (a f q o w) : dalt env k vo st ⟨a, f, q, o, w⟩ = (dops env (pickV vo o) st).bind (altEnd k st.boxes.length w) := (rfl)
theorem altEnd_false (k : List Nat) (nb : Nat) (s : St) : altEnd k nb false s = s.head k s.boxes.length := by
  unfold altEnd
  cases s.head k s.boxes.length <;> rfl
theorem altEnd_true (k : List Nat) (nb : Nat) (s : St) : altEnd k nb true s = (s.head k s.boxes.length).bind fun s => s.swap2 nb := (rfl)
theorem pickV_nil (vo : List VOp) : pickV vo [] = [] := (rfl)
theorem pickV_one (vo : List VOp) (i : Nat) (l : List Nat) : pickV vo (i :: l) = vo.getD i default :: pickV vo l := (rfl)
theorem den_seq (a b : VCode) (st : St) : den env (.seq a b) st = (den env a st).bind (next env b) := by
  rw [den_eq]
  show (den env a st).bind _ = _
  congr 1
  funext ⟨e, st⟩
  cases e <;> rfl
theorem den_cond (c : Opd) (a b : VCode) (st : St) : den env (.cond c a b) st = (match st.pvOf c with
    | some (.bool t) => bcase t (den env a st) (den env b st)
    | _ => none) := by
  rw [den_eq]
  show (st.pvOf c).bind _ = _
  cases st.pvOf c with
  | none => rfl
  | some v =>
    cases v <;> try rfl
    rename_i t
    cases t <;> rfl
theorem den_block (i : Nat) (a : VCode) (st : St) : den env (.block i a) st = (den env a st).map (endBlock i) := by
  rw [den_eq]
  show (den env a st).bind _ = _
  cases den env a st with
  | none => rfl
  | some r =>
    obtain ⟨e, st⟩ := r
    cases e with
    | normal => rfl
    | ret => rfl
    | exit j =>
      show some (_, _) = some (_, _)
      by_cases h : j = i
      · subst h; simp [bcase]
      · have : Nat.beq j i = false := by cases e : Nat.beq j i with
        | false => rfl
        | true => exact absurd (Nat.eq_of_beq_eq_true e) h
        simp [bcase, h, this]
theorem den_loop (keep : List Nat) (a : VCode) (st : St) : den env (.loop keep a) st = den env (.round keep st.boxes.length a) st := by rw [den_eq]; rfl
theorem den_round (keep : List Nat) (nb : Nat) (a : VCode) (st : St) : den env (.round keep nb a) st = (st.head keep nb).bind fun st => (den env a st).bind (next env (.round keep nb a)) := by
  rw [den_eq]
  show (st.head keep nb).bind _ = _
  congr 1
  funext st
  show (den env a st).bind _ = _
  congr 1
  funext ⟨e, st⟩
  cases e <;> rfl
theorem den_clean (pre post : List Nat) (a : VCode) (st : St) : den env (.clean pre post a) st = (st.head pre st.boxes.length).bind fun s => (den env a s).bind (cleanEnd post st.boxes.length) := by
  rw [den_eq]
  show (st.head pre _).bind _ = _
  congr 1
  funext s
  show (den env a s).bind _ = _
  congr 1
  funext ⟨e, s⟩
  show (s.head post _).bind _ = (s.head post _).map _
  cases s.head post st.boxes.length <;> rfl
theorem den_exit (i : Nat) (st : St) : den env (.exit i) st = some (.exit i, st) := by rw [den_eq]; rfl
theorem den_ret (st : St) : den env .ret st = some (.ret, st) := by rw [den_eq]; rfl
theorem next_normal (b : VCode) (st : St) : next env b (.normal, st) = den env b st := (rfl)
theorem next_exit (b : VCode) (i : Nat) (st : St) : next env b (.exit i, st) = some (.exit i, st) := (rfl)
theorem next_ret (b : VCode) (st : St) : next env b (.ret, st) = some (.ret, st) := (rfl)
theorem endBlock_normal (i : Nat) (st : St) : endBlock i (.normal, st) = (.normal, st) := (rfl)
theorem endBlock_ret (i : Nat) (st : St) : endBlock i (.ret, st) = (.ret, st) := (rfl)
theorem endBlock_exit (i j : Nat) (st : St) : endBlock i (.exit j, st) = (bcase (Nat.beq j i) .normal (.exit j), st) := (rfl)
theorem fin_normal (rs : List VRes) (st : St) : fin rs (.normal, st) = resultsOf st rs := (rfl)
theorem fin_ret (rs : List VRes) (st : St) : fin rs (.ret, st) = resultsOf st rs := (rfl)
theorem cal_code {f : Nat} {fn : VFn} {args : List PV} (h : env f = some (.code fn)) (hl : args.length = fn.nargs) : cal env f args = (den env fn.body (start fn.ntmps args)).bind (Go.Proofs.YtdahanchdjadiaaGreatDoor.fin fn.results) := by
  unfold cal callRes
  rw [h]
  simp only [if_pos hl]
  show (den env fn.body _).bind _ = _
  congr 1
  funext ⟨e, st⟩
  cases e <;> rfl
def startL (n : Nat) (x : LArg) (args : List PV) : St := ⟨x.av :: (args.map .pv ++ List.replicate (n - (args.length + 1)) .any), x.boxes, [], none⟩
def finL (x : LArg) (rs : List VRes) : Ex × St → Option (List Res × Option (List PV))
  | (.exit _, _) => none
  | (_, st) => linRes x st rs
theorem finL_normal (x : LArg) (rs : List VRes) (st : St) : finL x rs (.normal, st) = linRes x st rs := (rfl)
theorem finL_ret (x : LArg) (rs : List VRes) (st : St) : finL x rs (.ret, st) = linRes x st rs := (rfl)
theorem linRes_row (sz : Nat) (es : List PV) (st : St) (rs : List VRes) : linRes (.row sz es) st rs = (resultsOf st rs).map fun l => (l, none) := (rfl)
theorem linRes_own (l : List AV) (st : St) (rs : List VRes) : linRes (.own l) st rs = (resultsOf st rs).map fun l => (l, none) := (rfl)
theorem linRes_box (cs : List PV) (st : St) (rs : List VRes) : linRes (.box cs) st rs = (match (st.freezeRows 0).boxes[0]? with
    | some b => bcase b.fz none ((resultList (st.freezeRows 0) rs).map fun l => (l, some (b.cs.map BV.val)))
    | none => none) := by
  show (match (st.freezeRows 0).boxes[0]? with
    | some b => if b.fz then none else (resultList (st.freezeRows 0) rs).map fun l => (l, some (b.cs.map BV.val))
    | none => none) = _
  split
  · rename_i b _
    cases b.fz <;> rfl
  · rfl
theorem lav_row (sz : Nat) (es : List PV) : (LArg.row sz es).av = .row sz es := (rfl)
theorem lav_own (l : List AV) : (LArg.own l).av = .tup true l := (rfl)
theorem lav_box (cs : List PV) : (LArg.box cs).av = .pbox 0 0 := (rfl)
theorem lbx_row (sz : Nat) (es : List PV) : (LArg.row sz es).boxes = [] := (rfl)
theorem lbx_own (l : List AV) : (LArg.own l).boxes = [] := (rfl)
theorem lbx_box (cs : List PV) : (LArg.box cs).boxes = [⟨false, cs.map .pv⟩] := (rfl)
theorem calL_code {f : Nat} {fn : VFn} {x : LArg} {args : List PV} (h : env f = some (.code fn)) (hl : args.length + 1 = fn.nargs) : calL env f x args = (den env fn.body (startL fn.ntmps x args)).bind (finL x fn.results) := by
  unfold calL callLin
  rw [h]
  simp only [if_pos hl]
  show (den env fn.body _).bind _ = _
  congr 1
  funext ⟨e, st⟩
  cases e <;> rfl
theorem cal_ext {f : Nat} {g : List PV → Option (List Res)} {args : List PV} (h : env f = some (.ext g)) : cal env f args = g args := by
  unfold cal callRes
  rw [h]
theorem clean_loop' {keep post : List Nat} {id : Nat} {b : VCode} {st S0 : St} {R : Option (Ex × St)} (h : st.head keep st.boxes.length = some S0) (h2 : S0.head keep S0.boxes.length = some S0)
    (key : ∀ rb, rb = VCode.round keep S0.boxes.length b → (((den env b S0).bind (next env rb)).map (endBlock id)).bind (cleanEnd post st.boxes.length) = R) : den env (.clean keep post (.block id (.loop keep b))) st = R := by
  rw [den_clean, h, Option.bind_some, den_block, den_loop, den_round, h2, Option.bind_some]
  exact key _ rfl
theorem round_on {keep : List Nat} {nb : Nat} {b rb : VCode} {st S1 : St} (hrb : rb = .round keep nb b) (h : st.head keep nb = some S1) : den env rb st = (den env b S1).bind (next env rb) := by
  rw [hrb, den_round, h, Option.bind_some]
noncomputable def tailOf (env : Env) (id : Nat) (post : List Nat) (nb : Nat) (x : Option (Ex × St)) : Option (Ex × St) := (x.map (endBlock id)).bind (cleanEnd post nb)
theorem clean_rec {β : Type} {keep post : List Nat} {id nb : Nat} {b : VCode} (S : β → St) (R : β → Option (Ex × St)) (P : β → Prop) (μ : β → Nat) (x0 : β) {st : St} (h : st.head keep st.boxes.length = some (S x0)) (hP : P x0)
    (hS : ∀ x, (S x).boxes.length = nb) (hh : ∀ x, (S x).head keep nb = some (S x))
    (step : ∀ x rb, P x → (∀ y, μ y < μ x → P y → ∀ s, s.head keep nb = some (S y) → tailOf env id post nb (den env rb s) = R y) → tailOf env id post nb ((den env b (S x)).bind (next env rb)) = R x) :
    den env (.clean keep post (.block id (.loop keep b))) st = R x0 := by
  have hb : st.boxes.length = nb := by rw [← (head_same h).1]; exact hS x0
  refine clean_loop' h (by rw [hS]; exact hh x0) ?_
  intro rb hrb
  rw [hS] at hrb
  rw [hb]
  have key : ∀ (k : Nat) (x : β), μ x < k → P x → tailOf env id post nb ((den env b (S x)).bind (next env rb)) = R x := by
    intro k
    induction k with
    | zero => intro x hx; omega
    | succ k ih =>
      intro x hx hPx
      refine step x rb hPx fun y hy hPy s hs => ?_
      rw [round_on hrb hs]
      exact ih y (by omega) hPy
  exact key (μ x0 + 1) x0 (by omega) hP
theorem clean_up {keep post : List Nat} {id nb : Nat} {b : VCode} (n : Nat) (S : Nat → St) (R : Nat → Option (Ex × St)) {st : St} (h : st.head keep st.boxes.length = some (S 0)) (hS : ∀ i, (S i).boxes.length = nb) (hh : ∀ i, (S i).head keep nb = some (S i))
    (step : ∀ i rb, i < n → (∀ s, s.head keep nb = some (S (i + 1)) → tailOf env id post nb (den env rb s) = R (i + 1)) → tailOf env id post nb ((den env b (S i)).bind (next env rb)) = R i)
    (last : ∀ rb, tailOf env id post nb ((den env b (S n)).bind (next env rb)) = R n) :
    den env (.clean keep post (.block id (.loop keep b))) st = R 0 := by
  refine clean_rec S R (fun i => i ≤ n) (fun i => n - i) 0 h (Nat.zero_le _) hS hh fun i rb hi ih => ?_
  by_cases hn : i = n
  · subst hn; exact last rb
  · exact step i rb (by omega) fun s hs => ih (i + 1) (by omega) (by omega) s hs
theorem tail_normal {id nb : Nat} {post : List Nat} (st : St) : tailOf env id post nb (some (.normal, st)) = cleanEnd post nb (.normal, st) := (rfl)
theorem tail_ret {id nb : Nat} {post : List Nat} (st : St) : tailOf env id post nb (some (.ret, st)) = cleanEnd post nb (.ret, st) := (rfl)
theorem tail_exit {id j nb : Nat} {post : List Nat} (st : St) : tailOf env id post nb (some (.exit j, st)) = cleanEnd post nb (bcase (Nat.beq j id) .normal (.exit j), st) := (rfl)
theorem tail_bcase {id nb : Nat} {post : List Nat} (b : Bool) (x y : Option (Ex × St)) : tailOf env id post nb (bcase b x y) = bcase b (tailOf env id post nb x) (tailOf env id post nb y) := by cases b <;> rfl
theorem z_bind_some (a : α) (f : α → Option β) : (some a).bind f = f a := (rfl)
theorem z_bind_none (f : α → Option β) : (none : Option α).bind f = none := (rfl)
theorem z_map_some (a : α) (f : α → β) : (some a).map f = some (f a) := (rfl)
theorem z_map_none (f : α → β) : (none : Option α).map f = none := (rfl)
theorem z_ite_true (x y : α) : (if True then x else y) = x := (rfl)
theorem z_ite_false (x y : α) : (if False then x else y) = y := (rfl)
theorem z_bind_eq {γ δ : Type} (x : Option γ) (f : γ → Option δ) : (x >>= f) = x.bind f := (rfl)
theorem z_pure {γ : Type} (x : γ) : (pure x : Option γ) = some x := (rfl)
theorem z_len_cons {γ : Type} (a : γ) (l : List γ) : (a :: l).length = l.length + 1 := (rfl)
theorem z_len_nil {γ : Type} : ([] : List γ).length = 0 := (rfl)
theorem z_nil_app {γ : Type} (l : List γ) : [] ++ l = l := (rfl)
theorem z_cons_app {γ : Type} (a : γ) (l m : List γ) : (a :: l) ++ m = a :: (l ++ m) := (rfl)
theorem z_take_succ {γ : Type} (a : γ) (l : List γ) (n : Nat) : (a :: l).take (n + 1) = a :: l.take n := (rfl)
theorem z_take_zero {γ : Type} (l : List γ) : l.take 0 = [] := (rfl)
theorem z_drop_succ {γ : Type} (a : γ) (l : List γ) (n : Nat) : (a :: l).drop (n + 1) = l.drop n := (rfl)
theorem z_drop_zero {γ : Type} (l : List γ) : l.drop 0 = l := (rfl)
theorem z_get_zero {γ : Type} (a : γ) (l : List γ) : (a :: l)[0]? = some a := (rfl)
theorem z_get_succ {γ : Type} (a : γ) (l : List γ) (n : Nat) : (a :: l)[n + 1]? = l[n]? := (rfl)
theorem z_get_8 {γ : Type} (a0 a1 a2 a3 a4 a5 a6 a7 : γ) (l : List γ) (n : Nat) : (a0 :: a1 :: a2 :: a3 :: a4 :: a5 :: a6 :: a7 :: l)[n + 8]? = l[n]? := (rfl)
theorem z_getD_zero {γ : Type} (a : γ) (l : List γ) (d : γ) : (a :: l).getD 0 d = a := (rfl)
theorem z_getD_succ {γ : Type} (a : γ) (l : List γ) (n : Nat) (d : γ) : (a :: l).getD (n + 1) d = l.getD n d := (rfl)
theorem z_getD_8 {γ : Type} (a0 a1 a2 a3 a4 a5 a6 a7 : γ) (l : List γ) (n : Nat) (d : γ) : (a0 :: a1 :: a2 :: a3 :: a4 :: a5 :: a6 :: a7 :: l).getD (n + 8) d = l.getD n d := (rfl)
theorem z_set_zero {γ : Type} (a x : γ) (l : List γ) : (a :: l).set 0 x = x :: l := (rfl)
theorem z_set_succ {γ : Type} (a x : γ) (l : List γ) (n : Nat) : (a :: l).set (n + 1) x = a :: l.set n x := (rfl)
theorem z_set_8 {γ : Type} (a0 a1 a2 a3 a4 a5 a6 a7 x : γ) (l : List γ) (n : Nat) : (a0 :: a1 :: a2 :: a3 :: a4 :: a5 :: a6 :: a7 :: l).set (n + 8) x = a0 :: a1 :: a2 :: a3 :: a4 :: a5 :: a6 :: a7 :: l.set n x := (rfl)
theorem z_mapM_nil {γ δ : Type} (f : γ → Option δ) : ([] : List γ).mapM f = some [] := (rfl)
theorem z_any_cons {γ : Type} (a : γ) (l : List γ) (p : γ → Bool) : (a :: l).any p = (p a || l.any p) := (rfl)
theorem z_any_nil {γ : Type} (p : γ → Bool) : ([] : List γ).any p = false := (rfl)
theorem z_all_cons {γ : Type} (a : γ) (l : List γ) (p : γ → Bool) : (a :: l).all p = (p a && l.all p) := (rfl)
theorem z_all_nil {γ : Type} (p : γ → Bool) : ([] : List γ).all p = true := (rfl)
theorem z_foldl_cons {γ δ : Type} (f : δ → γ → δ) (b : δ) (a : γ) (l : List γ) : (a :: l).foldl f b = l.foldl f (f b a) := (rfl)
theorem z_foldl_nil {γ δ : Type} (f : δ → γ → δ) (b : δ) : ([] : List γ).foldl f b = b := (rfl)
theorem z_map_cons {γ δ : Type} (f : γ → δ) (a : γ) (l : List γ) : (a :: l).map f = f a :: l.map f := (rfl)
theorem z_map_nil {γ δ : Type} (f : γ → δ) : ([] : List γ).map f = [] := (rfl)
theorem z_repl_zero {γ : Type} (a : γ) : List.replicate 0 a = [] := (rfl)
theorem z_repl_succ {γ : Type} (a : γ) (n : Nat) : List.replicate (n + 1) a = a :: List.replicate n a := (rfl)

theorem dops_nil (st : St) : dops env [] st = some st := (rfl)
theorem dops_cons (o : VOp) (l : List VOp) (st : St) : dops env (o :: l) st = (dop env o st).bind (dops env l) := (rfl)
theorem dop_grd {g : Nat} {w : Bool} {o : VOp} (st : St) : dop env (.grd g w o) st = (match st.slots.getD g .any with
    | .pv (.bool b) => bcase (b == w) (op1 (den env) env o st) (match dstOf o with
      | some d => some (st.put d (.tup false []))
      | none => some st)
    | .tup _ l => bcase l.isEmpty (match dstOf o with
      | some d => some (st.put d (.tup false []))
      | none => some st) none
    | _ => none) := by
  unfold dop op
  simp only
  generalize st.slots.getD g .any = v
  cases v with
  | pv p =>
    cases p with
    | bool b => cases b <;> cases w <;> rfl
    | _ => rfl
  | tup k l => cases l <;> rfl
  | _ => rfl
theorem dop_pick {d c x y} (st : St) : dop env (.pick d c x y) st = (match st.pvOf c with
    | some (.bool b) => bcase b ((st.pvOf x).map fun v => st.put d (.pv v)) ((st.pvOf y).map fun v => st.put d (.pv v))
    | _ => none) := by
  show (st.pvOf c).bind _ = _
  cases st.pvOf c with
  | none => rfl
  | some v =>
    cases v <;> try rfl
    rename_i t
    cases t
    · show (st.pvOf y).bind _ = Option.map _ (st.pvOf y)
      cases st.pvOf y <;> rfl
    · show (st.pvOf x).bind _ = Option.map _ (st.pvOf x)
      cases st.pvOf x <;> rfl
def afterCall (d : Nat) (args : List Opd) (caps : List AV) (st : St) (fl : Bool) (rs : List Res) : Option St :=
  some ((bcase (fl && !(rs.all (·.1.scalar))) (caps.foldl (fun s v => s.freezeArg1 (.c .void) v) (args.foldl St.freezeArg st)) st).layAll d rs)
theorem afterCall_false (d : Nat) (args : List Opd) (caps : List AV) (st : St) (rs : List Res) : afterCall d args caps st false rs = some (st.layAll d rs) := by
  simp only [afterCall, Bool.false_and, bcase_false]
theorem afterCall_true (d : Nat) (args : List Opd) (caps : List AV) (st : St) (r : Res) (rs : List Res) : afterCall d args caps st true (r :: rs) = bcase ((r :: rs).all (·.1.scalar)) (some (st.layAll d (r :: rs))) (some ((caps.foldl (fun s v => s.freezeArg1 (.c .void) v) (args.foldl St.freezeArg st)).layAll d (r :: rs))) := by
  unfold afterCall
  rw [Bool.true_and]
  cases h : (r :: rs).all (·.1.scalar) <;> rfl
noncomputable def dcall (env : Env) (d f : Nat) (args : List Opd) (caps : List AV) (st : St) : Option St :=
  (args.mapM fun x => st.snapFn (st.get x)).bind fun l => (caps.mapM st.snap).bind fun k => (cal env f (l.map (·.1) ++ k.map (·.1))).bind (afterCall d args caps st (l.any (·.2) || k.any (·.2)))
noncomputable def dcallP (env : Env) (d f : Nat) (args : List Opd) (caps : List PV) (st : St) : Option St :=
  (args.mapM fun x => st.snapFn (st.get x)).bind fun l => (cal env f (l.map (·.1) ++ caps)).bind (afterCall d args [] st (l.any (·.2)))
theorem snaps_pv (st : St) : ∀ caps : List PV, (caps.map AV.pv).mapM st.snap = some (caps.map fun v => (v, false))
  | [] => rfl
  | c :: l => by
    rw [List.map_cons, List.mapM_cons, snaps_pv st l]
    rfl
theorem freeze_pv (st : St) : ∀ caps : List PV, (caps.map AV.pv).foldl (fun s v => s.freezeArg1 (.c .void) v) st = st
  | [] => rfl
  | c :: l => freeze_pv st l
theorem dcall_eq (d f : Nat) (args : List Opd) (caps : List AV) (st : St) : callOn (den env) env d f args caps st = dcall env d f args caps st := by
  unfold callOn dcall
  show Option.bind _ _ = Option.bind _ _
  congr 1; funext l
  show Option.bind _ _ = Option.bind _ _
  congr 1; funext k
  show Option.bind _ _ = Option.bind _ _
  congr 1; funext rs
  show some _ = some _
  congr 2
  cases h : (l.any (·.2) || k.any (·.2)) && !(rs.all (·.1.scalar)) <;> rfl
theorem dcallP_eq (d f : Nat) (args : List Opd) (caps : List PV) (st : St) : dcall env d f args (caps.map .pv) st = dcallP env d f args caps st := by
  unfold dcallP dcall
  congr 1; funext l
  rw [snaps_pv, Option.bind_some, List.map_map, List.any_map]
  have h1 : (Prod.fst ∘ fun v : PV => (v, false)) = id := rfl
  have h2 : caps.any (Prod.snd ∘ fun v : PV => (v, false)) = false := by
    induction caps with
    | nil => rfl
    | cons c cs ih => simp [List.any_cons, ih]
  rw [h1, List.map_id, h2, Bool.or_false]
  congr 1; funext rs
  unfold afterCall
  rw [freeze_pv]
  rfl
theorem dop_call {d f args} (st : St) : dop env (.call d f args) st = dcallP env d f args [] st := (dcall_eq ..).trans (dcallP_eq (caps := []) ..)
theorem op1_call {d f args} (st : St) : op1 (den env) env (.call d f args) st = dcallP env d f args [] st := (dcall_eq ..).trans (dcallP_eq (caps := []) ..)
noncomputable def dlin (env : Env) (d f : Nat) (x : Opd) (args : List Opd) (caps : List AV) (st : St) : Option St :=
  (args.mapM fun x => st.snapFn (st.get x)).bind fun l => (caps.mapM st.snap).bind fun k => (bcase (l.any (·.2) || k.any (·.2)) none (takeLin st x)).bind fun q => (calL env f q.1 (l.map (·.1) ++ k.map (·.1))).bind fun r => (backLin q.2.2 q.2.1 r.2).bind fun st2 => some (st2.layAll d r.1)
noncomputable def dlinP (env : Env) (d f : Nat) (x : Opd) (args : List Opd) (caps : List PV) (st : St) : Option St :=
  (args.mapM fun x => st.snapFn (st.get x)).bind fun l => (bcase (l.any (·.2)) none (takeLin st x)).bind fun q => (calL env f q.1 (l.map (·.1) ++ caps)).bind fun r => (backLin q.2.2 q.2.1 r.2).bind fun st2 => some (st2.layAll d r.1)
theorem dlin_eq (d f : Nat) (x : Opd) (args : List Opd) (caps : List AV) (st : St) : callOnL (den env) env d f x args caps st = dlin env d f x args caps st := by
  unfold callOnL dlin
  congr 1; funext l
  congr 1; funext k
  congr 1
  cases h : (l.any (·.2) || k.any (·.2)) <;> rfl
theorem dlinP_eq (d f : Nat) (x : Opd) (args : List Opd) (caps : List PV) (st : St) : dlin env d f x args (caps.map .pv) st = dlinP env d f x args caps st := by
  unfold dlinP dlin
  congr 1; funext l
  rw [snaps_pv, Option.bind_some, List.map_map, List.any_map]
  have h1 : (Prod.fst ∘ fun v : PV => (v, false)) = id := rfl
  have h2 : caps.any (Prod.snd ∘ fun v : PV => (v, false)) = false := by
    induction caps with
    | nil => rfl
    | cons c cs ih => simp [List.any_cons, ih]
  rw [h1, List.map_id, h2, Bool.or_false]
theorem dop_lin {d f x args} (st : St) : dop env (.lin d f x args) st = dlinP env d f x args [] st := (dlin_eq ..).trans (dlinP_eq (caps := []) ..)
theorem op1_lin {d f x args} (st : St) : op1 (den env) env (.lin d f x args) st = dlinP env d f x args [] st := (dlin_eq ..).trans (dlinP_eq (caps := []) ..)
theorem dop_linv {d g x args} (st : St) : dop env (.linv d g x args) st = (match st.get g with
    | .pv (.func f caps) => dlinP env d f x args caps st
    | .fn f caps => dlin env d f x args caps st
    | _ => none) := by
  show (match st.get g with
    | .pv (.func f caps) => callOnL (den env) env d f x args (caps.map .pv) st
    | .fn f caps => callOnL (den env) env d f x args caps st
    | _ => none) = _
  split <;> simp only [dlin_eq, dlinP_eq]
theorem op1_linv {d g x args} (st : St) : op1 (den env) env (.linv d g x args) st = dop env (.linv d g x args) st := (rfl)
theorem dop_callv {d x args} (st : St) : dop env (.callv d x args) st = (match st.get x with
    | .pv (.func f caps) => dcallP env d f args caps st
    | .fn f caps => dcall env d f args caps st
    | _ => none) := by
  show (match st.get x with
    | .pv (.func f caps) => callOn (den env) env d f args (caps.map .pv) st
    | .fn f caps => callOn (den env) env d f args caps st
    | _ => none) = _
  split <;> simp only [dcall_eq, dcallP_eq]
theorem op1_callv {d x args} (st : St) : op1 (den env) env (.callv d x args) st = dop env (.callv d x args) st := (rfl)
theorem op1_pick {d c x y} (st : St) : op1 (den env) env (.pick d c x y) st = dop env (.pick d c x y) st := (rfl)
theorem dop_mov {d x} (st : St) : dop env (.mov d x) st = plain (.mov d x) st := (rfl)
theorem dop_asg {d x} (st : St) : dop env (.asg d x) st = plain (.asg d x) st := (rfl)
theorem dop_bin {d o x y} (st : St) : dop env (.bin d o x y) st = plain (.bin d o x y) st := (rfl)
theorem dop_eqa {d neg n x y} (st : St) : dop env (.eqa d neg n x y) st = plain (.eqa d neg n x y) st := (rfl)
theorem dop_eqb {d neg x y} (st : St) : dop env (.eqb d neg x y) st = plain (.eqb d neg x y) st := (rfl)
theorem dop_isn {d neg x} (st : St) : dop env (.isn d neg x) st = plain (.isn d neg x) st := (rfl)
theorem dop_cut {d sz x} (st : St) : dop env (.cut d sz x) st = plain (.cut d sz x) st := (rfl)
theorem dop_asl {d n x} (st : St) : dop env (.asl d n x) st = plain (.asl d n x) st := (rfl)
theorem dop_bldo {d z l q m} (st : St) : dop env (.bldo d z l q m) st = plain (.bldo d z l q m) st := (rfl)
theorem op1_bldo {d z l q m} (st : St) : op1 (den env) env (.bldo d z l q m) st = plain (.bldo d z l q m) st := (rfl)
theorem dop_stw {n p x} (st : St) : dop env (.stw n p x) st = act (den env) env (.stw n p x) st := (rfl)
theorem op1_stw {n p x} (st : St) : op1 (den env) env (.stw n p x) st = act (den env) env (.stw n p x) st := (rfl)
theorem dop_srt {d f x g} (st : St) : dop env (.srt d f x g) st = act (den env) env (.srt d f x g) st := (rfl)
theorem op1_srt {d f x g} (st : St) : op1 (den env) env (.srt d f x g) st = act (den env) env (.srt d f x g) st := (rfl)
theorem dop_mvz {d x} (st : St) : dop env (.mvz d x) st = plain (.mvz d x) st := (rfl)
theorem op1_mvz {d x} (st : St) : op1 (den env) env (.mvz d x) st = plain (.mvz d x) st := (rfl)
theorem dop_ldz {d n x} (st : St) : dop env (.ldz d n x) st = plain (.ldz d n x) st := (rfl)
theorem op1_asl {d n x} (st : St) : op1 (den env) env (.asl d n x) st = plain (.asl d n x) st := (rfl)
theorem op1_ldz {d n x} (st : St) : op1 (den env) env (.ldz d n x) st = plain (.ldz d n x) st := (rfl)
theorem op1_isn {d neg x} (st : St) : op1 (den env) env (.isn d neg x) st = plain (.isn d neg x) st := (rfl)
theorem op1_cut {d sz x} (st : St) : op1 (den env) env (.cut d sz x) st = plain (.cut d sz x) st := (rfl)
theorem dop_un {d o x} (st : St) : dop env (.un d o x) st = plain (.un d o x) st := (rfl)
theorem dop_conv {d k x} (st : St) : dop env (.conv d k x) st = plain (.conv d k x) st := (rfl)
theorem dop_load {d n p} (st : St) : dop env (.load d n p) st = plain (.load d n p) st := (rfl)
theorem dop_fadr {d p off} (st : St) : dop env (.fadr d p off) st = plain (.fadr d p off) st := (rfl)
theorem dop_aadr {d p i len sz} (st : St) : dop env (.aadr d p i len sz) st = plain (.aadr d p i len sz) st := (rfl)
theorem dop_iadr {d sz x i} (st : St) : dop env (.iadr d sz x i) st = plain (.iadr d sz x i) st := (rfl)
theorem dop_fld {d x off n} (st : St) : dop env (.fld d x off n) st = plain (.fld d x off n) st := (rfl)
theorem dop_idx {d x i len sz n} (st : St) : dop env (.idx d x i len sz n) st = plain (.idx d x i len sz n) st := (rfl)
theorem dop_sli {d sz x lo hi} (st : St) : dop env (.sli d sz x lo hi) st = plain (.sli d sz x lo hi) st := (rfl)
theorem dop_len {d x} (st : St) : dop env (.len d x) st = plain (.len d x) st := (rfl)
theorem dop_lens {d x} (st : St) : dop env (.lens d x) st = plain (.lens d x) st := (rfl)
theorem dop_ext {d x i} (st : St) : dop env (.ext d x i) st = plain (.ext d x i) st := (rfl)
theorem dop_build {d z parts} (st : St) : dop env (.build d z parts) st = plain (.build d z parts) st := (rfl)
theorem dop_mn {d mx x y} (st : St) : dop env (.mn d mx x y) st = plain (.mn d mx x y) st := (rfl)
theorem dop_mkf {d f caps} (st : St) : dop env (.mkf d f caps) st = plain (.mkf d f caps) st := (rfl)
theorem dop_alloc {d z} (st : St) : dop env (.alloc d z) st = act (den env) env (.alloc d z) st := (rfl)
theorem dop_box {d x} (st : St) : dop env (.box d x) st = act (den env) env (.box d x) st := (rfl)
theorem dop_store {d n p x} (st : St) : dop env (.store d n p x) st = act (den env) env (.store d n p x) st := (rfl)
theorem dop_mksl {d sz parts} (st : St) : dop env (.mksl d sz parts) st = act (den env) env (.mksl d sz parts) st := (rfl)
theorem dop_make {d z n c} (st : St) : dop env (.make d z n c) st = act (den env) env (.make d z n c) st := (rfl)
theorem dop_app {d sz x y} (st : St) : dop env (.app d sz x y) st = act (den env) env (.app d sz x y) st := (rfl)
theorem dop_cpy {d sz x y} (st : St) : dop env (.cpy d sz x y) st = act (den env) env (.cpy d sz x y) st := (rfl)
theorem dop_yield {d x args} (st : St) : dop env (.yield d x args) st = act (den env) env (.yield d x args) st := (rfl)
theorem op1_mov {d x} (st : St) : op1 (den env) env (.mov d x) st = plain (.mov d x) st := (rfl)
theorem op1_asg {d x} (st : St) : op1 (den env) env (.asg d x) st = plain (.asg d x) st := (rfl)
theorem op1_bin {d o x y} (st : St) : op1 (den env) env (.bin d o x y) st = plain (.bin d o x y) st := (rfl)
theorem op1_eqa {d neg n x y} (st : St) : op1 (den env) env (.eqa d neg n x y) st = plain (.eqa d neg n x y) st := (rfl)
theorem op1_eqb {d neg x y} (st : St) : op1 (den env) env (.eqb d neg x y) st = plain (.eqb d neg x y) st := (rfl)
theorem op1_un {d o x} (st : St) : op1 (den env) env (.un d o x) st = plain (.un d o x) st := (rfl)
theorem op1_conv {d k x} (st : St) : op1 (den env) env (.conv d k x) st = plain (.conv d k x) st := (rfl)
theorem op1_load {d n p} (st : St) : op1 (den env) env (.load d n p) st = plain (.load d n p) st := (rfl)
theorem op1_fadr {d p off} (st : St) : op1 (den env) env (.fadr d p off) st = plain (.fadr d p off) st := (rfl)
theorem op1_aadr {d p i len sz} (st : St) : op1 (den env) env (.aadr d p i len sz) st = plain (.aadr d p i len sz) st := (rfl)
theorem op1_iadr {d sz x i} (st : St) : op1 (den env) env (.iadr d sz x i) st = plain (.iadr d sz x i) st := (rfl)
theorem op1_fld {d x off n} (st : St) : op1 (den env) env (.fld d x off n) st = plain (.fld d x off n) st := (rfl)
theorem op1_idx {d x i len sz n} (st : St) : op1 (den env) env (.idx d x i len sz n) st = plain (.idx d x i len sz n) st := (rfl)
theorem op1_sli {d sz x lo hi} (st : St) : op1 (den env) env (.sli d sz x lo hi) st = plain (.sli d sz x lo hi) st := (rfl)
theorem op1_len {d x} (st : St) : op1 (den env) env (.len d x) st = plain (.len d x) st := (rfl)
theorem op1_lens {d x} (st : St) : op1 (den env) env (.lens d x) st = plain (.lens d x) st := (rfl)
theorem op1_ext {d x i} (st : St) : op1 (den env) env (.ext d x i) st = plain (.ext d x i) st := (rfl)
theorem op1_build {d z parts} (st : St) : op1 (den env) env (.build d z parts) st = plain (.build d z parts) st := (rfl)
theorem op1_mn {d mx x y} (st : St) : op1 (den env) env (.mn d mx x y) st = plain (.mn d mx x y) st := (rfl)
theorem op1_mkf {d f caps} (st : St) : op1 (den env) env (.mkf d f caps) st = plain (.mkf d f caps) st := (rfl)
theorem op1_alloc {d z} (st : St) : op1 (den env) env (.alloc d z) st = act (den env) env (.alloc d z) st := (rfl)
theorem op1_box {d x} (st : St) : op1 (den env) env (.box d x) st = act (den env) env (.box d x) st := (rfl)
theorem op1_store {d n p x} (st : St) : op1 (den env) env (.store d n p x) st = act (den env) env (.store d n p x) st := (rfl)
theorem op1_mksl {d sz parts} (st : St) : op1 (den env) env (.mksl d sz parts) st = act (den env) env (.mksl d sz parts) st := (rfl)
theorem op1_make {d z n c} (st : St) : op1 (den env) env (.make d z n c) st = act (den env) env (.make d z n c) st := (rfl)
theorem op1_app {d sz x y} (st : St) : op1 (den env) env (.app d sz x y) st = act (den env) env (.app d sz x y) st := (rfl)
theorem op1_cpy {d sz x y} (st : St) : op1 (den env) env (.cpy d sz x y) st = act (den env) env (.cpy d sz x y) st := (rfl)
theorem op1_yield {d x args} (st : St) : op1 (den env) env (.yield d x args) st = act (den env) env (.yield d x args) st := (rfl)
theorem killS_pv (d : Nat) (v : PV) : AV.kill d (.pv v) = .pv v := (rfl)
theorem killS_any (d : Nat) : AV.kill d .any = .any := (rfl)
theorem killS_row (d sz : Nat) (es : List PV) : AV.kill d (.row sz es) = .row sz es := (rfl)
theorem killS_pbox (d o j : Nat) : AV.kill d (.pbox o j) = .pbox o j := (rfl)
theorem killS_fn (d f : Nat) (l : List AV) : AV.kill d (.fn f l) = .fn f l := (rfl)
theorem killS_tup (d : Nat) (k : Bool) (l : List AV) : AV.kill d (.tup k l) = .tup k l := (rfl)
theorem killS_yld (d : Nat) : AV.kill d .yld = .yld := (rfl)
theorem killS_refs (d t off len : Nat) : AV.kill d (.ref (.slot t) off len) = bcase (decide (t = d)) .any (.ref (.slot t) off len) := by
  by_cases h : t = d <;> simp [AV.kill, AV.roots, h, bcase]
theorem killS_refc (d o j off len : Nat) : AV.kill d (.ref (.cell o j) off len) = .ref (.cell o j) off len := (rfl)
theorem killS_pels (d t i j : Nat) : AV.kill d (.pel (.slot t) i j) = bcase (decide (t = d)) .any (.pel (.slot t) i j) := by
  by_cases h : t = d <;> simp [AV.kill, AV.roots, h, bcase]
theorem killS_pelc (d o q i j : Nat) : AV.kill d (.pel (.cell o q) i j) = .pel (.cell o q) i j := (rfl)
theorem killc_pv (d : Nat) (v : PV) : AV.killCell d (.pv v) = .pv v := (rfl)
theorem killc_any (d : Nat) : AV.killCell d .any = .any := (rfl)
theorem killc_row (d sz : Nat) (es : List PV) : AV.killCell d (.row sz es) = .row sz es := (rfl)
theorem killc_pbox (d o j : Nat) : AV.killCell d (.pbox o j) = .pbox o j := (rfl)
theorem killc_fn (d f : Nat) (l : List AV) : AV.killCell d (.fn f l) = .fn f l := (rfl)
theorem killc_tup (d : Nat) (k : Bool) (l : List AV) : AV.killCell d (.tup k l) = .tup k l := (rfl)
theorem killc_yld (d : Nat) : AV.killCell d .yld = .yld := (rfl)
theorem killc_refc (d t j off len : Nat) : AV.killCell d (.ref (.cell t j) off len) = bcase (decide (t = d)) .any (.ref (.cell t j) off len) := by
  by_cases h : t = d <;> simp [AV.killCell, AV.rootsCell, h, bcase]
theorem killc_refs (d t off len : Nat) : AV.killCell d (.ref (.slot t) off len) = .ref (.slot t) off len := (rfl)
theorem killc_pelc (d t q i j : Nat) : AV.killCell d (.pel (.cell t q) i j) = bcase (decide (t = d)) .any (.pel (.cell t q) i j) := by
  by_cases h : t = d <;> simp [AV.killCell, AV.rootsCell, h, bcase]
theorem killc_pels (d t i j : Nat) : AV.killCell d (.pel (.slot t) i j) = .pel (.slot t) i j := (rfl)
theorem take_map_all {γ δ : Type} (f : γ → δ) (l : List γ) : (l.map f).take l.length = l.map f := List.take_of_length_le (by simp)
theorem scal_int (k : IntKind) (n : Int) : (PV.int k n).scalar = true := (rfl)
theorem scal_bool (b : Bool) : (PV.bool b).scalar = true := (rfl)
theorem scal_str (b : ByteArray) : (PV.str b).scalar = true := (rfl)
theorem scal_list (sz : Nat) (es : List PV) : (PV.list sz es).scalar = false := (rfl)
theorem scal_func (f : Nat) (es : List PV) : (PV.func f es).scalar = false := (rfl)
theorem cells_int (k : IntKind) (n : Int) : (PV.int k n).cells = [.int k n] := (rfl)
theorem cells_bool (b : Bool) : (PV.bool b).cells = [.bool b] := (rfl)
theorem cells_str (b : ByteArray) : (PV.str b).cells = [.str b] := (rfl)
theorem cells_list (sz : Nat) (es : List PV) : (PV.list sz es).cells = [.list sz es] := (rfl)
theorem cells_func (f : Nat) (es : List PV) : (PV.func f es).cells = [.func f es] := (rfl)
theorem cells_agg (cs : List PV) : (PV.agg cs).cells = cs := (rfl)
theorem part_one (c : PV) (cs : List PV) : part (c :: cs) 0 none = some c := (rfl)
theorem part_succ (c : PV) (cs : List PV) (n : Nat) (m : Option Nat) : part (c :: cs) (n + 1) m = part cs n m := by
  cases m with
  | none => rfl
  | some m =>
    simp only [part, List.length_cons, List.drop_succ_cons]
    by_cases h : n + m ≤ cs.length
    · rw [if_pos h, if_pos (by omega)]
    · rw [if_neg h, if_neg (by omega)]
theorem part_more (c : PV) (cs : List PV) (m : Nat) : part (c :: cs) 0 (some m) = if m ≤ (c :: cs).length then some (.agg ((c :: cs).take m)) else none := by
  simp only [part, Nat.zero_add, List.drop_zero]
theorem i64_fits {n : Int} (h : -9223372036854775808 ≤ n ∧ n ≤ 9223372036854775807) : IntKind.i64.wrap n = n := Go.IntWalk.i64_in n h
theorem i64_next {i n : Nat} (h : i < n) (hn : n ≤ lim) : IntKind.i64.wrap ((i : Int) + 1) = ((i + 1 : Nat) : Int) := by
  unfold lim at hn
  rw [Go.IntWalk.i64_in _ (by omega)]
  omega
theorem index_nat {k : IntKind} {i n : Nat} (h : i < n) : index (.int k (i : Int)) n = some i := by
  simp only [index]
  rw [if_pos (by omega)]
  simp
end
end Go.Proofs.YtdahanchdjadiaaGreatDoor

namespace Go.Proofs.YtdahanchdjadiaaGreatDoor
open V
def cloneX (n : Nat) : List PV → Option (List Res)
  | [.list sz es] => if sz = n ∧ es.length ≤ lim then some [(.list sz es, true)] else none
  | _ => none
def decAll {α : Type} (f : PV → Option α) : List PV → Option (List α)
  | [] => some []
  | p :: l => match f p with
    | some x => match decAll f l with
      | some xs => some (x :: xs)
      | none => none
    | none => none
theorem decAll_eq {α : Type} {f : PV → Option α} {enc : α → PV} (hf : ∀ p x, f p = some x → p = enc x) : ∀ {l : List PV} {xs : List α}, decAll f l = some xs → l = xs.map enc
  | [], _, h => by cases h; rfl
  | p :: l, xs, h => by
    unfold decAll at h
    split at h
    case h_2 => cases h
    rename_i x hx
    split at h
    case h_2 => cases h
    rename_i ys hy
    cases h
    rw [List.map_cons, ← hf p x hx, ← decAll_eq hf hy]
theorem decAll_enc {α : Type} {f : PV → Option α} {enc : α → PV} : ∀ {l : List α}, (∀ x ∈ l, f (enc x) = some x) → decAll f (l.map enc) = some l
  | [], _ => rfl
  | x :: l, h => by
    simp only [List.map_cons, decAll, h x (by simp), decAll_enc (l := l) fun y hy => h y (by simp [hy])]
end Go.Proofs.YtdahanchdjadiaaGreatDoor

namespace Go.Proofs.YtdahanchdjadiaaGreatDoor

structure End where
  pos : Nat
  list : Nat
  step : Int
  deriving DecidableEq, Inhabited
def eEnd (e : End) : PV := .agg [.int .i64 (e.pos : Int), .int .i64 (e.list : Int), .int .i64 e.step]
def decEnd : PV → Option End
  | .agg [.int .i64 a, .int .i64 b, .int .i64 c] => if 0 ≤ a ∧ 0 ≤ b then some ⟨a.toNat, b.toNat, c⟩ else none
  | _ => none
theorem decEnd_enc (e : End) : decEnd (eEnd e) = some e := by
  simp [decEnd, eEnd]
theorem decEnd_eq {p : PV} {e : End} (h : decEnd p = some e) : p = eEnd e := by
  unfold decEnd at h
  split at h
  · split at h
    · rename_i hc
      cases h
      simp only [eEnd, Int.toNat_of_nonneg hc.1, Int.toNat_of_nonneg hc.2]
    · cases h
  · cases h
def ltEnd (x y : End) : Bool := decide (x.pos < y.pos)
def sortE (l : List End) : List End := (Sort.pdq ltEnd l.toArray 0 l.length (Lib.bitLen l.length) true true).toList
def sortEndsX (g : Nat) : PV → List PV → Option (List PV)
  | .func f [], es => if f = g then if es.length ≤ 1000000 then (decAll decEnd es).map fun l => (sortE l).map eEnd else none else none
  | _, _ => none
theorem sortEndsX_enc {g : Nat} {l : List End} (h : l.length ≤ 1000000) : sortEndsX g (.func g []) (l.map eEnd) = some ((sortE l).map eEnd) := by
  unfold sortEndsX
  simp only [if_true, List.length_map, h]
  rw [decAll_enc fun x _ => decEnd_enc x]
  rfl
theorem sortEndsX_eq {g : Nat} {c : PV} {es es' : List PV} (h : sortEndsX g c es = some es') : ∃ l : List End, c = .func g [] ∧ es = l.map eEnd ∧ l.length ≤ 1000000 ∧ es' = (sortE l).map eEnd := by
  unfold sortEndsX at h
  split at h
  · split at h
    · rename_i hg
      split at h
      · rename_i hl
        obtain ⟨l, h1, h2⟩ := Option.map_eq_some_iff.1 h
        have := decAll_eq (fun p x h => decEnd_eq h) h1
        subst this
        exact ⟨l, by rw [hg], rfl, by simpa using hl, h2.symm⟩
      · cases h
    · cases h
  · cases h
end Go.Proofs.YtdahanchdjadiaaGreatDoor

namespace Go.Proofs
open Go.Shelf
def Tryz.tz_ren : Go.Shelf.Ren := ⟨fun | 29 => 94 | n => n, fun | 22 => 96 | 3 => 3 | 4 => 4 | 25 => 126 | 54 => 149 | 0 => 0 | 5 => 5 | n => n, fun | 1 => 0 | n => n⟩
theorem Tryz.tz : Go.Proofs.Lays7.n29 Tryz.prog Tryz.tz_ren := {
  mixed := by kernel_rfl
  f29 := Tryz.func94.trans (congrArg some (by kernel_rfl))
  t0 := Tryz.underlying0
  a0 := Tryz.isAgg0
  z0 := Tryz.sizeOf0
  v0 := Tryz.zeroValue0
  i0 := by kernel_rfl
  t3 := Tryz.underlying3
  a3 := Tryz.isAgg3
  z3 := Tryz.sizeOf3
  v3 := Tryz.zeroValue3
  i3 := by kernel_rfl
  t4 := Tryz.underlying4
  a4 := Tryz.isAgg4
  z4 := Tryz.sizeOf4
  v4 := Tryz.zeroValue4
  i4 := by kernel_rfl
  t5 := Tryz.underlying5
  a5 := Tryz.isAgg5
  z5 := Tryz.sizeOf5
  v5 := Tryz.zeroValue5
  i5 := by kernel_rfl
  t22 := Tryz.underlying96
  a22 := Tryz.isAgg96
  z22 := Tryz.sizeOf96
  v22 := Tryz.zeroValue96
  i22 := by kernel_rfl
  t25 := Tryz.underlying126
  a25 := Tryz.isAgg126
  z25 := Tryz.sizeOf126
  v25 := Tryz.zeroValue126
  i25 := by kernel_rfl
  t54 := Tryz.underlying149
  a54 := Tryz.isAgg149
  z54 := Tryz.sizeOf149
  g1 := by kernel_rfl }
end Go.Proofs

namespace Go.Proofs.YtdahanchdjadiaaGreatDoor
open Go.RowKit Go.Shelf
def tzX : List PV → Option (List Res)
  | [.int .u64 n] => if 0 ≤ n ∧ n < 18446744073709551616 then some [(.int .i64 (Lib.ctz 64 n.toNat : Nat), false)] else none
  | _ => none
theorem tab_at {T : Tags} {w : World} (h : GlobOk T w) : TabAt 0 Lib.deBruijn64tab w := fun j hj => by
  have hp := h _ (List.mem_singleton.2 rfl)
  obtain ⟨b, off, e1, _, _, h3⟩ := hp.iptr_inv
  obtain ⟨eb, eo⟩ : 0 = b ∧ 0 = off + 0 := by
    injection e1 with e1
    injection e1 with e1
    injection e1 with e2 e3
    exact ⟨e2, e3⟩
  have eo : off = 0 := by omega
  subst eb; subst eo
  obtain ⟨u, c1, _, c2⟩ := h3 j (PV.int .u8 ((Lib.deBruijn64tab[j] : Nat) : Int)) (by simp [List.getElem?_eq_getElem hj])
  rw [c2.int_inv] at c1
  rw [show Lib.deBruijn64tab.getD j 0 = Lib.deBruijn64tab[j] by simp [List.getD_eq_getElem?_getD, List.getElem?_eq_getElem hj]]
  simpa using c1
theorem tz_ok : ∀ args rs, tzX args = some rs → callable Tryz.prog 94 = true ∧ CallOk Tryz.prog 94 args rs := fun args rs h => by
  unfold tzX at h
  split at h
  case h_2 => cases h
  rename_i n
  split at h
  case isFalse => cases h
  rename_i hn
  cases h
  refine ⟨by kernel_rfl, fun T0 w vs h1 h2 h3 h4 hG => ?_⟩
  match vs, h3 with
  | [v], _ =>
    have hv := (h4 0 _ v rfl rfl).int_inv
    subst hv
    have hc := Any7.bits_TrailingZeros64 Tryz.tz n.toNat (by omega) w (fun _ => tab_at hG)
    rw [Int.toNat_of_nonneg hn.1] at hc
    refine Calls.mono hc ?_
    rintro e w' ⟨rfl, rfl⟩
    refine ⟨_, T0, rfl, Below.refl _ _, fun _ _ => rfl, h2, #[_], rfl, rfl, fun i r u hr hu => ?_⟩
    match i with
    | 0 => cases hr; cases hu; exact .int _ _
    | i + 1 => simp at hr
end Go.Proofs.YtdahanchdjadiaaGreatDoor

namespace Go.Proofs.YtdahanchdjadiaaGreatDoor

def fn4 : VFn := ⟨3, 57, [.tmp 6], (.seq (.ops [.asg 6 (.c (.bool false))]) (.seq (.seq (.ops [.mov 13 (.t 2), .len 14 (.t 13), .bin 15 .gtr (.t 14) (.c (.int .i64 200)), .mov 16 (.t 15), .grd 16 false (.mov 17 (.t 0)), .grd 16 false (.bin 18 .gtr (.t 17) (.c (.int .i64 400))), .grd 16 false (.mov 19 (.t 18)), .grd 19 true (.mov 20 (.t 0)), .grd 19 true (.bin 21 .leq (.t 20) (.c (.int .i64 4096))), .grd 16 false (.pick 22 (.t 19) (.t 21) (.c (.bool false))), .pick 23 (.t 16) (.c (.bool true)) (.t 22)]) (.cond (.t 23) (.seq (.ops [.call 24 6 [], .asg 6 (.t 24)]) .ret) .skip)) (.seq (.ops [.mov 26 (.t 0), .mov 27 (.t 1), .mov 28 (.t 2), .call 29 16 [(.t 26), (.t 27), (.t 28)], .mov 25 (.t 29), .ext 30 (.t 25) 0, .ext 31 (.t 25) 1, .ext 32 (.t 25) 2, .alloc 7 [(.int .i64 0), (.int .i64 0), (.list 1 []), (.int .i64 0), (.list 1 [])], .store none 5 (.t 7) (.t 30), .asg 8 (.t 31), .asg 9 (.t 32)]) (.seq (.ops [.mov 34 (.t 0), .mov 35 (.t 1), .mov 36 (.t 2), .call 37 17 [(.t 34), (.t 35), (.t 36)], .mov 33 (.t 37), .ext 38 (.t 33) 0, .ext 39 (.t 33) 1, .ext 40 (.t 33) 2, .alloc 10 [(.int .i64 0), (.int .i64 0), (.list 1 []), (.int .i64 0), (.list 1 [])], .store none 5 (.t 10) (.t 38), .asg 11 (.t 39), .asg 12 (.t 40)]) (.seq (.ops [.call 41 6 [], .mov 42 (.t 41), .grd 42 true (.load 43 (some 5) (.t 7)), .grd 42 true (.load 44 (some 5) (.t 10)), .grd 42 true (.call 45 9 [(.t 43), (.t 44)]), .pick 46 (.t 42) (.t 45) (.c (.bool false)), .mov 47 (.t 46), .grd 47 true (.mov 48 (.t 8)), .grd 47 true (.mov 49 (.t 11)), .grd 47 true (.call 50 18 [(.t 48), (.t 49)]), .pick 51 (.t 47) (.t 50) (.c (.bool false)), .mov 52 (.t 51), .grd 52 true (.mov 53 (.t 9)), .grd 52 true (.mov 54 (.t 12)), .grd 52 true (.bin 55 .eql (.t 53) (.t 54)), .pick 56 (.t 52) (.t 55) (.c (.bool false)), .asg 6 (.t 56)]) .ret)))))⟩
def fn6 : VFn := ⟨0, 107, [.tmp 0], (.seq (.ops [.asg 0 (.c (.bool false))]) (.seq (.ops [.call 11 19 [(.c (.int .i64 20)), (.c (.int .i64 8))], .mov 10 (.t 11), .ext 12 (.t 10) 0, .ext 13 (.t 10) 1, .alloc 1 [(.int .i64 0), (.int .i64 0), (.list 1 []), (.int .i64 0), (.list 1 [])], .store none 5 (.t 1) (.t 12), .asg 2 (.t 13)]) (.seq (.ops [.load 15 (some 5) (.t 1), .build 16 [(.int .i64 0), (.int .i64 0)] [(0, 1, (.c (.int .i64 6))), (1, 1, (.c (.int .i64 4)))], .call 17 7 [(.t 15), (.t 16)], .mov 14 (.t 17), .ext 18 (.t 14) 0, .ext 19 (.t 14) 1, .ext 20 (.t 14) 2, .store none 5 (.t 1) (.t 18), .asg 3 (.t 19), .asg 4 (.t 20)]) (.seq (.ops [.load 22 (some 5) (.t 1), .build 23 [(.int .i64 0), (.int .i64 0)] [(0, 1, (.c (.int .i64 9))), (1, 1, (.c (.int .i64 1)))], .call 24 7 [(.t 22), (.t 23)], .mov 21 (.t 24), .ext 25 (.t 21) 0, .ext 26 (.t 21) 1, .ext 27 (.t 21) 2, .store none 5 (.t 1) (.t 25), .asg 5 (.t 26), .asg 6 (.t 27)]) (.seq (.ops [.load 29 (some 5) (.t 1), .call 30 20 [(.t 29)], .call 31 16 [(.c (.int .i64 20)), (.c (.int .i64 8)), (.t 30)], .mov 28 (.t 31), .ext 32 (.t 28) 0, .ext 33 (.t 28) 1, .ext 34 (.t 28) 2, .alloc 7 [(.int .i64 0), (.int .i64 0), (.list 1 []), (.int .i64 0), (.list 1 [])], .store none 5 (.t 7) (.t 32), .asg 8 (.t 33), .asg 9 (.t 34)]) (.seq (.seq (.ops [.mov 35 (.t 2), .bin 36 .neq (.t 35) (.c (.int .i64 0)), .mov 37 (.t 36), .grd 37 false (.mov 38 (.t 4)), .grd 37 false (.bin 39 .neq (.t 38) (.c (.int .i64 0))), .pick 40 (.t 37) (.c (.bool true)) (.t 39), .mov 41 (.t 40), .grd 41 false (.mov 42 (.t 6)), .grd 41 false (.bin 43 .neq (.t 42) (.c (.int .i64 0))), .pick 44 (.t 41) (.c (.bool true)) (.t 43), .mov 45 (.t 44), .grd 45 false (.mov 46 (.t 9)), .grd 45 false (.bin 47 .neq (.t 46) (.c (.int .i64 0))), .pick 48 (.t 45) (.c (.bool true)) (.t 47), .mov 49 (.t 48), .grd 49 false (.mov 50 (.t 3)), .grd 49 false (.un 51 .not (.t 50)), .pick 52 (.t 49) (.c (.bool true)) (.t 51), .mov 53 (.t 52), .grd 53 false (.mov 54 (.t 5)), .pick 55 (.t 53) (.c (.bool true)) (.t 54), .mov 56 (.t 55), .grd 56 false (.mov 57 (.t 8)), .grd 56 false (.build 58 [(.int .i64 0), (.int .i64 0)] [(1, 1, (.c (.int .i64 16)))]), .grd 56 false (.mksl 59 2 [(.t 58)]), .grd 56 false (.call 60 18 [(.t 57), (.t 59)]), .grd 56 false (.un 61 .not (.t 60)), .pick 62 (.t 56) (.c (.bool true)) (.t 61)]) (.cond (.t 62) (.seq (.ops [.asg 0 (.c (.bool false))]) .ret) .skip)) (.seq (.ops [.load 64 (some 5) (.t 1), .build 65 [(.int .i64 0), (.int .i64 0)] [(0, 1, (.c (.int .i64 6))), (1, 1, (.c (.int .i64 4)))], .call 66 12 [(.t 64), (.t 65)], .mov 63 (.t 66), .ext 67 (.t 63) 0, .ext 68 (.t 63) 1, .store none 5 (.t 1) (.t 67), .asg 2 (.t 68)]) (.seq (.ops [.load 70 (some 5) (.t 1), .call 71 14 [(.t 70)], .mov 69 (.t 71), .ext 72 (.t 69) 0, .ext 73 (.t 69) 1, .store none 5 (.t 1) (.t 72), .asg 3 (.t 73)]) (.seq (.ops [.mov 74 (.t 2), .bin 75 .eql (.t 74) (.c (.int .i64 0)), .mov 76 (.t 75), .grd 76 true (.mov 77 (.t 3)), .pick 78 (.t 76) (.t 77) (.c (.bool false)), .mov 79 (.t 78), .grd 79 true (.fadr 80 (.t 1) 2), .grd 79 true (.load 81 none (.t 80)), .grd 79 true (.len 82 (.t 81)), .grd 79 true (.bin 83 .eql (.t 82) (.c (.int .i64 3))), .pick 84 (.t 79) (.t 83) (.c (.bool false)), .mov 85 (.t 84), .grd 85 true (.fadr 86 (.t 1) 2), .grd 85 true (.load 87 none (.t 86)), .grd 85 true (.iadr 88 1 (.t 87) (.c (.int .i64 0))), .grd 85 true (.load 89 none (.t 88)), .grd 85 true (.bin 90 .eql (.t 89) (.c (.int .i64 0))), .pick 91 (.t 85) (.t 90) (.c (.bool false)), .mov 92 (.t 91), .grd 92 true (.fadr 93 (.t 1) 2), .grd 92 true (.load 94 none (.t 93)), .grd 92 true (.iadr 95 1 (.t 94) (.c (.int .i64 1))), .grd 92 true (.load 96 none (.t 95)), .grd 92 true (.bin 97 .eql (.t 96) (.c (.int .i64 1))), .pick 98 (.t 92) (.t 97) (.c (.bool false)), .mov 99 (.t 98), .grd 99 true (.fadr 100 (.t 1) 3), .grd 99 true (.load 101 (some 2) (.t 100)), .grd 99 true (.call 102 21 [(.t 101)]), .grd 99 true (.build 103 [(.int .i64 0), (.int .i64 0)] [(0, 1, (.c (.int .i64 1))), (1, 1, (.c (.int .i64 1)))]), .grd 99 true (.mksl 104 2 [(.t 103)]), .grd 99 true (.call 105 18 [(.t 102), (.t 104)]), .pick 106 (.t 99) (.t 105) (.c (.bool false)), .asg 0 (.t 106)]) .ret)))))))))⟩
def fn7_b0 : VCode := (.ops [.asg 11 (.t 25)])
def fn7_b1 : VCode := (.block 1 (.ops [.load 26 none (.t 10), .mov 27 (.t 26), .grd 27 false (.fadr 28 (.t 2) 3), .grd 27 false (.load 29 (some 2) (.t 28)), .grd 27 false (.mov 30 (.t 11)), .grd 27 false (.call 31 25 [(.t 29), (.t 30)]), .grd 27 false (.un 32 .not (.t 31)), .pick 33 (.t 27) (.c (.bool true)) (.t 32), .store none 1 (.t 10) (.t 33)]))
def fn7 : VFn := ⟨2, 45, [.cell 4 (some 5), .tmp 5, .tmp 6], (.seq (.ops [.box 2 (.t 0), .box 3 (.t 1), .alloc 4 [(.int .i64 0), (.int .i64 0), (.list 1 []), (.int .i64 0), (.list 1 [])], .asg 5 (.c (.bool false)), .asg 6 (.c (.int .i64 0))]) (.seq (.ops [.load 13 (some 5) (.t 2), .load 14 (some 2) (.t 3), .call 15 22 [(.t 13), (.t 14), (.c (.func 23 []))], .mov 12 (.t 15), .ext 16 (.t 12) 0, .ext 17 (.t 12) 1, .ext 18 (.t 12) 2, .alloc 7 [(.int .i64 0), (.int .i64 0), (.list 1 []), (.int .i64 0), (.list 1 [])], .alloc 8 [(.int .i64 0), (.int .i64 0)], .store none 5 (.t 7) (.t 16), .store none 2 (.t 8) (.t 17), .asg 9 (.t 18)]) (.seq (.seq (.ops [.mov 19 (.t 9), .bin 20 .neq (.t 19) (.c (.int .i64 0))]) (.cond (.t 20) (.seq (.ops [.build 21 [(.int .i64 0), (.int .i64 0), (.list 1 []), (.int .i64 0), (.list 1 [])] [], .mov 22 (.t 9), .store none 5 (.t 4) (.t 21), .asg 5 (.c (.bool false)), .asg 6 (.t 22)]) .ret) .skip)) (.seq (.ops [.alloc 10 [(.bool false)], .store none 1 (.t 10) (.c (.bool false))]) (.seq (.seq (.ops [.load 23 (some 2) (.t 8), .call 24 24 [(.t 23)]]) (.block 0 (.rng (.t 24) [25] fn7_b0 fn7_b1))) (.seq (.ops [.fadr 35 (.t 2) 3, .load 36 (some 2) (.t 35), .load 37 (some 2) (.t 8), .call 38 26 [(.t 36), (.t 37)], .mov 34 (.t 38), .ext 39 (.t 34) 0, .ext 40 (.t 34) 1, .fadr 41 (.t 7) 3, .store none 2 (.t 41) (.t 39), .asg 9 (.t 40)]) (.seq (.drw [(.t 10)] [] (some ([0], [1, 2], 3, [])) [4, 5] [.load 42 (some 5) (.t 7), .ldz 43 none (.t 10), .mov 44 (.t 9), .store none 5 (.t 4) (.t 42), .asg 5 (.t 43), .asg 6 (.t 44)]) .ret)))))))⟩
def fn9_b0 : VCode := (.seq (.seq (.ops [.mov 35 (.t 5), .fadr 36 (.t 2) 2, .load 37 none (.t 36), .len 38 (.t 37), .bin 39 .lss (.t 35) (.t 38)]) (.cond (.t 39) .skip (.exit 0))) (.seq (.block 1 (.seq (.drw [] [] none [0, 1, 2, 3, 4, 5, 6, 7, 8, 9, 10] [.fadr 42 (.t 2) 2, .load 43 none (.t 42), .mov 44 (.t 5), .iadr 45 1 (.t 43) (.t 44), .load 46 none (.t 45), .fadr 47 (.t 3) 2, .load 48 none (.t 47), .mov 49 (.t 5), .iadr 50 1 (.t 48) (.t 49), .load 51 none (.t 50), .bin 52 .neq (.t 46) (.t 51)]) (.cond (.t 52) (.seq (.ops [.asg 4 (.c (.bool false))]) .ret) .skip))) (.ops [.mov 40 (.t 5), .bin 41 .add (.t 40) (.c (.int .i64 1)), .asg 5 (.t 41)])))
def fn9_l1 : VCode :=
(.clean [2, 3, 5] [4] (.block 0 (.loop [2, 3, 5] fn9_b0)))
def fn9 : VFn := ⟨2, 53, [.tmp 4], (.seq (.ops [.box 2 (.t 0), .box 3 (.t 1), .asg 4 (.c (.bool false))]) (.seq (.seq (.ops [.fadr 6 (.t 2) 0, .load 7 none (.t 6), .fadr 8 (.t 3) 0, .load 9 none (.t 8), .bin 10 .neq (.t 7) (.t 9), .mov 11 (.t 10), .grd 11 false (.fadr 12 (.t 2) 1), .grd 11 false (.load 13 none (.t 12)), .grd 11 false (.fadr 14 (.t 3) 1), .grd 11 false (.load 15 none (.t 14)), .grd 11 false (.bin 16 .neq (.t 13) (.t 15)), .pick 17 (.t 11) (.c (.bool true)) (.t 16), .mov 18 (.t 17), .grd 18 false (.fadr 19 (.t 2) 2), .grd 18 false (.load 20 none (.t 19)), .grd 18 false (.len 21 (.t 20)), .grd 18 false (.fadr 22 (.t 3) 2), .grd 18 false (.load 23 none (.t 22)), .grd 18 false (.len 24 (.t 23)), .grd 18 false (.bin 25 .neq (.t 21) (.t 24)), .pick 26 (.t 18) (.c (.bool true)) (.t 25), .mov 27 (.t 26), .grd 27 false (.fadr 28 (.t 2) 3), .grd 27 false (.load 29 (some 2) (.t 28)), .grd 27 false (.fadr 30 (.t 3) 3), .grd 27 false (.load 31 (some 2) (.t 30)), .grd 27 false (.call 32 30 [(.t 29), (.t 31)]), .grd 27 false (.un 33 .not (.t 32)), .pick 34 (.t 27) (.c (.bool true)) (.t 33)]) (.cond (.t 34) (.seq (.ops [.asg 4 (.c (.bool false))]) .ret) .skip)) (.seq (.seq (.ops [.asg 5 (.c (.int .i64 0))])
     fn9_l1) (.seq (.ops [.asg 4 (.c (.bool true))]) .ret))))⟩
def fn10_b0 : VCode := (.seq (.ops [.bin 41 .lss (.t 40) (.t 39)]) (.seq (.cond (.t 41) .skip (.exit 0)) (.seq (.block 1 (.seq (.ops [.mov 42 (.t 40), .iadr 43 1 (.t 38) (.t 40), .load 44 none (.t 43), .asg 3 (.t 42), .asg 4 (.t 44)]) (.seq (.ops [.mov 45 (.t 4), .bin 46 .lss (.t 45) (.c (.int .i64 0)), .mov 47 (.t 46), .grd 47 false (.mov 48 (.t 4)), .grd 47 false (.bin 49 .gtr (.t 48) (.c (.int .i64 4096))), .pick 50 (.t 47) (.c (.bool true)) (.t 49), .mov 51 (.t 50), .grd 51 false (.mov 52 (.t 4)), .grd 51 false (.bin 53 .gtr (.t 52) (.c (.int .i64 0))), .grd 51 false (.mov 54 (.t 53)), .grd 54 true (.fadr 55 (.t 1) 3), .grd 54 true (.load 56 (some 2) (.t 55)), .grd 54 true (.mov 57 (.t 3)), .grd 54 true (.call 58 25 [(.t 56), (.t 57)]), .grd 54 true (.un 59 .not (.t 58)), .grd 51 false (.pick 60 (.t 54) (.t 59) (.c (.bool false))), .pick 61 (.t 51) (.c (.bool true)) (.t 60)]) (.cond (.t 61) (.seq (.ops [.asg 2 (.c (.int .i64 3))]) .ret) .skip)))) (.ops [.bin 62 .add (.t 40) (.c (.int .i64 1)), .mov 40 (.t 62)]))))
def fn10_l1 : VCode :=
(.clean [1, 38, 39, 40] [2] (.block 0 (.loop [1, 38, 39, 40] fn10_b0)))
def fn10 : VFn := ⟨1, 63, [.tmp 2], (.seq (.ops [.box 1 (.t 0), .asg 2 (.c (.int .i64 0))]) (.seq (.seq (.drw [] [([0, 1, 2, 3], 4), ([5, 6, 7, 8, 9, 10, 11, 12, 13], 14), ([15, 16, 17, 18, 19], 20)] none [21, 22, 23, 24, 25, 26, 27, 28, 29, 30, 31] [.fadr 5 (.t 1) 0, .load 6 none (.t 5), .fadr 7 (.t 1) 1, .load 8 none (.t 7), .call 9 31 [(.t 6), (.t 8)], .un 10 .not (.t 9), .mov 11 (.t 10), .grd 11 false (.fadr 12 (.t 1) 2), .grd 11 false (.load 13 none (.t 12)), .grd 11 false (.len 14 (.t 13)), .grd 11 false (.fadr 15 (.t 1) 0), .grd 11 false (.load 16 none (.t 15)), .grd 11 false (.fadr 17 (.t 1) 1), .grd 11 false (.load 18 none (.t 17)), .grd 11 false (.call 19 32 [(.t 16), (.t 18)]), .grd 11 false (.bin 20 .neq (.t 14) (.t 19)), .pick 21 (.t 11) (.c (.bool true)) (.t 20), .mov 22 (.t 21), .grd 22 false (.fadr 23 (.t 1) 3), .grd 22 false (.load 24 (some 2) (.t 23)), .grd 22 false (.call 25 33 [(.t 24)]), .grd 22 false (.bin 26 .neq (.t 25) (.c (.int .i64 0))), .pick 27 (.t 22) (.c (.bool true)) (.t 26), .mov 28 (.t 27), .grd 28 false (.fadr 29 (.t 1) 3), .grd 28 false (.fadr 30 (.t 29) 0), .grd 28 false (.load 31 none (.t 30)), .grd 28 false (.fadr 32 (.t 1) 2), .grd 28 false (.load 33 none (.t 32)), .grd 28 false (.len 34 (.t 33)), .grd 28 false (.bin 35 .neq (.t 31) (.t 34)), .pick 36 (.t 28) (.c (.bool true)) (.t 35)]) (.cond (.t 36) (.seq (.ops [.asg 2 (.c (.int .i64 3))]) .ret) .skip)) (.seq (.seq (.ops [.fadr 37 (.t 1) 2, .load 38 none (.t 37), .len 39 (.t 38), .mov 40 (.c (.int .i64 0))])
     fn10_l1) (.seq (.ops [.asg 2 (.c (.int .i64 0))]) .ret))))⟩
def fn12 : VFn := ⟨2, 18, [.cell 4 (some 5), .tmp 5], (.seq (.ops [.box 2 (.t 0), .box 3 (.t 1), .alloc 4 [(.int .i64 0), (.int .i64 0), (.list 1 []), (.int .i64 0), (.list 1 [])], .asg 5 (.c (.int .i64 0))]) (.seq (.ops [.load 10 (some 5) (.t 2), .load 11 (some 2) (.t 3), .call 12 22 [(.t 10), (.t 11), (.c (.func 37 []))], .mov 9 (.t 12), .ext 13 (.t 9) 0, .ext 14 (.t 9) 1, .ext 15 (.t 9) 2, .alloc 6 [(.int .i64 0), (.int .i64 0), (.list 1 []), (.int .i64 0), (.list 1 [])], .alloc 7 [(.int .i64 0), (.int .i64 0)], .store none 5 (.t 6) (.t 13), .store none 2 (.t 7) (.t 14), .asg 8 (.t 15)]) (.seq (.ops [.load 16 (some 5) (.t 6), .mov 17 (.t 8), .store none 5 (.t 4) (.t 16), .asg 5 (.t 17)]) .ret)))⟩
def fn14_b0 : VCode := (.seq (.ops [.bin 21 .lss (.t 20) (.t 19)]) (.seq (.cond (.t 21) .skip (.exit 0)) (.seq (.block 1 (.seq (.ops [.mov 22 (.t 20), .iadr 23 1 (.t 18) (.t 20), .load 24 none (.t 23), .asg 6 (.t 22), .asg 7 (.t 24)]) (.seq (.ops [.mov 25 (.t 7), .bin 26 .eql (.t 25) (.c (.int .i64 0)), .mov 27 (.t 26), .grd 27 true (.fadr 28 (.t 1) 3), .grd 27 true (.load 29 (some 2) (.t 28)), .grd 27 true (.mov 30 (.t 6)), .grd 27 true (.call 31 25 [(.t 29), (.t 30)]), .pick 32 (.t 27) (.t 31) (.c (.bool false))]) (.cond (.t 32) (.seq (.ops [.fadr 34 (.t 4) 3, .load 35 (some 2) (.t 34), .mov 36 (.t 6), .build 37 [(.int .i64 0), (.int .i64 0)] [(0, 1, (.t 36)), (1, 1, (.c (.int .i64 1)))], .call 38 39 [(.t 35), (.t 37)], .mov 33 (.t 38), .ext 39 (.t 33) 0, .ext 40 (.t 33) 1, .fadr 41 (.t 4) 3, .store none 2 (.t 41) (.t 39)]) (.ops [.asg 5 (.c (.bool true))])) .skip)))) (.ops [.bin 42 .add (.t 20) (.c (.int .i64 1)), .mov 20 (.t 42)]))))
def fn14_l1 : VCode :=
(.clean [1, 2, 4, 5, 18, 19, 20] [2, 3, 4, 5] (.block 0 (.loop [1, 2, 4, 5, 18, 19, 20] fn14_b0)))
def fn14 : VFn := ⟨1, 45, [.cell 2 (some 5), .tmp 3], (.seq (.ops [.box 1 (.t 0), .alloc 2 [(.int .i64 0), (.int .i64 0), (.list 1 []), (.int .i64 0), (.list 1 [])], .asg 3 (.c (.bool false))]) (.seq (.seq (.ops [.load 8 (some 5) (.t 1), .call 9 10 [(.t 8)], .bin 10 .neq (.t 9) (.c (.int .i64 0))]) (.cond (.t 10) (.seq (.ops [.load 11 (some 5) (.t 1), .store none 5 (.t 2) (.t 11), .asg 3 (.c (.bool false))]) .ret) .skip)) (.seq (.ops [.load 12 (some 5) (.t 1), .alloc 4 [(.int .i64 0), (.int .i64 0), (.list 1 []), (.int .i64 0), (.list 1 [])], .store none 5 (.t 4) (.t 12), .asg 5 (.c (.bool false))]) (.seq (.ops [.fadr 13 (.t 1) 2, .load 14 none (.t 13), .call 15 38 [(.t 14)], .fadr 16 (.t 4) 2, .store none 1 (.t 16) (.t 15)]) (.seq (.seq (.ops [.fadr 17 (.t 1) 2, .load 18 none (.t 17), .len 19 (.t 18), .mov 20 (.c (.int .i64 0))])
       fn14_l1) (.seq (.ops [.load 43 (some 5) (.t 4), .mov 44 (.t 5), .store none 5 (.t 2) (.t 43), .asg 3 (.t 44)]) .ret))))))⟩
def fn16_b0 : VCode := (.seq (.ops [.bin 92 .lss (.t 91) (.t 90)]) (.seq (.cond (.t 92) .skip (.exit 1)) (.seq (.block 2 (.seq (.ops [.iadr 93 2 (.t 89) (.t 91), .load 94 (some 2) (.t 93), .alloc 16 [(.int .i64 0), (.int .i64 0)], .store none 2 (.t 16) (.t 94)]) (.seq (.ops [.fadr 95 (.t 16) 0, .load 96 none (.t 95), .mov 97 (.t 1), .bin 98 .mul (.t 96) (.t 97), .asg 17 (.t 98)]) (.ops [.mov 99 (.t 14), .mov 100 (.t 17), .fadr 101 (.t 16) 0, .load 102 none (.t 101), .fadr 103 (.t 16) 1, .load 104 none (.t 103), .bin 105 .add (.t 102) (.t 104), .mov 106 (.t 1), .bin 107 .mul (.t 105) (.t 106), .mov 108 (.t 0), .mn 109 false (.t 107) (.t 108), .mov 110 (.t 17), .bin 111 .sub (.t 109) (.t 110), .build 112 [(.int .i64 0), (.int .i64 0)] [(0, 1, (.t 100)), (1, 1, (.t 111))], .mksl 113 2 [(.t 112)], .app 114 2 (.t 99) (.t 113), .asg 14 (.t 114)])))) (.ops [.bin 115 .add (.t 91) (.c (.int .i64 1)), .mov 91 (.t 115)]))))
def fn16_l1 : VCode :=
(.clean [0, 1, 6, 9, 10, 13, 14, 51, 89, 90, 91, 114] [6, 7, 8, 9, 10, 14] (.block 1 (.loop [0, 1, 6, 9, 10, 13, 14, 51, 89, 90, 91, 114] fn16_b0)))
def fn16 : VFn := ⟨3, 120, [.cell 6 (some 5), .tmp 7, .tmp 8], (.seq (.ops [.alloc 6 [(.int .i64 0), (.int .i64 0), (.list 1 []), (.int .i64 0), (.list 1 [])], .asg 7 (.nil 2), .asg 8 (.c (.int .i64 0))]) (.seq (.ops [.mov 19 (.t 0), .mov 20 (.t 1), .call 21 19 [(.t 19), (.t 20)], .mov 18 (.t 21), .ext 22 (.t 18) 0, .ext 23 (.t 18) 1, .alloc 9 [(.int .i64 0), (.int .i64 0), (.list 1 []), (.int .i64 0), (.list 1 [])], .store none 5 (.t 9) (.t 22), .asg 10 (.t 23)]) (.seq (.seq (.ops [.mov 24 (.t 10), .bin 25 .neq (.t 24) (.c (.int .i64 0))]) (.cond (.t 25) (.seq (.ops [.build 26 [(.int .i64 0), (.int .i64 0), (.list 1 []), (.int .i64 0), (.list 1 [])] [], .mov 27 (.t 10), .store none 5 (.t 6) (.t 26), .asg 7 (.nil 2), .asg 8 (.t 27)]) .ret) .skip)) (.seq (.ops [.mov 29 (.t 2), .call 30 41 [(.t 29)], .mov 28 (.t 30), .ext 31 (.t 28) 0, .ext 32 (.t 28) 1, .ext 33 (.t 28) 2, .asg 11 (.t 31), .asg 2 (.t 32), .asg 10 (.t 33)]) (.seq (.seq (.ops [.mov 34 (.t 10), .bin 35 .neq (.t 34) (.c (.int .i64 0))]) (.cond (.t 35) (.seq (.ops [.build 36 [(.int .i64 0), (.int .i64 0), (.list 1 []), (.int .i64 0), (.list 1 [])] [], .mov 37 (.t 10), .store none 5 (.t 6) (.t 36), .asg 7 (.nil 2), .asg 8 (.t 37)]) .ret) .skip)) (.seq (.ops [.mov 39 (.t 2), .call 40 41 [(.t 39)], .mov 38 (.t 40), .ext 41 (.t 38) 0, .ext 42 (.t 38) 1, .ext 43 (.t 38) 2, .asg 12 (.t 41), .asg 2 (.t 42), .asg 10 (.t 43)]) (.seq (.seq (.ops [.mov 44 (.t 10), .bin 45 .neq (.t 44) (.c (.int .i64 0))]) (.cond (.t 45) (.seq (.ops [.build 46 [(.int .i64 0), (.int .i64 0), (.list 1 []), (.int .i64 0), (.list 1 [])] [], .mov 47 (.t 10), .store none 5 (.t 6) (.t 46), .asg 7 (.nil 2), .asg 8 (.t 47)]) .ret) .skip)) (.seq (.ops [.mov 49 (.t 2), .call 50 42 [(.t 49)], .mov 48 (.t 50), .ext 51 (.t 48) 0, .ext 52 (.t 48) 1, .ext 53 (.t 48) 2, .asg 13 (.t 51), .asg 2 (.t 52), .asg 10 (.t 53)]) (.seq (.block 0 (.seq (.ops [.mov 55 (.t 10), .bin 56 .neq (.t 55) (.c (.int .i64 0)), .asg 54 (.t 56)]) (.cond (.t 54) (.seq (.ops [.build 57 [(.int .i64 0), (.int .i64 0), (.list 1 []), (.int .i64 0), (.list 1 [])] [], .mov 58 (.t 10), .store none 5 (.t 6) (.t 57), .asg 7 (.nil 2), .asg 8 (.t 58)]) .ret) (.seq (.ops [.mov 60 (.t 2), .len 61 (.t 60), .bin 62 .gtr (.t 61) (.c (.int .i64 0)), .asg 59 (.t 62)]) (.cond (.t 59) (.seq (.ops [.build 63 [(.int .i64 0), (.int .i64 0), (.list 1 []), (.int .i64 0), (.list 1 [])] [], .store none 5 (.t 6) (.t 63), .asg 7 (.nil 2), .asg 8 (.c (.int .i64 3))]) .ret) (.seq (.seq (.ops [.mov 65 (.t 11), .mov 66 (.t 0), .bin 67 .neq (.t 65) (.t 66), .asg 64 (.t 67)]) (.cond (.t 64) .skip (.ops [.mov 68 (.t 12), .mov 69 (.t 1), .bin 70 .neq (.t 68) (.t 69), .asg 64 (.t 70)]))) (.cond (.t 64) (.seq (.ops [.build 71 [(.int .i64 0), (.int .i64 0), (.list 1 []), (.int .i64 0), (.list 1 [])] [], .store none 5 (.t 6) (.t 71), .asg 7 (.nil 2), .asg 8 (.c (.int .i64 22))]) .ret) (.seq (.ops [.mov 73 (.t 13), .fadr 74 (.t 9) 2, .load 75 none (.t 74), .len 76 (.t 75), .call 77 43 [(.t 73), (.t 76)], .bin 78 .neq (.t 77) (.c (.int .i64 0)), .asg 72 (.t 78)]) (.cond (.t 72) (.seq (.ops [.build 79 [(.int .i64 0), (.int .i64 0), (.list 1 []), (.int .i64 0), (.list 1 [])] [], .store none 5 (.t 6) (.t 79), .asg 7 (.nil 2), .asg 8 (.c (.int .i64 3))]) .ret) .skip))))))))) (.seq (.ops [.fadr 81 (.t 9) 2, .load 82 none (.t 81), .len 83 (.t 82), .mov 84 (.t 13), .call 85 44 [(.t 83), (.t 84)], .mov 80 (.t 85), .ext 86 (.t 80) 0, .ext 87 (.t 80) 1, .fadr 88 (.t 9) 3, .store none 2 (.t 88) (.t 86), .asg 10 (.t 87)]) (.seq (.ops [.asg 14 (.nil 2)]) (.seq (.seq (.ops [.mov 89 (.t 13), .len 90 (.t 89), .mov 91 (.c (.int .i64 0))])
              fn16_l1) (.seq (.drw [] [([0, 1, 3], 2)] (some ([], [], 4, [])) [5, 6] [.load 116 (some 5) (.t 9), .mov 117 (.t 14), .mov 119 (.t 10), .call 118 45 [(.t 117), (.nil 2)], .store none 5 (.t 6) (.t 116), .asg 7 (.t 118), .asg 8 (.t 119)]) .ret)))))))))))))⟩
def fn17_b0 : VCode := (.seq (.seq (.ops [.mov 70 (.t 16), .mov 71 (.t 13), .len 72 (.t 71), .bin 73 .lss (.t 70) (.t 72)]) (.cond (.t 73) .skip (.exit 0))) (.seq (.block 1 (.seq (.drw [] [] none [0, 1, 2, 3, 4, 5, 6, 7, 8, 9, 10, 11, 12, 13, 14, 15, 16, 17, 18, 19, 20, 21, 22, 23] [.mov 76 (.t 13), .mov 77 (.t 16), .iadr 78 2 (.t 76) (.t 77), .fadr 79 (.t 78) 0, .load 80 none (.t 79), .mov 81 (.t 1), .bin 82 .mul (.t 80) (.t 81), .mov 83 (.t 13), .mov 84 (.t 16), .iadr 85 2 (.t 83) (.t 84), .fadr 86 (.t 85) 0, .load 87 none (.t 86), .mov 88 (.t 13), .mov 89 (.t 16), .iadr 90 2 (.t 88) (.t 89), .fadr 91 (.t 90) 1, .load 92 none (.t 91), .bin 93 .add (.t 87) (.t 92), .mov 94 (.t 1), .bin 95 .mul (.t 93) (.t 94), .mov 96 (.t 0), .mn 97 false (.t 95) (.t 96), .asg 17 (.t 82), .asg 18 (.t 97)]) (.ops [.load 99 (some 2) (.t 14), .mov 100 (.t 17), .mov 101 (.t 18), .mov 102 (.t 17), .bin 103 .sub (.t 101) (.t 102), .build 104 [(.int .i64 0), (.int .i64 0)] [(0, 1, (.t 100)), (1, 1, (.t 103))], .call 105 29 [(.t 99), (.t 104)], .mov 98 (.t 105), .ext 106 (.t 98) 0, .ext 107 (.t 98) 1, .store none 2 (.t 14) (.t 106)]))) (.ops [.mov 74 (.t 16), .bin 75 .add (.t 74) (.c (.int .i64 1)), .asg 16 (.t 75)])))
def fn17_l1 : VCode :=
(.clean [0, 1, 6, 9, 13, 14, 16, 34] [6, 7, 8, 9, 14] (.block 0 (.loop [0, 1, 6, 9, 13, 14, 16, 34] fn17_b0)))
def fn17 : VFn := ⟨3, 111, [.cell 6 (some 5), .tmp 7, .tmp 8], (.seq (.ops [.alloc 6 [(.int .i64 0), (.int .i64 0), (.list 1 []), (.int .i64 0), (.list 1 [])], .asg 7 (.nil 2), .asg 8 (.c (.int .i64 0))]) (.seq (.ops [.mov 20 (.t 0), .mov 21 (.t 1), .call 22 46 [(.t 20), (.t 21)], .mov 19 (.t 22), .ext 23 (.t 19) 0, .ext 24 (.t 19) 1, .alloc 9 [(.int .i64 0), (.int .i64 0), (.list 1 []), (.int .i64 0), (.list 1 [])], .store none 5 (.t 9) (.t 23), .asg 10 (.t 24)]) (.seq (.seq (.ops [.mov 25 (.t 10), .bin 26 .neq (.t 25) (.c (.int .i64 0))]) (.cond (.t 26) (.seq (.ops [.build 27 [(.int .i64 0), (.int .i64 0), (.list 1 []), (.int .i64 0), (.list 1 [])] [], .mov 28 (.t 10), .store none 5 (.t 6) (.t 27), .asg 7 (.nil 2), .asg 8 (.t 28)]) .ret) .skip)) (.seq (.ops [.mov 30 (.t 2), .call 31 47 [(.t 30)], .mov 29 (.t 31), .ext 32 (.t 29) 0, .ext 33 (.t 29) 1, .ext 34 (.t 29) 2, .ext 35 (.t 29) 3, .asg 11 (.t 32), .asg 12 (.t 33), .asg 13 (.t 34), .asg 10 (.t 35)]) (.seq (.seq (.ops [.mov 36 (.t 10), .bin 37 .neq (.t 36) (.c (.int .i64 0))]) (.cond (.t 37) (.seq (.ops [.build 38 [(.int .i64 0), (.int .i64 0), (.list 1 []), (.int .i64 0), (.list 1 [])] [], .mov 39 (.t 10), .store none 5 (.t 6) (.t 38), .asg 7 (.nil 2), .asg 8 (.t 39)]) .ret) .skip)) (.seq (.seq (.ops [.mov 40 (.t 11), .mov 41 (.t 0), .bin 42 .neq (.t 40) (.t 41), .mov 43 (.t 42), .grd 43 false (.mov 44 (.t 12)), .grd 43 false (.mov 45 (.t 1)), .grd 43 false (.bin 46 .neq (.t 44) (.t 45)), .pick 47 (.t 43) (.c (.bool true)) (.t 46)]) (.cond (.t 47) (.seq (.ops [.build 48 [(.int .i64 0), (.int .i64 0), (.list 1 []), (.int .i64 0), (.list 1 [])] [], .store none 5 (.t 6) (.t 48), .asg 7 (.nil 2), .asg 8 (.c (.int .i64 22))]) .ret) .skip)) (.seq (.seq (.ops [.mov 49 (.t 13), .mov 50 (.t 0), .mov 51 (.t 1), .call 52 35 [(.t 50), (.t 51)], .call 53 48 [(.t 49), (.t 52)], .bin 54 .neq (.t 53) (.c (.int .i64 0))]) (.cond (.t 54) (.seq (.ops [.build 55 [(.int .i64 0), (.int .i64 0), (.list 1 []), (.int .i64 0), (.list 1 [])] [], .store none 5 (.t 6) (.t 55), .asg 7 (.nil 2), .asg 8 (.c (.int .i64 3))]) .ret) .skip)) (.seq (.ops [.mov 57 (.t 0), .mov 58 (.t 1), .call 59 35 [(.t 57), (.t 58)], .mov 60 (.t 13), .call 61 49 [(.t 59), (.t 60)], .mov 56 (.t 61), .ext 62 (.t 56) 0, .ext 63 (.t 56) 1, .fadr 64 (.t 9) 3, .store none 2 (.t 64) (.t 62)]) (.seq (.ops [.mov 66 (.t 0), .call 67 50 [(.t 66)], .mov 65 (.t 67), .ext 68 (.t 65) 0, .ext 69 (.t 65) 1, .alloc 14 [(.int .i64 0), (.list 1 [])], .store none 2 (.t 14) (.t 68), .asg 15 (.t 69)]) (.seq (.seq (.ops [.asg 16 (.c (.int .i64 0))])
            fn17_l1) (.seq (.drw [] [([0, 1], 2)] (some ([], [], 3, [])) [4, 5] [.load 108 (some 5) (.t 9), .load 109 (some 2) (.t 14), .call 110 21 [(.t 109)], .store none 5 (.t 6) (.t 108), .asg 7 (.t 110), .asg 8 (.c (.int .i64 0))]) .ret)))))))))))⟩
def fn18_b0 : VCode := (.seq (.seq (.ops [.mov 11 (.t 5), .mov 12 (.t 0), .len 13 (.t 12), .bin 14 .lss (.t 11) (.t 13)]) (.cond (.t 14) .skip (.exit 0))) (.seq (.block 1 (.seq (.drw [] [] none [0, 1, 2, 3, 4, 5, 6, 7, 8] [.mov 17 (.t 0), .mov 18 (.t 5), .iadr 19 2 (.t 17) (.t 18), .load 20 (some 2) (.t 19), .mov 21 (.t 1), .mov 22 (.t 5), .iadr 23 2 (.t 21) (.t 22), .load 24 (some 2) (.t 23), .eqa 25 true 2 (.t 20) (.t 24)]) (.cond (.t 25) (.seq (.ops [.asg 4 (.c (.bool false))]) .ret) .skip))) (.ops [.mov 15 (.t 5), .bin 16 .add (.t 15) (.c (.int .i64 1)), .asg 5 (.t 16)])))
def fn18_l1 : VCode :=
(.clean [0, 1, 5] [4] (.block 0 (.loop [0, 1, 5] fn18_b0)))
def fn18 : VFn := ⟨2, 26, [.tmp 4], (.seq (.ops [.asg 4 (.c (.bool false))]) (.seq (.seq (.ops [.mov 6 (.t 0), .len 7 (.t 6), .mov 8 (.t 1), .len 9 (.t 8), .bin 10 .neq (.t 7) (.t 9)]) (.cond (.t 10) (.seq (.ops [.asg 4 (.c (.bool false))]) .ret) .skip)) (.seq (.seq (.ops [.asg 5 (.c (.int .i64 0))])
     fn18_l1) (.seq (.ops [.asg 4 (.c (.bool true))]) .ret))))⟩
def fn19 : VFn := ⟨2, 29, [.cell 4 (some 5), .tmp 5], (.seq (.ops [.alloc 4 [(.int .i64 0), (.int .i64 0), (.list 1 []), (.int .i64 0), (.list 1 [])], .asg 5 (.c (.int .i64 0))]) (.seq (.seq (.ops [.mov 9 (.t 0), .mov 10 (.t 1), .call 11 31 [(.t 9), (.t 10)], .un 12 .not (.t 11)]) (.cond (.t 12) (.seq (.ops [.build 13 [(.int .i64 0), (.int .i64 0), (.list 1 []), (.int .i64 0), (.list 1 [])] [], .store none 5 (.t 4) (.t 13), .asg 5 (.c (.int .i64 2))]) .ret) .skip)) (.seq (.ops [.mov 14 (.t 0), .mov 15 (.t 1), .call 16 32 [(.t 14), (.t 15)], .asg 6 (.t 16)]) (.seq (.ops [.mov 18 (.t 6), .call 19 51 [(.t 18)], .mov 17 (.t 19), .ext 20 (.t 17) 0, .ext 21 (.t 17) 1, .alloc 7 [(.int .i64 0), (.list 1 [])], .store none 2 (.t 7) (.t 20), .asg 8 (.t 21)]) (.seq (.drw [] [([0, 1, 2, 4, 6], 3)] (some ([5], [], 7, [])) [8] [.mov 22 (.t 0), .mov 23 (.t 1), .mov 24 (.t 6), .load 26 (some 2) (.t 7), .mov 28 (.t 8), .make 25 (.int .i64 0) (.t 24) (.t 24), .build 27 [(.int .i64 0), (.int .i64 0), (.list 1 []), (.int .i64 0), (.list 1 [])] [(0, 1, (.t 22)), (1, 1, (.t 23)), (2, 1, (.t 25)), (3, 2, (.t 26))], .store none 5 (.t 4) (.t 27), .asg 5 (.t 28)]) .ret)))))⟩
def fn20 : VFn := ⟨1, 18, [.tmp 2], (.seq (.ops [.box 1 (.t 0), .asg 2 (.nil 1)]) (.seq (.seq (.ops [.load 4 (some 5) (.t 1), .call 5 10 [(.t 4)], .bin 6 .neq (.t 5) (.c (.int .i64 0))]) (.cond (.t 6) (.seq (.ops [.asg 2 (.nil 1)]) .ret) .skip)) (.seq (.drw [] [([0, 1, 3, 4], 2), ([], 5)] none [6] [.fadr 7 (.t 1) 0, .load 8 none (.t 7), .fadr 10 (.t 1) 1, .load 11 none (.t 10), .call 9 52 [(.nil 1), (.t 8)], .call 12 52 [(.t 9), (.t 11)], .asg 3 (.t 12)]) (.seq (.ops [.mov 13 (.t 3), .fadr 14 (.t 1) 3, .load 15 (some 2) (.t 14), .call 16 54 [(.t 15)], .call 17 53 [(.t 13), (.t 16)], .asg 2 (.t 17)]) .ret))))⟩
def fn21_b0 : VCode := (.seq (.seq (.ops [.mov 9 (.t 4), .fadr 10 (.t 1) 0, .load 11 none (.t 10), .bin 12 .lss (.t 9) (.t 11)]) (.cond (.t 12) .skip (.exit 0))) (.seq (.block 1 (.seq (.seq (.ops [.load 15 (some 2) (.t 1), .mov 16 (.t 4), .call 17 55 [(.t 15), (.t 16)], .un 18 .not (.t 17)]) (.cond (.t 18) (.exit 1) .skip)) (.seq (.ops [.mov 19 (.t 3), .len 20 (.t 19), .asg 5 (.t 20)]) (.seq (.drw [] [] none [0, 1, 2, 3, 4, 5, 6, 7, 8, 9, 10, 11, 12, 13, 14, 15, 16, 17, 18] [.mov 21 (.t 5), .bin 22 .gtr (.t 21) (.c (.int .i64 0)), .mov 23 (.t 22), .grd 23 true (.mov 24 (.t 3)), .grd 23 true (.mov 25 (.t 5)), .grd 23 true (.bin 26 .sub (.t 25) (.c (.int .i64 1))), .grd 23 true (.iadr 27 2 (.t 24) (.t 26)), .grd 23 true (.fadr 28 (.t 27) 0), .grd 23 true (.load 29 none (.t 28)), .grd 23 true (.mov 30 (.t 3)), .grd 23 true (.mov 31 (.t 5)), .grd 23 true (.bin 32 .sub (.t 31) (.c (.int .i64 1))), .grd 23 true (.iadr 33 2 (.t 30) (.t 32)), .grd 23 true (.fadr 34 (.t 33) 1), .grd 23 true (.load 35 none (.t 34)), .grd 23 true (.bin 36 .add (.t 29) (.t 35)), .grd 23 true (.mov 37 (.t 4)), .grd 23 true (.bin 38 .eql (.t 36) (.t 37)), .pick 39 (.t 23) (.t 38) (.c (.bool false))]) (.cond (.t 39) (.ops [.mov 40 (.t 3), .mov 41 (.t 5), .bin 42 .sub (.t 41) (.c (.int .i64 1)), .iadr 43 2 (.t 40) (.t 42), .fadr 44 (.t 43) 1, .load 45 none (.t 44), .bin 46 .add (.t 45) (.c (.int .i64 1)), .iadr 47 2 (.t 40) (.t 42), .fadr 48 (.t 47) 1, .store none 1 (.t 48) (.t 46)]) (.ops [.mov 49 (.t 3), .mov 50 (.t 4), .build 51 [(.int .i64 0), (.int .i64 0)] [(0, 1, (.t 50)), (1, 1, (.c (.int .i64 1)))], .mksl 52 2 [(.t 51)], .app 53 2 (.t 49) (.t 52), .asg 3 (.t 53)])))))) (.ops [.mov 13 (.t 4), .bin 14 .add (.t 13) (.c (.int .i64 1)), .asg 4 (.t 14)])))
def fn21_l1 : VCode :=
(.clean [1, 3, 4, 53] [2, 3] (.block 0 (.loop [1, 3, 4, 53] fn21_b0)))
def fn21 : VFn := ⟨1, 55, [.tmp 2], (.seq (.ops [.box 1 (.t 0), .asg 2 (.nil 2)]) (.seq (.ops [.asg 3 (.nil 2)]) (.seq (.seq (.ops [.load 6 (some 2) (.t 1), .call 7 36 [(.t 6)], .bin 8 .neq (.t 7) (.c (.int .i64 0))]) (.cond (.t 8) (.seq (.ops [.asg 2 (.nil 2)]) .ret) .skip)) (.seq (.seq (.ops [.asg 4 (.c (.int .i64 0))])
      fn21_l1) (.seq (.ops [.mov 54 (.t 3), .asg 2 (.t 54)]) .ret)))))⟩
def fn22_b0 : VCode := (.ops [.asg 12 (.t 37)])
def fn22_b1 : VCode := (.block 1 (.seq (.drw [] [([0, 1, 2, 3, 4, 5, 6, 7, 8], 9)] (some ([10, 11, 13], [12], 14, [([], 15)])) [] [.fadr 39 (.t 3) 2, .load 40 none (.t 39), .mov 41 (.t 12), .load 42 none (.t 5), .fadr 43 (.t 3) 2, .load 44 none (.t 43), .mov 45 (.t 12), .iadr 46 1 (.t 44) (.t 45), .load 47 none (.t 46), .callv 48 (.t 42) [(.t 47)], .mov 38 (.t 48), .ext 49 (.t 38) 0, .iadr 51 1 (.t 40) (.t 41), .ext 50 (.t 38) 1, .store none 1 (.t 51) (.t 49), .store none 1 (.t 11) (.t 50)]) (.seq (.ops [.load 52 none (.t 11), .bin 53 .neq (.t 52) (.c (.int .i64 0))]) (.cond (.t 53) (.seq (.drw [(.t 11)] [] (some ([0], [2, 1], 3, [([], 4), ([], 5)])) [] [.build 54 [(.int .i64 0), (.int .i64 0), (.list 1 []), (.int .i64 0), (.list 1 [])] [], .ldz 56 none (.t 11), .build 55 [(.int .i64 0), (.int .i64 0)] [], .store none 5 (.t 6) (.t 54), .store none 2 (.t 7) (.t 55), .store none 1 (.t 8) (.t 56)]) .ret) .skip))))
def fn22 : VFn := ⟨3, 59, [.cell 6 (some 5), .cell 7 (some 2), .cell 8 none], (.seq (.ops [.box 3 (.t 0), .box 4 (.t 1), .box 5 (.t 2), .alloc 6 [(.int .i64 0), (.int .i64 0), (.list 1 []), (.int .i64 0), (.list 1 [])], .alloc 7 [(.int .i64 0), (.int .i64 0)], .alloc 8 [(.int .i64 0)]]) (.seq (.seq (.ops [.load 13 (some 5) (.t 3), .call 14 10 [(.t 13)], .asg 9 (.t 14)]) (.seq (.ops [.mov 15 (.t 9), .bin 16 .neq (.t 15) (.c (.int .i64 0))]) (.cond (.t 16) (.seq (.ops [.build 17 [(.int .i64 0), (.int .i64 0), (.list 1 []), (.int .i64 0), (.list 1 [])] [], .build 18 [(.int .i64 0), (.int .i64 0)] [], .mov 19 (.t 9), .store none 5 (.t 6) (.t 17), .store none 2 (.t 7) (.t 18), .store none 1 (.t 8) (.t 19)]) .ret) .skip))) (.seq (.ops [.load 21 (some 5) (.t 3), .load 22 (some 2) (.t 4), .call 23 56 [(.t 21), (.t 22)], .mov 20 (.t 23), .ext 24 (.t 20) 0, .ext 25 (.t 20) 1, .alloc 10 [(.int .i64 0), (.int .i64 0)], .alloc 11 [(.int .i64 0)], .store none 2 (.t 10) (.t 24), .store none 1 (.t 11) (.t 25)]) (.seq (.seq (.ops [.load 26 none (.t 11), .bin 27 .neq (.t 26) (.c (.int .i64 0))]) (.cond (.t 27) (.seq (.drw [(.t 11)] [] (some ([0], [2, 1], 3, [([], 4), ([], 5)])) [] [.build 28 [(.int .i64 0), (.int .i64 0), (.list 1 []), (.int .i64 0), (.list 1 [])] [], .ldz 30 none (.t 11), .build 29 [(.int .i64 0), (.int .i64 0)] [], .store none 5 (.t 6) (.t 28), .store none 2 (.t 7) (.t 29), .store none 1 (.t 8) (.t 30)]) .ret) .skip)) (.seq (.ops [.fadr 31 (.t 3) 2, .load 32 none (.t 31), .call 33 38 [(.t 32)], .fadr 34 (.t 3) 2, .store none 1 (.t 34) (.t 33)]) (.seq (.seq (.ops [.load 35 (some 2) (.t 10), .call 36 24 [(.t 35)]]) (.block 0 (.rng (.t 36) [37] fn22_b0 fn22_b1))) (.seq (.drw [(.t 10)] [] (some ([0], [1], 2, [([], 3), ([], 4)])) [] [.load 57 (some 5) (.t 3), .ldz 58 (some 2) (.t 10), .store none 5 (.t 6) (.t 57), .store none 2 (.t 7) (.t 58), .store none 1 (.t 8) (.c (.int .i64 0))]) .ret)))))))⟩
def fn23 : VFn := ⟨1, 8, [.tmp 2, .tmp 3], (.seq (.ops [.asg 2 (.c (.int .i64 0)), .asg 3 (.c (.int .i64 0))]) (.seq (.seq (.ops [.mov 4 (.t 0), .bin 5 .eql (.t 4) (.c (.int .i64 4096))]) (.cond (.t 5) (.seq (.ops [.asg 2 (.c (.int .i64 0)), .asg 3 (.c (.int .i64 6))]) .ret) .skip)) (.seq (.ops [.mov 6 (.t 0), .bin 7 .add (.t 6) (.c (.int .i64 1)), .asg 2 (.t 7), .asg 3 (.c (.int .i64 0))]) .ret)))⟩
def fn24 : VFn := ⟨1, 4, [.tmp 2], (.seq (.ops [.box 1 (.t 0), .asg 2 (.c .nilf)]) (.seq (.ops [.mkf 3 57 [(.t 1)], .asg 2 (.t 3)]) .ret))⟩
def fn25 : VFn := ⟨2, 31, [.tmp 4], (.seq (.ops [.box 2 (.t 0), .asg 4 (.c (.bool false))]) (.seq (.ops [.load 5 (some 2) (.t 2), .call 6 33 [(.t 5)], .bin 7 .eql (.t 6) (.c (.int .i64 0)), .mov 8 (.t 7), .grd 8 true (.mov 9 (.t 1)), .grd 8 true (.bin 10 .geq (.t 9) (.c (.int .i64 0))), .pick 11 (.t 8) (.t 10) (.c (.bool false)), .mov 12 (.t 11), .grd 12 true (.mov 13 (.t 1)), .grd 12 true (.fadr 14 (.t 2) 0), .grd 12 true (.load 15 none (.t 14)), .grd 12 true (.bin 16 .lss (.t 13) (.t 15)), .pick 17 (.t 12) (.t 16) (.c (.bool false)), .mov 18 (.t 17), .grd 18 true (.fadr 19 (.t 2) 1), .grd 18 true (.load 20 none (.t 19)), .grd 18 true (.mov 21 (.t 1)), .grd 18 true (.bin 22 .quo (.t 21) (.c (.int .i64 64))), .grd 18 true (.iadr 23 1 (.t 20) (.t 22)), .grd 18 true (.load 24 none (.t 23)), .grd 18 true (.mov 25 (.t 1)), .grd 18 true (.bin 26 .rem (.t 25) (.c (.int .i64 64))), .grd 18 true (.bin 27 .shr (.t 24) (.t 26)), .grd 18 true (.bin 28 .and (.t 27) (.c (.int .u64 1))), .grd 18 true (.bin 29 .eql (.t 28) (.c (.int .u64 1))), .pick 30 (.t 18) (.t 29) (.c (.bool false)), .asg 4 (.t 30)]) .ret))⟩
def fn26 : VFn := ⟨2, 12, [.cell 4 (some 2), .tmp 5], (.seq (.ops [.box 2 (.t 0), .box 3 (.t 1), .alloc 4 [(.int .i64 0), (.list 1 [])], .asg 5 (.c (.int .i64 0))]) (.seq (.ops [.build 6 [.nilf] [(0, 1, (.c (.func 58 [])))], .load 7 (some 2) (.t 2), .load 8 (some 2) (.t 3), .call 9 59 [(.t 6), (.t 7), (.t 8)], .ext 10 (.t 9) 0, .ext 11 (.t 9) 1, .store none 2 (.t 4) (.t 10), .asg 5 (.t 11)]) .ret))⟩
def fn29 : VFn := ⟨2, 11, [.cell 4 (some 2), .tmp 5], (.seq (.ops [.box 2 (.t 0), .box 3 (.t 1), .alloc 4 [(.int .i64 0), (.list 1 [])], .asg 5 (.c (.int .i64 0))]) (.seq (.ops [.load 6 (some 2) (.t 2), .load 7 (some 2) (.t 3), .call 8 60 [(.t 6), (.t 7), (.c (.bool true))], .ext 9 (.t 8) 0, .ext 10 (.t 8) 1, .store none 2 (.t 4) (.t 9), .asg 5 (.t 10)]) .ret))⟩
def fn30_b0 : VCode := (.seq (.seq (.ops [.mov 20 (.t 5), .fadr 21 (.t 2) 1, .load 22 none (.t 21), .len 23 (.t 22), .bin 24 .lss (.t 20) (.t 23)]) (.cond (.t 24) .skip (.exit 0))) (.seq (.block 1 (.seq (.drw [] [] none [0, 1, 2, 3, 4, 5, 6, 7, 8, 9, 10] [.fadr 27 (.t 2) 1, .load 28 none (.t 27), .mov 29 (.t 5), .iadr 30 1 (.t 28) (.t 29), .load 31 none (.t 30), .fadr 32 (.t 3) 1, .load 33 none (.t 32), .mov 34 (.t 5), .iadr 35 1 (.t 33) (.t 34), .load 36 none (.t 35), .bin 37 .neq (.t 31) (.t 36)]) (.cond (.t 37) (.seq (.ops [.asg 4 (.c (.bool false))]) .ret) .skip))) (.ops [.mov 25 (.t 5), .bin 26 .add (.t 25) (.c (.int .i64 1)), .asg 5 (.t 26)])))
def fn30_l1 : VCode :=
(.clean [2, 3, 5] [4] (.block 0 (.loop [2, 3, 5] fn30_b0)))
def fn30 : VFn := ⟨2, 38, [.tmp 4], (.seq (.ops [.box 2 (.t 0), .box 3 (.t 1), .asg 4 (.c (.bool false))]) (.seq (.seq (.ops [.fadr 6 (.t 2) 0, .load 7 none (.t 6), .fadr 8 (.t 3) 0, .load 9 none (.t 8), .bin 10 .neq (.t 7) (.t 9), .mov 11 (.t 10), .grd 11 false (.fadr 12 (.t 2) 1), .grd 11 false (.load 13 none (.t 12)), .grd 11 false (.len 14 (.t 13)), .grd 11 false (.fadr 15 (.t 3) 1), .grd 11 false (.load 16 none (.t 15)), .grd 11 false (.len 17 (.t 16)), .grd 11 false (.bin 18 .neq (.t 14) (.t 17)), .pick 19 (.t 11) (.c (.bool true)) (.t 18)]) (.cond (.t 19) (.seq (.ops [.asg 4 (.c (.bool false))]) .ret) .skip)) (.seq (.seq (.ops [.asg 5 (.c (.int .i64 0))])
     fn30_l1) (.seq (.ops [.asg 4 (.c (.bool true))]) .ret))))⟩
def fn31 : VFn := ⟨2, 19, [.tmp 4], (.seq (.ops [.asg 4 (.c (.bool false))]) (.seq (.ops [.mov 5 (.t 0), .bin 6 .geq (.t 5) (.c (.int .i64 1)), .mov 7 (.t 6), .grd 7 true (.mov 8 (.t 0)), .grd 7 true (.bin 9 .leq (.t 8) (.c (.int .i64 4096))), .pick 10 (.t 7) (.t 9) (.c (.bool false)), .mov 11 (.t 10), .grd 11 true (.mov 12 (.t 1)), .grd 11 true (.bin 13 .geq (.t 12) (.c (.int .i64 1))), .pick 14 (.t 11) (.t 13) (.c (.bool false)), .mov 15 (.t 14), .grd 15 true (.mov 16 (.t 1)), .grd 15 true (.bin 17 .leq (.t 16) (.c (.int .i64 4096))), .pick 18 (.t 15) (.t 17) (.c (.bool false)), .asg 4 (.t 18)]) .ret))⟩
def fn32 : VFn := ⟨2, 11, [.tmp 4], (.seq (.ops [.asg 4 (.c (.int .i64 0))]) (.seq (.ops [.mov 5 (.t 0), .mov 6 (.t 1), .bin 7 .add (.t 5) (.t 6), .bin 8 .sub (.t 7) (.c (.int .i64 1)), .mov 9 (.t 1), .bin 10 .quo (.t 8) (.t 9), .asg 4 (.t 10)]) .ret))⟩
def fn33 : VFn := ⟨1, 39, [.tmp 2], (.seq (.ops [.box 1 (.t 0), .asg 2 (.c (.int .i64 0))]) (.seq (.seq (.drw [] [([0, 1, 2, 3, 4, 5, 6, 7, 8, 9, 10, 11, 12, 13], 14)] none [15, 16] [.fadr 4 (.t 1) 0, .load 5 none (.t 4), .bin 6 .lss (.t 5) (.c (.int .i64 0)), .mov 7 (.t 6), .grd 7 false (.fadr 8 (.t 1) 0), .grd 7 false (.load 9 none (.t 8)), .grd 7 false (.bin 10 .gtr (.t 9) (.c (.int .i64 4096))), .pick 11 (.t 7) (.c (.bool true)) (.t 10), .mov 12 (.t 11), .grd 12 false (.fadr 13 (.t 1) 1), .grd 12 false (.load 14 none (.t 13)), .grd 12 false (.len 15 (.t 14)), .grd 12 false (.fadr 16 (.t 1) 0), .grd 12 false (.load 17 none (.t 16)), .grd 12 false (.call 18 61 [(.t 17)]), .grd 12 false (.bin 19 .neq (.t 15) (.t 18)), .pick 20 (.t 12) (.c (.bool true)) (.t 19)]) (.cond (.t 20) (.seq (.ops [.asg 2 (.c (.int .i64 3))]) .ret) .skip)) (.seq (.seq (.ops [.fadr 21 (.t 1) 0, .load 22 none (.t 21), .bin 23 .rem (.t 22) (.c (.int .i64 64)), .asg 3 (.t 23)]) (.seq (.ops [.mov 24 (.t 3), .bin 25 .gtr (.t 24) (.c (.int .i64 0)), .mov 26 (.t 25), .grd 26 true (.fadr 27 (.t 1) 1), .grd 26 true (.load 28 none (.t 27)), .grd 26 true (.fadr 29 (.t 1) 1), .grd 26 true (.load 30 none (.t 29)), .grd 26 true (.len 31 (.t 30)), .grd 26 true (.bin 32 .sub (.t 31) (.c (.int .i64 1))), .grd 26 true (.iadr 33 1 (.t 28) (.t 32)), .grd 26 true (.load 34 none (.t 33)), .grd 26 true (.mov 35 (.t 3)), .grd 26 true (.bin 36 .shr (.t 34) (.t 35)), .grd 26 true (.bin 37 .neq (.t 36) (.c (.int .u64 0))), .pick 38 (.t 26) (.t 37) (.c (.bool false))]) (.cond (.t 38) (.seq (.ops [.asg 2 (.c (.int .i64 3))]) .ret) .skip))) (.seq (.ops [.asg 2 (.c (.int .i64 0))]) .ret))))⟩
def fn34 : VFn := ⟨2, 19, [.tmp 4], (.seq (.ops [.asg 4 (.c (.bool false))]) (.seq (.ops [.mov 5 (.t 0), .bin 6 .geq (.t 5) (.c (.int .i64 1)), .mov 7 (.t 6), .grd 7 true (.mov 8 (.t 0)), .grd 7 true (.bin 9 .leq (.t 8) (.c (.int .i64 4096))), .pick 10 (.t 7) (.t 9) (.c (.bool false)), .mov 11 (.t 10), .grd 11 true (.mov 12 (.t 1)), .grd 11 true (.bin 13 .geq (.t 12) (.c (.int .i64 1))), .pick 14 (.t 11) (.t 13) (.c (.bool false)), .mov 15 (.t 14), .grd 15 true (.mov 16 (.t 1)), .grd 15 true (.bin 17 .leq (.t 16) (.c (.int .i64 4096))), .pick 18 (.t 15) (.t 17) (.c (.bool false)), .asg 4 (.t 18)]) .ret))⟩
def fn35 : VFn := ⟨2, 11, [.tmp 4], (.seq (.ops [.asg 4 (.c (.int .i64 0))]) (.seq (.ops [.mov 5 (.t 0), .mov 6 (.t 1), .bin 7 .add (.t 5) (.t 6), .bin 8 .sub (.t 7) (.c (.int .i64 1)), .mov 9 (.t 1), .bin 10 .quo (.t 8) (.t 9), .asg 4 (.t 10)]) .ret))⟩
def fn36_b0 : VCode := (.seq (.seq (.ops [.mov 24 (.t 3), .fadr 25 (.t 1) 1, .load 26 none (.t 25), .len 27 (.t 26), .bin 28 .mul (.c (.int .i64 64)) (.t 27), .bin 29 .lss (.t 24) (.t 28)]) (.cond (.t 29) .skip (.exit 0))) (.seq (.block 1 (.seq (.ops [.load 32 (some 2) (.t 1), .mov 33 (.t 3), .call 34 55 [(.t 32), (.t 33)]]) (.cond (.t 34) (.seq (.ops [.asg 2 (.c (.int .i64 3))]) .ret) .skip))) (.ops [.mov 30 (.t 3), .bin 31 .add (.t 30) (.c (.int .i64 1)), .asg 3 (.t 31)])))
def fn36_l1 : VCode :=
(.clean [1, 3] [2] (.block 0 (.loop [1, 3] fn36_b0)))
def fn36 : VFn := ⟨1, 35, [.tmp 2], (.seq (.ops [.box 1 (.t 0), .asg 2 (.c (.int .i64 0))]) (.seq (.seq (.ops [.fadr 4 (.t 1) 0, .load 5 none (.t 4), .bin 6 .lss (.t 5) (.c (.int .i64 0)), .mov 7 (.t 6), .grd 7 false (.fadr 8 (.t 1) 0), .grd 7 false (.load 9 none (.t 8)), .grd 7 false (.bin 10 .gtr (.t 9) (.c (.int .i64 4096))), .pick 11 (.t 7) (.c (.bool true)) (.t 10), .mov 12 (.t 11), .grd 12 false (.fadr 13 (.t 1) 1), .grd 12 false (.load 14 none (.t 13)), .grd 12 false (.len 15 (.t 14)), .grd 12 false (.fadr 16 (.t 1) 0), .grd 12 false (.load 17 none (.t 16)), .grd 12 false (.bin 18 .add (.t 17) (.c (.int .i64 63))), .grd 12 false (.bin 19 .quo (.t 18) (.c (.int .i64 64))), .grd 12 false (.bin 20 .neq (.t 15) (.t 19)), .pick 21 (.t 12) (.c (.bool true)) (.t 20)]) (.cond (.t 21) (.seq (.ops [.asg 2 (.c (.int .i64 3))]) .ret) .skip)) (.seq (.seq (.ops [.fadr 22 (.t 1) 0, .load 23 none (.t 22), .asg 3 (.t 23)])
     fn36_l1) (.seq (.ops [.asg 2 (.c (.int .i64 0))]) .ret))))⟩
def fn37 : VFn := ⟨1, 8, [.tmp 2, .tmp 3], (.seq (.ops [.asg 2 (.c (.int .i64 0)), .asg 3 (.c (.int .i64 0))]) (.seq (.seq (.ops [.mov 4 (.t 0), .bin 5 .eql (.t 4) (.c (.int .i64 0))]) (.cond (.t 5) (.seq (.ops [.asg 2 (.c (.int .i64 0)), .asg 3 (.c (.int .i64 12))]) .ret) .skip)) (.seq (.ops [.mov 6 (.t 0), .bin 7 .sub (.t 6) (.c (.int .i64 1)), .asg 2 (.t 7), .asg 3 (.c (.int .i64 0))]) .ret)))⟩
def fn38 : VFn := ⟨1, 8, [.tmp 2], (.seq (.ops [.asg 2 (.nil 1)]) (.seq (.seq (.ops [.mov 3 (.t 0), .isn 4 false (.t 3)]) (.cond (.t 4) (.seq (.ops [.asg 2 (.nil 1)]) .ret) .skip)) (.seq (.ops [.mksl 5 1 [], .mov 6 (.t 0), .app 7 1 (.t 5) (.t 6), .asg 2 (.t 7)]) .ret)))⟩
def fn39 : VFn := ⟨2, 12, [.cell 4 (some 2), .tmp 5], (.seq (.ops [.box 2 (.t 0), .box 3 (.t 1), .alloc 4 [(.int .i64 0), (.list 1 [])], .asg 5 (.c (.int .i64 0))]) (.seq (.ops [.build 6 [.nilf] [(0, 1, (.c (.func 62 [])))], .load 7 (some 2) (.t 2), .load 8 (some 2) (.t 3), .call 9 59 [(.t 6), (.t 7), (.t 8)], .ext 10 (.t 9) 0, .ext 11 (.t 9) 1, .store none 2 (.t 4) (.t 10), .asg 5 (.t 11)]) .ret))⟩
def fn41 : VFn := ⟨1, 10, [.tmp 2, .tmp 3, .tmp 4], (.seq (.ops [.asg 2 (.c (.int .i64 0)), .asg 3 (.nil 1), .asg 4 (.c (.int .i64 0))]) (.seq (.ops [.mov 5 (.t 0), .call 6 63 [(.t 5), (.c (.func 64 []))], .ext 7 (.t 6) 0, .ext 8 (.t 6) 1, .ext 9 (.t 6) 2, .asg 2 (.t 7), .asg 3 (.t 8), .asg 4 (.t 9)]) .ret))⟩
def fn42 : VFn := ⟨1, 10, [.tmp 2, .tmp 3, .tmp 4], (.seq (.ops [.asg 2 (.nil 2), .asg 3 (.nil 1), .asg 4 (.c (.int .i64 0))]) (.seq (.ops [.mov 5 (.t 0), .call 6 65 [(.t 5), (.c (.func 66 []))], .ext 7 (.t 6) 0, .ext 8 (.t 6) 1, .ext 9 (.t 6) 2, .asg 2 (.t 7), .asg 3 (.t 8), .asg 4 (.t 9)]) .ret))⟩
def fn43_b0 : VCode := (.seq (.ops [.bin 17 .lss (.t 16) (.t 15)]) (.seq (.cond (.t 17) .skip (.exit 0)) (.seq (.block 1 (.seq (.ops [.iadr 18 2 (.t 14) (.t 16), .load 19 (some 2) (.t 18), .alloc 7 [(.int .i64 0), (.int .i64 0)], .store none 2 (.t 7) (.t 19)]) (.seq (.block 2 (.seq (.ops [.fadr 21 (.t 7) 1, .load 22 none (.t 21), .bin 23 .leq (.t 22) (.c (.int .i64 0)), .asg 20 (.t 23)]) (.cond (.t 20) (.seq (.ops [.asg 4 (.c (.int .i64 1))]) .ret) (.seq (.ops [.fadr 25 (.t 7) 0, .load 26 none (.t 25), .bin 27 .lss (.t 26) (.c (.int .i64 0)), .mov 28 (.t 27), .grd 28 false (.fadr 29 (.t 7) 1), .grd 28 false (.load 30 none (.t 29)), .grd 28 false (.mov 31 (.t 1)), .grd 28 false (.fadr 32 (.t 7) 0), .grd 28 false (.load 33 none (.t 32)), .grd 28 false (.bin 34 .sub (.t 31) (.t 33)), .grd 28 false (.bin 35 .gtr (.t 30) (.t 34)), .pick 36 (.t 28) (.c (.bool true)) (.t 35), .asg 24 (.t 36)]) (.cond (.t 24) (.seq (.ops [.asg 4 (.c (.int .i64 2))]) .ret) (.seq (.ops [.fadr 38 (.t 7) 0, .load 39 none (.t 38), .mov 40 (.t 5), .bin 41 .lss (.t 39) (.t 40), .asg 37 (.t 41)]) (.cond (.t 37) (.seq (.ops [.asg 4 (.c (.int .i64 3))]) .ret) .skip))))))) (.ops [.fadr 42 (.t 7) 0, .load 43 none (.t 42), .fadr 44 (.t 7) 1, .load 45 none (.t 44), .bin 46 .add (.t 43) (.t 45), .bin 47 .add (.t 46) (.c (.int .i64 1)), .asg 5 (.t 47)])))) (.ops [.bin 48 .add (.t 16) (.c (.int .i64 1)), .mov 16 (.t 48)]))))
def fn43_l1 : VCode :=
(.clean [0, 1, 5, 14, 15, 16] [4] (.block 0 (.loop [0, 1, 5, 14, 15, 16] fn43_b0)))
def fn43 : VFn := ⟨2, 49, [.tmp 4], (.seq (.ops [.asg 4 (.c (.int .i64 0))]) (.seq (.seq (.ops [.mov 8 (.t 1), .bin 9 .lss (.t 8) (.c (.int .i64 0)), .mov 10 (.t 9), .grd 10 false (.mov 11 (.t 1)), .grd 10 false (.bin 12 .gtr (.t 11) (.c (.int .i64 4096))), .pick 13 (.t 10) (.c (.bool true)) (.t 12)]) (.cond (.t 13) (.seq (.ops [.asg 4 (.c (.int .i64 2))]) .ret) .skip)) (.seq (.ops [.asg 5 (.c (.int .i64 0))]) (.seq (.seq (.ops [.mov 14 (.t 0), .len 15 (.t 14), .mov 16 (.c (.int .i64 0))])
      fn43_l1) (.seq (.ops [.asg 4 (.c (.int .i64 0))]) .ret)))))⟩
def fn44_b0 : VCode := (.seq (.ops [.bin 22 .lss (.t 21) (.t 20)]) (.seq (.cond (.t 22) .skip (.exit 0)) (.seq (.block 1 (.seq (.ops [.iadr 23 2 (.t 19) (.t 21), .load 24 (some 2) (.t 23), .alloc 9 [(.int .i64 0), (.int .i64 0)], .store none 2 (.t 9) (.t 24)]) (.seq (.ops [.load 26 (some 2) (.t 6), .load 27 (some 2) (.t 9), .call 28 26 [(.t 26), (.t 27)], .mov 25 (.t 28), .ext 29 (.t 25) 0, .ext 30 (.t 25) 1, .store none 2 (.t 6) (.t 29), .asg 7 (.t 30)]) (.seq (.ops [.mov 31 (.t 7), .bin 32 .neq (.t 31) (.c (.int .i64 0))]) (.cond (.t 32) (.seq (.ops [.build 33 [(.int .i64 0), (.list 1 [])] [], .mov 34 (.t 7), .store none 2 (.t 4) (.t 33), .asg 5 (.t 34)]) .ret) .skip))))) (.ops [.bin 35 .add (.t 21) (.c (.int .i64 1)), .mov 21 (.t 35)]))))
def fn44_l1 : VCode :=
(.clean [1, 4, 6, 19, 20, 21] [4, 5, 6] (.block 0 (.loop [1, 4, 6, 19, 20, 21] fn44_b0)))
def fn44 : VFn := ⟨2, 37, [.cell 4 (some 2), .tmp 5], (.seq (.ops [.alloc 4 [(.int .i64 0), (.list 1 [])], .asg 5 (.c (.int .i64 0))]) (.seq (.ops [.mov 11 (.t 0), .call 12 51 [(.t 11)], .mov 10 (.t 12), .ext 13 (.t 10) 0, .ext 14 (.t 10) 1, .alloc 6 [(.int .i64 0), (.list 1 [])], .store none 2 (.t 6) (.t 13), .asg 7 (.t 14)]) (.seq (.seq (.ops [.mov 15 (.t 7), .bin 16 .neq (.t 15) (.c (.int .i64 0))]) (.cond (.t 16) (.seq (.ops [.build 17 [(.int .i64 0), (.list 1 [])] [], .mov 18 (.t 7), .store none 2 (.t 4) (.t 17), .asg 5 (.t 18)]) .ret) .skip)) (.seq (.seq (.ops [.mov 19 (.t 1), .len 20 (.t 19), .mov 21 (.c (.int .i64 0))])
      fn44_l1) (.seq (.ops [.load 36 (some 2) (.t 6), .store none 2 (.t 4) (.t 36), .asg 5 (.c (.int .i64 0))]) .ret)))))⟩
def fn45 : VFn := ⟨2, 9, [.tmp 4], (.seq (.ops [.asg 4 (.nil 2)]) (.seq (.ops [.mov 5 (.t 0), .mov 6 (.t 1), .call 7 70 [(.t 5), (.t 6), (.c (.func 71 []))], .call 8 69 [(.t 7)], .asg 4 (.t 8)]) .ret))⟩
def fn46 : VFn := ⟨2, 28, [.cell 4 (some 5), .tmp 5], (.seq (.ops [.alloc 4 [(.int .i64 0), (.int .i64 0), (.list 1 []), (.int .i64 0), (.list 1 [])], .asg 5 (.c (.int .i64 0))]) (.seq (.seq (.ops [.mov 9 (.t 0), .mov 10 (.t 1), .call 11 34 [(.t 9), (.t 10)], .un 12 .not (.t 11)]) (.cond (.t 12) (.seq (.ops [.build 13 [(.int .i64 0), (.int .i64 0), (.list 1 []), (.int .i64 0), (.list 1 [])] [], .store none 5 (.t 4) (.t 13), .asg 5 (.c (.int .i64 2))]) .ret) .skip)) (.seq (.ops [.mov 14 (.t 0), .mov 15 (.t 1), .call 16 35 [(.t 14), (.t 15)], .asg 6 (.t 16)]) (.seq (.ops [.mov 18 (.t 6), .call 19 50 [(.t 18)], .mov 17 (.t 19), .ext 20 (.t 17) 0, .ext 21 (.t 17) 1, .alloc 7 [(.int .i64 0), (.list 1 [])], .store none 2 (.t 7) (.t 20), .asg 8 (.t 21)]) (.seq (.drw [] [([0, 1, 2, 4], 3)] (some ([5], [], 6, [])) [7] [.mov 22 (.t 0), .mov 23 (.t 1), .mov 24 (.t 6), .load 26 (some 2) (.t 7), .make 25 (.int .i64 0) (.t 24) (.t 24), .build 27 [(.int .i64 0), (.int .i64 0), (.list 1 []), (.int .i64 0), (.list 1 [])] [(0, 1, (.t 22)), (1, 1, (.t 23)), (2, 1, (.t 25)), (3, 2, (.t 26))], .store none 5 (.t 4) (.t 27), .asg 5 (.c (.int .i64 0))]) .ret)))))⟩
def fn47 : VFn := ⟨1, 45, [.tmp 2, .tmp 3, .tmp 4, .tmp 5], (.seq (.ops [.asg 2 (.c (.int .i64 0)), .asg 3 (.c (.int .i64 0)), .asg 4 (.nil 2), .asg 5 (.c (.int .i64 0))]) (.seq (.ops [.mov 11 (.t 0), .call 12 72 [(.t 11)], .mov 10 (.t 12), .ext 13 (.t 10) 0, .ext 14 (.t 10) 1, .ext 15 (.t 10) 2, .asg 6 (.t 13), .asg 0 (.t 14), .asg 7 (.t 15)]) (.seq (.seq (.ops [.mov 16 (.t 7), .bin 17 .neq (.t 16) (.c (.int .i64 0))]) (.cond (.t 17) (.seq (.ops [.mov 18 (.t 7), .asg 2 (.c (.int .i64 0)), .asg 3 (.c (.int .i64 0)), .asg 4 (.nil 2), .asg 5 (.t 18)]) .ret) .skip)) (.seq (.ops [.mov 20 (.t 0), .call 21 72 [(.t 20)], .mov 19 (.t 21), .ext 22 (.t 19) 0, .ext 23 (.t 19) 1, .ext 24 (.t 19) 2, .asg 8 (.t 22), .asg 0 (.t 23), .asg 7 (.t 24)]) (.seq (.seq (.ops [.mov 25 (.t 7), .bin 26 .neq (.t 25) (.c (.int .i64 0))]) (.cond (.t 26) (.seq (.ops [.mov 27 (.t 7), .asg 2 (.c (.int .i64 0)), .asg 3 (.c (.int .i64 0)), .asg 4 (.nil 2), .asg 5 (.t 27)]) .ret) .skip)) (.seq (.ops [.mov 29 (.t 0), .call 30 73 [(.t 29)], .mov 28 (.t 30), .ext 31 (.t 28) 0, .ext 32 (.t 28) 1, .ext 33 (.t 28) 2, .asg 9 (.t 31), .asg 0 (.t 32), .asg 7 (.t 33)]) (.seq (.seq (.ops [.mov 34 (.t 7), .bin 35 .eql (.t 34) (.c (.int .i64 0)), .mov 36 (.t 35), .grd 36 true (.mov 37 (.t 0)), .grd 36 true (.len 38 (.t 37)), .grd 36 true (.bin 39 .gtr (.t 38) (.c (.int .i64 0))), .pick 40 (.t 36) (.t 39) (.c (.bool false))]) (.cond (.t 40) (.ops [.asg 7 (.c (.int .i64 3))]) .skip)) (.seq (.ops [.mov 41 (.t 6), .mov 42 (.t 8), .mov 43 (.t 9), .mov 44 (.t 7), .asg 2 (.t 41), .asg 3 (.t 42), .asg 4 (.t 43), .asg 5 (.t 44)]) .ret))))))))⟩
def fn48_b0 : VCode := (.seq (.seq (.ops [.mov 13 (.t 6), .mov 14 (.t 0), .len 15 (.t 14), .bin 16 .lss (.t 13) (.t 15)]) (.cond (.t 16) .skip (.exit 0))) (.seq (.block 1 (.seq (.seq (.ops [.mov 19 (.t 0), .mov 20 (.t 6), .iadr 21 2 (.t 19) (.t 20), .fadr 22 (.t 21) 1, .load 23 none (.t 22), .bin 24 .leq (.t 23) (.c (.int .i64 0))]) (.cond (.t 24) (.seq (.ops [.asg 4 (.c (.int .i64 1))]) .ret) .skip)) (.seq (.seq (.ops [.mov 25 (.t 0), .mov 26 (.t 6), .iadr 27 2 (.t 25) (.t 26), .load 28 (some 2) (.t 27), .mov 29 (.t 1), .call 30 74 [(.t 28), (.t 29)], .un 31 .not (.t 30)]) (.cond (.t 31) (.seq (.ops [.asg 4 (.c (.int .i64 2))]) .ret) .skip)) (.seq (.seq (.ops [.mov 32 (.t 0), .mov 33 (.t 6), .iadr 34 2 (.t 32) (.t 33), .fadr 35 (.t 34) 0, .load 36 none (.t 35), .mov 37 (.t 5), .bin 38 .add (.t 37) (.c (.int .i64 2)), .bin 39 .lss (.t 36) (.t 38)]) (.cond (.t 39) (.seq (.ops [.asg 4 (.c (.int .i64 3))]) .ret) .skip)) (.drw [] [] none [0, 1, 2, 3, 4, 5, 6, 7, 8, 9, 10, 11, 12] [.mov 40 (.t 0), .mov 41 (.t 6), .iadr 42 2 (.t 40) (.t 41), .fadr 43 (.t 42) 0, .load 44 none (.t 43), .mov 45 (.t 0), .mov 46 (.t 6), .iadr 47 2 (.t 45) (.t 46), .fadr 48 (.t 47) 1, .load 49 none (.t 48), .bin 50 .add (.t 44) (.t 49), .bin 51 .sub (.t 50) (.c (.int .i64 1)), .asg 5 (.t 51)]))))) (.ops [.mov 17 (.t 6), .bin 18 .add (.t 17) (.c (.int .i64 1)), .asg 6 (.t 18)])))
def fn48_l1 : VCode :=
(.clean [0, 1, 5, 6] [4] (.block 0 (.loop [0, 1, 5, 6] fn48_b0)))
def fn48 : VFn := ⟨2, 52, [.tmp 4], (.seq (.ops [.asg 4 (.c (.int .i64 0))]) (.seq (.seq (.ops [.mov 7 (.t 1), .bin 8 .lss (.t 7) (.c (.int .i64 0)), .mov 9 (.t 8), .grd 9 false (.mov 10 (.t 1)), .grd 9 false (.bin 11 .gtr (.t 10) (.c (.int .i64 4096))), .pick 12 (.t 9) (.c (.bool true)) (.t 11)]) (.cond (.t 12) (.seq (.ops [.asg 4 (.c (.int .i64 2))]) .ret) .skip)) (.seq (.ops [.asg 5 (.c (.int .i64 (-2)))]) (.seq (.seq (.ops [.asg 6 (.c (.int .i64 0))])
      fn48_l1) (.seq (.ops [.asg 4 (.c (.int .i64 0))]) .ret)))))⟩
def fn49_b0 : VCode := (.seq (.seq (.ops [.mov 14 (.t 8), .mov 15 (.t 1), .len 16 (.t 15), .bin 17 .lss (.t 14) (.t 16), .mov 18 (.t 17), .grd 18 true (.mov 19 (.t 7)), .grd 18 true (.bin 20 .eql (.t 19) (.c (.int .i64 0))), .pick 21 (.t 18) (.t 20) (.c (.bool false))]) (.cond (.t 21) .skip (.exit 0))) (.seq (.block 1 (.drw [] [([0, 1, 2, 3, 4], 5)] (some ([6, 7], [8], 9, [])) [10] [.load 25 (some 2) (.t 6), .mov 26 (.t 1), .mov 27 (.t 8), .iadr 28 2 (.t 26) (.t 27), .load 29 (some 2) (.t 28), .call 30 29 [(.t 25), (.t 29)], .mov 24 (.t 30), .ext 31 (.t 24) 0, .ext 32 (.t 24) 1, .store none 2 (.t 6) (.t 31), .asg 7 (.t 32)])) (.ops [.mov 22 (.t 8), .bin 23 .add (.t 22) (.c (.int .i64 1)), .asg 8 (.t 23)])))
def fn49_l1 : VCode :=
(.clean [1, 4, 6, 7, 8] [4, 5, 6, 7] (.block 0 (.loop [1, 4, 6, 7, 8] fn49_b0)))
def fn49 : VFn := ⟨2, 35, [.cell 4 (some 2), .tmp 5], (.seq (.ops [.alloc 4 [(.int .i64 0), (.list 1 [])], .asg 5 (.c (.int .i64 0))]) (.seq (.ops [.mov 10 (.t 0), .call 11 50 [(.t 10)], .mov 9 (.t 11), .ext 12 (.t 9) 0, .ext 13 (.t 9) 1, .alloc 6 [(.int .i64 0), (.list 1 [])], .store none 2 (.t 6) (.t 12), .asg 7 (.t 13)]) (.seq (.seq (.ops [.asg 8 (.c (.int .i64 0))])
     fn49_l1) (.seq (.ops [.load 33 (some 2) (.t 6), .mov 34 (.t 7), .store none 2 (.t 4) (.t 33), .asg 5 (.t 34)]) .ret))))⟩
def fn50 : VFn := ⟨1, 17, [.cell 2 (some 2), .tmp 3], (.seq (.ops [.alloc 2 [(.int .i64 0), (.list 1 [])], .asg 3 (.c (.int .i64 0))]) (.seq (.seq (.ops [.mov 4 (.t 0), .bin 5 .lss (.t 4) (.c (.int .i64 0)), .mov 6 (.t 5), .grd 6 false (.mov 7 (.t 0)), .grd 6 false (.bin 8 .gtr (.t 7) (.c (.int .i64 4096))), .pick 9 (.t 6) (.c (.bool true)) (.t 8)]) (.cond (.t 9) (.seq (.ops [.build 10 [(.int .i64 0), (.list 1 [])] [], .store none 2 (.t 2) (.t 10), .asg 3 (.c (.int .i64 2))]) .ret) .skip)) (.seq (.ops [.mov 11 (.t 0), .mov 12 (.t 0), .bin 13 .add (.t 12) (.c (.int .i64 63)), .bin 14 .quo (.t 13) (.c (.int .i64 64)), .make 15 (.int .u64 0) (.t 14) (.t 14), .build 16 [(.int .i64 0), (.list 1 [])] [(0, 1, (.t 11)), (1, 1, (.t 15))], .store none 2 (.t 2) (.t 16), .asg 3 (.c (.int .i64 0))]) .ret)))⟩
def fn51 : VFn := ⟨1, 16, [.cell 2 (some 2), .tmp 3], (.seq (.ops [.alloc 2 [(.int .i64 0), (.list 1 [])], .asg 3 (.c (.int .i64 0))]) (.seq (.seq (.ops [.mov 4 (.t 0), .bin 5 .lss (.t 4) (.c (.int .i64 0)), .mov 6 (.t 5), .grd 6 false (.mov 7 (.t 0)), .grd 6 false (.bin 8 .gtr (.t 7) (.c (.int .i64 4096))), .pick 9 (.t 6) (.c (.bool true)) (.t 8)]) (.cond (.t 9) (.seq (.ops [.build 10 [(.int .i64 0), (.list 1 [])] [], .store none 2 (.t 2) (.t 10), .asg 3 (.c (.int .i64 2))]) .ret) .skip)) (.seq (.ops [.mov 11 (.t 0), .mov 12 (.t 0), .call 13 61 [(.t 12)], .make 14 (.int .u64 0) (.t 13) (.t 13), .build 15 [(.int .i64 0), (.list 1 [])] [(0, 1, (.t 11)), (1, 1, (.t 14))], .store none 2 (.t 2) (.t 15), .asg 3 (.c (.int .i64 0))]) .ret)))⟩
def fn52 : VFn := ⟨2, 9, [.tmp 4], (.seq (.ops [.asg 4 (.nil 1)]) (.seq (.ops [.mov 5 (.t 0), .call 6 76 [(.t 5)], .mov 7 (.t 1), .lin 8 75 (.t 6) [(.t 7)], .asg 4 (.t 8)]) .ret))⟩
def fn53 : VFn := ⟨2, 9, [.tmp 4], (.seq (.ops [.asg 4 (.nil 1)]) (.seq (.ops [.mov 5 (.t 0), .call 6 76 [(.t 5)], .mov 7 (.t 1), .lin 8 77 (.t 6) [(.t 7), (.c (.func 78 []))], .asg 4 (.t 8)]) .ret))⟩
def fn54_b0 : VCode := (.ops [.asg 4 (.t 8)])
def fn54_b1 : VCode := (.block 1 (.seq (.seq (.ops [.load 9 none (.t 3), .len 10 (.t 9), .asg 5 (.t 10)]) (.seq (.drw [] [] none [0, 1, 2, 3, 4, 5, 6, 7, 8, 9, 10, 11, 12, 13, 14, 15, 16, 17, 18] [.mov 11 (.t 5), .bin 12 .gtr (.t 11) (.c (.int .i64 0)), .mov 13 (.t 12), .grd 13 true (.load 14 none (.t 3)), .grd 13 true (.mov 15 (.t 5)), .grd 13 true (.bin 16 .sub (.t 15) (.c (.int .i64 1))), .grd 13 true (.iadr 17 2 (.t 14) (.t 16)), .grd 13 true (.fadr 18 (.t 17) 0), .grd 13 true (.load 19 none (.t 18)), .grd 13 true (.load 20 none (.t 3)), .grd 13 true (.mov 21 (.t 5)), .grd 13 true (.bin 22 .sub (.t 21) (.c (.int .i64 1))), .grd 13 true (.iadr 23 2 (.t 20) (.t 22)), .grd 13 true (.fadr 24 (.t 23) 1), .grd 13 true (.load 25 none (.t 24)), .grd 13 true (.bin 26 .add (.t 19) (.t 25)), .grd 13 true (.mov 27 (.t 4)), .grd 13 true (.bin 28 .eql (.t 26) (.t 27)), .pick 29 (.t 13) (.t 28) (.c (.bool false))]) (.cond (.t 29) (.seq (.ops [.load 30 none (.t 3), .mov 31 (.t 5), .bin 32 .sub (.t 31) (.c (.int .i64 1)), .iadr 33 2 (.t 30) (.t 32), .fadr 34 (.t 33) 1, .load 35 none (.t 34), .bin 36 .add (.t 35) (.c (.int .i64 1)), .iadr 37 2 (.t 30) (.t 32), .fadr 38 (.t 37) 1, .store none 1 (.t 38) (.t 36)]) (.exit 1)) .skip))) (.ops [.load 39 none (.t 3), .mov 40 (.t 4), .build 41 [(.int .i64 0), (.int .i64 0)] [(0, 1, (.t 40)), (1, 1, (.c (.int .i64 1)))], .mksl 42 2 [(.t 41)], .app 43 2 (.t 39) (.t 42), .store none 1 (.t 3) (.t 43)])))
def fn54 : VFn := ⟨1, 45, [.tmp 2], (.seq (.ops [.box 1 (.t 0), .asg 2 (.nil 2)]) (.seq (.ops [.alloc 3 [(.list 2 [])]]) (.seq (.seq (.ops [.load 6 (some 2) (.t 1), .call 7 79 [(.t 6), (.c (.int .i64 0))]]) (.block 0 (.rng (.t 7) [8] fn54_b0 fn54_b1))) (.seq (.ops [.load 44 none (.t 3), .asg 2 (.t 44)]) .ret))))⟩
def fn55 : VFn := ⟨2, 17, [.tmp 4], (.seq (.ops [.box 2 (.t 0), .asg 4 (.c (.bool false))]) (.seq (.ops [.fadr 5 (.t 2) 1, .load 6 none (.t 5), .mov 7 (.t 1), .bin 8 .quo (.t 7) (.c (.int .i64 64)), .iadr 9 1 (.t 6) (.t 8), .load 10 none (.t 9), .mov 11 (.t 1), .bin 12 .rem (.t 11) (.c (.int .i64 64)), .conv 13 .u64 (.t 12), .bin 14 .shr (.t 10) (.t 13), .bin 15 .and (.t 14) (.c (.int .u64 1)), .bin 16 .eql (.t 15) (.c (.int .u64 1)), .asg 4 (.t 16)]) .ret))⟩
def fn56 : VFn := ⟨2, 52, [.cell 4 (some 2), .tmp 5], (.seq (.ops [.box 2 (.t 0), .box 3 (.t 1), .alloc 4 [(.int .i64 0), (.int .i64 0)], .asg 5 (.c (.int .i64 0))]) (.seq (.seq (.ops [.fadr 7 (.t 3) 0, .load 8 none (.t 7), .bin 9 .lss (.t 8) (.c (.int .i64 0)), .mov 10 (.t 9), .grd 10 false (.fadr 11 (.t 3) 1), .grd 10 false (.load 12 none (.t 11)), .grd 10 false (.bin 13 .lss (.t 12) (.c (.int .i64 1))), .pick 14 (.t 10) (.c (.bool true)) (.t 13), .mov 15 (.t 14), .grd 15 false (.fadr 16 (.t 3) 0), .grd 15 false (.load 17 none (.t 16)), .grd 15 false (.fadr 18 (.t 2) 0), .grd 15 false (.load 19 none (.t 18)), .grd 15 false (.bin 20 .geq (.t 17) (.t 19)), .pick 21 (.t 15) (.c (.bool true)) (.t 20), .mov 22 (.t 21), .grd 22 false (.fadr 23 (.t 3) 1), .grd 22 false (.load 24 none (.t 23)), .grd 22 false (.fadr 25 (.t 2) 0), .grd 22 false (.load 26 none (.t 25)), .grd 22 false (.fadr 27 (.t 3) 0), .grd 22 false (.load 28 none (.t 27)), .grd 22 false (.bin 29 .sub (.t 26) (.t 28)), .grd 22 false (.bin 30 .gtr (.t 24) (.t 29)), .pick 31 (.t 22) (.c (.bool true)) (.t 30)]) (.cond (.t 31) (.seq (.ops [.build 32 [(.int .i64 0), (.int .i64 0)] [], .store none 2 (.t 4) (.t 32), .asg 5 (.c (.int .i64 2))]) .ret) .skip)) (.seq (.ops [.fadr 33 (.t 3) 0, .load 34 none (.t 33), .fadr 35 (.t 2) 1, .load 36 none (.t 35), .bin 37 .quo (.t 34) (.t 36), .asg 6 (.t 37)]) (.seq (.ops [.mov 38 (.t 6), .fadr 39 (.t 3) 0, .load 40 none (.t 39), .fadr 41 (.t 3) 1, .load 42 none (.t 41), .bin 43 .add (.t 40) (.t 42), .bin 44 .sub (.t 43) (.c (.int .i64 1)), .fadr 45 (.t 2) 1, .load 46 none (.t 45), .bin 47 .quo (.t 44) (.t 46), .mov 48 (.t 6), .bin 49 .sub (.t 47) (.t 48), .bin 50 .add (.t 49) (.c (.int .i64 1)), .build 51 [(.int .i64 0), (.int .i64 0)] [(0, 1, (.t 38)), (1, 1, (.t 50))], .store none 2 (.t 4) (.t 51), .asg 5 (.c (.int .i64 0))]) .ret))))⟩
def fn57_b0 : VCode := (.seq (.ops [.bin 7 .lss (.t 6) (.t 5)]) (.seq (.cond (.t 7) .skip (.exit 0)) (.seq (.block 1 (.seq (.ops [.mov 8 (.t 6), .asg 3 (.t 8)]) (.seq (.ops [.mov 9 (.t 0), .fadr 10 (.t 1) 0, .load 11 none (.t 10), .mov 12 (.t 3), .bin 13 .add (.t 11) (.t 12), .yield 14 (.t 9) [(.t 13)], .un 15 .not (.t 14)]) (.cond (.t 15) .ret .skip)))) (.ops [.bin 16 .add (.t 6) (.c (.int .i64 1)), .mov 6 (.t 16)]))))
def fn57_l1 : VCode :=
(.clean [0, 1, 5, 6] [] (.block 0 (.loop [0, 1, 5, 6] fn57_b0)))
def fn57 : VFn := ⟨2, 17, [], (.seq (.ops [.fadr 4 (.t 1) 1, .load 5 none (.t 4), .mov 6 (.c (.int .i64 0))])
  fn57_l1)⟩
def fn58 : VFn := ⟨2, 8, [.tmp 4], (.seq (.ops [.asg 4 (.c (.int .u64 0))]) (.seq (.ops [.mov 5 (.t 0), .mov 6 (.t 1), .bin 7 .or (.t 5) (.t 6), .asg 4 (.t 7)]) .ret))⟩
def fn59_b0 : VCode := (.seq (.ops [.bin 29 .lss (.t 28) (.t 27)]) (.seq (.cond (.t 29) .skip (.exit 0)) (.seq (.block 1 (.seq (.ops [.mov 30 (.t 28), .asg 10 (.t 30)]) (.drw [] [([0, 1, 2, 3, 4, 5, 6, 7, 8, 9, 10, 11, 12, 13, 14, 15], 16), ([], 17)] (some ([18], [], 19, [])) [] [.mov 31 (.t 9), .mov 32 (.t 10), .fadr 33 (.t 3) 0, .load 34 none (.t 33), .mov 35 (.t 9), .mov 36 (.t 10), .iadr 37 1 (.t 35) (.t 36), .load 38 none (.t 37), .mov 39 (.t 10), .fadr 40 (.t 5) 0, .load 41 none (.t 40), .fadr 42 (.t 5) 0, .load 43 none (.t 42), .fadr 44 (.t 5) 1, .load 45 none (.t 44), .bin 46 .add (.t 43) (.t 45), .call 47 82 [(.t 39), (.t 41), (.t 46)], .callv 48 (.t 34) [(.t 38), (.t 47)], .iadr 49 1 (.t 31) (.t 32), .store none 1 (.t 49) (.t 48)]))) (.ops [.bin 50 .add (.t 28) (.c (.int .i64 1)), .mov 28 (.t 50)]))))
def fn59_l1 : VCode :=
(.clean [3, 4, 5, 6, 9, 25, 27, 28] [4, 6, 7, 9] (.block 0 (.loop [3, 4, 5, 6, 9, 25, 27, 28] fn59_b0)))
def fn59 : VFn := ⟨3, 55, [.cell 6 (some 2), .tmp 7], (.seq (.ops [.box 3 (.t 0), .box 4 (.t 1), .box 5 (.t 2), .alloc 6 [(.int .i64 0), (.list 1 [])], .asg 7 (.c (.int .i64 0))]) (.seq (.seq (.ops [.load 11 (some 2) (.t 4), .call 12 33 [(.t 11)], .asg 8 (.t 12)]) (.seq (.ops [.mov 13 (.t 8), .bin 14 .neq (.t 13) (.c (.int .i64 0))]) (.cond (.t 14) (.seq (.ops [.build 15 [(.int .i64 0), (.list 1 [])] [], .mov 16 (.t 8), .store none 2 (.t 6) (.t 15), .asg 7 (.t 16)]) .ret) .skip))) (.seq (.seq (.ops [.load 17 (some 2) (.t 5), .fadr 18 (.t 4) 0, .load 19 none (.t 18), .call 20 80 [(.t 17), (.t 19)], .un 21 .not (.t 20)]) (.cond (.t 21) (.seq (.ops [.build 22 [(.int .i64 0), (.list 1 [])] [], .store none 2 (.t 6) (.t 22), .asg 7 (.c (.int .i64 2))]) .ret) .skip)) (.seq (.ops [.fadr 23 (.t 4) 1, .load 24 none (.t 23), .call 25 81 [(.t 24)], .asg 9 (.t 25)]) (.seq (.seq (.ops [.mov 26 (.t 9), .len 27 (.t 26), .mov 28 (.c (.int .i64 0))])
       fn59_l1) (.seq (.ops [.fadr 51 (.t 4) 0, .load 52 none (.t 51), .mov 53 (.t 9), .build 54 [(.int .i64 0), (.list 1 [])] [(0, 1, (.t 52)), (1, 1, (.t 53))], .store none 2 (.t 6) (.t 54), .asg 7 (.c (.int .i64 0))]) .ret))))))⟩
def fn60_b0 : VCode := (.seq (.seq (.ops [.mov 24 (.t 9), .fadr 25 (.t 4) 0, .load 26 none (.t 25), .fadr 27 (.t 4) 1, .load 28 none (.t 27), .bin 29 .add (.t 26) (.t 28), .bin 30 .lss (.t 24) (.t 29)]) (.cond (.t 30) .skip (.exit 0))) (.seq (.block 1 (.seq (.ops [.mov 33 (.t 2)]) (.cond (.t 33) (.drw [] [] (some ([0, 1, 2, 3, 4, 5, 6, 7, 8, 9, 10, 11, 12, 13, 14, 15], [], 16, [])) [] [.fadr 34 (.t 8) 1, .load 35 none (.t 34), .mov 36 (.t 9), .bin 37 .quo (.t 36) (.c (.int .i64 64)), .fadr 38 (.t 8) 1, .load 39 none (.t 38), .mov 40 (.t 9), .bin 41 .quo (.t 40) (.c (.int .i64 64)), .iadr 42 1 (.t 39) (.t 41), .load 43 none (.t 42), .mov 44 (.t 9), .bin 45 .rem (.t 44) (.c (.int .i64 64)), .conv 46 .u64 (.t 45), .bin 47 .shl (.c (.int .u64 1)) (.t 46), .bin 48 .or (.t 43) (.t 47), .iadr 49 1 (.t 35) (.t 37), .store none 1 (.t 49) (.t 48)]) (.drw [] [] (some ([0, 1, 2, 3, 4, 5, 6, 7, 8, 9, 10, 11, 12, 13, 14, 15], [], 16, [])) [] [.fadr 50 (.t 8) 1, .load 51 none (.t 50), .mov 52 (.t 9), .bin 53 .quo (.t 52) (.c (.int .i64 64)), .fadr 54 (.t 8) 1, .load 55 none (.t 54), .mov 56 (.t 9), .bin 57 .quo (.t 56) (.c (.int .i64 64)), .iadr 58 1 (.t 55) (.t 57), .load 59 none (.t 58), .mov 60 (.t 9), .bin 61 .rem (.t 60) (.c (.int .i64 64)), .conv 62 .u64 (.t 61), .bin 63 .shl (.c (.int .u64 1)) (.t 62), .bin 64 .andNot (.t 59) (.t 63), .iadr 65 1 (.t 51) (.t 53), .store none 1 (.t 65) (.t 64)])))) (.ops [.mov 31 (.t 9), .bin 32 .add (.t 31) (.c (.int .i64 1)), .asg 9 (.t 32)])))
def fn60_l1 : VCode :=
(.clean [2, 4, 6, 8, 9] [6, 7, 8] (.block 0 (.loop [2, 4, 6, 8, 9] fn60_b0)))
def fn60 : VFn := ⟨3, 67, [.cell 6 (some 2), .tmp 7], (.seq (.ops [.box 3 (.t 0), .box 4 (.t 1), .alloc 6 [(.int .i64 0), (.list 1 [])], .asg 7 (.c (.int .i64 0))]) (.seq (.seq (.ops [.load 10 (some 2) (.t 3), .call 11 36 [(.t 10)], .bin 12 .neq (.t 11) (.c (.int .i64 0))]) (.cond (.t 12) (.seq (.ops [.build 13 [(.int .i64 0), (.list 1 [])] [], .store none 2 (.t 6) (.t 13), .asg 7 (.c (.int .i64 3))]) .ret) .skip)) (.seq (.seq (.ops [.load 14 (some 2) (.t 4), .fadr 15 (.t 3) 0, .load 16 none (.t 15), .call 17 83 [(.t 14), (.t 16)], .un 18 .not (.t 17)]) (.cond (.t 18) (.seq (.ops [.build 19 [(.int .i64 0), (.list 1 [])] [], .store none 2 (.t 6) (.t 19), .asg 7 (.c (.int .i64 2))]) .ret) .skip)) (.seq (.ops [.load 20 (some 2) (.t 3), .call 21 84 [(.t 20)], .alloc 8 [(.int .i64 0), (.list 1 [])], .stw 2 (.t 8) (.t 21)]) (.seq (.seq (.ops [.fadr 22 (.t 4) 0, .load 23 none (.t 22), .asg 9 (.t 23)])
       fn60_l1) (.seq (.ops [.load 66 (some 2) (.t 8), .store none 2 (.t 6) (.t 66), .asg 7 (.c (.int .i64 0))]) .ret))))))⟩
def fn61 : VFn := ⟨1, 7, [.tmp 2], (.seq (.ops [.asg 2 (.c (.int .i64 0))]) (.seq (.ops [.mov 3 (.t 0), .bin 4 .add (.t 3) (.c (.int .i64 64)), .bin 5 .sub (.t 4) (.c (.int .i64 1)), .bin 6 .quo (.t 5) (.c (.int .i64 64)), .asg 2 (.t 6)]) .ret))⟩
def fn62 : VFn := ⟨2, 8, [.tmp 4], (.seq (.ops [.asg 4 (.c (.int .u64 0))]) (.seq (.ops [.mov 5 (.t 0), .mov 6 (.t 1), .bin 7 .andNot (.t 5) (.t 6), .asg 4 (.t 7)]) .ret))⟩
def fn63 : VFn := ⟨2, 30, [.tmp 4, .tmp 5, .tmp 6], (.seq (.ops [.asg 4 (.c (.int .i64 0)), .asg 5 (.nil 1), .asg 6 (.c (.int .i64 0))]) (.seq (.ops [.mov 11 (.t 0), .build 12 [(.list 0 [])] [(0, 1, (.t 11))], .box 13 (.t 12), .asg 7 (.t 13)]) (.seq (.ops [.mov 15 (.t 1), .mov 16 (.t 7), .linv 17 (.t 15) (.t 16) [], .mov 14 (.t 17), .ext 18 (.t 14) 0, .ext 19 (.t 14) 1, .asg 8 (.t 18), .asg 9 (.t 19)]) (.seq (.seq (.ops [.mov 20 (.t 9), .bin 21 .neq (.t 20) (.c (.int .i64 0))]) (.cond (.t 21) (.seq (.ops [.asg 10 (.c (.int .i64 0))]) (.seq (.ops [.mov 22 (.t 10), .mov 23 (.t 9), .asg 4 (.t 22), .asg 5 (.nil 1), .asg 6 (.t 23)]) .ret)) .skip)) (.seq (.ops [.mov 24 (.t 8), .mov 25 (.t 7), .fadr 26 (.t 25) 0, .fadr 27 (.t 26) 0, .load 28 none (.t 27), .call 29 76 [(.t 28)], .asg 4 (.t 24), .asg 5 (.t 29), .asg 6 (.c (.int .i64 0))]) .ret)))))⟩
def fn64_b0 : VCode := (.seq (.ops [.bin 8 .lss (.t 7) (.c (.int .i64 8))]) (.seq (.cond (.t 8) .skip (.exit 0)) (.seq (.block 1 (.seq (.ops [.mov 9 (.t 7), .asg 5 (.t 9)]) (.seq (.seq (.ops [.mov 10 (.t 5), .mov 11 (.t 0), .fadr 12 (.t 11) 0, .fadr 13 (.t 12) 0, .load 14 none (.t 13), .len 15 (.t 14), .bin 16 .geq (.t 10) (.t 15)]) (.cond (.t 16) (.seq (.ops [.asg 2 (.c (.int .i64 0)), .asg 3 (.c (.int .i64 10))]) .ret) .skip)) (.seq (.ops [.mov 17 (.t 0), .fadr 18 (.t 17) 0, .fadr 19 (.t 18) 0, .load 20 none (.t 19), .mov 21 (.t 5), .iadr 22 1 (.t 20) (.t 21), .load 23 none (.t 22), .asg 6 (.t 23)]) (.seq (.ops [.mov 24 (.t 4), .mov 25 (.t 6), .bin 26 .and (.t 25) (.c (.int .u8 127)), .conv 27 .i64 (.t 26), .mov 28 (.t 5), .bin 29 .mul (.c (.int .i64 7)) (.t 28), .bin 30 .shl (.t 27) (.t 29), .bin 31 .or (.t 24) (.t 30), .asg 4 (.t 31)]) (.seq (.seq (.ops [.mov 32 (.t 6), .bin 33 .and (.t 32) (.c (.int .u8 128)), .bin 34 .neq (.t 33) (.c (.int .u8 0))]) (.cond (.t 34) (.exit 1) .skip)) (.seq (.seq (.ops [.mov 35 (.t 6), .bin 36 .eql (.t 35) (.c (.int .u8 0)), .mov 37 (.t 36), .grd 37 true (.mov 38 (.t 5)), .grd 37 true (.bin 39 .gtr (.t 38) (.c (.int .i64 0))), .pick 40 (.t 37) (.t 39) (.c (.bool false)), .mov 41 (.t 40), .grd 41 false (.mov 42 (.t 4)), .grd 41 false (.bin 43 .gtr (.t 42) (.c (.int .i64 9007199254740991))), .pick 44 (.t 41) (.c (.bool true)) (.t 43)]) (.cond (.t 44) (.seq (.ops [.asg 2 (.c (.int .i64 0)), .asg 3 (.c (.int .i64 3))]) .ret) .skip)) (.seq (.ops [.mov 45 (.t 0), .mov 46 (.t 0), .fadr 47 (.t 46) 0, .fadr 48 (.t 47) 0, .load 49 none (.t 48), .mov 50 (.t 5), .bin 51 .add (.t 50) (.c (.int .i64 1)), .sli 52 1 (.t 49) (some (.t 51)) none, .fadr 53 (.t 45) 0, .fadr 54 (.t 53) 0, .store none 1 (.t 54) (.t 52)]) (.seq (.ops [.mov 55 (.t 4), .asg 2 (.t 55), .asg 3 (.c (.int .i64 0))]) .ret))))))))) (.ops [.bin 56 .add (.t 7) (.c (.int .i64 1)), .mov 7 (.t 56)]))))
def fn64_l1 : VCode :=
(.clean [0, 4, 7] [2, 3] (.block 0 (.loop [0, 4, 7] fn64_b0)))
def fn64 : VFn := ⟨1, 57, [.tmp 2, .tmp 3], (.seq (.ops [.asg 2 (.c (.int .i64 0)), .asg 3 (.c (.int .i64 0))]) (.seq (.ops [.asg 4 (.c (.int .i64 0))]) (.seq (.seq (.ops [.mov 7 (.c (.int .i64 0))])
     fn64_l1) (.seq (.ops [.asg 2 (.c (.int .i64 0)), .asg 3 (.c (.int .i64 3))]) .ret))))⟩
def fn65 : VFn := ⟨2, 30, [.tmp 4, .tmp 5, .tmp 6], (.seq (.ops [.asg 4 (.nil 2), .asg 5 (.nil 1), .asg 6 (.c (.int .i64 0))]) (.seq (.ops [.mov 11 (.t 0), .build 12 [(.list 0 [])] [(0, 1, (.t 11))], .box 13 (.t 12), .asg 7 (.t 13)]) (.seq (.ops [.mov 15 (.t 1), .mov 16 (.t 7), .linv 17 (.t 15) (.t 16) [], .mov 14 (.t 17), .ext 18 (.t 14) 0, .ext 19 (.t 14) 1, .asg 8 (.t 18), .asg 9 (.t 19)]) (.seq (.seq (.ops [.mov 20 (.t 9), .bin 21 .neq (.t 20) (.c (.int .i64 0))]) (.cond (.t 21) (.seq (.ops [.asg 10 (.nil 2)]) (.seq (.ops [.mov 22 (.t 10), .mov 23 (.t 9), .asg 4 (.t 22), .asg 5 (.nil 1), .asg 6 (.t 23)]) .ret)) .skip)) (.seq (.ops [.mov 24 (.t 8), .mov 25 (.t 7), .fadr 26 (.t 25) 0, .fadr 27 (.t 26) 0, .load 28 none (.t 27), .call 29 76 [(.t 28)], .asg 4 (.t 24), .asg 5 (.t 29), .asg 6 (.c (.int .i64 0))]) .ret)))))⟩
def fn66 : VFn := ⟨1, 8, [.tmp 2, .tmp 3], (.seq (.ops [.asg 2 (.nil 2), .asg 3 (.c (.int .i64 0))]) (.seq (.ops [.mov 4 (.t 0), .lin 5 67 (.t 4) [(.c (.func 68 []))], .ext 6 (.t 5) 0, .ext 7 (.t 5) 1, .asg 2 (.t 6), .asg 3 (.t 7)]) .ret))⟩
def fn67_b0 : VCode := (.seq (.ops [.bin 21 .lss (.t 20) (.t 19)]) (.seq (.cond (.t 21) .skip (.exit 0)) (.seq (.block 1 (.seq (.ops [.mov 23 (.t 1), .mov 24 (.t 0), .linv 25 (.t 23) (.t 24) [], .mov 22 (.t 25), .ext 26 (.t 22) 0, .ext 27 (.t 22) 1, .alloc 9 [(.int .i64 0), (.int .i64 0)], .store none 2 (.t 9) (.t 26), .asg 10 (.t 27)]) (.seq (.seq (.ops [.mov 28 (.t 10), .bin 29 .neq (.t 28) (.c (.int .i64 0))]) (.cond (.t 29) (.seq (.ops [.mov 30 (.t 10), .asg 4 (.nil 2), .asg 5 (.t 30)]) .ret) .skip)) (.ops [.mov 31 (.t 8), .load 32 (some 2) (.t 9), .mksl 33 2 [(.t 32)], .app 34 2 (.t 31) (.t 33), .asg 8 (.t 34)])))) (.ops [.bin 35 .add (.t 20) (.c (.int .i64 1)), .mov 20 (.t 35)]))))
def fn67_l1 : VCode :=
(.clean [0, 1, 8, 19, 20, 34] [4, 5, 8] (.block 0 (.loop [0, 1, 8, 19, 20, 34] fn67_b0)))
def fn67 : VFn := ⟨2, 37, [.tmp 4, .tmp 5], (.seq (.ops [.asg 4 (.nil 2), .asg 5 (.c (.int .i64 0))]) (.seq (.ops [.mov 12 (.t 0), .lin 13 85 (.t 12) [], .mov 11 (.t 13), .ext 14 (.t 11) 0, .ext 15 (.t 11) 1, .asg 6 (.t 14), .asg 7 (.t 15)]) (.seq (.seq (.ops [.mov 16 (.t 7), .bin 17 .neq (.t 16) (.c (.int .i64 0))]) (.cond (.t 17) (.seq (.ops [.mov 18 (.t 7), .asg 4 (.nil 2), .asg 5 (.t 18)]) .ret) .skip)) (.seq (.ops [.asg 8 (.nil 2)]) (.seq (.seq (.ops [.mov 19 (.t 6), .mov 20 (.c (.int .i64 0))])
       fn67_l1) (.seq (.ops [.mov 36 (.t 8), .asg 4 (.t 36), .asg 5 (.c (.int .i64 0))]) .ret))))))⟩
def fn68 : VFn := ⟨1, 17, [.cell 2 (some 2), .tmp 3], (.seq (.ops [.alloc 2 [(.int .i64 0), (.int .i64 0)], .asg 3 (.c (.int .i64 0))]) (.seq (.ops [.mov 8 (.t 0), .lin 9 86 (.t 8) [], .mov 7 (.t 9), .ext 10 (.t 7) 0, .ext 11 (.t 7) 1, .ext 12 (.t 7) 2, .asg 4 (.t 10), .asg 5 (.t 11), .asg 6 (.t 12)]) (.seq (.ops [.mov 13 (.t 4), .mov 14 (.t 5), .build 15 [(.int .i64 0), (.int .i64 0)] [(0, 1, (.t 13)), (1, 1, (.t 14))], .mov 16 (.t 6), .store none 2 (.t 2) (.t 15), .asg 3 (.t 16)]) .ret)))⟩
def fn69 : VFn := ⟨1, 5, [.tmp 2], (.seq (.ops [.asg 2 (.nil 2)]) (.seq (.ops [.mov 3 (.t 0), .call 4 87 [(.c (.nils 2)), (.t 3)], .asg 2 (.t 4)]) .ret))⟩
def fn70 : VFn := ⟨3, 8, [.tmp 6], (.seq (.ops [.box 3 (.t 0), .box 4 (.t 1), .box 5 (.t 2), .asg 6 (.c .nilf)]) (.seq (.ops [.mkf 7 88 [(.t 3), (.t 4), (.t 5)], .asg 6 (.t 7)]) .ret))⟩
def fn71 : VFn := ⟨2, 9, [.tmp 4], (.seq (.ops [.asg 4 (.c (.bool false))]) (.seq (.ops [.mov 5 (.t 0), .mov 6 (.t 5), .grd 6 false (.mov 7 (.t 1)), .pick 8 (.t 6) (.c (.bool true)) (.t 7), .asg 4 (.t 8)]) .ret))⟩
def fn72 : VFn := ⟨1, 21, [.tmp 2, .tmp 3, .tmp 4], (.seq (.ops [.asg 2 (.c (.int .i64 0)), .asg 3 (.nil 1), .asg 4 (.c (.int .i64 0))]) (.seq (.ops [.mov 9 (.t 0), .call 10 90 [(.t 9)], .mov 8 (.t 10), .ext 11 (.t 8) 0, .ext 12 (.t 8) 1, .ext 13 (.t 8) 2, .asg 5 (.t 11), .asg 6 (.t 12), .asg 7 (.t 13)]) (.seq (.seq (.ops [.mov 14 (.t 7), .bin 15 .neq (.t 14) (.c (.int .i64 0))]) (.cond (.t 15) (.seq (.ops [.mov 16 (.t 7), .asg 2 (.c (.int .i64 0)), .asg 3 (.nil 1), .asg 4 (.t 16)]) .ret) .skip)) (.seq (.ops [.mov 17 (.t 5), .mov 18 (.t 0), .mov 19 (.t 6), .call 20 91 [(.t 18), (.t 19)], .asg 2 (.t 17), .asg 3 (.t 20), .asg 4 (.c (.int .i64 0))]) .ret))))⟩
def fn73_b0 : VCode := (.seq (.seq (.ops [.mov 22 (.t 8), .mov 23 (.t 5), .bin 24 .lss (.t 22) (.t 23)]) (.cond (.t 24) .skip (.exit 0))) (.seq (.block 1 (.seq (.ops [.mov 28 (.t 0), .call 29 72 [(.t 28)], .mov 27 (.t 29), .ext 30 (.t 27) 0, .ext 31 (.t 27) 1, .ext 32 (.t 27) 2, .asg 9 (.t 30), .asg 10 (.t 31), .asg 11 (.t 32)]) (.seq (.seq (.ops [.mov 33 (.t 11), .bin 34 .neq (.t 33) (.c (.int .i64 0))]) (.cond (.t 34) (.seq (.ops [.mov 35 (.t 11), .asg 2 (.nil 2), .asg 3 (.nil 1), .asg 4 (.t 35)]) .ret) .skip)) (.seq (.ops [.mov 37 (.t 10), .call 38 72 [(.t 37)], .mov 36 (.t 38), .ext 39 (.t 36) 0, .ext 40 (.t 36) 1, .ext 41 (.t 36) 2, .asg 12 (.t 39), .asg 10 (.t 40), .asg 11 (.t 41)]) (.seq (.seq (.ops [.mov 42 (.t 11), .bin 43 .neq (.t 42) (.c (.int .i64 0))]) (.cond (.t 43) (.seq (.ops [.mov 44 (.t 11), .asg 2 (.nil 2), .asg 3 (.nil 1), .asg 4 (.t 44)]) .ret) .skip)) (.ops [.mov 45 (.t 7), .mov 46 (.t 9), .mov 47 (.t 12), .build 48 [(.int .i64 0), (.int .i64 0)] [(0, 1, (.t 46)), (1, 1, (.t 47))], .mksl 49 2 [(.t 48)], .app 50 2 (.t 45) (.t 49), .mvz 51 (.t 10), .asg 7 (.t 50), .asg 0 (.t 51)])))))) (.ops [.mov 25 (.t 8), .bin 26 .add (.t 25) (.c (.int .i64 1)), .asg 8 (.t 26)])))
def fn73_l1 : VCode :=
(.clean [0, 5, 7, 8] [0, 2, 3, 4, 7] (.block 0 (.loop [0, 5, 7, 8] fn73_b0)))
def fn73 : VFn := ⟨1, 54, [.tmp 2, .tmp 3, .tmp 4], (.seq (.ops [.asg 2 (.nil 2), .asg 3 (.nil 1), .asg 4 (.c (.int .i64 0))]) (.seq (.ops [.mov 14 (.t 0), .call 15 92 [(.t 14)], .mov 13 (.t 15), .ext 16 (.t 13) 0, .ext 17 (.t 13) 1, .ext 18 (.t 13) 2, .asg 5 (.t 16), .asg 0 (.t 17), .asg 6 (.t 18)]) (.seq (.seq (.ops [.mov 19 (.t 6), .bin 20 .neq (.t 19) (.c (.int .i64 0))]) (.cond (.t 20) (.seq (.ops [.mov 21 (.t 6), .asg 2 (.nil 2), .asg 3 (.nil 1), .asg 4 (.t 21)]) .ret) .skip)) (.seq (.ops [.asg 7 (.nil 2)]) (.seq (.seq (.ops [.asg 8 (.c (.int .i64 0))])
       fn73_l1) (.seq (.ops [.mov 52 (.t 7), .mov 53 (.t 0), .asg 2 (.t 52), .asg 3 (.t 53), .asg 4 (.c (.int .i64 0))]) .ret))))))⟩
def fn74 : VFn := ⟨2, 23, [.tmp 4], (.seq (.ops [.box 2 (.t 0), .asg 4 (.c (.bool false))]) (.seq (.ops [.fadr 5 (.t 2) 0, .load 6 none (.t 5), .bin 7 .geq (.t 6) (.c (.int .i64 0)), .mov 8 (.t 7), .grd 8 true (.fadr 9 (.t 2) 1), .grd 8 true (.load 10 none (.t 9)), .grd 8 true (.mov 11 (.t 1)), .grd 8 true (.bin 12 .leq (.t 10) (.t 11)), .pick 13 (.t 8) (.t 12) (.c (.bool false)), .mov 14 (.t 13), .grd 14 true (.fadr 15 (.t 2) 0), .grd 14 true (.load 16 none (.t 15)), .grd 14 true (.mov 17 (.t 1)), .grd 14 true (.fadr 18 (.t 2) 1), .grd 14 true (.load 19 none (.t 18)), .grd 14 true (.bin 20 .sub (.t 17) (.t 19)), .grd 14 true (.bin 21 .leq (.t 16) (.t 20)), .pick 22 (.t 14) (.t 21) (.c (.bool false)), .asg 4 (.t 22)]) .ret))⟩
def fn75_b0 : VCode := (.seq (.seq (.ops [.mov 11 (.t 1), .bin 12 .geq (.t 11) (.c (.int .i64 128))]) (.cond (.t 12) .skip (.exit 0))) (.seq (.block 1 (.ops [.mov 15 (.t 0), .mov 16 (.t 1), .bin 17 .rem (.t 16) (.c (.int .i64 128)), .conv 18 .u8 (.t 17), .bin 19 .or (.t 18) (.c (.int .u8 128)), .mksl 20 1 [(.t 19)], .app 21 1 (.t 15) (.t 20), .asg 0 (.t 21)])) (.ops [.mov 13 (.t 1), .bin 14 .quo (.t 13) (.c (.int .i64 128)), .asg 1 (.t 14)])))
def fn75_l1 : VCode :=
(.clean [0, 1, 21] [0, 1, 4] (.block 0 (.loop [0, 1, 21] fn75_b0)))
def fn75 : VFn := ⟨2, 27, [.tmp 4], (.seq (.ops [.asg 4 (.nil 1)]) (.seq (.seq (.ops [.mov 5 (.t 1), .bin 6 .lss (.t 5) (.c (.int .i64 0)), .mov 7 (.t 6), .grd 7 false (.mov 8 (.t 1)), .grd 7 false (.bin 9 .gtr (.t 8) (.c (.int .i64 9007199254740991))), .pick 10 (.t 7) (.c (.bool true)) (.t 9)]) (.cond (.t 10) (.ops [.asg 1 (.c (.int .i64 0))]) .skip)) (.seq
    fn75_l1 (.seq (.ops [.mov 22 (.t 0), .mov 23 (.t 1), .conv 24 .u8 (.t 23), .mksl 25 1 [(.t 24)], .app 26 1 (.t 22) (.t 25), .asg 4 (.t 26)]) .ret))))⟩
def fn76 : VFn := ⟨1, 8, [.tmp 2], (.seq (.ops [.asg 2 (.nil 1)]) (.seq (.seq (.ops [.mov 3 (.t 0), .isn 4 false (.t 3)]) (.cond (.t 4) (.seq (.ops [.asg 2 (.nil 1)]) .ret) .skip)) (.seq (.ops [.mksl 5 1 [], .mov 6 (.t 0), .app 7 1 (.t 5) (.t 6), .asg 2 (.t 7)]) .ret)))⟩
def fn77_b0 : VCode := (.seq (.ops [.bin 16 .lss (.t 15) (.t 14)]) (.seq (.cond (.t 16) .skip (.exit 0)) (.seq (.block 1 (.seq (.ops [.iadr 17 2 (.t 13) (.t 15), .load 18 (some 2) (.t 17), .alloc 8 [(.int .i64 0), (.int .i64 0)], .store none 2 (.t 8) (.t 18)]) (.ops [.mov 19 (.t 2), .mov 20 (.t 0), .load 21 (some 2) (.t 8), .linv 22 (.t 19) (.t 20) [(.t 21)], .asg 0 (.t 22)]))) (.ops [.bin 23 .add (.t 15) (.c (.int .i64 1)), .mov 15 (.t 23)]))))
def fn77_l1 : VCode :=
(.clean [0, 1, 2, 12, 13, 14, 15, 22] [0, 6] (.block 0 (.loop [0, 1, 2, 12, 13, 14, 15, 22] fn77_b0)))
def fn77 : VFn := ⟨3, 25, [.tmp 6], (.seq (.ops [.asg 6 (.nil 1)]) (.seq (.ops [.mov 9 (.t 0), .mov 10 (.t 1), .len 11 (.t 10), .lin 12 75 (.t 9) [(.t 11)], .asg 0 (.t 12)]) (.seq (.seq (.ops [.mov 13 (.t 1), .len 14 (.t 13), .mov 15 (.c (.int .i64 0))])
     fn77_l1) (.seq (.ops [.mov 24 (.t 0), .asg 6 (.t 24)]) .ret))))⟩
def fn78 : VFn := ⟨2, 12, [.tmp 4], (.seq (.ops [.box 3 (.t 1), .asg 4 (.nil 1)]) (.seq (.drw [(.t 3)] [] (some ([0, 1, 2], [4, 5], 3, [([], 6)])) [7] [.mov 5 (.t 0), .fadr 6 (.t 3) 0, .load 7 none (.t 6), .fadr 9 (.t 3) 1, .ldz 10 none (.t 9), .lin 8 75 (.t 5) [(.t 7)], .lin 11 75 (.t 8) [(.t 10)], .asg 4 (.t 11)]) .ret))⟩
def fn79 : VFn := ⟨2, 6, [.tmp 4], (.seq (.ops [.box 2 (.t 0), .box 3 (.t 1), .asg 4 (.c .nilf)]) (.seq (.ops [.mkf 5 93 [(.t 2), (.t 3)], .asg 4 (.t 5)]) .ret))⟩
def fn80 : VFn := ⟨2, 28, [.tmp 4], (.seq (.ops [.box 2 (.t 0), .asg 4 (.c (.bool false))]) (.seq (.ops [.fadr 5 (.t 2) 0, .load 6 none (.t 5), .bin 7 .geq (.t 6) (.c (.int .i64 0)), .mov 8 (.t 7), .grd 8 true (.fadr 9 (.t 2) 1), .grd 8 true (.load 10 none (.t 9)), .grd 8 true (.bin 11 .geq (.t 10) (.c (.int .i64 0))), .pick 12 (.t 8) (.t 11) (.c (.bool false)), .mov 13 (.t 12), .grd 13 true (.fadr 14 (.t 2) 0), .grd 13 true (.load 15 none (.t 14)), .grd 13 true (.mov 16 (.t 1)), .grd 13 true (.bin 17 .leq (.t 15) (.t 16)), .pick 18 (.t 13) (.t 17) (.c (.bool false)), .mov 19 (.t 18), .grd 19 true (.fadr 20 (.t 2) 1), .grd 19 true (.load 21 none (.t 20)), .grd 19 true (.mov 22 (.t 1)), .grd 19 true (.fadr 23 (.t 2) 0), .grd 19 true (.load 24 none (.t 23)), .grd 19 true (.bin 25 .sub (.t 22) (.t 24)), .grd 19 true (.bin 26 .leq (.t 21) (.t 25)), .pick 27 (.t 19) (.t 26) (.c (.bool false)), .asg 4 (.t 27)]) .ret))⟩
def fn81 : VFn := ⟨1, 8, [.tmp 2], (.seq (.ops [.asg 2 (.nil 1)]) (.seq (.seq (.ops [.mov 3 (.t 0), .isn 4 false (.t 3)]) (.cond (.t 4) (.seq (.ops [.asg 2 (.nil 1)]) .ret) .skip)) (.seq (.ops [.mksl 5 1 [], .mov 6 (.t 0), .app 7 1 (.t 5) (.t 6), .asg 2 (.t 7)]) .ret)))⟩
def fn82 : VFn := ⟨3, 27, [.tmp 6], (.seq (.ops [.asg 6 (.c (.int .u64 0))]) (.seq (.ops [.mov 7 (.t 1), .mov 8 (.t 0), .bin 9 .mul (.t 8) (.c (.int .i64 64)), .bin 10 .sub (.t 7) (.t 9), .mn 11 true (.t 10) (.c (.int .i64 0)), .mov 12 (.t 2), .mov 13 (.t 0), .bin 14 .mul (.t 13) (.c (.int .i64 64)), .bin 15 .sub (.t 12) (.t 14), .mn 16 false (.t 15) (.c (.int .i64 64)), .asg 1 (.t 11), .asg 2 (.t 16)]) (.seq (.seq (.ops [.mov 17 (.t 1), .mov 18 (.t 2), .bin 19 .geq (.t 17) (.t 18)]) (.cond (.t 19) (.seq (.ops [.asg 6 (.c (.int .u64 0))]) .ret) .skip)) (.seq (.ops [.mov 20 (.t 2), .mov 21 (.t 1), .bin 22 .sub (.t 20) (.t 21), .bin 23 .sub (.c (.int .i64 64)) (.t 22), .bin 24 .shr (.c (.int .u64 18446744073709551615)) (.t 23), .mov 25 (.t 1), .bin 26 .shl (.t 24) (.t 25), .asg 6 (.t 26)]) .ret))))⟩
def fn83 : VFn := ⟨2, 28, [.tmp 4], (.seq (.ops [.box 2 (.t 0), .asg 4 (.c (.bool false))]) (.seq (.ops [.fadr 5 (.t 2) 0, .load 6 none (.t 5), .bin 7 .geq (.t 6) (.c (.int .i64 0)), .mov 8 (.t 7), .grd 8 true (.fadr 9 (.t 2) 1), .grd 8 true (.load 10 none (.t 9)), .grd 8 true (.bin 11 .geq (.t 10) (.c (.int .i64 0))), .pick 12 (.t 8) (.t 11) (.c (.bool false)), .mov 13 (.t 12), .grd 13 true (.fadr 14 (.t 2) 0), .grd 13 true (.load 15 none (.t 14)), .grd 13 true (.mov 16 (.t 1)), .grd 13 true (.bin 17 .leq (.t 15) (.t 16)), .pick 18 (.t 13) (.t 17) (.c (.bool false)), .mov 19 (.t 18), .grd 19 true (.fadr 20 (.t 2) 1), .grd 19 true (.load 21 none (.t 20)), .grd 19 true (.mov 22 (.t 1)), .grd 19 true (.fadr 23 (.t 2) 0), .grd 19 true (.load 24 none (.t 23)), .grd 19 true (.bin 25 .sub (.t 22) (.t 24)), .grd 19 true (.bin 26 .leq (.t 21) (.t 25)), .pick 27 (.t 19) (.t 26) (.c (.bool false)), .asg 4 (.t 27)]) .ret))⟩
def fn84 : VFn := ⟨1, 10, [.own 2 2], (.seq (.ops [.box 1 (.t 0), .alloc 2 [(.int .i64 0), (.list 1 [])]]) (.seq (.drw [(.t 1)] [([3, 4, 0, 1], 2)] (some ([], [], 5, [([6], 7)])) [] [.fadr 6 (.t 1) 1, .load 7 none (.t 6), .fadr 3 (.t 1) 0, .ldz 4 none (.t 3), .mksl 5 1 [], .app 8 1 (.t 5) (.t 7), .bldo 9 [(.int .i64 0), (.list 1 [])] [(0, 1, (.t 4))] 1 8, .stw 2 (.t 2) (.t 9)]) .ret))⟩
def fn85 : VFn := ⟨1, 19, [.tmp 2, .tmp 3], (.seq (.ops [.asg 2 (.c (.int .i64 0)), .asg 3 (.c (.int .i64 0))]) (.seq (.ops [.mov 7 (.t 0), .lin 8 64 (.t 7) [], .mov 6 (.t 8), .ext 9 (.t 6) 0, .ext 10 (.t 6) 1, .asg 4 (.t 9), .asg 5 (.t 10)]) (.seq (.seq (.ops [.mov 11 (.t 5), .bin 12 .eql (.t 11) (.c (.int .i64 0)), .mov 13 (.t 12), .grd 13 true (.mov 14 (.t 4)), .grd 13 true (.bin 15 .gtr (.t 14) (.c (.int .i64 65536))), .pick 16 (.t 13) (.t 15) (.c (.bool false))]) (.cond (.t 16) (.ops [.asg 5 (.c (.int .i64 5))]) .skip)) (.seq (.ops [.mov 17 (.t 4), .mov 18 (.t 5), .asg 2 (.t 17), .asg 3 (.t 18)]) .ret))))⟩
def fn86 : VFn := ⟨1, 24, [.tmp 2, .tmp 3, .tmp 4], (.seq (.ops [.asg 2 (.c (.int .i64 0)), .asg 3 (.c (.int .i64 0)), .asg 4 (.c (.int .i64 0))]) (.seq (.ops [.mov 9 (.t 0), .lin 10 64 (.t 9) [], .mov 8 (.t 10), .ext 11 (.t 8) 0, .ext 12 (.t 8) 1, .asg 5 (.t 11), .asg 6 (.t 12)]) (.seq (.seq (.ops [.mov 13 (.t 6), .bin 14 .neq (.t 13) (.c (.int .i64 0))]) (.cond (.t 14) (.seq (.ops [.mov 15 (.t 6), .asg 2 (.c (.int .i64 0)), .asg 3 (.c (.int .i64 0)), .asg 4 (.t 15)]) .ret) .skip)) (.seq (.ops [.mov 17 (.t 0), .lin 18 64 (.t 17) [], .mov 16 (.t 18), .ext 19 (.t 16) 0, .ext 20 (.t 16) 1, .asg 7 (.t 19), .asg 6 (.t 20)]) (.seq (.ops [.mov 21 (.t 5), .mov 22 (.t 7), .mov 23 (.t 6), .asg 2 (.t 21), .asg 3 (.t 22), .asg 4 (.t 23)]) .ret)))))⟩
def fn87_b0 : VCode := (.ops [.alloc 5 [(.int .i64 0), (.int .i64 0)], .store none 2 (.t 5) (.t 7)])
def fn87_b1 : VCode := (.block 1 (.ops [.load 8 none (.t 2), .load 9 (some 2) (.t 5), .mksl 10 2 [(.t 9)], .app 11 2 (.t 8) (.t 10), .store none 1 (.t 2) (.t 11)]))
def fn87 : VFn := ⟨2, 13, [.tmp 4], (.seq (.ops [.box 2 (.t 0), .asg 4 (.nil 2)]) (.seq (.seq (.ops [.mov 6 (.t 1)]) (.block 0 (.rng (.t 6) [7] fn87_b0 fn87_b1))) (.seq (.ops [.load 12 none (.t 2), .asg 4 (.t 12)]) .ret)))⟩
def fn88_b0 : VCode := (.seq (.ops [.bin 19 .lss (.t 18) (.t 17)]) (.seq (.cond (.t 19) .skip (.exit 0)) (.seq (.block 1 (.seq (.ops [.mov 20 (.t 18), .iadr 21 3 (.t 16) (.t 18), .load 22 (some 3) (.t 21), .alloc 10 [(.int .i64 0), (.int .i64 0), (.int .i64 0)], .asg 9 (.t 20), .store none 3 (.t 10) (.t 22)]) (.seq (.drw [] [] (some ([0, 1, 2, 3, 4, 5, 6, 7], [], 8, [])) [] [.fadr 23 (.t 10) 1, .load 24 none (.t 23), .aadr 25 (.t 6) (.t 24) 2 1, .load 26 none (.t 25), .fadr 27 (.t 10) 2, .load 28 none (.t 27), .bin 29 .add (.t 26) (.t 28), .aadr 30 (.t 6) (.t 24) 2 1, .store none 1 (.t 30) (.t 29)]) (.seq (.seq (.drw [] [] none [0, 1, 2, 3, 4, 5, 6, 7, 8, 9, 10, 11, 12, 13, 14, 15] [.mov 31 (.t 9), .bin 32 .add (.t 31) (.c (.int .i64 1)), .mov 33 (.t 5), .len 34 (.t 33), .bin 35 .lss (.t 32) (.t 34), .mov 36 (.t 35), .grd 36 true (.mov 37 (.t 5)), .grd 36 true (.mov 38 (.t 9)), .grd 36 true (.bin 39 .add (.t 38) (.c (.int .i64 1))), .grd 36 true (.iadr 40 3 (.t 37) (.t 39)), .grd 36 true (.fadr 41 (.t 40) 0), .grd 36 true (.load 42 none (.t 41)), .grd 36 true (.fadr 43 (.t 10) 0), .grd 36 true (.load 44 none (.t 43)), .grd 36 true (.bin 45 .eql (.t 42) (.t 44)), .pick 46 (.t 36) (.t 45) (.c (.bool false))]) (.cond (.t 46) (.exit 1) .skip)) (.seq (.ops [.load 47 none (.t 3), .aadr 48 (.t 6) (.c (.int .i64 0)) 2 1, .load 49 none (.t 48), .bin 50 .gtr (.t 49) (.c (.int .i64 0)), .aadr 51 (.t 6) (.c (.int .i64 1)) 2 1, .load 52 none (.t 51), .bin 53 .gtr (.t 52) (.c (.int .i64 0)), .callv 54 (.t 47) [(.t 50), (.t 53)], .asg 11 (.t 54)]) (.seq (.seq (.ops [.mov 55 (.t 11), .mov 56 (.t 55), .grd 56 true (.mov 57 (.t 8)), .grd 56 true (.un 58 .not (.t 57)), .pick 59 (.t 56) (.t 58) (.c (.bool false))]) (.cond (.t 59) (.ops [.fadr 60 (.t 10) 0, .load 61 none (.t 60), .asg 7 (.t 61)]) .skip)) (.seq (.seq (.ops [.mov 62 (.t 11), .un 63 .not (.t 62), .mov 64 (.t 63), .grd 64 true (.mov 65 (.t 8)), .pick 66 (.t 64) (.t 65) (.c (.bool false)), .mov 67 (.t 66), .grd 67 true (.mov 68 (.t 0)), .grd 67 true (.mov 69 (.t 7)), .grd 67 true (.fadr 70 (.t 10) 0), .grd 67 true (.load 71 none (.t 70)), .grd 67 true (.mov 72 (.t 7)), .grd 67 true (.bin 73 .sub (.t 71) (.t 72)), .grd 67 true (.build 74 [(.int .i64 0), (.int .i64 0)] [(0, 1, (.t 69)), (1, 1, (.t 73))]), .grd 67 true (.yield 75 (.t 68) [(.t 74)]), .grd 67 true (.un 76 .not (.t 75)), .pick 77 (.t 67) (.t 76) (.c (.bool false))]) (.cond (.t 77) .ret .skip)) (.ops [.mov 78 (.t 11), .asg 8 (.t 78)])))))))) (.ops [.bin 79 .add (.t 18) (.c (.int .i64 1)), .mov 18 (.t 79)]))))
def fn88_l1 : VCode :=
(.clean [0, 3, 5, 6, 7, 8, 15, 16, 17, 18] [] (.block 0 (.loop [0, 3, 5, 6, 7, 8, 15, 16, 17, 18] fn88_b0)))
def fn88 : VFn := ⟨4, 80, [], (.seq (.ops [.load 12 none (.t 1), .load 13 none (.t 2), .mksl 14 1 [(.t 12), (.t 13)], .call 15 89 [(.t 14)], .asg 5 (.t 15)]) (.seq (.ops [.alloc 6 [(.int .i64 0), (.int .i64 0)]]) (.seq (.ops [.asg 7 (.c (.int .i64 0)), .asg 8 (.c (.bool false))]) (.seq (.ops [.mov 16 (.t 5), .len 17 (.t 16), .mov 18 (.c (.int .i64 0))])
     fn88_l1))))⟩
def fn89_b0 : VCode := (.seq (.ops [.bin 21 .lss (.t 20) (.t 19)]) (.seq (.cond (.t 21) .skip (.exit 2)) (.seq (.block 3 (.seq (.ops [.iadr 22 2 (.t 18) (.t 20), .load 23 (some 2) (.t 22), .alloc 7 [(.int .i64 0), (.int .i64 0)], .store none 2 (.t 7) (.t 23)]) (.seq (.ops [.load 25 (some 2) (.t 7), .call 26 95 [(.t 25)], .mov 24 (.t 26), .ext 27 (.t 24) 0, .ext 28 (.t 24) 1, .ext 29 (.t 24) 2, .asg 8 (.t 27), .asg 9 (.t 28), .asg 10 (.t 29)]) (.seq (.ops [.mov 30 (.t 10)]) (.cond (.t 30) (.ops [.mov 31 (.t 3), .mov 32 (.t 8), .mov 33 (.t 4), .build 34 [(.int .i64 0), (.int .i64 0), (.int .i64 0)] [(0, 1, (.t 32)), (1, 1, (.t 33)), (2, 1, (.c (.int .i64 1)))], .mov 35 (.t 9), .mov 36 (.t 4), .build 37 [(.int .i64 0), (.int .i64 0), (.int .i64 0)] [(0, 1, (.t 35)), (1, 1, (.t 36)), (2, 1, (.c (.int .i64 (-1))))], .mksl 38 3 [(.t 34), (.t 37)], .app 39 3 (.t 31) (.t 38), .asg 3 (.t 39)]) .skip))))) (.ops [.bin 40 .add (.t 20) (.c (.int .i64 1)), .mov 20 (.t 40)]))))
def fn89_l1 : VCode :=
(.clean [0, 3, 4, 5, 11, 12, 13, 17, 18, 19, 20, 39] [0, 2, 3, 11, 12, 13, 39] (.block 2 (.loop [0, 3, 4, 5, 11, 12, 13, 17, 18, 19, 20, 39] fn89_b0)))
def fn89_b2 : VCode := (.seq (.ops [.bin 14 .lss (.t 13) (.t 12)]) (.seq (.cond (.t 14) .skip (.exit 0)) (.seq (.block 1 (.seq (.ops [.mov 15 (.t 13), .iadr 16 1 (.t 11) (.t 13), .load 17 none (.t 16), .asg 4 (.t 15), .asg 5 (.t 17)]) (.seq (.ops [.mov 18 (.t 5), .len 19 (.t 18), .mov 20 (.c (.int .i64 0))])
       fn89_l1))) (.ops [.bin 41 .add (.t 13) (.c (.int .i64 1)), .mov 13 (.t 41)]))))
def fn89_l3 : VCode :=
(.clean [0, 3, 11, 12, 13, 39] [2, 3] (.block 0 (.loop [0, 3, 11, 12, 13, 39] fn89_b2)))
def fn89 : VFn := ⟨1, 45, [.tmp 2], (.seq (.ops [.asg 2 (.nil 3)]) (.seq (.ops [.asg 3 (.nil 3)]) (.seq (.seq (.ops [.mov 11 (.t 0), .len 12 (.t 11), .mov 13 (.c (.int .i64 0))])
     fn89_l3) (.seq (.ops [.mov 42 (.t 3), .srt 43 96 (.t 42) (.c (.func 97 []))]) (.seq (.ops [.mov 44 (.t 3), .asg 2 (.t 44)]) .ret)))))⟩
def fn90_b0 : VCode := (.seq (.seq (.ops [.mov 9 (.t 7), .bin 10 .lss (.t 9) (.c (.int .i64 8))]) (.cond (.t 10) .skip (.exit 0))) (.seq (.block 1 (.seq (.seq (.ops [.mov 13 (.t 7), .mov 14 (.t 0), .len 15 (.t 14), .bin 16 .geq (.t 13) (.t 15)]) (.cond (.t 16) (.seq (.ops [.asg 2 (.c (.int .i64 0)), .asg 3 (.c (.int .i64 0)), .asg 4 (.c (.int .i64 10))]) .ret) .skip)) (.seq (.ops [.mov 17 (.t 0), .mov 18 (.t 7), .iadr 19 1 (.t 17) (.t 18), .load 20 none (.t 19), .conv 21 .i64 (.t 20), .asg 8 (.t 21)]) (.seq (.ops [.mov 22 (.t 5), .mov 23 (.t 8), .bin 24 .rem (.t 23) (.c (.int .i64 128)), .mov 25 (.t 6), .bin 26 .mul (.t 24) (.t 25), .bin 27 .add (.t 22) (.t 26), .asg 5 (.t 27)]) (.seq (.seq (.ops [.mov 28 (.t 8), .bin 29 .lss (.t 28) (.c (.int .i64 128))]) (.cond (.t 29) (.seq (.seq (.ops [.mov 30 (.t 8), .bin 31 .eql (.t 30) (.c (.int .i64 0)), .mov 32 (.t 31), .grd 32 true (.mov 33 (.t 7)), .grd 32 true (.bin 34 .gtr (.t 33) (.c (.int .i64 0))), .pick 35 (.t 32) (.t 34) (.c (.bool false)), .mov 36 (.t 35), .grd 36 false (.mov 37 (.t 5)), .grd 36 false (.bin 38 .gtr (.t 37) (.c (.int .i64 9007199254740991))), .pick 39 (.t 36) (.c (.bool true)) (.t 38)]) (.cond (.t 39) (.seq (.ops [.asg 2 (.c (.int .i64 0)), .asg 3 (.c (.int .i64 0)), .asg 4 (.c (.int .i64 3))]) .ret) .skip)) (.seq (.ops [.mov 40 (.t 5), .mov 41 (.t 7), .bin 42 .add (.t 41) (.c (.int .i64 1)), .asg 2 (.t 40), .asg 3 (.t 42), .asg 4 (.c (.int .i64 0))]) .ret)) .skip)) (.ops [.mov 43 (.t 6), .bin 44 .mul (.t 43) (.c (.int .i64 128)), .asg 6 (.t 44)])))))) (.ops [.mov 11 (.t 7), .bin 12 .add (.t 11) (.c (.int .i64 1)), .asg 7 (.t 12)])))
def fn90_l1 : VCode :=
(.clean [0, 5, 6, 7] [2, 3, 4] (.block 0 (.loop [0, 5, 6, 7] fn90_b0)))
def fn90 : VFn := ⟨1, 45, [.tmp 2, .tmp 3, .tmp 4], (.seq (.ops [.asg 2 (.c (.int .i64 0)), .asg 3 (.c (.int .i64 0)), .asg 4 (.c (.int .i64 0))]) (.seq (.ops [.asg 5 (.c (.int .i64 0)), .asg 6 (.c (.int .i64 1))]) (.seq (.seq (.ops [.asg 7 (.c (.int .i64 0))])
     fn90_l1) (.seq (.ops [.asg 2 (.c (.int .i64 0)), .asg 3 (.c (.int .i64 0)), .asg 4 (.c (.int .i64 3))]) .ret))))⟩
def fn91 : VFn := ⟨2, 11, [.tmp 4], (.seq (.ops [.asg 4 (.nil 1)]) (.seq (.ops [.asg 5 (.nil 1)]) (.seq (.ops [.mov 6 (.t 5), .mov 7 (.t 0), .mov 8 (.t 1), .sli 9 1 (.t 7) (some (.t 8)) none, .app 10 1 (.t 6) (.t 9), .asg 4 (.t 10)]) .ret)))⟩
def fn92 : VFn := ⟨1, 24, [.tmp 2, .tmp 3, .tmp 4], (.seq (.ops [.asg 2 (.c (.int .i64 0)), .asg 3 (.nil 1), .asg 4 (.c (.int .i64 0))]) (.seq (.ops [.mov 8 (.t 0), .call 9 72 [(.t 8)], .mov 7 (.t 9), .ext 10 (.t 7) 0, .ext 11 (.t 7) 1, .ext 12 (.t 7) 2, .asg 5 (.t 10), .asg 0 (.t 11), .asg 6 (.t 12)]) (.seq (.seq (.ops [.mov 13 (.t 6), .bin 14 .eql (.t 13) (.c (.int .i64 0)), .mov 15 (.t 14), .grd 15 true (.mov 16 (.t 5)), .grd 15 true (.bin 17 .gtr (.t 16) (.c (.int .i64 65536))), .pick 18 (.t 15) (.t 17) (.c (.bool false))]) (.cond (.t 18) (.ops [.asg 6 (.c (.int .i64 5))]) .skip)) (.seq (.seq (.ops [.mov 19 (.t 6), .bin 20 .neq (.t 19) (.c (.int .i64 0))]) (.cond (.t 20) (.seq (.ops [.mov 21 (.t 6), .asg 2 (.c (.int .i64 0)), .asg 3 (.nil 1), .asg 4 (.t 21)]) .ret) .skip)) (.seq (.ops [.mov 22 (.t 5), .mov 23 (.t 0), .asg 2 (.t 22), .asg 3 (.t 23), .asg 4 (.c (.int .i64 0))]) .ret)))))⟩
def fn93_b0 : VCode := (.seq (.seq (.ops [.mov 24 (.t 5), .bin 25 .neq (.t 24) (.c (.int .u64 0))]) (.cond (.t 25) .skip (.exit 2))) (.block 3 (.seq (.seq (.ops [.mov 26 (.t 0), .mov 27 (.t 4), .bin 28 .mul (.t 27) (.c (.int .i64 64)), .mov 29 (.t 5), .call 30 94 [(.t 29)], .bin 31 .add (.t 28) (.t 30), .yield 32 (.t 26) [(.t 31)], .un 33 .not (.t 32)]) (.cond (.t 33) .ret .skip)) (.ops [.mov 34 (.t 5), .mov 35 (.t 5), .bin 36 .sub (.t 35) (.c (.int .u64 1)), .bin 37 .and (.t 34) (.t 36), .asg 5 (.t 37)]))))
def fn93_l1 : VCode :=
(.clean [0, 1, 2, 4, 5, 10, 11, 12] [0, 1, 2, 10, 11, 12] (.block 2 (.loop [0, 1, 2, 4, 5, 10, 11, 12] fn93_b0)))
def fn93_b2 : VCode := (.seq (.ops [.bin 13 .lss (.t 12) (.t 11)]) (.seq (.cond (.t 13) .skip (.exit 0)) (.seq (.block 1 (.seq (.ops [.mov 14 (.t 12), .iadr 15 1 (.t 10) (.t 12), .load 16 none (.t 15), .asg 4 (.t 14), .asg 5 (.t 16)]) (.seq (.ops [.mov 17 (.t 5), .mov 18 (.t 4), .load 19 none (.t 2), .fadr 20 (.t 1) 0, .load 21 none (.t 20), .call 22 82 [(.t 18), (.t 19), (.t 21)], .bin 23 .and (.t 17) (.t 22), .asg 5 (.t 23)])
       fn93_l1))) (.ops [.bin 38 .add (.t 12) (.c (.int .i64 1)), .mov 12 (.t 38)]))))
def fn93_l3 : VCode :=
(.clean [0, 1, 2, 10, 11, 12] [] (.block 0 (.loop [0, 1, 2, 10, 11, 12] fn93_b2)))
def fn93 : VFn := ⟨3, 39, [], (.seq (.seq (.ops [.load 6 (some 2) (.t 1), .call 7 33 [(.t 6)], .bin 8 .neq (.t 7) (.c (.int .i64 0))]) (.cond (.t 8) .ret .skip)) (.seq (.ops [.fadr 9 (.t 1) 1, .load 10 none (.t 9), .len 11 (.t 10), .mov 12 (.c (.int .i64 0))])
   fn93_l3))⟩
def fn95 : VFn := ⟨1, 35, [.tmp 2, .tmp 3, .tmp 4], (.seq (.ops [.box 1 (.t 0), .asg 2 (.c (.int .i64 0)), .asg 3 (.c (.int .i64 0)), .asg 4 (.c (.bool false))]) (.seq (.seq (.ops [.fadr 7 (.t 1) 1, .load 8 none (.t 7), .bin 9 .leq (.t 8) (.c (.int .i64 0))]) (.cond (.t 9) (.seq (.ops [.asg 2 (.c (.int .i64 0)), .asg 3 (.c (.int .i64 0)), .asg 4 (.c (.bool false))]) .ret) .skip)) (.seq (.ops [.fadr 10 (.t 1) 0, .load 11 none (.t 10), .mn 12 true (.t 11) (.c (.int .i64 0)), .asg 5 (.t 12), .asg 6 (.c (.int .i64 4096))]) (.seq (.seq (.ops [.fadr 13 (.t 1) 0, .load 14 none (.t 13), .bin 15 .lss (.t 14) (.c (.int .i64 0)), .mov 16 (.t 15), .grd 16 false (.fadr 17 (.t 1) 1), .grd 16 false (.load 18 none (.t 17)), .grd 16 false (.fadr 19 (.t 1) 0), .grd 16 false (.load 20 none (.t 19)), .grd 16 false (.bin 21 .sub (.c (.int .i64 4096)) (.t 20)), .grd 16 false (.bin 22 .lss (.t 18) (.t 21)), .pick 23 (.t 16) (.c (.bool true)) (.t 22)]) (.cond (.t 23) (.ops [.fadr 24 (.t 1) 0, .load 25 none (.t 24), .fadr 26 (.t 1) 1, .load 27 none (.t 26), .bin 28 .add (.t 25) (.t 27), .mn 29 false (.t 28) (.c (.int .i64 4096)), .asg 6 (.t 29)]) .skip)) (.seq (.ops [.mov 30 (.t 5), .mov 31 (.t 6), .mov 32 (.t 5), .mov 33 (.t 6), .bin 34 .lss (.t 32) (.t 33), .asg 2 (.t 30), .asg 3 (.t 31), .asg 4 (.t 34)]) .ret)))))⟩
def fn97 : VFn := ⟨2, 10, [.tmp 4], (.seq (.ops [.box 2 (.t 0), .box 3 (.t 1), .asg 4 (.c (.int .i64 0))]) (.seq (.ops [.fadr 5 (.t 2) 0, .load 6 none (.t 5), .fadr 7 (.t 3) 0, .load 8 none (.t 7), .call 9 98 [(.t 6), (.t 8)], .asg 4 (.t 9)]) .ret))⟩
def fn98 : VFn := ⟨2, 20, [.tmp 4], (.seq (.ops [.asg 4 (.c (.int .i64 0))]) (.seq (.ops [.mov 7 (.t 0), .call 8 101 [(.t 7)], .asg 5 (.t 8)]) (.seq (.ops [.mov 9 (.t 1), .call 10 101 [(.t 9)], .asg 6 (.t 10)]) (.seq (.seq (.ops [.mov 11 (.t 5)]) (.cond (.t 11) (.seq (.seq (.ops [.mov 12 (.t 6)]) (.cond (.t 12) (.seq (.ops [.asg 4 (.c (.int .i64 0))]) .ret) .skip)) (.seq (.ops [.asg 4 (.c (.int .i64 (-1)))]) .ret)) .skip)) (.seq (.seq (.ops [.mov 13 (.t 6)]) (.cond (.t 13) (.seq (.ops [.asg 4 (.c (.int .i64 1))]) .ret) .skip)) (.seq (.seq (.ops [.mov 14 (.t 0), .mov 15 (.t 1), .bin 16 .lss (.t 14) (.t 15)]) (.cond (.t 16) (.seq (.ops [.asg 4 (.c (.int .i64 (-1)))]) .ret) .skip)) (.seq (.seq (.ops [.mov 17 (.t 0), .mov 18 (.t 1), .bin 19 .gtr (.t 17) (.t 18)]) (.cond (.t 19) (.seq (.ops [.asg 4 (.c (.int .i64 1))]) .ret) .skip)) (.seq (.ops [.asg 4 (.c (.int .i64 0))]) .ret))))))))⟩
def fn101 : VFn := ⟨1, 6, [.tmp 2], (.seq (.ops [.asg 2 (.c (.bool false))]) (.seq (.ops [.mov 3 (.t 0), .mov 4 (.t 0), .bin 5 .neq (.t 3) (.t 4), .asg 2 (.t 5)]) .ret))⟩

def tab : List (Nat × VDef) := [(4, .code fn4), (6, .code fn6), (7, .code fn7), (9, .code fn9), (10, .code fn10), (12, .code fn12), (14, .code fn14), (16, .code fn16), (17, .code fn17), (18, .code fn18), (19, .code fn19), (20, .code fn20), (21, .code fn21), (22, .code fn22), (23, .code fn23), (24, .code fn24), (25, .code fn25), (26, .code fn26), (29, .code fn29), (30, .code fn30), (31, .code fn31), (32, .code fn32), (33, .code fn33), (34, .code fn34), (35, .code fn35), (36, .code fn36), (37, .code fn37), (38, .ext (cloneX 1)), (39, .code fn39), (41, .code fn41), (42, .code fn42), (43, .code fn43), (44, .code fn44), (45, .code fn45), (46, .code fn46), (47, .code fn47), (48, .code fn48), (49, .code fn49), (50, .code fn50), (51, .code fn51), (52, .code fn52), (53, .code fn53), (54, .code fn54), (55, .code fn55), (56, .code fn56), (57, .code fn57), (58, .code fn58), (59, .code fn59), (60, .code fn60), (61, .code fn61), (62, .code fn62), (63, .code fn63), (64, .code fn64), (65, .code fn65), (66, .code fn66), (67, .code fn67), (68, .code fn68), (69, .code fn69), (70, .code fn70), (71, .code fn71), (72, .code fn72), (73, .code fn73), (74, .code fn74), (75, .code fn75), (76, .ext (cloneX 1)), (77, .code fn77), (78, .code fn78), (79, .code fn79), (80, .code fn80), (81, .ext (cloneX 1)), (82, .code fn82), (83, .code fn83), (84, .code fn84), (85, .code fn85), (86, .code fn86), (87, .code fn87), (88, .code fn88), (89, .code fn89), (90, .code fn90), (91, .code fn91), (92, .code fn92), (93, .code fn93), (94, .ext tzX), (95, .code fn95), (96, .srt (sortEndsX 97)), (97, .code fn97), (98, .code fn98), (101, .code fn101)]
def env : Env := fun f => tab.lookup f
theorem env4 : env 4 = some (.code fn4) := rfl
theorem env6 : env 6 = some (.code fn6) := rfl
theorem env7 : env 7 = some (.code fn7) := rfl
theorem env9 : env 9 = some (.code fn9) := rfl
theorem env10 : env 10 = some (.code fn10) := rfl
theorem env12 : env 12 = some (.code fn12) := rfl
theorem env14 : env 14 = some (.code fn14) := rfl
theorem env16 : env 16 = some (.code fn16) := rfl
theorem env17 : env 17 = some (.code fn17) := rfl
theorem env18 : env 18 = some (.code fn18) := rfl
theorem env19 : env 19 = some (.code fn19) := rfl
theorem env20 : env 20 = some (.code fn20) := rfl
theorem env21 : env 21 = some (.code fn21) := rfl
theorem env22 : env 22 = some (.code fn22) := rfl
theorem env23 : env 23 = some (.code fn23) := rfl
theorem env24 : env 24 = some (.code fn24) := rfl
theorem env25 : env 25 = some (.code fn25) := rfl
theorem env26 : env 26 = some (.code fn26) := rfl
theorem env29 : env 29 = some (.code fn29) := rfl
theorem env30 : env 30 = some (.code fn30) := rfl
theorem env31 : env 31 = some (.code fn31) := rfl
theorem env32 : env 32 = some (.code fn32) := rfl
theorem env33 : env 33 = some (.code fn33) := rfl
theorem env34 : env 34 = some (.code fn34) := rfl
theorem env35 : env 35 = some (.code fn35) := rfl
theorem env36 : env 36 = some (.code fn36) := rfl
theorem env37 : env 37 = some (.code fn37) := rfl
theorem env38 : env 38 = some (.ext (cloneX 1)) := rfl
theorem env39 : env 39 = some (.code fn39) := rfl
theorem env41 : env 41 = some (.code fn41) := rfl
theorem env42 : env 42 = some (.code fn42) := rfl
theorem env43 : env 43 = some (.code fn43) := rfl
theorem env44 : env 44 = some (.code fn44) := rfl
theorem env45 : env 45 = some (.code fn45) := rfl
theorem env46 : env 46 = some (.code fn46) := rfl
theorem env47 : env 47 = some (.code fn47) := rfl
theorem env48 : env 48 = some (.code fn48) := rfl
theorem env49 : env 49 = some (.code fn49) := rfl
theorem env50 : env 50 = some (.code fn50) := rfl
theorem env51 : env 51 = some (.code fn51) := rfl
theorem env52 : env 52 = some (.code fn52) := rfl
theorem env53 : env 53 = some (.code fn53) := rfl
theorem env54 : env 54 = some (.code fn54) := rfl
theorem env55 : env 55 = some (.code fn55) := rfl
theorem env56 : env 56 = some (.code fn56) := rfl
theorem env57 : env 57 = some (.code fn57) := rfl
theorem env58 : env 58 = some (.code fn58) := rfl
theorem env59 : env 59 = some (.code fn59) := rfl
theorem env60 : env 60 = some (.code fn60) := rfl
theorem env61 : env 61 = some (.code fn61) := rfl
theorem env62 : env 62 = some (.code fn62) := rfl
theorem env63 : env 63 = some (.code fn63) := rfl
theorem env64 : env 64 = some (.code fn64) := rfl
theorem env65 : env 65 = some (.code fn65) := rfl
theorem env66 : env 66 = some (.code fn66) := rfl
theorem env67 : env 67 = some (.code fn67) := rfl
theorem env68 : env 68 = some (.code fn68) := rfl
theorem env69 : env 69 = some (.code fn69) := rfl
theorem env70 : env 70 = some (.code fn70) := rfl
theorem env71 : env 71 = some (.code fn71) := rfl
theorem env72 : env 72 = some (.code fn72) := rfl
theorem env73 : env 73 = some (.code fn73) := rfl
theorem env74 : env 74 = some (.code fn74) := rfl
theorem env75 : env 75 = some (.code fn75) := rfl
theorem env76 : env 76 = some (.ext (cloneX 1)) := rfl
theorem env77 : env 77 = some (.code fn77) := rfl
theorem env78 : env 78 = some (.code fn78) := rfl
theorem env79 : env 79 = some (.code fn79) := rfl
theorem env80 : env 80 = some (.code fn80) := rfl
theorem env81 : env 81 = some (.ext (cloneX 1)) := rfl
theorem env82 : env 82 = some (.code fn82) := rfl
theorem env83 : env 83 = some (.code fn83) := rfl
theorem env84 : env 84 = some (.code fn84) := rfl
theorem env85 : env 85 = some (.code fn85) := rfl
theorem env86 : env 86 = some (.code fn86) := rfl
theorem env87 : env 87 = some (.code fn87) := rfl
theorem env88 : env 88 = some (.code fn88) := rfl
theorem env89 : env 89 = some (.code fn89) := rfl
theorem env90 : env 90 = some (.code fn90) := rfl
theorem env91 : env 91 = some (.code fn91) := rfl
theorem env92 : env 92 = some (.code fn92) := rfl
theorem env93 : env 93 = some (.code fn93) := rfl
theorem env94 : env 94 = some (.ext tzX) := rfl
theorem env95 : env 95 = some (.code fn95) := rfl
theorem env96 : env 96 = some (.srt (sortEndsX 97)) := rfl
end Go.Proofs.YtdahanchdjadiaaGreatDoor

namespace Go.Proofs.YtdahanchdjadiaaGreatDoor
open V
def vAll := (And.intro (And.intro (And.intro (And.intro (And.intro (And.intro (And.intro (And.intro @den_drs (And.intro @dalts_cons @dagree_nil)) (And.intro @dagree_cons (And.intro @sameAs_same @dalt_eq))) (And.intro (And.intro @altEnd_false (And.intro @altEnd_true @pickV_nil)) (And.intro (And.intro @pickV_one @den_skip) (And.intro @List.foldl_nil.{0, 0} @List.foldl_cons.{0, 0})))) (And.intro (And.intro (And.intro @den_ops (And.intro @den_drw @den_seq)) (And.intro (And.intro @den_cond @den_block) (And.intro @den_exit @den_ret))) (And.intro (And.intro @next_normal (And.intro @next_exit @next_ret)) (And.intro (And.intro @endBlock_normal @endBlock_ret) (And.intro @endBlock_exit @tail_normal))))) (And.intro (And.intro (And.intro (And.intro @tail_ret (And.intro @tail_exit @fin_normal)) (And.intro @fin_ret (And.intro @bcase_true @bcase_false))) (And.intro (And.intro @z_bind_some (And.intro @z_map_some @z_bind_none)) (And.intro (And.intro @z_map_none @resultsOf.eq_1) (And.intro @resultsOf.eq_2 @resultsOf.eq_3)))) (And.intro (And.intro (And.intro @resultList.eq_1 (And.intro @resultList.eq_2 @resultOf.eq_1)) (And.intro (And.intro @resultOf.eq_2 @resultOf.eq_3) (And.intro @zBV.eq_1 @zBV.eq_2))) (And.intro (And.intro @splice.eq_1 (And.intro @PV.remade.eq_1 @PV.remade.eq_2)) (And.intro (And.intro @PV.remade.eq_3 @PV.remade.eq_4) (And.intro @St.freezeAt.eq_1 @St.freezeBox.eq_1)))))) (And.intro (And.intro (And.intro (And.intro (And.intro @St.freezeCap.eq_1 (And.intro @St.freezeCap.eq_2 @PV.single.eq_1)) (And.intro @PV.single.eq_2 (And.intro @dops_nil @dops_cons))) (And.intro (And.intro @dop_grd (And.intro @dop_pick @dop_call)) (And.intro (And.intro @dop_callv @op1_call) (And.intro @op1_callv @dop_lin)))) (And.intro (And.intro (And.intro @dop_linv (And.intro @op1_lin @op1_linv)) (And.intro (And.intro @op1_pick @dop_mov) (And.intro @dop_asg @dop_bin))) (And.intro (And.intro @dop_eqa (And.intro @dop_eqb @dop_isn)) (And.intro (And.intro @dop_cut @dop_asl) (And.intro @dop_ldz @dop_srt))))) (And.intro (And.intro (And.intro (And.intro @dop_stw (And.intro @dop_bldo @dop_mvz)) (And.intro (And.intro @dop_un @dop_conv) (And.intro @dop_load @dop_fadr))) (And.intro (And.intro @dop_aadr (And.intro @dop_iadr @dop_fld)) (And.intro (And.intro @dop_idx @dop_sli) (And.intro @dop_len @dop_lens)))) (And.intro (And.intro (And.intro @dop_ext (And.intro @dop_build @dop_mn)) (And.intro (And.intro @dop_mkf @dop_alloc) (And.intro @dop_box @dop_store))) (And.intro (And.intro @dop_mksl (And.intro @dop_make @dop_app)) (And.intro (And.intro @dop_cpy @dop_yield) (And.intro @op1_mov @op1_asg))))))) (And.intro (And.intro (And.intro (And.intro (And.intro (And.intro @op1_bin (And.intro @op1_eqa @op1_eqb)) (And.intro @op1_isn (And.intro @op1_cut @op1_asl))) (And.intro (And.intro @op1_ldz (And.intro @op1_srt @op1_stw)) (And.intro (And.intro @op1_bldo @op1_mvz) (And.intro @op1_un @op1_conv)))) (And.intro (And.intro (And.intro @op1_load (And.intro @op1_fadr @op1_aadr)) (And.intro (And.intro @op1_iadr @op1_fld) (And.intro @op1_idx @op1_sli))) (And.intro (And.intro @op1_len (And.intro @op1_lens @op1_ext)) (And.intro (And.intro @op1_build @op1_mn) (And.intro @op1_mkf @op1_alloc))))) (And.intro (And.intro (And.intro (And.intro @op1_box (And.intro @op1_store @op1_mksl)) (And.intro (And.intro @op1_make @op1_app) (And.intro @op1_cpy @op1_yield))) (And.intro (And.intro @plain.eq_1 (And.intro @plain.eq_2 @plain.eq_3)) (And.intro (And.intro @plain.eq_4 @plain.eq_5) (And.intro @plain.eq_6 @plain.eq_7)))) (And.intro (And.intro (And.intro @plain.eq_8 (And.intro @plain.eq_9 @plain.eq_10)) (And.intro (And.intro @plain.eq_11 @plain.eq_12) (And.intro @plain.eq_13 @plain.eq_14))) (And.intro (And.intro @plain.eq_15 (And.intro @plain.eq_16 @plain.eq_17)) (And.intro (And.intro @plain.eq_18 @plain.eq_19) (And.intro @plain.eq_20 @plain.eq_21)))))) (And.intro (And.intro (And.intro (And.intro (And.intro @plain.eq_22 (And.intro @plain.eq_23 @plain.eq_24)) (And.intro @plain.eq_25 (And.intro @plain.eq_26 @plain.eq_27))) (And.intro (And.intro @plain.eq_28 (And.intro @plain.eq_29 @act.eq_1)) (And.intro (And.intro @act.eq_2 @act.eq_3) (And.intro @act.eq_4 @act.eq_5)))) (And.intro (And.intro (And.intro @act.eq_6 (And.intro @act.eq_7 @act.eq_8)) (And.intro (And.intro @act.eq_9 @act.eq_10) (And.intro @act.eq_11 @act.eq_12))) (And.intro (And.intro @act.eq_13 (And.intro @act.eq_14 @act.eq_15)) (And.intro (And.intro @dstOf.eq_1 @dstOf.eq_2) (And.intro @dstOf.eq_3 @dstOf.eq_4))))) (And.intro (And.intro (And.intro (And.intro @dstOf.eq_5 (And.intro @dstOf.eq_6 @dstOf.eq_7)) (And.intro (And.intro @dstOf.eq_8 @dstOf.eq_9) (And.intro @dstOf.eq_10 @dstOf.eq_11))) (And.intro (And.intro @dstOf.eq_12 (And.intro @dstOf.eq_13 @dstOf.eq_14)) (And.intro (And.intro @dstOf.eq_15 @dstOf.eq_16) (And.intro @dstOf.eq_17 @dstOf.eq_18)))) (And.intro (And.intro (And.intro @dstOf.eq_19 (And.intro @dstOf.eq_20 @dstOf.eq_21)) (And.intro (And.intro @dstOf.eq_22 @dstOf.eq_23) (And.intro @dstOf.eq_24 @dstOf.eq_25))) (And.intro (And.intro @dstOf.eq_26 (And.intro @dstOf.eq_27 @dstOf.eq_28)) (And.intro (And.intro @dstOf.eq_29 @dstOf.eq_30) (And.intro @dstOf.eq_31 @dstOf.eq_32)))))))) (And.intro (And.intro (And.intro (And.intro (And.intro (And.intro (And.intro @dstOf.eq_33 (And.intro @dstOf.eq_34 @dstOf.eq_35)) (And.intro @dstOf.eq_36 (And.intro @dstOf.eq_37 @dstOf.eq_38))) (And.intro (And.intro @dstOf.eq_39 (And.intro @dstOf.eq_40 @dstOf.eq_41)) (And.intro (And.intro @dstOf.eq_42 @Bool.false_eq_true) (And.intro @if_true.{1} @if_false.{1})))) (And.intro (And.intro (And.intro @z_ite_true (And.intro @z_ite_false @St.get.eq_1)) (And.intro (And.intro @St.get.eq_2 @St.get.eq_3) (And.intro @St.put.eq_1 @St.pvOf.eq_1))) (And.intro (And.intro @St.putRow.eq_1 (And.intro @St.consume.eq_1 @St.consume.eq_2)) (And.intro (And.intro @St.consume.eq_3 @St.freeze.eq_1) (And.intro @St.row.eq_1 @St.row.eq_2))))) (And.intro (And.intro (And.intro (And.intro @St.row.eq_3 (And.intro @St.elems.eq_1 @St.grab.eq_1)) (And.intro @St.grab.eq_2 (And.intro @St.grab.eq_3 @allBV.eq_1))) (And.intro (And.intro @allBV.eq_2 (And.intro @allBV.eq_3 @allBV.eq_4)) (And.intro (And.intro @ownP.eq_1 @ownP.eq_2) (And.intro @ownCells.eq_1 @ownCells.eq_2)))) (And.intro (And.intro (And.intro @ownCells.eq_3 (And.intro @ownCells.eq_4 @St.takeRow.eq_1)) (And.intro (And.intro @St.takeRow.eq_2 @St.takeRow.eq_3) (And.intro @St.setRow.eq_1 @St.setRow.eq_2))) (And.intro (And.intro @St.setRow.eq_3 (And.intro @St.place.eq_1 @St.place.eq_2)) (And.intro (And.intro @St.optPv.eq_1 @St.optPv.eq_2) (And.intro @St.setCell.eq_1 @St.setCellRow.eq_1)))))) (And.intro (And.intro (And.intro (And.intro (And.intro @binPV.eq_1 (And.intro @binPV.eq_2 @binPV.eq_3)) (And.intro @binPV.eq_4 (And.intro @intBin.eq_1 @intBin.eq_2))) (And.intro (And.intro @intBin.eq_3 (And.intro @intBin.eq_4 @intBin.eq_5)) (And.intro (And.intro @intBin.eq_6 @intBin.eq_7) (And.intro @intBin.eq_8 @intBin.eq_9)))) (And.intro (And.intro (And.intro @intBin.eq_10 (And.intro @intBin.eq_11 @intBin.eq_12)) (And.intro (And.intro @intBin.eq_13 @intBin.eq_14) (And.intro @intBin.eq_15 @intBin.eq_16))) (And.intro (And.intro @intBin.eq_17 (And.intro @unPV.eq_1 @unPV.eq_2)) (And.intro (And.intro @unPV.eq_3 @unPV.eq_4) (And.intro @BV.val.eq_1 @BV.val.eq_2))))) (And.intro (And.intro (And.intro (And.intro @cells_int (And.intro @cells_bool @cells_str)) (And.intro (And.intro @cells_list @cells_func) (And.intro @cells_agg @part_one))) (And.intro (And.intro @part_succ (And.intro @part_more @killS_pv)) (And.intro (And.intro @killS_any @killS_row) (And.intro @killS_pbox @killS_fn)))) (And.intro (And.intro (And.intro @killS_tup (And.intro @killS_yld @killS_refs)) (And.intro (And.intro @killS_refc @killS_pels) (And.intro @killS_pelc @killc_pv))) (And.intro (And.intro @killc_any (And.intro @killc_row @killc_pbox)) (And.intro (And.intro @killc_fn @killc_tup) (And.intro @killc_yld @killc_refs))))))) (And.intro (And.intro (And.intro (And.intro (And.intro (And.intro @killc_refc (And.intro @killc_pels @killc_pelc)) (And.intro @bound.eq_1 (And.intro @bound.eq_2 @bound.eq_3))) (And.intro (And.intro @consumeAll.eq_1 (And.intro @consumeAll.eq_2 @buildParts.eq_1)) (And.intro (And.intro @buildParts.eq_2 @capsOf.eq_1) (And.intro @capsOf.eq_2 @capOf.eq_1)))) (And.intro (And.intro (And.intro @z_bind_eq (And.intro @z_pure @z_map_cons)) (And.intro (And.intro @z_map_nil @z_len_cons) (And.intro @z_len_nil @List.append_nil.{0}))) (And.intro (And.intro @z_nil_app (And.intro @z_cons_app @Nat.zero_add)) (And.intro (And.intro @Nat.add_zero @z_drop_zero) (And.intro @z_drop_succ @z_take_succ))))) (And.intro (And.intro (And.intro (And.intro @z_take_zero (And.intro @decide_true @decide_false)) (And.intro (And.intro @Bool.not_true @Bool.not_false) (And.intro @Bool.true_eq_false @beq_self_eq_true.{0}))) (And.intro (And.intro @Bool.true_and (And.intro @Bool.and_true @Bool.false_and)) (And.intro (And.intro @Bool.and_false @Bool.true_or) (And.intro @Bool.false_or @Bool.or_false)))) (And.intro (And.intro (And.intro @Bool.or_true (And.intro @beq_t @beq_f)) (And.intro (And.intro @bcase_not @bcase_bne) (And.intro @List.length_map.{0, 0} @z_getD_zero))) (And.intro (And.intro @z_getD_8 (And.intro @z_getD_succ @z_get_zero)) (And.intro (And.intro @z_get_8 @z_get_succ) (And.intro @z_set_zero @z_set_8)))))) (And.intro (And.intro (And.intro (And.intro (And.intro @z_set_succ (And.intro @dcall.eq_1 @dcallP.eq_1)) (And.intro @dlin.eq_1 (And.intro @dlinP.eq_1 @takeLin.eq_1))) (And.intro (And.intro @backLin.eq_1 (And.intro @backLin.eq_2 @backLin.eq_3)) (And.intro (And.intro @linRes_row @linRes_own) (And.intro @linRes_box @lav_row)))) (And.intro (And.intro (And.intro @lav_own (And.intro @lav_box @lbx_row)) (And.intro (And.intro @lbx_own @lbx_box) (And.intro @finL_normal @finL_ret))) (And.intro (And.intro @afterCall_false (And.intro @afterCall_true @List.mapM_cons.{0, 0, 0})) (And.intro (And.intro @z_mapM_nil @St.snapFn.eq_1) (And.intro @St.snapFn.eq_2 @St.snap.eq_1))))) (And.intro (And.intro (And.intro (And.intro @St.snap.eq_2 (And.intro @St.snap.eq_3 @St.snap.eq_4)) (And.intro (And.intro @St.snap.eq_5 @St.snap.eq_6) (And.intro @z_any_cons @z_any_nil))) (And.intro (And.intro @z_all_cons (And.intro @z_all_nil @scal_int)) (And.intro (And.intro @scal_bool @scal_str) (And.intro @scal_list @scal_func)))) (And.intro (And.intro (And.intro @St.layAll.eq_1 (And.intro @St.layAll.eq_2 @St.lay.eq_1)) (And.intro (And.intro @St.lay.eq_2 @St.lay.eq_3) (And.intro @z_foldl_cons @z_foldl_nil))) (And.intro (And.intro @St.freezeArg.eq_1 (And.intro @St.freezeArg1.eq_1 @St.freezeArg1.eq_2)) (And.intro (And.intro @St.freezeArg1.eq_3 @St.freezeArg1.eq_4) (And.intro @St.freezeArg1.eq_5 @St.freezeArg1.eq_6)))))))))
def memAll := (And.intro (And.intro (And.intro (And.intro @List.isEmpty_nil.{0} (And.intro @val_pvs @frozen_pvs)) (And.intro @msnoc_len (And.intro @msnoc_get @msnoc_set))) (And.intro (And.intro @msnoc_take (And.intro @Int.le_refl @take_map_all)) (And.intro @Nat.le_refl (And.intro @St.freezeRows.eq_1 @BV.frozen.eq_1)))) (And.intro (And.intro (And.intro @BV.frozen.eq_2 (And.intro @List.take_length.{0} @List.take_append_drop.{0})) (And.intro @z_repl_zero (And.intro @Int.toNat_zero @true_and))) (And.intro (And.intro @and_true (And.intro @and_self @eq_self.{1})) (And.intro @z_take_zero (And.intro @List.drop_nil.{0} @List.take_nil.{0})))))
def slsAll := (And.intro (And.intro @Nat.zero_le (And.intro @List.take_zero.{0} @List.take_nil.{0})) (And.intro (And.intro @List.take_succ_cons.{0} @List.length_cons.{0}) (And.intro @List.length_nil.{0} @Nat.le_refl)))
end Go.Proofs.YtdahanchdjadiaaGreatDoor

namespace Go.Proofs.YtdahanchdjadiaaGreatDoor.V

end Go.Proofs.YtdahanchdjadiaaGreatDoor.V

namespace Go.Proofs.YtdahanchdjadiaaGreatDoor.V

end Go.Proofs.YtdahanchdjadiaaGreatDoor.V

namespace Go.Proofs.YtdahanchdjadiaaGreatDoor.V

end Go.Proofs.YtdahanchdjadiaaGreatDoor.V

namespace Go.Proofs.YtdahanchdjadiaaGreatDoor.V

end Go.Proofs.YtdahanchdjadiaaGreatDoor.V

namespace Go.Proofs.YtdahanchdjadiaaGreatDoor

noncomputable def iter (env : Env) (f : Nat) (caps : List PV) (stop : Option Nat) : Option (List (List PV)) := iterRes (den env) env f caps stop
def ystart (n : Nat) (caps : List PV) (stop : Option Nat) : St := ⟨.yld :: (caps.map .pv ++ List.replicate (n - (caps.length + 1)) .any), [], [], some stop⟩
def yfin : Ex × St → Option (List (List PV))
  | (.exit _, _) => none
  | (_, st) => some st.ys
section
variable {env : Env}
theorem yfin_normal (st : St) : yfin (.normal, st) = some st.ys := (rfl)
theorem yfin_ret (st : St) : yfin (.ret, st) = some st.ys := (rfl)
theorem iter_code {f : Nat} {fn : VFn} {caps : List PV} {stop : Option Nat} (h : env f = some (.code fn)) (hl : caps.length + 1 = fn.nargs) (hr : fn.results.isEmpty = true) : iter env f caps stop = (den env fn.body (ystart fn.ntmps caps stop)).bind yfin := by
  unfold iter iterRes
  rw [h]
  simp only [if_pos (And.intro hl hr)]
  show (den env fn.body _).bind _ = _
  congr 1
  funext ⟨e, st⟩
  cases e <;> rfl

noncomputable def round1 (env : Env) (slots : List AV) (ps : List Nat) (assign body : VCode) (nb : Nat) (x : List PV) (st : St) : Option (Ex × St) :=
  (setParams slots ps x).bind fun sl => (den env assign { st with slots := sl }).bind fun p => match p with
    | (.normal, st) => (den env body st).bind fun p => match p with
      | (.normal, st) => if nb ≤ st.boxes.length then some (.normal, { st with boxes := st.boxes.take nb }) else none
      | p => some p
    | _ => none
theorem rounds_cons {slots : List AV} {ps : List Nat} {assign body : VCode} {nb k : Nat} {x : List PV} {xs : List (List PV)} {st : St} :
    rounds (den env) slots ps assign body nb k (x :: xs) st = (round1 env slots ps assign body nb x st).bind fun p => match p with
      | (.normal, st) => rounds (den env) slots ps assign body nb (k + 1) xs st
      | (e, st) => some (some (e, k + 1), st) := by
  conv => lhs; unfold rounds
  unfold round1
  show (setParams slots ps x).bind _ = _
  cases setParams slots ps x with
  | none => rfl
  | some sl =>
    simp only [Option.bind_some]
    show (den env assign _).bind _ = _
    cases den env assign { st with slots := sl } with
    | none => rfl
    | some p =>
      obtain ⟨e, s⟩ := p
      simp only [Option.bind_some]
      cases e with
      | normal =>
        simp only
        show (den env body _).bind _ = _
        cases den env body s with
        | none => rfl
        | some p =>
          obtain ⟨e, s⟩ := p
          simp only [Option.bind_some]
          cases e with
          | normal =>
            simp only
            split <;> rfl
          | exit i => rfl
          | ret => rfl
      | exit i => rfl
      | ret => rfl
theorem rounds_take {slots : List AV} {ps : List Nat} {assign body : VCode} {nb : Nat} {e : Ex} {m : Nat} {s : St} : ∀ {xs : List (List PV)} {k : Nat} {st : St}, rounds (den env) slots ps assign body nb k xs st = some (some (e, m), s) →
    k < m ∧ m ≤ k + xs.length ∧ rounds (den env) slots ps assign body nb k (xs.take (m - k)) st = some (some (e, m), s)
  | [], k, st, h => by cases h
  | x :: xs, k, st, h => by
    rw [rounds_cons] at h
    cases hr : round1 env slots ps assign body nb x st with
    | none => rw [hr] at h; cases h
    | some p =>
      obtain ⟨e1, s1⟩ := p
      rw [hr] at h
      simp only [Option.bind_some] at h
      cases e1 with
      | normal =>
        obtain ⟨h1, h2, h3⟩ := rounds_take h
        refine ⟨by omega, by simp only [List.length_cons]; omega, ?_⟩
        rw [show m - k = (m - (k + 1)) + 1 by omega, List.take_succ_cons, rounds_cons, hr]
        exact h3
      | exit i =>
        cases h
        refine ⟨by omega, by simp, ?_⟩
        rw [show k + 1 - k = 0 + 1 by omega, List.take_succ_cons, rounds_cons, hr]
        rfl
      | ret =>
        cases h
        refine ⟨by omega, by simp, ?_⟩
        rw [show k + 1 - k = 0 + 1 by omega, List.take_succ_cons, rounds_cons, hr]
        rfl
theorem rng_all {g : Opd} {ps : List Nat} {assign body : VCode} {st st1 : St} {f : Nat} {caps : List PV} {xs : List (List PV)} (hg : st.pvOf g = some (.func f caps)) (hi : iter env f caps none = some xs)
    (hr : rounds (den env) (st.slots.map AV.froze) ps assign body st.boxes.length 0 xs { st with slots := st.slots.map AV.froze } = some (none, st1)) : den env (.rng g ps assign body) st = some (.normal, { st1 with slots := st.slots.map AV.froze }) := by
  rw [den_eq]
  show ranged (den env) env g ps assign body st = _
  unfold ranged
  rw [hg]
  unfold iter at hi
  simp only [z_bind_eq, Option.bind_some, hi, hr]
theorem rng_out {g : Opd} {ps : List Nat} {assign body : VCode} {st st1 : St} {f : Nat} {caps : List PV} {xs : List (List PV)} {e : Ex} {k : Nat} (hg : st.pvOf g = some (.func f caps)) (hi : iter env f caps none = some xs)
    (hr : rounds (den env) (st.slots.map AV.froze) ps assign body st.boxes.length 0 xs { st with slots := st.slots.map AV.froze } = some (some (e, k), st1)) (hi2 : iter env f caps (some k) = some (xs.take k)) : den env (.rng g ps assign body) st = some (e, { st1 with slots := st.slots.map AV.froze }) := by
  obtain ⟨h1, h2, h3⟩ := rounds_take hr
  rw [den_eq]
  show ranged (den env) env g ps assign body st = _
  unfold ranged
  rw [hg]
  unfold iter at hi hi2
  simp only [Nat.sub_zero] at h3
  have hl : (xs.take k).length = k := by rw [List.length_take]; omega
  simp only [z_bind_eq, Option.bind_some, hi, hr, hi2, h3, hl, and_self, if_true]
theorem rng_idx (B : Nat → List Box) {g : Opd} {ps : List Nat} {assign body : VCode} {st : St} {f : Nat} {caps : List PV} {xs : List (List PV)} (hg : st.pvOf g = some (.func f caps)) (hi : iter env f caps none = some xs) (hB : st.boxes = B 0)
    (h : ∀ j x, xs[j]? = some x → ∀ sl0, ∃ sl1, round1 env (st.slots.map AV.froze) ps assign body st.boxes.length x ⟨sl0, B j, st.ys, st.stop⟩ = some (.normal, ⟨sl1, B (j + 1), st.ys, st.stop⟩)) :
    den env (.rng g ps assign body) st = some (.normal, ⟨st.slots.map AV.froze, B xs.length, st.ys, st.stop⟩) := by
  have key : ∀ (l : List (List PV)) (j : Nat), xs.drop j = l → ∀ (k : Nat) (sl0 : List AV), ∃ sl1, rounds (den env) (st.slots.map AV.froze) ps assign body st.boxes.length k l ⟨sl0, B j, st.ys, st.stop⟩ = some (none, ⟨sl1, B (j + l.length), st.ys, st.stop⟩) := by
    intro l
    induction l with
    | nil => intro j _ k sl0; exact ⟨sl0, rfl⟩
    | cons x l ih =>
      intro j hj k sl0
      have hx : xs[j]? = some x := by rw [← List.head?_drop, hj]; rfl
      have hd : xs.drop (j + 1) = l := by rw [← List.drop_drop, hj]; rfl
      obtain ⟨sl1, q⟩ := h j x hx sl0
      obtain ⟨sl2, q2⟩ := ih (j + 1) hd (k + 1) sl1
      refine ⟨sl2, ?_⟩
      rw [rounds_cons, q]
      simp only [Option.bind_some, q2, List.length_cons]
      rw [show j + 1 + l.length = j + (l.length + 1) by omega]
  obtain ⟨sl1, q⟩ := key xs 0 (by simp) 0 (st.slots.map AV.froze)
  rw [← hB, Nat.zero_add] at q
  have r := rng_all hg hi q
  exact r
theorem rng_idx_out (B : Nat → List Box) (m : Nat) {g : Opd} {ps : List Nat} {assign body : VCode} {st s : St} {e : Ex} {f : Nat} {caps : List PV} {xs : List (List PV)} (hg : st.pvOf g = some (.func f caps)) (hi : iter env f caps none = some xs) (hi2 : iter env f caps (some (m + 1)) = some (xs.take (m + 1))) (hB : st.boxes = B 0) (hm : m < xs.length)
    (h : ∀ j x, j < m → xs[j]? = some x → ∀ sl0, ∃ sl1, round1 env (st.slots.map AV.froze) ps assign body st.boxes.length x ⟨sl0, B j, st.ys, st.stop⟩ = some (.normal, ⟨sl1, B (j + 1), st.ys, st.stop⟩))
    (he : e ≠ .normal) (hl : ∀ x, xs[m]? = some x → ∀ sl0, ∃ sl1, round1 env (st.slots.map AV.froze) ps assign body st.boxes.length x ⟨sl0, B m, st.ys, st.stop⟩ = some (e, { s with slots := sl1 })) :
    den env (.rng g ps assign body) st = some (e, { s with slots := st.slots.map AV.froze }) := by
  have key : ∀ (d j : Nat), j + d = m → ∀ (k : Nat) (sl0 : List AV), ∃ sl1, rounds (den env) (st.slots.map AV.froze) ps assign body st.boxes.length k (xs.drop j) ⟨sl0, B j, st.ys, st.stop⟩ = some (some (e, k + d + 1), { s with slots := sl1 }) := by
    intro d
    induction d with
    | zero =>
      intro j hj k sl0
      obtain rfl : j = m := by omega
      rw [List.drop_eq_getElem_cons hm]
      obtain ⟨sl1, q⟩ := hl _ (List.getElem?_eq_getElem hm) sl0
      refine ⟨sl1, ?_⟩
      rw [rounds_cons, q]
      cases e with
      | normal => exact absurd rfl he
      | exit i => rfl
      | ret => rfl
    | succ d ih =>
      intro j hj k sl0
      have hj' : j < xs.length := by omega
      rw [List.drop_eq_getElem_cons hj']
      obtain ⟨sl1, q⟩ := h j _ (by omega) (List.getElem?_eq_getElem hj') sl0
      obtain ⟨sl2, q2⟩ := ih (j + 1) (by omega) (k + 1) sl1
      refine ⟨sl2, ?_⟩
      rw [rounds_cons, q]
      simp only [Option.bind_some, q2]
      rw [show k + 1 + d + 1 = k + (d + 1) + 1 by omega]
  obtain ⟨sl1, q⟩ := key m 0 (by omega) 0 (st.slots.map AV.froze)
  rw [List.drop_zero, ← hB, Nat.zero_add] at q
  have r := rng_out hg hi q hi2
  exact r
theorem clean_upP {keep post : List Nat} {id nb : Nat} {b : VCode} (n : Nat) (P : Nat → Prop) (S : Nat → St) (R : Nat → Option (Ex × St)) {st : St} (h : st.head keep st.boxes.length = some (S 0)) (hP : P 0) (hS : ∀ i, (S i).boxes.length = nb) (hh : ∀ i, (S i).head keep nb = some (S i))
    (step : ∀ i rb, i < n → P i → (P (i + 1) → ∀ s, s.head keep nb = some (S (i + 1)) → tailOf env id post nb (den env rb s) = R (i + 1)) → tailOf env id post nb ((den env b (S i)).bind (next env rb)) = R i)
    (last : ∀ rb, P n → tailOf env id post nb ((den env b (S n)).bind (next env rb)) = R n) :
    den env (.clean keep post (.block id (.loop keep b))) st = R 0 := by
  refine clean_rec S R (fun i => i ≤ n ∧ P i) (fun i => n - i) 0 h ⟨Nat.zero_le _, hP⟩ hS hh fun i rb hi ih => ?_
  by_cases hn : i = n
  · subst hn; exact last rb hi.2
  · exact step i rb (by omega) hi.2 fun hp s hs => ih (i + 1) (by omega) ⟨by omega, hp⟩ s hs
noncomputable def rassign (env : Env) (body : VCode) (nb : Nat) : Ex × St → Option (Ex × St)
  | (.normal, st) => (den env body st).bind fun p => match p with
    | (.normal, st) => if nb ≤ st.boxes.length then some (.normal, { st with boxes := st.boxes.take nb }) else none
    | p => some p
  | _ => none
def rend (nb : Nat) : Ex × St → Option (Ex × St)
  | (.normal, st) => if nb ≤ st.boxes.length then some (.normal, { st with boxes := st.boxes.take nb }) else none
  | p => some p
theorem round1_eq (slots : List AV) (ps : List Nat) (assign body : VCode) (nb : Nat) (x : List PV) (st : St) : round1 env slots ps assign body nb x st = (setParams slots ps x).bind fun sl => (den env assign { st with slots := sl }).bind (rassign env body nb) := by
  unfold round1
  rfl
theorem rassign_normal (body : VCode) (nb : Nat) (st : St) : rassign env body nb (.normal, st) = (den env body st).bind (rend nb) := by
  rfl
theorem rend_normal (nb : Nat) (st : St) : rend nb (.normal, st) = if nb ≤ st.boxes.length then some (.normal, { st with boxes := st.boxes.take nb }) else none := (rfl)
theorem rend_exit (nb i : Nat) (st : St) : rend nb (.exit i, st) = some (.exit i, st) := (rfl)
theorem rend_ret (nb : Nat) (st : St) : rend nb (.ret, st) = some (.ret, st) := (rfl)
theorem setP_nil (slots : List AV) : setParams slots [] [] = some slots := (rfl)
theorem setP_cons (slots : List AV) (p : Nat) (ps : List Nat) (v : PV) (vs : List PV) : setParams slots (p :: ps) (v :: vs) = setParams (slots.set p (.pv v)) ps vs := (rfl)
theorem froze_pv (v : PV) : AV.froze (.pv v) = .pv v := (rfl)
theorem froze_row (sz : Nat) (es : List PV) : AV.froze (.row sz es) = .pv (.list sz es) := (rfl)
theorem froze_any : AV.froze .any = .any := (rfl)
theorem froze_tup (k : Bool) (l : List AV) : AV.froze (.tup k l) = .any := (rfl)
theorem froze_ref (r : Root) (i j : Nat) : AV.froze (.ref r i j) = .any := (rfl)
theorem froze_pel (r : Root) (i j : Nat) : AV.froze (.pel r i j) = .any := (rfl)
theorem froze_pbox (i j : Nat) : AV.froze (.pbox i j) = .pbox i j := (rfl)
theorem froze_fn (f : Nat) (l : List AV) : AV.froze (.fn f l) = .fn f l := (rfl)
theorem froze_yld : AV.froze .yld = .yld := (rfl)
end
def vRng := And.intro @round1_eq (And.intro @rassign_normal (And.intro @rend_normal (And.intro @rend_exit (And.intro @rend_ret (And.intro @setP_nil (And.intro @setP_cons (And.intro @froze_pv (And.intro @froze_row (And.intro @froze_any (And.intro @froze_tup (And.intro @froze_ref (And.intro @froze_pel (And.intro @froze_pbox (And.intro @froze_fn (And.intro @froze_yld (And.intro @yfin_normal @yfin_ret))))))))))))))))
end Go.Proofs.YtdahanchdjadiaaGreatDoor

namespace Go.Proofs.YtdahanchdjadiaaGreatDoor.V

def addAt (out : List Exn) (i : Nat) : List Exn := match out.getLast? with
  | some x => if x.start + x.count = (i : Int) then out.dropLast ++ [⟨x.start, x.count + 1⟩] else out ++ [⟨i, 1⟩]
  | none => [⟨i, 1⟩]
def exts (l : List Nat) : List Exn := l.foldl addAt []
theorem addAt_snoc (pre : List Exn) (x : Exn) (i : Nat) : addAt (pre ++ [x]) i = if x.start + x.count = (i : Int) then pre ++ [⟨x.start, x.count + 1⟩] else pre ++ [x] ++ [⟨i, 1⟩] := by
  simp [addAt]
theorem exts_snoc (l : List Nat) (i : Nat) : exts (l ++ [i]) = addAt (exts l) i := by simp [exts]
theorem snoc_cases {α : Type} (l : List α) : l = [] ∨ ∃ p x, l = p ++ [x] := by
  rcases List.eq_nil_or_concat l with h | ⟨p, x, h⟩
  · exact .inl h
  · exact .inr ⟨p, x, by rw [h]; simp⟩
theorem exts_last : ∀ (n : Nat) (l : List Nat), l.length = n → ∀ i : Nat, ∃ pre x, exts (l ++ [i]) = pre ++ [x] ∧ x.start + x.count = (i : Int) + 1 ∧ 0 ≤ x.start ∧ 1 ≤ x.count ∧ pre.length ≤ l.length := by
  intro n
  induction n with
  | zero =>
    intro l hl i
    have := List.eq_nil_of_length_eq_zero hl
    subst this
    exact ⟨[], ⟨i, 1⟩, rfl, rfl, by simp, by simp, by simp⟩
  | succ n ih =>
    intro l hl i
    rcases snoc_cases l with rfl | ⟨p, j, rfl⟩
    · simp at hl
    · obtain ⟨pre, x, e, h1, h2, h3, h4⟩ := ih p (by simpa using hl) j
      rw [exts_snoc, e, addAt_snoc]
      split
      · rename_i hx
        exact ⟨pre, _, rfl, by simp; omega, h2, by simp; omega, by simp; omega⟩
      · exact ⟨pre ++ [x], _, rfl, by simp, by simp, by simp, by simp; omega⟩
theorem wrap_pred {n : Nat} (h : n ≤ lim) : IntKind.i64.wrap (((n + 1 : Nat) : Int) - 1) = (n : Int) := by
  rw [i64_fits (by unfold lim at h; omega)]; omega
def yI (l : List Nat) : List (List PV) := l.map fun (i : Nat) => [PV.int .i64 (i : Int)]
end Go.Proofs.YtdahanchdjadiaaGreatDoor.V

namespace Go.Proofs.YtdahanchdjadiaaGreatDoor.V
def ext (p : Nat → Bool) (n : Nat) : List Exn := exts ((List.range n).filter p)
theorem ext_succ (p : Nat → Bool) (n : Nat) : ext p (n + 1) = if p n then addAt (ext p n) n else ext p n := by
  unfold ext
  rw [List.range_succ, List.filter_append]
  cases h : p n
  · simp [h]
  · rw [List.filter_cons_of_pos h, List.filter_nil, exts_snoc]; rfl
theorem ext_new {p : Nat → Bool} {n : Nat} (h : n = 0 ∨ p (n - 1) = false) : addAt (ext p n) n = ext p n ++ [⟨(n : Int), 1⟩] := by
  unfold ext
  rcases snoc_cases ((List.range n).filter p) with h0 | ⟨l, j, h0⟩
  · rw [h0]; rfl
  · obtain ⟨pre, ⟨s, c⟩, e0, h1, h2, h3, h4⟩ := exts_last _ l rfl j
    have hmem : j ∈ (List.range n).filter p := by rw [h0]; simp
    obtain ⟨q1, q2⟩ := List.mem_filter.1 hmem
    have hj := List.mem_range.1 q1
    simp only at h1
    rw [h0, e0, addAt_snoc, if_neg]
    intro hh
    simp only at hh
    have : j = n - 1 := by omega
    rcases h with h | h
    · omega
    · rw [← this, q2] at h; cases h
theorem ext_false {p : Nat → Bool} {a : Nat} : ∀ k, (∀ s, a ≤ s → s < a + k → p s = false) → ext p (a + k) = ext p a
  | 0, _ => rfl
  | k + 1, h => by
    rw [← Nat.add_assoc, ext_succ, h (a + k) (by omega) (by omega), if_neg (by simp)]
    exact ext_false k fun s h1 h2 => h s h1 (by omega)
theorem ext_true {p : Nat → Bool} {a : Nat} {pre : List Exn} {s0 : Int} (h0 : ext p a = pre ++ [⟨s0, a - s0⟩]) : ∀ k, (∀ s, a ≤ s → s < a + k → p s = true) → ext p (a + k) = pre ++ [⟨s0, ((a + k : Nat) : Int) - s0⟩]
  | 0, _ => h0
  | k + 1, h => by
    rw [← Nat.add_assoc, ext_succ, h (a + k) (by omega) (by omega), if_pos rfl, ext_true h0 k fun s h1 h2 => h s h1 (by omega), addAt_snoc, if_pos (by simp only; omega)]
    congr 2
    simp only [Exn.mk.injEq, true_and]
    omega
theorem ext_begin {p : Nat → Bool} {a k : Nat} (hn : a = 0 ∨ p (a - 1) = false) (h : ∀ s, a ≤ s → s < a + (k + 1) → p s = true) : ext p (a + (k + 1)) = ext p a ++ [⟨(a : Int), ((a + (k + 1) : Nat) : Int) - a⟩] := by
  have h1 : ext p (a + 1) = ext p a ++ [⟨(a : Int), ((a + 1 : Nat) : Int) - a⟩] := by
    rw [ext_succ, h a (Nat.le_refl _) (by omega), if_pos rfl, ext_new hn]
    congr 2
    simp only [Exn.mk.injEq, true_and]
    omega
  have := ext_true (a := a + 1) h1 k fun s h2 h3 => h s (by omega) (by omega)
  rw [show a + (k + 1) = a + 1 + k by omega]
  exact this
theorem ext_congr {p q : Nat → Bool} {n : Nat} (h : ∀ s, s < n → p s = q s) : ext p n = ext q n := by
  unfold ext
  rw [List.filter_congr fun s hs => h s (List.mem_range.1 hs)]
def dep (i : Nat) (s : Nat) : List End → Int
  | [] => 0
  | x :: l => (if x.list = i ∧ x.pos ≤ s then x.step else 0) + dep i s l
def tot (i : Nat) : List End → Int
  | [] => 0
  | x :: l => (if x.list = i then x.step else 0) + tot i l
theorem dep_app (i s : Nat) : ∀ l m : List End, dep i s (l ++ m) = dep i s l + dep i s m
  | [], m => by simp [dep]
  | x :: l, m => by simp only [List.cons_append, dep, dep_app i s l m]; omega
theorem dep_all {i s : Nat} : ∀ {l : List End}, (∀ x ∈ l, x.pos ≤ s) → dep i s l = tot i l
  | [], _ => rfl
  | x :: l, h => by
    have h1 := h x (by simp)
    have ih := dep_all (i := i) (s := s) (l := l) fun y hy => h y (by simp [hy])
    simp only [dep, tot, ih, h1, and_true]
theorem dep_none {i s : Nat} : ∀ {l : List End}, (∀ x ∈ l, s < x.pos) → dep i s l = 0
  | [], _ => rfl
  | x :: l, h => by
    have h1 := h x (by simp)
    have ih := dep_none (i := i) (s := s) (l := l) fun y hy => h y (by simp [hy])
    simp only [dep, ih]
    rw [if_neg (by omega)]; rfl
theorem tot_app (i : Nat) : ∀ l m : List End, tot i (l ++ m) = tot i l + tot i m
  | [], m => by simp [tot]
  | x :: l, m => by simp only [List.cons_append, tot, tot_app i l m]; omega
def keepOf (keep : Bool → Bool → Bool) (l : List End) (s : Nat) : Bool := keep (decide (dep 0 s l > 0)) (decide (dep 1 s l > 0))
def nextSame (x : End) : List End → Bool
  | [] => false
  | y :: _ => decide (y.pos = x.pos)
def swGo (keep : Bool → Bool → Bool) : List End → Int → Int → Int → Bool → List Exn
  | [], _, _, _, _ => []
  | x :: l, d0, d1, st, ins =>
    if nextSame x l then swGo keep l (if x.list = 0 then d0 + x.step else d0) (if x.list = 1 then d1 + x.step else d1) st ins
    else
      (if !keep (decide ((if x.list = 0 then d0 + x.step else d0) > 0)) (decide ((if x.list = 1 then d1 + x.step else d1) > 0)) && ins then [⟨st, x.pos - st⟩] else []) ++
      swGo keep l (if x.list = 0 then d0 + x.step else d0) (if x.list = 1 then d1 + x.step else d1)
        (if keep (decide ((if x.list = 0 then d0 + x.step else d0) > 0)) (decide ((if x.list = 1 then d1 + x.step else d1) > 0)) && !ins then x.pos else st)
        (keep (decide ((if x.list = 0 then d0 + x.step else d0) > 0)) (decide ((if x.list = 1 then d1 + x.step else d1) > 0)))
def Asc : List End → Prop
  | [] => True
  | [_] => True
  | x :: y :: l => x.pos ≤ y.pos ∧ Asc (y :: l)
theorem Asc.tail {x : End} {l : List End} (h : Asc (x :: l)) : Asc l := by
  cases l with
  | nil => trivial
  | cons y l => exact h.2
theorem Asc.le {x : End} : ∀ {l : List End}, Asc (x :: l) → ∀ y ∈ l, x.pos ≤ y.pos
  | [], _, y, hy => by cases hy
  | z :: l, h, y, hy => by
    rcases List.mem_cons.1 hy with rfl | hy
    · exact h.1
    · exact Nat.le_trans h.1 (Asc.le h.2 y hy)
def atStart (N : Nat) : List End → Nat → Prop
  | [], a => a = N
  | x :: _, a => a = x.pos
theorem swGo_ok {keep : Bool → Bool → Bool} (hk : keep false false = false) {L : List End} {N : Nat} (hN : ∀ x ∈ L, x.pos ≤ N) (h0 : tot 0 L = 0) (h1 : tot 1 L = 0) :
    ∀ (R P : List End) (out : List Exn) (st : Int) (ins : Bool) (a : Nat), L = P ++ R → Asc R → (∀ x ∈ P, ∀ y ∈ R, x.pos ≤ y.pos) → (∀ x ∈ P, x.pos ≤ a) →
      atStart N R a → ext (keepOf keep L) a = out ++ (if ins then [⟨st, a - st⟩] else []) → (a = 0 ∨ ins = true ∨ keepOf keep L (a - 1) = false) → (R = [] → ins = false) → (a = 0 → ins = false) →
      ext (keepOf keep L) N = out ++ swGo keep R (tot 0 P) (tot 1 P) st ins
  | [], P, out, st, ins, a, hL, _, _, _, ha, he, hi, hr, _ => by
    have ha : a = N := ha
    rw [hr rfl] at he
    rw [ha] at he
    simpa [swGo] using he
  | x :: l, P, out, st, ins, a, hL, hs, hP, hPa, ha, he, hi, _, hz => by
    have ha : a = x.pos := ha
    subst ha
    have hL2 : L = (P ++ [x]) ++ l := by rw [hL]; simp
    have t0 : tot 0 (P ++ [x]) = (if x.list = 0 then tot 0 P + x.step else tot 0 P) := by
      rw [tot_app]; simp only [tot]; split <;> omega
    have t1 : tot 1 (P ++ [x]) = (if x.list = 1 then tot 1 P + x.step else tot 1 P) := by
      rw [tot_app]; simp only [tot]; split <;> omega
    have hP2 : ∀ z ∈ P ++ [x], ∀ y ∈ l, z.pos ≤ y.pos := by
      intro z hz y hy
      rcases List.mem_append.1 hz with hz | hz
      · exact hP z hz y (by simp [hy])
      · simp only [List.mem_singleton] at hz; rw [hz]; exact hs.le y hy
    have hPx : ∀ z ∈ P ++ [x], z.pos ≤ x.pos := by
      intro z hz
      rcases List.mem_append.1 hz with hz | hz
      · exact hP z hz x (by simp)
      · simp only [List.mem_singleton] at hz; rw [hz]; exact Nat.le_refl _
    unfold swGo
    rw [← t0, ← t1]
    by_cases hn : nextSame x l = true
    · rw [if_pos hn]
      cases l with
      | nil => simp [nextSame] at hn
      | cons y l =>
        have hy : y.pos = x.pos := by simpa [nextSame] using hn
        exact swGo_ok hk hN h0 h1 (y :: l) (P ++ [x]) out st ins x.pos hL2 hs.tail hP2 hPx hy.symm he hi (fun e => by cases e) hz
    · rw [if_neg hn]
      -- the next place
      obtain ⟨b, hb, hbl, hbx, hbm⟩ : ∃ b, x.pos ≤ b ∧ (∀ y ∈ l, b ≤ y.pos) ∧ (l ≠ [] → x.pos < b) ∧ atStart N l b := by
        cases l with
        | nil => exact ⟨N, hN x (by rw [hL]; simp), fun y hy => (by cases hy), fun h => absurd rfl h, rfl⟩
        | cons y l =>
          have hy : y.pos ≠ x.pos := by simpa [nextSame] using hn
          have := hs.1
          exact ⟨y.pos, hs.1, fun z hz => by
            rcases List.mem_cons.1 hz with rfl | hz
            · exact Nat.le_refl _
            · exact hs.tail.le z hz, fun _ => by omega, rfl⟩
      have hconst : ∀ s, x.pos ≤ s → s < b → keepOf keep L s = keep (decide (tot 0 (P ++ [x]) > 0)) (decide (tot 1 (P ++ [x]) > 0)) := by
        intro s hs1 hs2
        unfold keepOf
        have e : ∀ i, dep i s L = tot i (P ++ [x]) := by
          intro i
          rw [hL2, dep_app, dep_all (fun z hz => by have := hPx z hz; omega), dep_none (fun z hz => by have := hbl z hz; omega)]
          omega
        rw [e 0, e 1]
      have hlast : l = [] → keep (decide (tot 0 (P ++ [x]) > 0)) (decide (tot 1 (P ++ [x]) > 0)) = false := by
        intro hl
        have e0 : tot 0 (P ++ [x]) = 0 := by rw [← h0, hL2, hl, List.append_nil]
        have e1 : tot 1 (P ++ [x]) = 0 := by rw [← h1, hL2, hl, List.append_nil]
        rw [e0, e1]
        exact hk
      have hPb : ∀ z ∈ P ++ [x], z.pos ≤ b := fun z hz => Nat.le_trans (hPx z hz) hb
      obtain ⟨k, rfl⟩ : ∃ k, b = x.pos + k := ⟨b - x.pos, by omega⟩
      generalize keep (decide (tot 0 (P ++ [x]) > 0)) (decide (tot 1 (P ++ [x]) > 0)) = now at *
      have hprev : k ≠ 0 → keepOf keep L (x.pos + k - 1) = now := fun hk0 => hconst _ (by omega) (by omega)
      cases now with
      | false =>
        have hf := ext_false (p := keepOf keep L) (a := x.pos) k fun s q1 q2 => hconst s q1 q2
        cases ins with
        | false =>
          simp only [Bool.not_false, Bool.and_false, Bool.false_eq_true, if_false, List.nil_append, Bool.and_true, Bool.false_and, List.append_nil, if_true] at he ⊢
          refine swGo_ok hk hN h0 h1 l (P ++ [x]) out _ false (x.pos + k) hL2 hs.tail hP2 hPb hbm ?_ ?_ (fun _ => rfl) (fun _ => rfl)
          · rw [hf, he]; simp
          · by_cases hk0 : k = 0
            · subst hk0
              rcases hi with hi | hi | hi
              · exact .inl hi
              · cases hi
              · exact .inr (.inr hi)
            · exact .inr (.inr (hprev hk0))
        | true =>
          simp only [Bool.not_false, Bool.and_self, if_true, Bool.not_true, Bool.and_false, Bool.false_and, Bool.false_eq_true, if_false] at he ⊢
          rw [← List.append_assoc]
          by_cases hk0 : k = 0
          · subst hk0
            have hl : l = [] := by
              cases l with
              | nil => rfl
              | cons y l => have := hbx (by simp); omega
            subst hl
            have hb2 : x.pos + 0 = N := hbm
            simp only [swGo, List.append_nil]
            rw [← hb2]
            exact he
          · refine swGo_ok hk hN h0 h1 l (P ++ [x]) _ _ false (x.pos + k) hL2 hs.tail hP2 hPb hbm ?_ (.inr (.inr (hprev hk0))) (fun _ => rfl) (fun _ => rfl)
            rw [hf, he]; simp
      | true =>
        have hl : l ≠ [] := fun e => by have := hlast e; cases this
        have hk1 := hbx hl
        obtain ⟨j, rfl⟩ : ∃ j, k = j + 1 := ⟨k - 1, by omega⟩
        cases ins with
        | false =>
          simp only [Bool.not_true, Bool.false_and, Bool.false_eq_true, if_false, List.nil_append, Bool.not_false, Bool.and_self, if_true, List.append_nil] at he ⊢
          refine swGo_ok hk hN h0 h1 l (P ++ [x]) out _ true (x.pos + (j + 1)) hL2 hs.tail hP2 hPb hbm ?_ (.inr (.inl rfl)) (fun e => absurd e hl) (fun e => by omega)
          have hi2 : x.pos = 0 ∨ keepOf keep L (x.pos - 1) = false := by
            rcases hi with hi | hi | hi
            · exact .inl hi
            · cases hi
            · exact .inr hi
          rw [ext_begin hi2 fun s q1 q2 => hconst s q1 q2, he]
          simp
        | true =>
          simp only [Bool.not_true, Bool.false_and, Bool.false_eq_true, if_false, List.nil_append, Bool.and_false, if_true] at he ⊢
          refine swGo_ok hk hN h0 h1 l (P ++ [x]) out st true (x.pos + (j + 1)) hL2 hs.tail hP2 hPb hbm ?_ (.inr (.inl rfl)) (fun e => absurd e hl) (fun e => by omega)
          rw [ext_true he (j + 1) fun s q1 q2 => hconst s q1 q2]
          simp
theorem sweep_ok {keep : Bool → Bool → Bool} (hk : keep false false = false) {L : List End} {N : Nat} (hs : Asc L) (hN : ∀ x ∈ L, x.pos ≤ N) (h0 : tot 0 L = 0) (h1 : tot 1 L = 0) :
    swGo keep L 0 0 0 false = ext (keepOf keep L) N := by
  cases L with
  | nil =>
    have : ext (keepOf keep ([] : List End)) (0 + N) = ext (keepOf keep []) 0 := ext_false N fun s _ _ => hk
    rw [Nat.zero_add] at this
    rw [this]; rfl
  | cons x l =>
    have hb : ext (keepOf keep (x :: l)) (0 + x.pos) = ext (keepOf keep (x :: l)) 0 := ext_false x.pos fun s _ h2 => by
      unfold keepOf
      have e : ∀ i, dep i s (x :: l) = 0 := fun i => dep_none fun y hy => by
        rcases List.mem_cons.1 hy with rfl | hy
        · omega
        · have := hs.le y hy; omega
      rw [e 0, e 1]
      exact hk
    rw [Nat.zero_add] at hb
    have := swGo_ok hk hN h0 h1 (x :: l) [] [] 0 false x.pos rfl hs (fun z hz => by cases hz) (fun z hz => by cases hz) rfl (by rw [hb]; rfl) (by
      by_cases h : x.pos = 0
      · exact .inl h
      · refine .inr (.inr ?_)
        unfold keepOf
        have e : ∀ i, dep i (x.pos - 1) (x :: l) = 0 := fun i => dep_none fun y hy => by
          rcases List.mem_cons.1 hy with rfl | hy
          · omega
          · have := hs.le y hy; omega
        rw [e 0, e 1]
        exact hk) (fun e => by cases e) (fun _ => rfl)
    rw [this]; rfl
end Go.Proofs.YtdahanchdjadiaaGreatDoor.V

namespace Go.Proofs.YtdahanchdjadiaaGreatDoor.V
abbrev Wd := BitVec 64
structure Bm where
  size : Int
  ws : List Wd
  deriving DecidableEq
def eW (w : Wd) : PV := .int .u64 (w.toNat : Int)
def eBm (b : Bm) : PV := .agg [.int .i64 b.size, .list 1 (b.ws.map eW)]
def bit (ws : List Wd) (i : Nat) : Bool := (ws.getD (i / 64) 0).getLsbD (i % 64)
theorem bit_at {ws : List Wd} {k : Nat} (h : k < ws.length) {j : Nat} (hj : j < 64) : bit ws (64 * k + j) = ws[k].getLsbD j := by
  unfold bit
  have e1 : (64 * k + j) / 64 = k := by omega
  have e2 : (64 * k + j) % 64 = j := by omega
  rw [e1, e2]; simp [h]
theorem bit_of {ws : List Wd} {i : Nat} (h : i / 64 < ws.length) : bit ws i = ws[i / 64].getLsbD (i % 64) := by
  unfold bit; simp [h]
theorem bit_out {ws : List Wd} {i : Nat} (h : 64 * ws.length ≤ i) : bit ws i = false := by
  unfold bit
  have : ws.length ≤ i / 64 := by omega
  rw [List.getD_eq_getElem?_getD, List.getElem?_eq_none this]; simp
theorem ws_ext {a b : List Wd} (hl : a.length = b.length) (h : ∀ i, i < 64 * a.length → bit a i = bit b i) : a = b := by
  apply List.ext_getElem hl
  intro k h1 h2
  apply BitVec.eq_of_getLsbD_eq
  intro j hj
  rw [← bit_at h1 hj, ← bit_at h2 hj, h _ (by omega)]

/-! The machine's words. -/
theorem w_of (w : Wd) : BitVec.ofInt 64 (w.toNat : Int) = w := by
  apply BitVec.eq_of_toNat_eq
  have := w.isLt
  rw [BitVec.toNat_ofInt]
  omega
theorem u64_wrap (n : Int) : IntKind.u64.wrap n = n % 2 ^ 64 := by
  simp only [IntKind.wrap, IntKind.bits, IntKind.signed, Bool.false_and, Bool.false_eq_true, if_false]
theorem w_wrap (w : Wd) : IntKind.u64.wrap (w.toNat : Int) = (w.toNat : Int) := by
  have := w.isLt
  simp only [IntKind.wrap, IntKind.bits, IntKind.signed, Bool.false_and, Bool.false_eq_true, if_false]
  omega
theorem w_or (a b : Wd) : IntKind.u64.wrap ((BitVec.ofInt IntKind.u64.bits (a.toNat : Int) ||| BitVec.ofInt IntKind.u64.bits (b.toNat : Int)).toNat : Int) = ((a ||| b).toNat : Int) := by
  show IntKind.u64.wrap ((BitVec.ofInt 64 (a.toNat : Int) ||| BitVec.ofInt 64 (b.toNat : Int)).toNat : Int) = _
  rw [w_of, w_of, w_wrap]
theorem w_and (a b : Wd) : IntKind.u64.wrap ((BitVec.ofInt IntKind.u64.bits (a.toNat : Int) &&& BitVec.ofInt IntKind.u64.bits (b.toNat : Int)).toNat : Int) = ((a &&& b).toNat : Int) := by
  show IntKind.u64.wrap ((BitVec.ofInt 64 (a.toNat : Int) &&& BitVec.ofInt 64 (b.toNat : Int)).toNat : Int) = _
  rw [w_of, w_of, w_wrap]
theorem w_andNot (a b : Wd) : IntKind.u64.wrap ((BitVec.ofInt IntKind.u64.bits (a.toNat : Int) &&& ~~~BitVec.ofInt IntKind.u64.bits (b.toNat : Int)).toNat : Int) = ((a &&& ~~~b).toNat : Int) := by
  show IntKind.u64.wrap ((BitVec.ofInt 64 (a.toNat : Int) &&& ~~~BitVec.ofInt 64 (b.toNat : Int)).toNat : Int) = _
  rw [w_of, w_of, w_wrap]
theorem w_shr (w : Wd) {s : Int} {n : Nat} (hs : s = (n : Int)) : (w.toNat : Int).fdiv (2 ^ (min s.toNat IntKind.u64.bits)) = ((w >>> n).toNat : Int) := by
  subst hs
  rw [BitVec.toNat_ushiftRight, Nat.shiftRight_eq_div_pow, Int.toNat_natCast]
  have hw := w.isLt
  show (w.toNat : Int).fdiv (2 ^ (min n 64)) = _
  by_cases h : n ≤ 64
  · have h2 : (0 : Int) ≤ 2 ^ n := by have := Int.natCast_nonneg (2 ^ n); push_cast at this; exact this
    rw [Nat.min_eq_left h, Int.fdiv_eq_ediv_of_nonneg _ h2]
    push_cast
    rfl
  · rw [Nat.min_eq_right (by omega), Int.fdiv_eq_ediv_of_nonneg _ (by decide)]
    have h1 : w.toNat / 2 ^ n = 0 := Nat.div_eq_of_lt (Nat.lt_of_lt_of_le hw (Nat.pow_le_pow_right (by decide) (by omega)))
    rw [h1]
    omega
theorem w_shl (w : Wd) {s : Int} {n : Nat} (hs : s = (n : Int)) : IntKind.u64.wrap ((w.toNat : Int) * 2 ^ (min s.toNat IntKind.u64.bits)) = ((w <<< n).toNat : Int) := by
  subst hs
  rw [BitVec.toNat_shiftLeft, Nat.shiftLeft_eq, Int.toNat_natCast]
  have hw := w.isLt
  rw [u64_wrap]
  show ((w.toNat : Int) * 2 ^ (min n 64)) % 2 ^ 64 = _
  by_cases h : n ≤ 64
  · have e2 : ((2 ^ n : Nat) : Int) = 2 ^ n := by push_cast; rfl
    have e3 : ((2 ^ 64 : Nat) : Int) = 2 ^ 64 := by decide
    rw [Nat.min_eq_left h, Int.natCast_emod, Int.natCast_mul, e2, e3]
  · rw [Nat.min_eq_right (by omega)]
    have e : 2 ^ n = 2 ^ 64 * 2 ^ (n - 64) := by rw [← Nat.pow_add]; congr 1; omega
    have : w.toNat * 2 ^ n % 2 ^ 64 = 0 := by
      rw [e, Nat.mul_left_comm]; exact Nat.mul_mod_right _ _
    rw [this]
    exact Int.mul_emod_left _ _
theorem w_sub (a b : Wd) : IntKind.u64.wrap ((a.toNat : Int) - (b.toNat : Int)) = ((a - b).toNat : Int) := by
  have h1 := a.isLt
  have h2 := b.isLt
  simp only [IntKind.wrap, IntKind.bits, IntKind.signed, Bool.false_and, Bool.false_eq_true, if_false]
  rw [BitVec.toNat_sub]
  omega
theorem w_beq (a b : Wd) : ((a.toNat : Int) == (b.toNat : Int)) = decide (a = b) := by
  by_cases h : a = b
  · subst h; simp
  · have : a.toNat ≠ b.toNat := fun e => h (BitVec.eq_of_toNat_eq e)
    simp [h]; omega

/-! Masks. -/
def maskW (k : Nat) (a b : Int) : Wd :=
  if max (a - 64 * (k : Int)) 0 ≥ min (b - 64 * (k : Int)) 64 then 0
  else (BitVec.allOnes 64 >>> (64 - (min (b - 64 * (k : Int)) 64 - max (a - 64 * (k : Int)) 0)).toNat) <<< (max (a - 64 * (k : Int)) 0).toNat
theorem mask_bit (k : Nat) (a b : Int) {j : Nat} (hj : j < 64) : (maskW k a b).getLsbD j = decide (a ≤ 64 * (k : Int) + j ∧ 64 * (k : Int) + j < b) := by
  unfold maskW
  split
  · rename_i h
    rw [show (0 : Wd).getLsbD j = false by simp]
    symm
    apply decide_eq_false
    omega
  · rename_i h
    rw [BitVec.getLsbD_shiftLeft, BitVec.getLsbD_ushiftRight, BitVec.getLsbD_allOnes]
    rw [Bool.eq_iff_iff]
    simp only [Bool.and_eq_true, decide_eq_true_eq, Bool.not_eq_true', decide_eq_false_iff_not]
    omega
def bitsOf (w : Wd) : List Nat := (List.range 64).filter fun j => w.getLsbD j
theorem bits_zero : bitsOf 0 = [] := by
  unfold bitsOf
  rw [List.filter_eq_nil_iff]
  intro j _
  simp
theorem ctz_low {w : Wd} (h : w ≠ 0) : Lib.ctz 64 w.toNat < 64 ∧ (∀ j, j < Lib.ctz 64 w.toNat → w.getLsbD j = false) ∧ w.getLsbD (Lib.ctz 64 w.toNat) = true ∧ ∀ j, j < 64 → (w &&& (w - 1)).getLsbD j = (w.getLsbD j && decide (j ≠ Lib.ctz 64 w.toNat)) := by
  have h0 : 0 < w.toNat := by
    rcases Nat.eq_zero_or_pos w.toNat with e | e
    · exact absurd (BitVec.eq_of_toNat_eq (by simpa using e)) h
    · exact e
  have hl : Lib.ctz 64 w.toNat = Lib.ctzFrom 64 w.toNat := by unfold Lib.ctz; rw [if_neg (by omega)]
  rw [hl]
  obtain ⟨m, h1, h2⟩ := Lib.ctzFrom_spec 64 w.toNat h0 w.isLt
  generalize Lib.ctzFrom 64 w.toNat = c at h1 h2
  have hbit : ∀ j, w.getLsbD j = if j < c then false else (2 * m + 1).testBit (j - c) := fun j => by
    rw [← BitVec.testBit_toNat, h1, Nat.testBit_two_pow_mul]
    by_cases hc : j < c
    · rw [if_pos hc, decide_eq_false (by omega), Bool.false_and]
    · rw [if_neg hc, decide_eq_true (by omega), Bool.true_and]
  have hsub : (w - 1).toNat = 2 ^ c * (2 * m) + (2 ^ c - 1) := by
    have hp : 0 < 2 ^ c := Nat.pow_pos (by decide)
    rw [BitVec.toNat_sub]
    have := w.isLt
    have e1 : (1 : Wd).toNat = 1 := rfl
    rw [e1, show 2 ^ 64 - 1 + w.toNat = (w.toNat - 1) + 2 ^ 64 by omega, Nat.add_mod_right, Nat.mod_eq_of_lt (by omega), h1, Nat.mul_add, Nat.mul_one]
    omega
  have hbit2 : ∀ j, (w - 1).getLsbD j = if j < c then true else (2 * m).testBit (j - c) := fun j => by
    rw [← BitVec.testBit_toNat, hsub]
    have hp : 2 ^ c - 1 < 2 ^ c := by have : 0 < 2 ^ c := Nat.pow_pos (by decide); omega
    by_cases hc : j < c
    · rw [if_pos hc, Nat.testBit_two_pow_mul_add _ hp, if_pos hc, Nat.testBit_two_pow_sub_one]
      simp [hc]
    · rw [if_neg hc, Nat.testBit_two_pow_mul_add _ hp, if_neg hc]
  refine ⟨h2, fun j hj => by rw [hbit, if_pos hj], by rw [hbit, if_neg (Nat.lt_irrefl _), Nat.sub_self]; simp, fun j hj => ?_⟩
  rw [BitVec.getLsbD_and, hbit, hbit2]
  by_cases hc : j < c
  · simp [hc]
  · rw [if_neg hc, if_neg hc]
    by_cases he : j = c
    · subst he; simp
    · obtain ⟨d, hd⟩ : ∃ d, j - c = d + 1 := ⟨j - c - 1, by omega⟩
      rw [hd, Nat.testBit_succ, Nat.testBit_succ, show (2 * m + 1) / 2 = m by omega, show 2 * m / 2 = m by omega]
      simp [he]
theorem filter_first {p q : Nat → Bool} {c n : Nat} (hc : c < n) (hlow : ∀ j, j < c → p j = false) (hp : p c = true) (hq : ∀ j, j < n → q j = (p j && decide (j ≠ c))) : (List.range n).filter p = c :: (List.range n).filter q := by
  have e : List.range n = List.range c ++ (c :: (List.range (n - c - 1)).map (c + 1 + ·)) := by
    apply List.ext_getElem
    · simp; omega
    · intro i h1 h2
      simp only [List.length_range] at h1
      rw [List.getElem_range, List.getElem_append]
      split
      · simp
      · rename_i h
        simp only [List.length_range] at h ⊢
        obtain ⟨d, hd⟩ : ∃ d, i = c + d := ⟨i - c, by omega⟩
        subst hd
        cases d with
        | zero => simp
        | succ d => simp [show c + (d + 1) - c = d + 1 by omega]; omega
  have hq' : ∀ j, j ∈ List.range n → q j = (p j && decide (j ≠ c)) := fun j hj => hq j (List.mem_range.1 hj)
  rw [List.filter_congr hq', e, List.filter_append, List.filter_append]
  have h1 : (List.range c).filter p = [] := by
    rw [List.filter_eq_nil_iff]; intro j hj; rw [hlow j (List.mem_range.1 hj)]; simp
  have h2 : (List.range c).filter (fun j => p j && decide (j ≠ c)) = [] := by
    rw [List.filter_eq_nil_iff]; intro j hj; rw [hlow j (List.mem_range.1 hj)]; simp
  rw [h1, h2, List.nil_append, List.nil_append, List.filter_cons_of_pos hp, List.filter_cons_of_neg (by simp)]
  congr 1
  apply List.filter_congr
  intro j hj
  obtain ⟨d, _, rfl⟩ := List.mem_map.1 hj
  simp; omega
theorem bits_cons {w : Wd} (h : w ≠ 0) : bitsOf w = Lib.ctz 64 w.toNat :: bitsOf (w &&& (w - 1)) := by
  obtain ⟨h1, h2, h3, h4⟩ := ctz_low h
  exact filter_first h1 h2 h3 h4
def elemsW (ws : List Wd) (a b : Int) : List Nat := (List.range (64 * ws.length)).filter fun (i : Nat) => bit ws i && decide (a ≤ (i : Int) ∧ (i : Int) < b)
theorem range_add (n m : Nat) : List.range (n + m) = List.range n ++ (List.range m).map (n + ·) := List.range_add
theorem elems_take {ws : List Wd} {k : Nat} (h : k < ws.length) (a b : Int) : (List.range (64 * (k + 1))).filter (fun (i : Nat) => bit ws i && decide (a ≤ (i : Int) ∧ (i : Int) < b))
    = (List.range (64 * k)).filter (fun (i : Nat) => bit ws i && decide (a ≤ (i : Int) ∧ (i : Int) < b)) ++ (bitsOf (ws[k] &&& maskW k a b)).map (64 * k + ·) := by
  rw [show 64 * (k + 1) = 64 * k + 64 by omega, List.range_add, List.filter_append, List.filter_map]
  congr 2
  unfold bitsOf
  apply List.filter_congr
  intro j hj
  have hj := List.mem_range.1 hj
  rw [BitVec.getLsbD_and, mask_bit k a b hj]
  show (bit ws (64 * k + j) && _) = _
  rw [bit_at h hj]
  push_cast
  rfl
def setW (ws : List Wd) (a b : Int) : List Wd := ws.mapIdx fun k w => w ||| maskW k a b
def clrW (ws : List Wd) (a b : Int) : List Wd := ws.mapIdx fun k w => w &&& ~~~maskW k a b
theorem bit_set {ws : List Wd} {a b : Int} {i : Nat} (h : i < 64 * ws.length) : bit (setW ws a b) i = (bit ws i || decide (a ≤ (i : Int) ∧ (i : Int) < b)) := by
  have hk : i / 64 < ws.length := by omega
  have hk2 : i / 64 < (setW ws a b).length := by simp [setW, hk]
  rw [bit_of hk, bit_of hk2]
  simp only [setW, List.getElem_mapIdx, BitVec.getLsbD_or]
  rw [mask_bit _ _ _ (Nat.mod_lt _ (by decide))]
  congr 2
  have : (64 * ((i / 64 : Nat) : Int)) + ((i % 64 : Nat) : Int) = (i : Int) := by omega
  rw [this]
theorem bit_clr {ws : List Wd} {a b : Int} {i : Nat} (h : i < 64 * ws.length) : bit (clrW ws a b) i = (bit ws i && !decide (a ≤ (i : Int) ∧ (i : Int) < b)) := by
  have hk : i / 64 < ws.length := by omega
  have hk2 : i / 64 < (clrW ws a b).length := by simp [clrW, hk]
  rw [bit_of hk, bit_of hk2]
  simp only [clrW, List.getElem_mapIdx, BitVec.getLsbD_and, BitVec.getLsbD_not]
  rw [mask_bit _ _ _ (Nat.mod_lt _ (by decide))]
  have : (64 * ((i / 64 : Nat) : Int)) + ((i % 64 : Nat) : Int) = (i : Int) := by omega
  rw [this]
  have h64 : decide (i % 64 < 64) = true := decide_eq_true (Nat.mod_lt _ (by decide))
  rw [h64, Bool.true_and]
def wdsN (n : Int) : Int := (n + 63) / 64
def okB (b : Bm) : Bool := decide (0 ≤ b.size ∧ b.size ≤ 4096 ∧ (b.ws.length : Int) = wdsN b.size) && (List.range (64 * b.ws.length)).all fun (i : Nat) => decide ((i : Int) < b.size) || !bit b.ws i
theorem okB_iff {b : Bm} : okB b = true ↔ (0 ≤ b.size ∧ b.size ≤ 4096 ∧ (b.ws.length : Int) = wdsN b.size) ∧ ∀ i : Nat, b.size ≤ (i : Int) → bit b.ws i = false := by
  unfold okB
  simp only [Bool.and_eq_true, decide_eq_true_eq, List.all_eq_true, List.mem_range, Bool.or_eq_true, Bool.not_eq_true']
  refine and_congr Iff.rfl ⟨fun h i hi => ?_, fun h i hi => ?_⟩
  · by_cases c : i < 64 * b.ws.length
    · exact (h i c).resolve_left (by omega)
    · exact bit_out (by omega)
  · by_cases c : (i : Int) < b.size
    · exact .inl c
    · exact .inr (h i (by omega))
theorem okB_size {b : Bm} (h : okB b = true) : 0 ≤ b.size ∧ b.size ≤ 4096 ∧ b.ws.length ≤ 64 ∧ b.size ≤ 64 * (b.ws.length : Int) ∧ 64 * (b.ws.length : Int) < b.size + 64 := by
  have := (okB_iff.1 h).1
  unfold wdsN at this
  omega
theorem rest_iff {b : Bm} (h : 0 ≤ b.size ∧ b.size ≤ 4096 ∧ (b.ws.length : Int) = wdsN b.size) : okB b = true ↔ (b.size % 64 = 0 ∨ ∀ (hw : b.ws.length - 1 < b.ws.length), b.ws[b.ws.length - 1] >>> (b.size % 64).toNat = 0) := by
  rw [okB_iff]
  unfold wdsN at h ⊢
  constructor
  · rintro ⟨_, h2⟩
    by_cases c : b.size % 64 = 0
    · exact .inl c
    · refine .inr fun hw => ?_
      apply BitVec.eq_of_getLsbD_eq
      intro j hj
      rw [BitVec.getLsbD_ushiftRight]
      by_cases cj : (b.size % 64).toNat + j < 64
      · rw [← bit_at hw cj, h2 _ (by omega)]; simp
      · rw [BitVec.getLsbD_of_ge _ _ (by omega)]; simp
  · intro hr
    refine ⟨by omega, fun i hi => ?_⟩
    by_cases c : i < 64 * b.ws.length
    · have hw : b.ws.length - 1 < b.ws.length := by omega
      have hk : i / 64 = b.ws.length - 1 := by omega
      rcases hr with hr | hr
      · omega
      · have := congrArg (fun w : Wd => w.getLsbD (i % 64 - (b.size % 64).toNat)) (hr hw)
        simp only [BitVec.getLsbD_ushiftRight, BitVec.getLsbD_zero] at this
        rw [show (b.size % 64).toNat + (i % 64 - (b.size % 64).toNat) = i % 64 by omega] at this
        rw [show i = 64 * (b.ws.length - 1) + i % 64 by omega, bit_at hw (Nat.mod_lt _ (by decide))]
        simpa using this
    · exact bit_out (by omega)
def bmExts (b : Bm) : List Exn := ext (bit b.ws) b.size.toNat
def bmE (b : Bm) : Int := if okB b then 0 else 3
theorem elems_ok {b : Bm} (h : okB b = true) (a : Int) (ha : a ≤ 0) : elemsW b.ws a b.size = (List.range b.size.toNat).filter (bit b.ws) := by
  unfold elemsW
  obtain ⟨h1, h2, h3, h4, h5⟩ := okB_size h
  rw [show 64 * b.ws.length = b.size.toNat + (64 * b.ws.length - b.size.toNat) by omega, List.range_add, List.filter_append]
  have e : (((List.range (64 * b.ws.length - b.size.toNat)).map (b.size.toNat + ·)).filter fun (i : Nat) => bit b.ws i && decide (a ≤ (i : Int) ∧ (i : Int) < b.size)) = [] := by
    rw [List.filter_eq_nil_iff]
    intro i hi
    obtain ⟨d, _, rfl⟩ := List.mem_map.1 hi
    rw [decide_eq_false (by omega)]; simp
  rw [e, List.append_nil]
  apply List.filter_congr
  intro i hi
  have hi := List.mem_range.1 hi
  rw [decide_eq_true (by omega), Bool.and_true]
end Go.Proofs.YtdahanchdjadiaaGreatDoor.V
