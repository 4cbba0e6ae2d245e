/-
  Part 5 of the texts that the statement stands on.
-/
import Derived.Test.YtpdfhckdmblicaaZ4
import Derived.RangeFuncLeaves
import Derived.RangeFuncRecord
import Derived.ProofKit
import Derived.SizedLaws
import Derived.OpenShut
import Derived.Deep.Strs
import Derived.Laws.EntriesVeiled
import Derived.IntWalk
set_option linter.all false
namespace Go.Proofs.Ytpdfhckdmblicaa
open Go.RowKit
set_option linter.all false

section
variable {P : Program} {F : Fence} {C : Ctx} {n L nb : Nat} {σ σ' : Nat → Nat} {T T' Tc T1 T2 : Tags} {st st' st1 s : St} {a a1 : Act} {w w' w1 : World} {R : Rg} {lp : Loop}
  {rec : VCode → St → Option (Ex × St)} {env : Env}

def jumpOf : Ex → Option Code
  | .normal => none
  | .ret => some .ret
  | .exit i => some (.exit i)
theorem ctx_rec (C : Ctx) (K l : Nat) (S : Nat → Prop) (w : World) (lp : Loop) [DecidablePred S] : (inS C K l S w lp).Rec (Fence.wide.inRound l) := fun l' e k T u h => by
  have : (Fence.wide.inRound l).round = (Fence.wide.inRound l').round := by rw [← e]
  have : l = l' := Option.some.inj this
  subst this
  exact ⟨lp, h.2.2.1⟩
theorem post_after {x : Exit} {e : Ex} {ds : List Deferred} {a' : Act} (h : Post C L nb σ T w e st' ds x a' w') : x = toX e ∧ After C L nb σ T w st' ds a' w' := h

set_option maxHeartbeats 1000000 in
theorem cs_round (hR : RecOk P rec) (hC : C.Ok P R.L) {ca cb : Code} {asn bd : VCode} (ha : mC P ca asn = true) (hb : mC P cb bd = true) {fn : FuncId} {ps : Array Tmp} {dd : Nat} {rc : LoopState → Option Code → Loop}
    (hrc : rc = fun st pe => { state := st, pending := pe, fn := fn, tmps := R.tmps, params := ps, assign := ca, body := cb, defers := dd })
    (hcs : CS C R (rc .ready none) s T w) (hT : ∀ b, w.heap.size ≤ b → T b = .other) (hD : R.l ∉ R.D) {x : List PV} {vs : List Value} (hvs : vs.length = x.length) (hrep : ∀ (i : Nat) p v, x[i]? = some p → vs[i]? = some v → PRep (fun b => T b = .ro) w p v)
    {sl : List AV} {sa sb : St} {e : Ex} (h1 : setParams R.slots ps.toList x = some sl) (h2 : rec asn { s with slots := sl } = some (.normal, sa)) (h3 : rec bd sa = some (e, sb)) (hX : sb.ys <+: C.X) :
    ∃ f tmps' asn' bd', (Instr.yield R.l vs.toArray).run P w = .ok (.round R.l f tmps' asn' bd') w ∧ ∀ n, RoundIn Fence.wide n P R.l f tmps' asn' bd' w fun en w' => en = .returned (.bool (jumpOf e).isNone) ∧
      CS C R (rc (if (jumpOf e).isNone then .ready else .done) (jumpOf e)) sb T w' ∧ Sees T w w' := by
  classical
  obtain ⟨σ1, Tc, h⟩ := hcs
  have hll := lt_of_heap h.rl
  obtain ⟨Ty, hTy⟩ : ∃ Ty : Tags, Ty = fun b => if Tc b = dum R.K ∧ T b = .ro ∧ Cellish w b then .ro else Tc b := ⟨_, rfl⟩
  have ty1 : ∀ b, Tc b = dum R.K ∧ T b = .ro ∧ Cellish w b → Ty b = .ro := fun b hb => by rw [hTy]; exact if_pos hb
  have ty2 : ∀ b, ¬ (Tc b = dum R.K ∧ T b = .ro ∧ Cellish w b) → Ty b = Tc b := fun b hb => by rw [hTy]; exact if_neg hb
  have ty3 : ∀ b, Tc b ≠ dum R.K → Ty b = Tc b := fun b hb => ty2 b fun g => hb g.1
  obtain ⟨Sx, hSx⟩ : ∃ Sx : Nat → Prop, Sx = fun b => b < w.heap.size ∧ Ty b = dum R.K := ⟨_, rfl⟩
  have hSl : ∀ b, Sx b → b < w.heap.size := fun b hb => by rw [hSx] at hb; exact hb.1
  have hSd : ∀ b, Sx b → Ty b = dum R.K := fun b hb => by rw [hSx] at hb; exact hb.2
  have hTyl : Ty R.l = dum R.K := by rw [ty2 _ fun g => (by have := g.2.1; rw [h.ro] at this; cases this)]; exact h.rt
  have hlS : Sx R.l := by rw [hSx]; exact ⟨hll, hTyl⟩
  have hTyfr : ∀ b, w.heap.size ≤ b → Ty b = .other := fun b hb => by rw [ty3 b (by rw [h.fr b hb]; exact (dum_other _).symm), h.fr b hb]
  obtain ⟨Tz, hTz⟩ : ∃ Tz : Tags, Tz = undum Ty R.K := ⟨_, rfl⟩
  have tz1 : ∀ b, Sx b → Tz b = .other := fun b hb => by rw [hTz]; exact undum_dum (hSd b hb)
  have tz2 : ∀ b, Ty b ≠ dum R.K → Tz b = Ty b := fun b hb => by rw [hTz]; exact undum_not hb
  have hre : (fun b => if Sx b then dum R.K else Tz b) = Ty := by
    funext b
    by_cases hb : Sx b
    · simp only [if_pos hb]; exact (hSd b hb).symm
    · simp only [if_neg hb]
      refine tz2 b fun e => hb ?_
      rw [hSx]
      refine ⟨?_, e⟩
      rcases Nat.lt_or_ge b w.heap.size with g | g
      · exact g
      · rw [hTyfr b g] at e; exact absurd e.symm (dum_other _)
  have tc_tz : ∀ b, Tc b ≠ dum R.K → Tz b = Tc b := fun b hb => by rw [tz2 b (by rw [ty3 b hb]; exact hb), ty3 b hb]
  have hro : ∀ b, Tc b = .ro → b < w.heap.size → Tz b = .ro ∧ w.heap[b]? = w.heap[b]? := fun b e _ => ⟨by rw [tc_tz b (by rw [e]; exact (dum_ro _).symm), e], rfl⟩
  -- the round's own state
  have hJy : C.J s.ys.length Ty w := hC.keep _ _ _ _ _ ⟨Nat.le_refl _, rfl, rfl, rfl, fun _ _ _ => rfl, fun b e => by rw [ty3 b (by rw [e]; exact (dum_ro _).symm), e], fun b _ e => by rw [ty3 b (by rw [e]; exact (dum_other _).symm), e]⟩ h.j
  have hbz : ∀ (o : Nat) b, s.boxes[o]? = some b → BoxRep Tz w (σ1 o) o b := fun o b ho => by
    have hb := h.bx o b ho
    have hT0 : Tc (σ1 o) ≠ dum R.K := by
      obtain ⟨_, _, _, _, h3, _⟩ := hb
      rw [h3]; split <;> simp [dum]
    exact hb.frame ⟨tc_tz _ hT0, rfl⟩ (fun j b e _ => ⟨by rw [tc_tz b (by rw [e]; simp [dum]), e], rfl⟩) hro
  have hfz : ∀ b, w.heap.size ≤ b → Tz b = .other := fun b hb => by rw [tz2 b (by rw [hTyfr b hb]; exact (dum_other _).symm), hTyfr b hb]
  obtain ⟨hpl, hfs⟩ := FSlots.params (T := Tz) (w := w) h1 (h.fs.keep hro fun _ _ => rfl) hvs (fun i p v hp hv => (prep_avoid' (fun b hcl => hcl) (hrep i p v hp hv)).frame fun b ⟨hb, hcl⟩ hbl => ⟨by
    rcases h.cp b hbl (by rw [hb]; simp) with g | ⟨_, g, _⟩
    · rw [tz2 b (by rw [ty1 b ⟨g, hb, hcl⟩]; exact (dum_ro _).symm), ty1 b ⟨g, hb, hcl⟩]
    · exact (hro b g hbl).1, rfl⟩)
  have hsim : Sim R.L σ1 Tz { s with slots := sl } { tmps := (ps.toList.zip vs).foldl (fun t (p, v) => t.setIfInBounds p v) R.tmps, defers := [] } w := hfs.sim h.nbx hbz hfz
  have hOk : ∀ lp, (inS C R.K R.l Sx w lp).Ok P R.L := fun lp => inS_ok hC hSl hlS
  have hJ0 : (inS C R.K R.l Sx w (rc .ready none)).J s.ys.length Tz w := ⟨tz1, fun _ _ _ => rfl, h.rl, Nat.le_refl _, by rw [hre]; exact hJy⟩
  have ga := hR.grow _ _ _ _ _ ha h2
  have gb := hR.grow _ _ _ _ _ hb h3
  have hy := run_yield (P := P) (args := vs.toArray) h.rl (by rw [hrc]; simp only [List.size_toArray]; rw [← hpl]; simp)
  refine ⟨fn, _, ca, cb, by rw [hrc] at hy; exact hy, fun n => roundIn_of_wpIn (show Fence.wide.fn fn from trivial) ?_⟩
  have hfold : (ps.zip vs.toArray).foldl (fun t (p, v) => t.setIfInBounds p v) R.tmps = (ps.toList.zip vs).foldl (fun t (p, v) => t.setIfInBounds p v) R.tmps := by
    rw [← Array.foldl_toList]; simp
  have hfold' : ((ps.zip vs.toArray).foldl (fun tmps (x : Tmp × Value) => match x with | (t, a) => tmps.setIfInBounds t a) R.tmps) = (ps.toList.zip vs).foldl (fun t (p, v) => t.setIfInBounds p v) R.tmps := hfold
  rw [hfold']
  refine wpIn_mono (hR.wp (.inr ⟨R.l, rfl⟩) (ctx_rec C R.K R.l Sx w (rc .ready none)) (hOk _) ca asn _ .normal sa ha h2 h.stp (gb.2.1.trans hX) σ1 Tz _ w hsim hJ0) ?_
  rintro xx aa wa ⟨rfl, σa, Ta, msa, p1, p2, p3, p4, _, _⟩
  obtain ⟨q1, q2, q3, q4, q5⟩ := p2
  have hla := lt_of_heap q3
  refine ⟨wa.putObj R.l (.loop (rc .busy none)), by have := run_beginRound (P := P) q3 (by rw [hrc]); rw [hrc] at this ⊢; exact this, ?_⟩
  have hpo : ∀ b, b ≠ R.l → (wa.putObj R.l (.loop (rc .busy none))).heap[b]? = wa.heap[b]? := fun b hb => World.putObj_heap_other hb
  have hps : (wa.putObj R.l (.loop (rc .busy none))).heap.size = wa.heap.size := by simp [World.putObj]
  have hsa : Sim R.L σa Ta sa aa (wa.putObj R.l (.loop (rc .busy none))) := p1.sees ⟨by rw [hps]; exact Nat.le_refl _, fun b hb _ => hpo b fun e => hb (by rw [e]; exact q1 _ hlS)⟩
  have hJa : (inS C R.K R.l Sx w (rc .busy none)).J sa.ys.length Ta (wa.putObj R.l (.loop (rc .busy none))) := by
    refine ⟨q1, fun b hb hbl => (hpo b hbl).trans (q2 b hb hbl), World.putObj_heap_same hla, by rw [hps]; exact q4, ?_⟩
    refine hC.keep _ _ _ wa _ ⟨by rw [hps]; exact Nat.le_refl _, rfl, rfl, rfl, fun b hb ht => hpo b fun e => ?_, fun _ e => e, fun _ _ e => e⟩ q5
    subst e
    simp only [if_pos hlS] at ht
    rcases ht with e | e <;> simp [dum] at e
  refine wpIn_mono (hR.wp (.inr ⟨R.l, rfl⟩) (ctx_rec C R.K R.l Sx w (rc .busy none)) (hOk _) cb bd _ e sb hb h3 (ga.2.2.trans h.stp) hX σa Ta _ _ hsa hJa) ?_
  rintro xx ab wb ⟨rfl, σb, Tb, msb, r1, r2, r3, r4, _, _⟩
  obtain ⟨t1, t2, t3, t4, t5⟩ := r2
  have hlb := lt_of_heap t3
  have hend : ∀ j : Option Code, (Instr.endRound R.l j).run P wb = .ok (.bool j.isNone) (wb.putObj R.l (.loop (rc (if j.isNone then .ready else .done) j))) := fun j => by
    have := run_endRound (P := P) j t3
    rw [hrc] at this ⊢
    exact this
  obtain ⟨w3, hw3⟩ : ∃ w3, w3 = wb.putObj R.l (.loop (rc (if (jumpOf e).isNone then .ready else .done) (jumpOf e))) := ⟨_, rfl⟩
  have hpb : ∀ b, b ≠ R.l → w3.heap[b]? = wb.heap[b]? := fun b hb => by rw [hw3]; exact World.putObj_heap_other hb
  have hszb : w3.heap.size = wb.heap.size := by rw [hw3]; simp [World.putObj]
  have hsz : w.heap.size ≤ w3.heap.size := by rw [hszb]; exact t4
  -- what is read only stays
  have stay : ∀ b, Tz b = .ro → b < w.heap.size → Tb b = .ro ∧ w3.heap[b]? = w.heap[b]? := fun b hz hbl => by
    have hbS : ¬ Sx b := fun hs => by rw [tz1 b hs] at hz; cases hz
    have hbl' : b ≠ R.l := fun e => hbS (by rw [e]; exact hlS)
    have e1 := p4.ro b hz
    have e2 := r4.ro b e1
    refine ⟨e2, ?_⟩
    rw [hpb b hbl', r4.same b (by rw [hps]; exact Nat.lt_of_lt_of_le hbl p4.size) e1, hpo b hbl', p4.same b hbl hz]
  have hnS : ∀ b, Tb b ≠ .other → ¬ Sx b := fun b hb hs => hb (t1 b hs)
  have hTn : ∀ b, ¬ Sx b → (if Sx b then dum R.K else Tb b) = Tb b := fun b hb => if_neg hb
  have hrofin : ∀ b, Tc b = .ro → b < w.heap.size → (fun b => if Sx b then dum R.K else Tb b) b = .ro ∧ w3.heap[b]? = w.heap[b]? := fun b hb hbl => by
    obtain ⟨e1, e2⟩ := stay b (hro b hb hbl).1 hbl
    exact ⟨by show (if Sx b then dum R.K else Tb b) = .ro; rw [hTn b (hnS b (by rw [e1]; simp)), e1], e2⟩
  have hTcro : ∀ b, Tc b = .ro → b < w.heap.size := fun b hb => by
    rcases Nat.lt_or_ge b w.heap.size with g | g
    · exact g
    · rw [h.fr b g] at hb; cases hb
  have hσ : ∀ o, o < R.nb → σb o = σ1 o := fun o ho => by
    have k1 : R.nb ≤ s.boxes.length := h.nbx
    have k2 : s.boxes.length ≤ sa.boxes.length := ga.1
    rw [r3 o (by omega), p3 o (by show o < s.boxes.length; omega)]
  have hTbl : Tb R.l = .other := t1 _ hlS
  have hfin : CS C R (rc (if (jumpOf e).isNone then .ready else .done) (jumpOf e)) sb T w3 := by
    refine ⟨σb, fun b => if Sx b then dum R.K else Tb b, ⟨h.fs.keep hrofin hσ, fun o b ho => ?_, fun b hb => ?_, ?_, ?_, ?_, fun o ho => (hσ o ho).trans (h.sg o ho), ?_, fun b hb ht => ?_, ?_, if_pos hlS, h.ro, fun d hd => ?_⟩⟩
    · have hbx := r1.boxes o b ho
      have hne : Tb (σb o) ≠ .other := by
        obtain ⟨_, _, _, _, h3, _⟩ := hbx
        rw [h3]; split <;> simp
      refine hbx.frame ⟨hTn _ (hnS _ hne), hpb _ fun e => hne (by rw [e]; exact hTbl)⟩ (fun j b e _ => ⟨by rw [hTn b (hnS b (by rw [e]; simp)), e], hpb b fun e2 => by rw [e2, hTbl] at e; cases e⟩) (fun b e _ => ⟨by rw [hTn b (hnS b (by rw [e]; simp)), e], hpb b fun e2 => by rw [e2, hTbl] at e; cases e⟩)
    · have : ¬ Sx b := fun hs => by have := hSl b hs; omega
      rw [hTn b this]
      exact r1.fresh b (by omega)
    · refine hC.keep _ _ _ wb _ ⟨by rw [hszb]; exact Nat.le_refl _, by rw [hw3]; rfl, by rw [hw3]; rfl, by rw [hw3]; rfl, fun b hb ht => hpb b fun e => ?_, fun _ e => e, fun _ _ e => e⟩ t5
      subst e
      simp only [if_pos hlS] at ht
      rcases ht with e | e <;> simp [dum] at e
    · have := ga.1; have := gb.1; have := h.nbx
      have e1 : s.boxes.length ≤ sa.boxes.length := ga.1
      omega
    · exact gb.2.2.trans (ga.2.2.trans h.stp)
    · exact h.sy.trans ⟨hsz, fun b hb => (hrofin b hb (hTcro b hb)).1, fun b hbl hb => (hrofin b hb hbl).2⟩
    · have hbl : b < w.heap.size := by
        rcases Nat.lt_or_ge b w.heap.size with g | g
        · exact g
        · exact absurd (hT b g) ht
      have conv : Tz b = .ro → (fun b => if Sx b then dum R.K else Tb b) b = .ro ∧ w3.heap[b]? = w.heap[b]? := fun hz => by
        obtain ⟨e1, e2⟩ := stay b hz hbl
        exact ⟨by show (if Sx b then dum R.K else Tb b) = .ro; rw [hTn b (hnS b (by rw [e1]; simp)), e1], e2⟩
      rcases h.cp b hbl ht with g | ⟨g1, g2, g3⟩
      · by_cases hc : T b = .ro ∧ Cellish w b
        · have ey := ty1 b ⟨g, hc.1, hc.2⟩
          obtain ⟨e1, e2⟩ := conv (by rw [tz2 b (by rw [ey]; exact (dum_ro _).symm), ey])
          exact .inr ⟨hc.1, e1, .inr (hc.2.same e2)⟩
        · have ey : Ty b = dum R.K := by rw [ty2 b fun q => hc q.2]; exact g
          exact .inl (if_pos (by rw [hSx]; exact ⟨hbl, ey⟩))
      · obtain ⟨e1, e2⟩ := conv (hro b g2 hbl).1
        exact .inr ⟨g1, e1, g3.imp id fun q => q.same e2⟩
    · rw [hw3]; exact World.putObj_heap_same hlb
    · obtain ⟨k1, k2, k3⟩ := h.dd d hd
      obtain ⟨e1, e2⟩ := hrofin d k2 (lt_of_heap k1)
      exact ⟨by rw [e2]; exact k1, e1, k3⟩
  have hsees : Sees T w w3 := by
    refine ⟨hsz, fun b hb hbl => ?_⟩
    have hbl' : b ≠ R.l := fun e => hb (by rw [e]; exact h.ro)
    by_cases hs : Sx b
    · rw [hpb b hbl']; exact t2 b hs hbl'
    · refine (stay b ?_ hbl).2
      rcases h.cp b hbl hb with g | ⟨g1, g2, g3⟩
      · by_cases hc : T b = .ro ∧ Cellish w b
        · have ey := ty1 b ⟨g, hc.1, hc.2⟩
          rw [tz2 b (by rw [ey]; exact (dum_ro _).symm), ey]
        · exact absurd (by rw [hSx]; exact ⟨hbl, by rw [ty2 b fun q => hc q.2]; exact g⟩) hs
      · exact (hro b g2 hbl).1
  rw [hw3] at hfin hsees
  cases e with
  | normal => exact ⟨_, _, hend none, rfl, hfin, hsees⟩
  | ret => exact ⟨_, _, hend (some .ret), rfl, hfin, hsees⟩
  | exit i => exact ⟨_, _, hend (some (.exit i)), rfl, hfin, hsees⟩
end
end Go.Proofs.Ytpdfhckdmblicaa

namespace Go.Proofs.Ytpdfhckdmblicaa
open Go.RowKit
set_option linter.all false

section
variable {P : Program} {F : Fence} {C : Ctx} {n L nb : Nat} {σ σ' : Nat → Nat} {T T' Tc T1 T2 : Tags} {st st' st1 s : St} {a a1 : Act} {w w' w1 : World} {R : Rg} {lp : Loop}
  {rec : VCode → St → Option (Ex × St)} {env : Env} {e : Ex}

def ItersOk (P : Program) (env : Env) : Prop := ∀ f fn, env f = some (.code fn) → callable P f = true ∧ ∃ g c, P.funcs[f]? = some g ∧ g.body = some c ∧ mC P c fn.body = true ∧ g.ntmps = fn.ntmps ∧ fn.nargs ≤ fn.ntmps ∧ (fn.results.isEmpty = true → g.results = #[])

theorem leavesM_marks' {fn : Func} {R : Ending → World → Prop} {B : Nat} : ∀ {ms : List Nat} {w : World}, ms.Nodup → (∀ r ∈ ms, B ≤ r ∧ w.heap[r]? = some (.deferred (some []))) →
    (∀ w', w'.os = w.os → w'.tape = w.tape → w'.output = w.output → w'.heap.size = w.heap.size → (∀ b, b ∉ ms → w'.heap[b]? = w.heap[b]?) → ∃ v, (results fn a.tmps).run P w' = .ok v w' ∧ R (.returned v) w') →
    LeavesInM Fence.wide 0 P fn a.tmps R (ms.map markOf) .returning w
  | [], w, _, _, h => by
    simp only [List.map_nil, LeavesInM, LeavesIn]
    exact h w rfl rfl rfl rfl fun _ _ => rfl
  | r :: ms, w, hnd, hms, h => by
    simp only [List.map_cons, LeavesInM]
    obtain ⟨hn1, hn2⟩ := List.nodup_cons.1 hnd
    obtain ⟨k1, k2⟩ := hms r (by simp)
    have hr : r < w.heap.size := (Array.getElem?_eq_some_iff.1 k2).1
    have hput : ∀ b, b ≠ r → (w.putObj r (.deferred none)).heap[b]? = w.heap[b]? := fun b hb => by simp [World.putObj, Array.getElem?_setIfInBounds, Ne.symm hb]
    refine ⟨by simp, .inl ⟨r, _, rfl, run_takeDeferred k2, leavesM_marks' (B := B) hn2 (fun r' hr' => ?_) fun w' e1 e2 e3 e4 e5 => h w' e1 e2 e3 (by rw [e4]; simp [World.putObj]) fun b hb => ?_⟩⟩
    · obtain ⟨q1, q2⟩ := hms r' (by simp [hr'])
      exact ⟨q1, by rw [hput r' (fun e => hn1 (e ▸ hr'))]; exact q2⟩
    · simp only [List.mem_cons, not_or] at hb
      rw [e5 b hb.2, hput b hb.1]

theorem rounds_ne {slots : List AV} {ps : List Nat} {asn bd : VCode} : ∀ (xs : List (List PV)) (k : Nat) (s : St) e m s', rounds rec slots ps asn bd nb k xs s = some (some (e, m), s') → e ≠ .normal
  | [], k, s, e, m, s', h => by simp [rounds] at h
  | x :: xs, k, s, e, m, s', h => by
    unfold rounds at h
    replace h := bind_some h
    obtain ⟨sl, h1, h⟩ := h
    replace h := bind_some h
    obtain ⟨⟨e1, s1⟩, h2, h⟩ := h
    simp only at h
    split at h
    case h_2 => cases h
    replace h := bind_some h
    obtain ⟨⟨e2, s2⟩, h3, h⟩ := h
    simp only at h
    split at h
    · split at h
      · exact rounds_ne xs (k + 1) _ e m s' h
      · cases h
    · rename_i hne
      simp only [Option.some.injEq, Prod.mk.injEq] at h
      rw [← h.1.1]
      exact fun e => hne e

def endEx : Option (Ex × Nat) → Ex
  | none => .normal
  | some (e, _) => e
def itC (C : Ctx) (R : Rg) (rec : VCode → St → Option (Ex × St)) (rc : LoopState → Option Code → Loop) (ps : List Nat) (asn bd : VCode) (xs : List (List PV)) (stop : Option Nat) (r : Option (Ex × Nat)) (s1 : St) : Ctx where
  X := xs
  stop := some stop
  J k T w := (∃ s, rounds rec R.slots ps asn bd R.nb k (xs.drop k) s = some (r, s1) ∧ CS C R (rc .ready none) s T w) ∨
    (∃ e, r = some (e, k) ∧ xs.length = k ∧ CS C R (rc .done (jumpOf e)) s1 T w)

theorem itC_ok (hR : RecOk P rec) (hC : C.Ok P R.L) {ca cb : Code} {asn bd : VCode} (ha : mC P ca asn = true) (hb : mC P cb bd = true) {fn : FuncId} {ps : Array Tmp} {dd : Nat} {rc : LoopState → Option Code → Loop}
    (hrc : rc = fun st pe => { state := st, pending := pe, fn := fn, tmps := R.tmps, params := ps, assign := ca, body := cb, defers := dd }) (hD : R.l ∉ R.D) {xs : List (List PV)} {stop : Option Nat} {r : Option (Ex × Nat)} {s1 : St}
    (hcons : (stop = none ∧ r = none) ∨ ∃ e m, stop = some m ∧ r = some (e, m) ∧ xs.length = m) (hX : s1.ys <+: C.X) : (itC C R rec rc ps.toList asn bd xs stop r s1).Ok P R.l := by
  refine ⟨fun k T T' w w' hc h => ?_, fun q k T w x vs hs hx hf h hlen hrep => ?_⟩
  · rcases h with ⟨s, h1, h2⟩ | ⟨e, h1, h2, h3⟩
    · exact .inl ⟨s, h1, h2.keep hC hc⟩
    · exact .inr ⟨e, h1, h2, h3.keep hC hc⟩
  · have hq : q = stop := (Option.some.inj hs).symm
    subst hq
    have hx' : xs[k]? = some x := hx
    have hk : k < xs.length := (List.getElem?_eq_some_iff.1 hx').1
    rcases h with ⟨s, h1, h2⟩ | ⟨e, h1, h2, h3⟩
    case inr => omega
    have hdrop : xs.drop k = x :: xs.drop (k + 1) := by
      rw [List.drop_eq_getElem_cons hk]
      congr 1
      rw [List.getElem?_eq_getElem hk] at hx'
      exact Option.some.inj hx'
    rw [hdrop] at h1
    unfold rounds at h1
    replace h1 := bind_some h1
    obtain ⟨sl, g1, h1⟩ := h1
    replace h1 := bind_some h1
    obtain ⟨⟨e1, sa⟩, g2, h1⟩ := h1
    simp only at h1
    split at h1
    case h_2 => cases h1
    replace h1 := bind_some h1
    obtain ⟨⟨e2, sb⟩, g3, h1⟩ := h1
    simp only at h1
    obtain ⟨σ0, Tc0, hcs0⟩ := h2
    have hnb := hcs0.nbx
    have h2 : CS C R (rc .ready none) s T w := ⟨σ0, Tc0, hcs0⟩
    have ga := hR.grow _ _ _ _ _ ha g2
    have gb := hR.grow _ _ _ _ _ hb g3
    split at h1
    · -- it goes on
      split at h1
      case isFalse => cases h1
      rename_i hle
      have hgr := rounds_grow hR.grow ha hb (xs.drop (k + 1)) (k + 1) _ r s1 h1 (by simp; omega)
      obtain ⟨f, tm, asn', bd', q1, q2⟩ := cs_round hR hC ha hb hrc h2 hf hD hlen hrep g1 g2 g3 (hgr.2.1.trans hX)
      refine ⟨f, tm, asn', bd', q1, fun n => (q2 n).mono fun en w3 hq => ?_⟩
      obtain ⟨t1, t2, t3⟩ := hq
      have hgo : goesOn q k = true := by
        rcases hcons with ⟨e1, _⟩ | ⟨e, m, e1, e2, e3⟩
        · rw [e1]; rfl
        · rw [e1]
          have : k + 1 ≠ m := fun he => by
            have : xs.drop (k + 1) = [] := List.drop_of_length_le (by omega)
            rw [this] at h1
            simp only [rounds, Option.some.injEq, Prod.mk.injEq] at h1
            rw [e2] at h1
            cases h1.1
          simp [goesOn, this]
      refine ⟨by rw [t1, hgo]; rfl, .inl ⟨_, h1, t2.take⟩, t3⟩
    · rename_i hne
      simp only [Option.some.injEq, Prod.mk.injEq] at h1
      obtain ⟨hr1, hr2⟩ := h1
      subst hr2
      obtain ⟨f, tm, asn', bd', q1, q2⟩ := cs_round hR hC ha hb hrc h2 hf hD hlen hrep g1 g2 g3 hX
      refine ⟨f, tm, asn', bd', q1, fun n => (q2 n).mono fun en w3 hq => ?_⟩
      obtain ⟨t1, t2, t3⟩ := hq
      have hj : (jumpOf e2).isNone = false := by cases e2 <;> first | rfl | exact absurd rfl hne
      rcases hcons with ⟨_, e1⟩ | ⟨e, m, e1, e2', e3⟩
      · rw [e1] at hr1; cases hr1
      · have hm : m = k + 1 := by rw [e2'] at hr1; cases hr1; rfl
        have hgo : goesOn q k = false := by rw [e1, hm]; simp [goesOn]
        rw [hj] at t1 t2
        refine ⟨by rw [t1, hgo], .inr ⟨e2, hr1.symm, by omega, t2⟩, t3⟩

theorem cs_end (hC : C.Ok P R.L) (h : CS C R lp s T w) {ms : List Nat} (hms : ∀ r ∈ ms, R.B0 ≤ r ∧ T r = .ro ∧ w.heap[r]? = some (.deferred (some []))) (hw : ∀ b, b ∉ ms → w'.heap[b]? = w.heap[b]?) (hsz : w'.heap.size = w.heap.size) (hos : w'.os = w.os) (htp : w'.tape = w.tape) (hou : w'.output = w.output)
    (hlp : lp.state ≠ .busy) {T0 : Tags} (hst : Still T0 R.T1) {ds : List Deferred} (hDl : ∀ d ∈ R.D, R.w0.heap.size ≤ d) (hDn : R.D.Nodup) (hlD : R.l ∉ R.D) :
    ∃ w4, (Instr.endLoop R.l).run P w' = .ok lp.pending w4 ∧ After C R.L R.nb R.σ0 T0 R.w0 { s with slots := R.slots } ds { tmps := R.tmps, defers := R.D.map markOf ++ ds } w4 := by
  obtain ⟨σ, Tc, h⟩ := h
  have hncl : ∀ r ∈ ms, Tc r = dum R.K := fun r hr => by
    obtain ⟨g1, g2, g3⟩ := hms r hr
    rcases h.cp r (lt_of_heap g3) (by rw [g2]; simp) with g | ⟨_, _, g⟩
    · exact g
    · rcases g with g | ⟨arr, E, q, g⟩
      · omega
      · rw [g3] at g; cases g
  have hl : w'.heap[R.l]? = some (.loop lp) := by
    rw [hw R.l fun hr => by have := (hms _ hr).2.1; rw [h.ro] at this; cases this]; exact h.rl
  refine ⟨_, run_endLoop (P := P) hl hlp, ?_⟩
  obtain ⟨w4, hw4⟩ : ∃ w4, w4 = w'.putObj R.l (.loop { lp with state := .exhausted }) := ⟨_, rfl⟩
  rw [← hw4]
  have hsame : ∀ b, Tc b ≠ dum R.K → w4.heap[b]? = w.heap[b]? := fun b hb => by
    rw [hw4, World.putObj_heap_other (fun e => hb (by rw [e]; exact h.rt)), hw b fun hr => hb (hncl b hr)]
  have hsz4 : w4.heap.size = w.heap.size := by rw [hw4]; simp [World.putObj, hsz]
  have hw1 : ∀ b, Tc b = .ro → b < w.heap.size → Tc b = .ro ∧ w4.heap[b]? = w.heap[b]? := fun b e _ => ⟨e, hsame b (by rw [e]; exact (dum_ro _).symm)⟩
  refine ⟨σ, Tc, R.D, (h.fs.keep hw1 fun _ _ => rfl).sim h.nbx (fun o b ho => ?_) (fun b hb => h.fr b (by omega)), ?_, h.sg, ?_, rfl, fun d hd => ⟨hDl d hd, (h.dd d hd).2.1, ?_⟩, hDn⟩
  · have hb := h.bx o b ho
    have hT : Tc (σ o) ≠ dum R.K := by
      obtain ⟨_, _, _, _, h3, _⟩ := hb
      rw [h3]; split <;> simp [dum]
    exact hb.frame ⟨rfl, hsame _ hT⟩ (fun j b e _ => ⟨e, hsame b (by rw [e]; simp [dum])⟩) hw1
  · refine hC.keep _ _ _ w _ ⟨by omega, by rw [hw4]; exact hos, by rw [hw4]; exact htp, by rw [hw4]; exact hou, fun b _ ht => hsame b ?_, fun _ e => e, fun _ _ e => e⟩ h.j
    rcases ht with e | e <;> rw [e] <;> simp [dum]
  · refine ((hst.chg R.w0).stays.trans h.sy).trans ⟨by omega, fun b e => e, fun b _ e => hsame b (by rw [e]; exact (dum_ro _).symm)⟩
  · rw [hsame d (by rw [(h.dd d hd).2.1]; exact (dum_ro _).symm)]; exact (h.dd d hd).1

set_option maxHeartbeats 1000000 in
theorem rng_call (hR : RecOk P rec) (hI : ItersOk P env) (hC : C.Ok P R.L) {ca cb : Code} {asn bd : VCode} (ha : mC P ca asn = true) (hb : mC P cb bd = true) {fnr : FuncId} {ps : Array Tmp} {dd : Nat} {rc : LoopState → Option Code → Loop}
    (hrc : rc = fun st pe => { state := st, pending := pe, fn := fnr, tmps := R.tmps, params := ps, assign := ca, body := cb, defers := dd }) {xs : List (List PV)} {stop : Option Nat} {r : Option (Ex × Nat)} {s1 : St}
    (hcons : (stop = none ∧ r = none) ∨ ∃ e m, stop = some m ∧ r = some (e, m) ∧ xs.length = m) (hX : s1.ys <+: C.X)
    {f : Nat} {caps : List PV} {arr : Array Value} (hit : iterRes rec env f caps stop = some xs) (hrd : rounds rec R.slots ps.toList asn bd R.nb 0 xs s = some (r, s1))
    (hsl : R.slots.length = R.K) (hfs : FSlots R.L R.nb R.σ0 R.T1 R.w0 R.slots R.tmps) (hbx : ∀ (o : Nat) b, s.boxes[o]? = some b → BoxRep R.T1 R.w0 (R.σ0 o) o b) (hnb : R.nb = s.boxes.length) (hfr : ∀ b, R.w0.heap.size ≤ b → R.T1 b = .other) (hJ : C.J s.ys.length R.T1 R.w0) (hst : s.stop = C.stop)
    (ha1 : arr.size = caps.length) (ha2 : ∀ (i : Nat) p v, caps[i]? = some p → arr[i]? = some v → PRep (fun b => R.T1 b = .ro) R.w0 p v)
    {W : World} (hB : R.B0 = W.heap.size) (hW1 : R.w0.heap.size ≤ W.heap.size) (hW2 : ∀ b, b < R.w0.heap.size → W.heap[b]? = R.w0.heap[b]?) (hW3 : W.os = R.w0.os ∧ W.tape = R.w0.tape ∧ W.output = R.w0.output) (hl : W.heap[R.l]? = some (.loop (rc .ready none))) (hl0 : R.w0.heap.size ≤ R.l)
    (hD1 : ∀ d ∈ R.D, R.w0.heap.size ≤ d ∧ W.heap[d]? = some (.deferred (some []))) (hDn : R.D.Nodup) (hlD : R.l ∉ R.D)
    {T0 : Tags} (hstill : Still T0 R.T1) {ds : List Deferred} {m : Nat} {Q : Exit → Act → World → Prop} (hF : Wide F)
    (hQ : ∀ w4, After C R.L R.nb R.σ0 T0 R.w0 { s1 with slots := R.slots } ds { tmps := R.tmps, defers := R.D.map markOf ++ ds } w4 → Q (toX (endEx r)) { tmps := R.tmps, defers := R.D.map markOf ++ ds } w4) :
    CallsIn F m P f (#[.func (.yield R.l) #[] #[]] ++ arr) W (rangePost F n P R.l Q { tmps := R.tmps, defers := R.D.map markOf ++ ds }) := by
  refine hF.calls ?_
  -- the text of the iterator
  unfold iterRes at hit
  split at hit
  case h_2 => cases hit
  rename_i fn hfn
  split at hit
  case isFalse => cases hit
  rename_i hna
  replace hit := bind_some hit
  obtain ⟨⟨e2, st2⟩, hrun, hit⟩ := hit
  have hne : ∀ i, e2 ≠ .exit i := fun i e => by subst e; cases hit
  have hys : st2.ys = xs := by cases e2 <;> first | exact Option.some.inj hit | cases hit
  obtain ⟨_, g, c, k1, k2, k3, k4, k5, k6⟩ := hI f fn hfn
  refine (callsIn_wide (n := 0)).1 (callsIn_of_wp_marks k1 k2 trivial ?_)
  rw [k4]
  have hll := lt_of_heap hl
  -- what each side stands on
  obtain ⟨Ti, hTi⟩ : ∃ Ti : Tags, Ti = fun b => if b < R.w0.heap.size ∧ R.T1 b = .ro then .ro else .other := ⟨_, rfl⟩
  have ti1 : ∀ b, R.T1 b = .ro → b < R.w0.heap.size → Ti b = .ro := fun b e hb => by rw [hTi]; exact if_pos ⟨hb, e⟩
  have ti2 : ∀ b, R.w0.heap.size ≤ b → Ti b = .other := fun b hb => by rw [hTi]; exact if_neg (by omega)
  have ti3 : ∀ b, Ti b ≠ .other → b < R.w0.heap.size ∧ R.T1 b = .ro := fun b hb => by
    rw [hTi] at hb
    by_cases e : b < R.w0.heap.size ∧ R.T1 b = .ro
    · exact e
    · exact absurd (if_neg e) hb
  obtain ⟨Tn, hTn⟩ : ∃ Tn : Tags, Tn = fun b => if b = R.l then dum R.K else if b ∈ R.D then .ro else R.T1 b := ⟨_, rfl⟩
  have tn1 : ∀ b, b < R.w0.heap.size → Tn b = R.T1 b := fun b hb => by
    rw [hTn]
    have h1 : b ≠ R.l := by omega
    have h2 : b ∉ R.D := fun hd => by have := (hD1 b hd).1; omega
    simp only [if_neg h1, if_neg h2]
  have tnl : Tn R.l = dum R.K := by rw [hTn]; exact if_pos rfl
  have tnD : ∀ d ∈ R.D, Tn d = .ro := fun d hd => by
    rw [hTn]
    have : d ≠ R.l := fun e => hlD (by rw [← e]; exact hd)
    simp only [if_neg this, if_pos hd]
  have hro : ∀ b, R.T1 b = .ro → b < R.w0.heap.size → Tn b = .ro ∧ W.heap[b]? = R.w0.heap[b]? := fun b e hb => ⟨by rw [tn1 b hb, e], hW2 b hb⟩
  have hro1 : ∀ b, R.T1 b = .ro → b < R.w0.heap.size := fun b e => by
    rcases Nat.lt_or_ge b R.w0.heap.size with q | q
    · exact q
    · rw [hfr b q] at e; cases e
  have hCS : CS C R (rc .ready none) s Ti W := by
    refine ⟨R.σ0, Tn, ⟨hfs.keep hro fun _ _ => rfl, fun o b ho => ?_, fun b hb => ?_, ?_, by omega, hst, fun _ _ => rfl, ⟨hW1, fun b e => (hro b e (hro1 b e)).1, fun b hb e => hW2 b hb⟩, fun b _ ht => ?_, hl, tnl, ti2 _ hl0, fun d hd => ⟨(hD1 d hd).2, tnD d hd, ti2 _ (hD1 d hd).1⟩⟩⟩
    · have hb := hbx o b ho
      exact hb.frame ⟨tn1 _ hb.lt, hW2 _ hb.lt⟩ (fun j b e hb => ⟨by rw [tn1 b hb, e], hW2 b hb⟩) hro
    · have h1 : b ≠ R.l := by omega
      have h2 : b ∉ R.D := fun hd => by have := lt_of_heap (hD1 b hd).2; omega
      rw [hTn]
      simp only [if_neg h1, if_neg h2]
      exact hfr b (by omega)
    · exact hC.keep _ _ _ R.w0 _ ⟨hW1, hW3.1, hW3.2.1, hW3.2.2, fun b hb _ => hW2 b hb, fun b e => (hro b e (hro1 b e)).1, fun b hb e => by rw [tn1 b hb, e]⟩ hJ
    · obtain ⟨q1, q2⟩ := ti3 b ht
      exact .inr ⟨ti1 b q2 q1, by rw [tn1 b q1, q2], .inl (by omega)⟩
  have hOk := itC_ok hR hC ha hb hrc hlD hcons hX
  have hargs : (#[Value.func (.yield R.l) #[] #[]] ++ arr).size = caps.length + 1 := by simp; omega
  have hsim : Sim R.l (fun _ => 0) Ti ⟨.yld :: (caps.map .pv ++ List.replicate (fn.ntmps - (caps.length + 1)) .any), [], [], some stop⟩
      { tmps := (#[Value.func (.yield R.l) #[] #[]] ++ arr) ++ Array.replicate (fn.ntmps - (#[Value.func (.yield R.l) #[] #[]] ++ arr).size) undef, defers := [] } W := by
    refine ⟨by simp; omega, fun t av v ht hv => ?_, fun o bx ho => by simp at ho, fun b hb => ti2 b (by omega)⟩
    simp only at ht hv
    cases t with
    | zero =>
      simp only [List.getElem?_cons_zero, Option.some.injEq] at ht
      subst ht
      have : v = .func (.yield R.l) #[] #[] := by
        rw [Array.append_assoc, Array.getElem?_append_left (by simp)] at hv
        simpa using hv.symm
      exact this
    | succ t =>
      rw [List.getElem?_cons_succ] at ht
      rw [Array.append_assoc, Array.getElem?_append_right (by simp)] at hv
      simp only [List.size_toArray, List.length_cons, List.length_nil, Nat.zero_add, Nat.add_sub_cancel] at hv
      rcases Nat.lt_or_ge t caps.length with q | q
      · rw [List.getElem?_append_left (by simpa using q), List.getElem?_map, List.getElem?_eq_getElem q] at ht
        rw [Array.getElem?_append_left (by omega)] at hv
        cases ht
        exact (ha2 t _ v (List.getElem?_eq_getElem q) hv).frame fun b e hb => ⟨ti1 b e hb, hW2 b hb⟩
      · rw [List.getElem?_append_right (by simpa using q), List.getElem?_replicate] at ht
        split at ht
        · cases ht; trivial
        · cases ht
  refine wpIn_mono (hR.wp (F := Fence.wide) (L := R.l) (C := itC C R rec rc ps.toList asn bd xs stop r s1) (n := 0) (.inl rfl) (Ctx.rec_wide _) hOk c fn.body _ e2 st2 k3 hrun rfl (by rw [hys]; exact List.prefix_refl _) _ Ti _ W hsim (.inl ⟨s, hrd, hCS⟩)) ?_
  rintro x a' w2 ⟨rfl, σ2, T2, ms, q1, q2, q3, q4, q5, q6⟩
  have key : LeavesInM Fence.wide 0 P g a'.tmps (rangePost F n P R.l Q { tmps := R.tmps, defers := R.D.map markOf ++ ds }) a'.defers .returning w2 := by
    rw [q5, List.append_nil]
    refine leavesM_marks' (B := W.heap.size) q6.2 (fun d hd => ⟨(q6.1 d hd).1, (q6.1 d hd).2.2⟩) fun w3 e1 e3 e4 e5 e6 => ?_
    have hgr : g.results = #[] := k6 hna.2
    refine ⟨.tuple #[], ?_, ?_⟩
    · unfold results
      rw [hgr]
      simp
    · have fin : ∀ lp, CS C R lp s1 T2 w2 → lp.state ≠ .busy → ∃ w4, (Instr.endLoop R.l).run P w3 = .ok lp.pending w4 ∧ After C R.L R.nb R.σ0 T0 R.w0 { s1 with slots := R.slots } ds { tmps := R.tmps, defers := R.D.map markOf ++ ds } w4 := fun lp hcs hlp =>
        cs_end hC hcs (fun d hd => ⟨by rw [hB]; exact (q6.1 d hd).1, (q6.1 d hd).2.1, (q6.1 d hd).2.2⟩) e6 e5 e1 e3 e4 hlp hstill (fun d hd => (hD1 d hd).1) hDn hlD
      rw [hys] at q2
      rcases q2 with ⟨s', h1, h2⟩ | ⟨e, h1, h2, h3⟩
      · rw [List.drop_length] at h1
        simp only [rounds, Option.some.injEq, Prod.mk.injEq] at h1
        obtain ⟨hr, hs⟩ := h1
        subst hs
        obtain ⟨w4, t1, t2⟩ := fin _ h2 (by rw [hrc]; simp)
        refine ⟨none, w4, by rw [hrc] at t1; exact t1, ?_⟩
        have := hQ w4 t2
        rw [← hr] at this
        exact this
      · obtain ⟨w4, t1, t2⟩ := fin _ h3 (by rw [hrc]; simp)
        have := hQ w4 t2
        rw [h1] at this
        have hen : e ≠ .normal := rounds_ne _ _ _ _ _ _ (by rw [h1] at hrd; exact hrd)
        cases e with
        | normal => exact absurd rfl hen
        | ret => exact ⟨some .ret, w4, by rw [hrc] at t1; exact t1, wpIn_ret this⟩
        | exit i => exact ⟨some (.exit i), w4, by rw [hrc] at t1; exact t1, wpIn_exit this⟩
  cases e2 with
  | normal => exact key
  | ret => exact key
  | exit i => exact absurd rfl (hne i)
end
end Go.Proofs.Ytpdfhckdmblicaa

namespace Go.Proofs.Ytpdfhckdmblicaa
open Go.RowKit
set_option linter.all false

section
variable {P : Program} {F : Fence} {C : Ctx} {n L nb : Nat} {σ σ' : Nat → Nat} {T T' Tc T1 T2 : Tags} {st st' st1 s : St} {a a1 : Act} {w w' w1 : World} {R : Rg} {lp : Loop}
  {rec : VCode → St → Option (Ex × St)} {env : Env} {e : Ex}

theorem rng_core (hR : RecOk P rec) (hI : ItersOk P env) (hW : Wide F) (hN : C.Rec F) (hC : C.Ok P L) {ca cb : Code} {asn bd : VCode} (ha : mC P ca asn = true) (hb : mC P cb bd = true) {g : Operand} {gx : Opd} (hmg : mOpd g gx = true) {ps : Array Tmp} {f : Nat} {caps : List PV}
    (hg : st.pvOf gx = some (.func f caps)) {xs : List (List PV)} {stop : Option Nat} {r : Option (Ex × Nat)} {s1 : St} (hit : iterRes rec env f caps stop = some xs) (hrd : rounds rec (st.slots.map AV.froze) ps.toList asn bd st.boxes.length 0 xs { st with slots := st.slots.map AV.froze } = some (r, s1))
    (hcons : (stop = none ∧ r = none) ∨ ∃ e m, stop = some m ∧ r = some (e, m) ∧ xs.length = m) (hX : s1.ys <+: C.X) (hst : st.stop = C.stop) (hs : Sim L σ T st a w) (hJ : C.J st.ys.length T w) :
    (Code.rangeFunc g ps ca cb).wpIn F n P (Post C L st.boxes.length σ T w (endEx r) { s1 with slots := st.slots.map AV.froze } a.defers) a w := by
  obtain ⟨arr, e1, e2, e3⟩ := func_inv (hs.pv hmg hg)
  obtain ⟨T1, f1, f2, f3⟩ := hs.froze
  have hfr : ∀ b, w.heap.size ≤ b → T1 b = .other := fun b hb => f3.other b (hs.fresh b hb)
  have hJ1 : C.J st.ys.length T1 w := hC.keep _ _ _ w _ (f3.chg w) hJ
  have hcap : ∀ (i : Nat) p v, caps[i]? = some p → arr[i]? = some v → PRep (fun b => T1 b = .ro) w p v := fun i p v hp hv => (e3 i p v hp hv).frame fun b hb _ => ⟨f3.ro b hb, rfl⟩
  have hcal : callable P f = true := by
    unfold iterRes at hit
    split at hit
    case h_2 => cases hit
    rename_i fn hfn
    exact (hI f fn hfn).1
  refine wpIn_rangeFunc fun fn hfn => ?_
  rcases hW with rfl | ⟨l0, rfl⟩
  · obtain ⟨rc, hrc⟩ : ∃ rc : LoopState → Option Code → Loop, rc = fun st pe => { state := st, pending := pe, fn := fn, tmps := a.tmps, params := ps, assign := ca, body := cb, defers := w.heap.size } := ⟨_, rfl⟩
    obtain ⟨W1, hW1⟩ : ∃ W1, (w.alloc (.deferred (some []))).alloc (.loop (rc .ready none)) = W1 := ⟨_, rfl⟩
    have hL1 : W1.heap[w.heap.size + 1]? = some (.loop (rc .ready none)) := by
      rw [← hW1]; have := World.alloc_heap_new (w.alloc (.deferred (some []))) (.loop (rc .ready none)); rwa [World.size_alloc] at this
    have hK1 : W1.heap[w.heap.size]? = some (.deferred (some [])) := by
      rw [← hW1]; exact (Below.heap_alloc _ _ _ (by simp)).trans (World.alloc_heap_new w _)
    have hsz : W1.heap.size = w.heap.size + 2 := by rw [← hW1]; simp
    refine ⟨w.heap.size + 1, [markOf w.heap.size], W1, { target := .fn (.func f) arr, args := #[.func (.yield (w.heap.size + 1)) #[] #[]] }, W1, f, #[.func (.yield (w.heap.size + 1)) #[] #[]] ++ arr, W1, ?_, ?_, fun _ _ => trivial, ?_, (fun h => by cases h), ?_⟩
    · rw [← hW1, hrc]; exact run_enterLoop_outer _ _ _ _ _
    · simp only [resolve, e1]
      simp [go_sem]
    · simp [invoke, go_sem, run_callFunc hcal]
    · refine rng_call (R := ⟨L, st.boxes.length, st.slots.length, σ, T1, w, st.slots.map AV.froze, a.tmps, w.heap.size + 1, [w.heap.size], W1.heap.size⟩) (s := { st with slots := st.slots.map AV.froze }) (T0 := T) hR hI hC ha hb hrc hcons hX hit hrd (by simp) f1 f2 rfl hfr hJ1 hst e2 hcap rfl ?_ ?_ ?_ hL1 ?_ ?_ ?_ ?_ f3 (.inl rfl) ?_
      · show w.heap.size ≤ W1.heap.size; omega
      · intro b hb
        rw [← hW1]
        exact (Below.heap_alloc _ _ _ (by simp only [World.size_alloc]; exact Nat.lt_succ_of_lt hb)).trans (Below.heap_alloc _ _ _ hb)
      · rw [← hW1]; exact ⟨rfl, rfl, rfl⟩
      · show w.heap.size ≤ w.heap.size + 1; omega
      · intro d hd
        have hd : d ∈ [w.heap.size] := hd
        rw [List.mem_singleton.1 hd]
        exact ⟨Nat.le_refl _, hK1⟩
      · exact List.nodup_cons.2 ⟨by simp, List.nodup_nil⟩
      · intro hd
        have hd : w.heap.size + 1 ∈ [w.heap.size] := hd
        have := List.mem_singleton.1 hd
        omega
      · intro w4 hA
        exact ⟨rfl, hA⟩
  · obtain ⟨r0, hr0⟩ := hN l0 rfl _ _ _ hJ
    obtain ⟨rc, hrc⟩ : ∃ rc : LoopState → Option Code → Loop, rc = fun st pe => { state := st, pending := pe, fn := fn, tmps := a.tmps, params := ps, assign := ca, body := cb, defers := r0.defers } := ⟨_, rfl⟩
    obtain ⟨W1, hW1⟩ : ∃ W1, w.alloc (.loop (rc .ready none)) = W1 := ⟨_, rfl⟩
    have hL1 : W1.heap[w.heap.size]? = some (.loop (rc .ready none)) := by
      rw [← hW1]; exact World.alloc_heap_new w _
    have hsz : W1.heap.size = w.heap.size + 1 := by rw [← hW1]; simp
    refine ⟨w.heap.size, [], W1, { target := .fn (.func f) arr, args := #[.func (.yield w.heap.size) #[] #[]] }, W1, f, #[.func (.yield w.heap.size) #[] #[]] ++ arr, W1, ?_, ?_, fun _ _ => trivial, ?_, (fun h => by cases h), ?_⟩
    · rw [← hW1, hrc]; exact run_enterLoop_inner hr0 _ _ _ _ _
    · simp only [resolve, e1]
      simp [go_sem]
    · simp [invoke, go_sem, run_callFunc hcal]
    · refine rng_call (R := ⟨L, st.boxes.length, st.slots.length, σ, T1, w, st.slots.map AV.froze, a.tmps, w.heap.size, [], W1.heap.size⟩) (s := { st with slots := st.slots.map AV.froze }) (T0 := T) hR hI hC ha hb hrc hcons hX hit hrd (by simp) f1 f2 rfl hfr hJ1 hst e2 hcap rfl ?_ ?_ ?_ hL1 ?_ ?_ ?_ ?_ f3 (.inr ⟨l0, rfl⟩) ?_
      · show w.heap.size ≤ W1.heap.size; omega
      · intro b hb
        rw [← hW1]
        exact Below.heap_alloc _ _ _ hb
      · rw [← hW1]; exact ⟨rfl, rfl, rfl⟩
      · exact Nat.le_refl _
      · intro d hd; cases hd
      · exact List.nodup_nil
      · intro hd; cases hd
      · intro w4 hA
        exact ⟨rfl, hA⟩

theorem ranged_eq {gx : Opd} {ps : List Nat} {asn bd : VCode} (h : ranged rec env gx ps asn bd st = some (e, st')) : ∃ f caps xs stop r s1, st.pvOf gx = some (.func f caps) ∧ iterRes rec env f caps stop = some xs ∧ rounds rec (st.slots.map AV.froze) ps asn bd st.boxes.length 0 xs { st with slots := st.slots.map AV.froze } = some (r, s1) ∧
    ((stop = none ∧ r = none) ∨ ∃ e m, stop = some m ∧ r = some (e, m) ∧ xs.length = m) ∧ e = endEx r ∧ st' = { s1 with slots := st.slots.map AV.froze } := by
  unfold ranged at h
  replace h := bind_some h
  obtain ⟨v, h1, h⟩ := h
  cases v <;> simp only [reduceCtorEq] at h
  rename_i f caps
  replace h := bind_some h
  obtain ⟨xs, h2, h⟩ := h
  replace h := bind_some h
  obtain ⟨⟨r, s1⟩, h3, h⟩ := h
  simp only at h
  cases r with
  | none =>
    simp only [Option.some.injEq, Prod.mk.injEq] at h
    exact ⟨f, caps, xs, none, none, s1, h1, h2, h3, .inl ⟨rfl, rfl⟩, h.1.symm, h.2.symm⟩
  | some q =>
    obtain ⟨e0, k⟩ := q
    simp only at h
    replace h := bind_some h
    obtain ⟨ys, h4, h⟩ := h
    replace h := bind_some h
    obtain ⟨⟨r2, s2⟩, h5, h⟩ := h
    simp only at h
    cases r2 with
    | none => cases h
    | some q2 =>
      obtain ⟨e2, m⟩ := q2
      simp only at h
      split at h
      case isFalse => cases h
      rename_i hk
      obtain ⟨rfl, hk⟩ := hk
      simp only [Option.some.injEq, Prod.mk.injEq] at h
      exact ⟨f, caps, ys, some m, some (e2, m), s2, h1, h4, h5, .inr ⟨e2, m, rfl, rfl, hk⟩, h.1.symm, h.2.symm⟩
end
end Go.Proofs.Ytpdfhckdmblicaa

namespace Go.Proofs.Ytpdfhckdmblicaa
open Go.RowKit

section
variable {P : Program} {F : Fence} {C : Ctx} {n L nb : Nat} {σ σ' : Nat → Nat} {T T' T1 T2 : Tags} {st st' st1 : St} {a a1 : Act} {w w1 : World} {o : Oper} {vo : VOp} {y : Operand} {x : Opd} {d : Nat}
  {rec : VCode → St → Option (Ex × St)} {env : Env} {next : Act → World → Prop} {Q : Exit → Act → World → Prop} {opl : Array Oper} {ds : List Deferred} {e : Ex}

theorem map_some' {α β : Type} {x : Option α} {f : α → β} {y : β} (h : x.map f = some y) : ∃ z, x = some z ∧ f z = y := by
  cases x with
  | none => cases h
  | some z => exact ⟨z, rfl, Option.some.inj h⟩

theorem head_same {keep : List Nat} (h0 : st.head keep nb = some st1) : st1.boxes.length = nb ∧ st1.ys = st.ys ∧ st1.stop = st.stop := by
  unfold St.head at h0
  simp only at h0
  split at h0
  · rename_i hc
    simp only [Bool.and_eq_true, decide_eq_true_eq] at hc
    have h0 := Option.some.inj h0
    subst h0
    exact ⟨by simp; omega, rfl, rfl⟩
  · cases h0

theorem step_growR (hR : RecOk P rec) {c : Code} {keep : List Nat} {vc : VCode} (hm : mC P c vc = true) (h : step rec env (.round keep nb vc) st = some (e, st')) : Grow nb st st' := by
  simp only [step] at h
  replace h := bind_some h
  obtain ⟨st0, h0, h⟩ := h
  replace h := bind_some h
  obtain ⟨⟨e1, st1⟩, h1, h⟩ := h
  have hh : st0.boxes.length = nb ∧ st0.ys = st.ys ∧ st0.stop = st.stop := by
    unfold St.head at h0
    simp only at h0
    split at h0
    · rename_i hc
      simp only [Bool.and_eq_true, decide_eq_true_eq] at hc
      have h0 := Option.some.inj h0
      subst h0
      exact ⟨by simp; omega, rfl, rfl⟩
    · cases h0
  have g1 := hR.grow _ _ _ _ _ hm h1
  have g1' : Grow nb st st1 := by
    refine ⟨by rw [← hh.1]; exact g1.1, by rw [← hh.2.1]; exact g1.2.1, g1.2.2.trans hh.2.2⟩
  simp only at h
  split at h
  · exact g1'.trans (hR.growR _ _ _ _ _ _ _ hm h)
  · cases Option.some.inj h; exact g1'

theorem step_grow (hR : RecOk P rec) {c : Code} {vc : VCode} (hm : mC P c vc = true) (h : step rec env vc st = some (e, st')) : Grow st.boxes.length st st' := by
  cases vc with
  | skip => simp only [step, Option.some.injEq, Prod.mk.injEq] at h; rw [← h.2]; exact (Mono.refl _).grow
  | ops l =>
    simp only [step] at h
    obtain ⟨st1, h1, h2⟩ := map_some' h
    cases h2; exact ops_grow h1
  | drw fz acts fin last l =>
    simp only [step] at h
    obtain ⟨st1, h1, h2⟩ := map_some' h
    cases h2
    have gz := Mono.freezeAts fz (Mono.refl st)
    exact ((Mono.grow gz).trans (ops_grow h1)).mono gz.1
  | seq a b =>
    cases c <;> first | (simp [mC] at hm; done) | skip
    rename_i c1 c2
    simp only [mC, Bool.and_eq_true] at hm
    simp only [step] at h
    replace h := bind_some h
    obtain ⟨⟨e1, st1⟩, h1, h⟩ := h
    have g1 := hR.grow _ _ _ _ _ hm.1 h1
    simp only at h
    split at h
    · exact (g1.trans (hR.grow _ _ _ _ _ hm.2 h)).mono g1.1
    · cases Option.some.inj h; exact g1
  | cond y a b =>
    cases c <;> first | (simp [mC] at hm; done) | skip
    simp only [mC, Bool.and_eq_true] at hm
    simp only [step] at h
    replace h := bind_some h
    obtain ⟨v, h1, h⟩ := h
    split at h
    · split at h
      · exact hR.grow _ _ _ _ _ hm.1.2 h
      · exact hR.grow _ _ _ _ _ hm.2 h
    · cases h
  | block i a =>
    cases c <;> first | (simp [mC] at hm; done) | skip
    simp only [mC, Bool.and_eq_true] at hm
    simp only [step] at h
    replace h := bind_some h
    obtain ⟨⟨e1, st1⟩, h1, h⟩ := h
    have h := Option.some.inj h
    cases h
    exact hR.grow _ _ _ _ _ hm.2 h1
  | loop keep a =>
    cases c <;> first | (simp [mC] at hm; done) | skip
    simp only [mC] at hm
    simp only [step] at h
    exact hR.growR _ _ _ _ _ _ _ hm h
  | round keep nb a =>
    cases c <;> first | (simp [mC] at hm; done) | skip
  | rng g ps asn b =>
    cases c <;> first | (simp [mC] at hm; done) | skip
    rename_i g1 ps1 c1 c2
    simp only [mC, Bool.and_eq_true, beq_iff_eq] at hm
    obtain ⟨⟨⟨m1, m2⟩, m3⟩, m4⟩ := hm
    simp only [step] at h
    obtain ⟨f, caps, xs, stop, r, s1, q1, q2, q3, q4, rfl, rfl⟩ := ranged_eq h
    have := rounds_grow hR.grow m3 m4 xs 0 _ r s1 q3 (Nat.le_refl _)
    exact ⟨this.1, this.2.1, this.2.2⟩
  | clean pre post a =>
    replace hm : mC P c a = true := by cases c <;> simpa only [mC] using hm
    simp only [step] at h
    replace h := bind_some h
    obtain ⟨st1, h0, h⟩ := h
    replace h := bind_some h
    obtain ⟨⟨e1, st2⟩, h1, h⟩ := h
    replace h := bind_some h
    obtain ⟨st3, h2, h⟩ := h
    cases Option.some.inj h
    obtain ⟨k1, k2, k3⟩ := head_same h0
    obtain ⟨l1, l2, l3⟩ := head_same h2
    have g1 := hR.grow _ _ _ _ _ hm h1
    exact ⟨by omega, by rw [l2, ← k2]; exact g1.2.1, by rw [l3, g1.2.2, k3]⟩
  | exit i => simp only [step, Option.some.injEq, Prod.mk.injEq] at h; rw [← h.2]; exact (Mono.refl _).grow
  | ret => simp only [step, Option.some.injEq, Prod.mk.injEq] at h; rw [← h.2]; exact (Mono.refl _).grow

theorem Post.trans {nb1 : Nat} {σ1 : Nat → Nat} {ms : List Nat} (hs : Stays T T1 w w1) (hσ : ∀ k, k < nb → σ1 k = σ k) (hd : a1.defers = ms.map markOf ++ ds) (hms : Marks T1 w w1 ms) (hnb : nb ≤ nb1)
    {x : Exit} {a' : Act} {w' : World} (h : Post C L nb1 σ1 T1 w1 e st' a1.defers x a' w') : Post C L nb σ T w e st' ds x a' w' := ⟨h.1, After.trans hs hσ hd hms hnb h.2⟩

theorem step_wpR (hR : RecOk P rec) (hW : Wide F) (hN : C.Rec F) (hC : C.Ok P L) {c : Code} {keep : List Nat} {vc : VCode} (hm : mC P c vc = true) (h : step rec env (.round keep nb vc) st = some (e, st')) (hst : st.stop = C.stop) (hX : st'.ys <+: C.X)
    (hs : Sim L σ T st a w) (hJ : C.J st.ys.length T w) : wpLoop F n P c (Post C L nb σ T w e st' a.defers) a w := by
  simp only [step] at h
  replace h := bind_some h
  obtain ⟨st0, h0, h⟩ := h
  replace h := bind_some h
  obtain ⟨⟨e1, st1⟩, h1, h⟩ := h
  obtain ⟨q1, q2, q3, q4, q5⟩ := hs.head h0
  have g1 := hR.grow _ _ _ _ _ hm h1
  refine wpLoop_once ?_
  have hX1 : st1.ys <+: C.X := by
    simp only at h
    split at h
    · exact (hR.growR _ _ _ _ _ _ _ hm h).2.1.trans hX
    · cases Option.some.inj h; exact hX
  refine wpIn_mono (hR.wp hW hN hC c vc st0 e1 st1 hm h1 (q4.trans hst) hX1 σ T a w q1 (by rw [q3]; exact hJ)) ?_
  rintro x a1 w1 ⟨hx, hA⟩
  rw [q2] at hA
  simp only at h
  split at h
  · subst hx
    obtain ⟨σ1, T1, ms, k1, k2, k3, k4, k5, k6⟩ := hA
    exact wpLoop_mono (hR.wpR hW hN hC c keep nb vc st1 e st' hm h (g1.2.2.trans (q4.trans hst)) hX σ1 T1 a1 w1 k1 k2) fun x a' w' hP => Post.trans k4 k3 k5 k6 (Nat.le_refl _) hP
  · rename_i hne
    cases Option.some.inj h
    cases e with
    | normal => exact absurd rfl hne
    | exit i => subst hx; exact ⟨rfl, hA⟩
    | ret => subst hx; exact ⟨rfl, hA⟩

theorem step_wp (hR : RecOk P rec) (hI : ItersOk P env) (hcalls : CallsOk P rec env) (hW : Wide F) (hN : C.Rec F) (hC : C.Ok P L) {c : Code} {vc : VCode} (hm : mC P c vc = true) (h : step rec env vc st = some (e, st')) (hst : st.stop = C.stop) (hX : st'.ys <+: C.X)
    (hs : Sim L σ T st a w) (hJ : C.J st.ys.length T w) : c.wpIn F n P (Post C L st.boxes.length σ T w e st' a.defers) a w := by
  cases vc with
  | skip =>
    simp only [step, Option.some.injEq, Prod.mk.injEq] at h
    obtain ⟨rfl, rfl⟩ := h
    cases c <;> first | (simp [mC] at hm; done) | skip
    case skip => exact wpIn_skip ⟨rfl, After.refl hs hJ⟩
    case label l => exact wpIn_label ⟨rfl, After.refl hs hJ⟩
  | ops l =>
    simp only [step] at h
    obtain ⟨st1, h1, h2⟩ := map_some' h
    cases h2
    cases c <;> first | (simp [mC] at hm; done) | skip
    case region id ops dr =>
      cases dr <;> simp [mC] at hm
      exact wpIn_region_list (ops_wp hW hC hcalls hX hs hJ hst hm h1 fun a' w' hA => ⟨rfl, hA⟩)
  | drw fz acts fin last l =>
    simp only [step] at h
    obtain ⟨st1, h1, h2⟩ := map_some' h
    cases h2
    cases c <;> first | (simp [mC] at hm; done) | skip
    case region id ops dr =>
      cases dr <;> simp only [mC, Bool.and_eq_true, Bool.false_eq_true] at hm
      obtain ⟨⟨⟨m1, m2⟩, m3⟩, m4⟩ := hm
      obtain ⟨T1, q1, q2⟩ := hs.freezeAts fz
      have gz := Mono.freezeAts fz (Mono.refl st)
      have hJ1 : C.J (fz.foldl St.freezeAt st).ys.length T1 w := by rw [gz.2.1]; exact hC.keep _ _ _ _ _ (q2.chg w) hJ
      exact region_drw_wp hW hC hcalls q1 hJ1 (gz.2.2.trans hst) hX m1 m2 m3 m4 h1 fun a' w' hA => ⟨rfl, After.trans (ms := []) ((q2.chg w).stays) (fun _ _ => rfl) rfl Marks.nil gz.1 hA⟩
  | seq a b =>
    cases c <;> first | (simp [mC] at hm; done) | skip
    rename_i c1 c2
    simp only [mC, Bool.and_eq_true] at hm
    simp only [step] at h
    replace h := bind_some h
    obtain ⟨⟨e1, st1⟩, h1, h⟩ := h
    have g1 := hR.grow _ _ _ _ _ hm.1 h1
    refine wpIn_seq ?_
    have hX1 : st1.ys <+: C.X := by
      simp only at h
      split at h
      · exact (hR.grow _ _ _ _ _ hm.2 h).2.1.trans hX
      · cases Option.some.inj h; exact hX
    refine wpIn_mono (hR.wp hW hN hC c1 _ st e1 st1 hm.1 h1 hst hX1 σ T _ w hs hJ) ?_
    rintro x a1 w1 ⟨hx, hA⟩
    simp only at h
    split at h
    · subst hx
      obtain ⟨σ1, T1, ms, k1, k2, k3, k4, k5, k6⟩ := hA
      exact wpIn_mono (hR.wp hW hN hC c2 _ st1 e st' hm.2 h (g1.2.2.trans hst) hX σ1 T1 a1 w1 k1 k2) fun x a' w' hP => Post.trans k4 k3 k5 k6 g1.1 hP
    · rename_i hne
      cases Option.some.inj h
      cases e with
      | normal => exact absurd rfl hne
      | exit i => subst hx; exact ⟨rfl, hA⟩
      | ret => subst hx; exact ⟨rfl, hA⟩
  | cond y a b =>
    cases c <;> first | (simp [mC] at hm; done) | skip
    rename_i x c1 c2
    simp only [mC, Bool.and_eq_true] at hm
    simp only [step] at h
    replace h := bind_some h
    obtain ⟨v, h1, h⟩ := h
    split at h
    case h_2 => cases h
    rename_i t
    refine wpIn_cond (t := t) (hs.pv hm.1.1 h1).bool_inv ?_
    cases t with
    | true => exact hR.wp hW hN hC c1 _ st e st' hm.1.2 (by simpa using h) hst hX σ T _ w hs hJ
    | false => exact hR.wp hW hN hC c2 _ st e st' hm.2 (by simpa using h) hst hX σ T _ w hs hJ
  | block i a =>
    cases c <;> first | (simp [mC] at hm; done) | skip
    rename_i j c1
    simp only [mC, Bool.and_eq_true, beq_iff_eq] at hm
    obtain ⟨rfl, hm⟩ := hm
    simp only [step] at h
    replace h := bind_some h
    obtain ⟨⟨e1, st1⟩, h1, h⟩ := h
    have h := Option.some.inj h
    cases h
    refine wpIn_block (wpIn_mono (hR.wp hW hN hC c1 _ st e1 st1 hm h1 hst hX σ T _ w hs hJ) ?_)
    rintro x a1 w1 ⟨rfl, hA⟩
    cases e1 with
    | normal => exact ⟨rfl, hA⟩
    | exit i =>
      by_cases hij : i = j
      · subst hij; simp only [toX, Exit.inBlock, ↓reduceIte]; exact ⟨rfl, hA⟩
      · have hne : (Ex.exit i = Ex.exit j) = False := by simpa using hij
        simp only [toX, Exit.inBlock, if_neg hij, hne, ↓reduceIte]; exact ⟨rfl, hA⟩
    | ret => exact ⟨rfl, hA⟩
  | loop keep a =>
    cases c <;> first | (simp [mC] at hm; done) | skip
    simp only [mC] at hm
    simp only [step] at h
    exact wpIn_of_loop (hR.wpR hW hN hC _ keep _ _ st e st' hm h hst hX σ T _ w hs hJ)
  | round keep nb a =>
    cases c <;> first | (simp [mC] at hm; done) | skip
  | rng g ps asn b =>
    cases c <;> first | (simp [mC] at hm; done) | skip
    rename_i g1 ps1 c1 c2
    simp only [mC, Bool.and_eq_true, beq_iff_eq] at hm
    obtain ⟨⟨⟨m1, m2⟩, m3⟩, m4⟩ := hm
    subst m2
    simp only [step] at h
    obtain ⟨f, caps, xs, stop, r, s1, q1, q2, q3, q4, rfl, rfl⟩ := ranged_eq h
    exact rng_core hR hI hW hN hC m3 m4 m1 q1 q2 q3 q4 hX hst hs hJ
  | clean pre post a =>
    replace hm : mC P c a = true := by cases c <;> simpa only [mC] using hm
    simp only [step] at h
    replace h := bind_some h
    obtain ⟨st1, h0, h⟩ := h
    replace h := bind_some h
    obtain ⟨⟨e1, st2⟩, h1, h⟩ := h
    replace h := bind_some h
    obtain ⟨st3, h2, h⟩ := h
    cases Option.some.inj h
    obtain ⟨q1, q2, q3, q4, q5⟩ := hs.head h0
    obtain ⟨l1, l2, l3⟩ := head_same h2
    refine wpIn_mono (hR.wp hW hN hC c a st1 _ st2 hm h1 (q4.trans hst) (by rw [← l2]; exact hX) σ T _ w q1 (by rw [q3]; exact hJ)) ?_
    rintro x a1 w1 ⟨hx, σ1, T1, ms, k1, k2, k3, k4, k5, k6⟩
    obtain ⟨r1, r2, r3, r4, r5⟩ := k1.head h2
    exact ⟨hx, σ1, T1, ms, r1, by rw [r3]; exact k2, by rw [← q2]; exact k3, k4, k5, k6⟩
  | exit i =>
    simp only [step, Option.some.injEq, Prod.mk.injEq] at h
    obtain ⟨rfl, rfl⟩ := h
    cases c <;> first | (simp [mC] at hm; done) | skip
    simp only [mC, beq_iff_eq] at hm
    subst hm
    exact wpIn_exit ⟨rfl, After.refl hs hJ⟩
  | ret =>
    simp only [step, Option.some.injEq, Prod.mk.injEq] at h
    obtain ⟨rfl, rfl⟩ := h
    cases c <;> first | (simp [mC] at hm; done) | skip
    exact wpIn_ret ⟨rfl, After.refl hs hJ⟩

theorem step_ok (hR : RecOk P rec) (hI : ItersOk P env) (hcalls : CallsOk P rec env) : RecOk P (step rec env) :=
  ⟨fun _ _ _ _ _ hm h => step_grow hR hm h, fun _ _ _ _ _ _ _ hm h => step_growR hR hm h,
   fun hW hN hC _ _ _ _ _ hm h hst hX _ _ _ _ hs hJ => step_wp hR hI hcalls hW hN hC hm h hst hX hs hJ,
   fun hW hN hC _ _ _ _ _ _ _ hm h hst hX _ _ _ _ hs hJ => step_wpR hR hW hN hC hm h hst hX hs hJ⟩
end
end Go.Proofs.Ytpdfhckdmblicaa

namespace Go.Proofs.Ytpdfhckdmblicaa
open Go.RowKit

section
variable {P : Program} {L K : Nat} {σ σ' : Nat → Nat} {T T' T1 T2 : Tags} {st st' st1 : St} {a a1 : Act} {w w1 : World} {r : Root}

theorem moved_part {s d q : Root} {b : Nat} (h1 : q ≠ s) (h2 : q ≠ d) (h : T b = .row q) : moved T s d b = .row q := moved_row h1 h2 h
theorem Sim.retagTo (h : Sim L σ T st a w) {i : Nat} (h1 : ∀ t s l, st.slots[t]? = some (.row s l) → r ≠ .slot t) (h2 : ∀ (t i : Nat), r ≠ .part t i) (h3 : ∀ p q bx s l, st.boxes[p]? = some bx → bx.cs[q]? = some (.row s l) → r ≠ .cell p q) (hK : st.slots.length ≤ K) :
    Sim L σ (moved T r (.part K i)) st a w := by
  have hw : ∀ b, T b = .ro → b < w.heap.size → moved T r (.part K i) b = .ro ∧ w.heap[b]? = w.heap[b]? := fun b e _ => ⟨moved_ro e, rfl⟩
  refine ⟨h.size, fun t x u hx hu => ?_, fun p bx ho => ?_, fun b hb => moved_other (h.fresh b hb)⟩
  · have ht : t < st.slots.length := (List.getElem?_eq_some_iff.1 hx).1
    refine (h.slots t x u hx hu).keep hw (fun s l e b hb _ => ⟨moved_row (fun e2 => h1 t s l (by rw [hx, e]) e2.symm) (by simp) hb, rfl⟩) (fun l e i' _ b hb _ => ⟨moved_row (fun e2 => h2 _ _ e2.symm) (fun e2 => ?_) hb, rfl⟩) (fun q hq _ s l e => ⟨⟨l, e⟩, rfl⟩) (Nat.le_refl _) (fun _ _ => rfl)
    cases e2; omega
  · obtain ⟨arr, E, g1, g2, g3, g4, g5⟩ := h.boxes p bx ho
    refine ⟨arr, E, g1, g2, ?_, g4, fun j bv u hj hu => ?_⟩
    · cases hf : bx.fz with
      | true => rw [hf] at g3; simpa using moved_ro g3
      | false => rw [hf] at g3; simpa using moved_box g3
    · obtain ⟨k1, k2⟩ := g5 j bv u hj hu
      refine ⟨k1, ?_⟩
      cases bv with
      | pv x => exact PRep.frame hw k2
      | row sz es => exact RowRep.frame (fun b e _ => ⟨moved_row (fun e2 => h3 p j bx sz es ho hj e2.symm) (by simp) e, rfl⟩) hw k2

theorem RowRep.takeTo {sz : Nat} {es : List PV} {xa : Option Addr} {c : Nat} (h : RowRep T w r sz es (.slice xa es.length c)) (k : Nat) : RowRep T w r sz (es.take k) (.slice xa (es.take k).length c) := by
  rcases h with ⟨rfl, a, e⟩ | ⟨b, c', arr, E, e, h2, h3, h4, h5, h6, h7, h8⟩
  · simp only [List.length_nil, Value.slice.injEq] at e
    obtain ⟨_, _, rfl⟩ := e
    exact .inl ⟨by simp, xa, by simp⟩
  · simp only [Value.slice.injEq] at e
    obtain ⟨rfl, _, rfl⟩ := e
    refine .inr ⟨b, c, arr, E, rfl, h2, h3, h4, ?_, h6, fun e he => h7 e (List.mem_of_mem_take he), fun i e j x hi hj => ?_⟩
    · simp; omega
    · rw [List.getElem?_take] at hi
      split at hi
      · exact h8 i e j x hi hj
      · cases hi

def RK (T : Tags) (w : World) (K i : Nat) : Res → Value → Prop
  | (.list sz es, true), u => RowRep T w (.part K i) sz es u
  | (x, _), u => PRep (fun b => T b = .ro) w x u
theorem RK.pv {i : Nat} {x : PV} {u : Value} (h : PRep (fun b => T b = .ro) w x u) : RK T w K i (x, false) u := by
  cases x <;> exact h
def readOf (tmps : Array Value) : ResultVar → Sem Value
  | .tmp t => pure (tmps.getD t undef)
  | .cell a t => do loadVar t (← asAddr (tmps.getD a undef))
def mRes (P : Program) : ResultVar → VRes → Bool
  | .tmp t, .tmp s => t == s
  | .cell t T0, .cell s n => t == s && cellN P T0 == some n
  | _, _ => false

theorem result_one (h : Sim L σ T st a w) {g : ResultVar} {v : VRes} (hm : mRes P g v = true) {x : Res} (hp : resultOf st v = some (x, st1)) (hK : st.slots.length ≤ K) (i : Nat) :
    ∃ u T', (readOf a.tmps g).run P w = .ok u w ∧ Sim L σ T' st1 a w ∧ Still T T' ∧ RK T' w K i x u ∧ (∀ b k, k ≠ i → T b = .row (.part K k) → T' b = .row (.part K k)) ∧ st1.slots.length = st.slots.length := by
  cases g <;> cases v <;> simp only [mRes, Bool.false_eq_true] at hm
  case tmp.tmp t s =>
    simp only [beq_iff_eq] at hm
    subst hm
    have hev : a.tmps.getD t undef = a.eval (.tmp t) := rfl
    have hmo : mOpd (.tmp t) (.t t) = true := by simp [mOpd]
    simp only [resultOf] at hp
    split at hp
    · rename_i sz es st2 hg
      have hp := Option.some.inj hp
      cases hp
      obtain ⟨k1, k2, q, v, es0, c, xa, k3, k4, k5, k6, k7, k8, k9⟩ := h.grab hmo hg
      have hlen : st1.slots.length = st.slots.length := by rw [← k1.size, ← h.size]
      refine ⟨a.eval (.tmp t), moved T q (.part K i), by rw [readOf, hev]; rfl, k1.retagTo k7 k8 k9 (by omega), Still.moved _ _ _, ?_, fun b k hk e => moved_row (fun e2 => k8 _ _ e2.symm) (by simp [hk]) e, hlen⟩
      rw [k6]
      subst k5
      have := RowRep.takeTo k3 es.length
      rw [← k4] at this
      exact RowRep.frame (fun b e _ => ⟨moved_src e, rfl⟩) (fun b e _ => ⟨moved_ro e, rfl⟩) this
    · split at hp
      · rename_i v hv
        have hp := Option.some.inj hp
        cases hp
        have e2 : st.pvOf (.t t) = some v := by unfold St.pvOf; rw [show st.get (.t t) = .pv v from hv]
        exact ⟨a.eval (.tmp t), T, by rw [readOf, hev]; rfl, h, Still.refl T, RK.pv (h.pv hmo e2), fun _ _ _ e => e, rfl⟩
      · rename_i r off len hv
        split at hp
        case h_2 => cases hp
        rename_i sz es hr
        split at hp
        case isFalse => cases hp
        rename_i hl
        have hp := Option.some.inj hp
        cases hp
        obtain ⟨T1, k1, k2, k3, k4, _⟩ := h.freeze r
        refine ⟨a.eval (.tmp t), T1, by rw [readOf, hev]; rfl, k1, k2, RK.pv (h.refList hr (h.refR hmo hv sz es hr) hl (k4 sz es hr) k2.ro), fun b k _ e => k3 b _ (fun e2 => by subst e2; simp [St.row] at hr) e, by rw [← k1.size, ← h.size]⟩
      · cases hp
  case cell.cell t T0 s n =>
    simp only [Bool.and_eq_true, beq_iff_eq] at hm
    obtain ⟨rfl, hc⟩ := hm
    simp only [resultOf] at hp
    split at hp
    case h_2 => cases hp
    rename_i p j hv
    split at hp
    case h_2 => cases hp
    rename_i bx h1
    have hs : st.slots[t]? = some (.pbox p j) := slots_get (st := st) hv (by simp)
    have hlt : t < a.tmps.size := by rw [h.size]; exact (List.getElem?_eq_some_iff.1 hs).1
    have hgp : a.tmps.getD t undef = .pointer (some ⟨σ p, j, none⟩) := by
      have := (h.slots t _ _ hs (Array.getElem?_eq_getElem hlt)).2
      rw [Array.getD_eq_getD_getElem?, Array.getElem?_eq_getElem hlt, Option.getD_some, this]
    have hread : ∀ {u : Value}, (loadVar T0 ⟨σ p, j, none⟩).run P w = .ok u w → (readOf a.tmps (.cell t T0)).run P w = .ok u w := fun hu => by
      simp only [readOf, hgp, asAddr, Sem.run_bind, Sem.run_pure, Result.andThen_ok]
      exact hu
    have hbox := h.boxes p bx h1
    cases n with
    | none =>
      obtain ⟨arr, E, g1, g2, g3, g4, g5⟩ := hbox
      have hld : ∀ (bv : BV), bx.cs[j]? = some bv → ∃ u, (loadVar T0 ⟨σ p, j, none⟩).run P w = .ok u w ∧ BRep T w p j bv u := fun bv hbv => by
        have hj : j < arr.size := by rw [g2]; exact (List.getElem?_eq_some_iff.1 hbv).1
        obtain ⟨k1, k2⟩ := g5 j _ arr[j] hbv (Array.getElem?_eq_getElem hj)
        refine ⟨arr[j], ?_, k2⟩
        unfold loadVar
        simp only [Sem.run_bind, run_isAgg_no hc, Result.andThen_ok, Bool.false_eq_true, if_false]
        unfold load
        simp only [Sem.run, cell_of_row w _ _ arr E (0, 0) g1, Array.getElem?_eq_getElem hj]
      simp only at hp
      split at hp
      · rename_i sz es hbv
        split at hp
        · cases hp
        · rename_i hfz
          have hp := Option.some.inj hp
          cases hp
          obtain ⟨u, q1, q2⟩ := hld _ hbv
          have hr : st.row (.cell p j) = some (sz, es) := by simp [St.row, h1, hfz, hbv]
          obtain ⟨T1, k1, k2, k3, k4, _⟩ := h.freeze (.cell p j)
          exact ⟨u, T1, hread q1, k1, k2, RK.pv (RowRep.list (k4 sz es hr) k2.ro q2), fun b k _ e => k3 b _ (by simp) e, by rw [← k1.size, ← h.size]⟩
      · rename_i v hbv
        have hp := Option.some.inj hp
        cases hp
        obtain ⟨u, q1, q2⟩ := hld _ hbv
        exact ⟨u, T, hread q1, h, Still.refl T, RK.pv q2, fun _ _ _ e => e, rfl⟩
      · cases hp
    | some n =>
      simp only at hp
      obtain ⟨v, h2, hp⟩ := map_some' hp
      cases hp
      obtain ⟨T1, k1, k2, k3, k4⟩ := h.freezeRows p
      have hmem := hbox.mem (T' := T1) (fun j b e => k4 (by rw [h1]; rfl) b j e) k2.ro
      obtain ⟨u, h7, h8, _⟩ := part_mem (P := P) hmem hc h2
      rw [Nat.zero_add] at h7
      exact ⟨u, T1, hread (h7 w rfl), k1, k2, RK.pv h8, fun b k _ e => k3 b _ (by simp) e, by rw [← k1.size, ← h.size]⟩
end
end Go.Proofs.Ytpdfhckdmblicaa

namespace Go.Proofs.Ytpdfhckdmblicaa
open Go.RowKit

def mResL (P : Program) : List ResultVar → List VRes → Bool
  | [], [] => true
  | g :: gs, v :: vs => mRes P g v && mResL P gs vs
  | _, _ => false

section
variable {P : Program} {L K : Nat} {σ σ' : Nat → Nat} {T T' T1 T2 : Tags} {st st' st1 : St} {a a1 : Act} {w w1 : World} {r : Root}

theorem RK.frame {i : Nat} {x : Res} {u : Value} (hr : ∀ b, T b = .row (.part K i) → T' b = .row (.part K i)) (hw : ∀ b, T b = .ro → T' b = .ro) (h : RK T w K i x u) : RK T' w K i x u := by
  obtain ⟨v, own⟩ := x
  cases v <;> cases own <;> first | exact PRep.frame (fun b e _ => ⟨hw b e, rfl⟩) h | exact RowRep.frame (fun b e _ => ⟨hr b e, rfl⟩) (fun b e _ => ⟨hw b e, rfl⟩) h

theorem result_list : ∀ {gs : List ResultVar} {vs : List VRes} {st : St} {T : Tags} {xs : List Res} (i : Nat), Sim L σ T st a w → mResL P gs vs = true → resultList st vs = some xs → st.slots.length ≤ K →
    ∃ (us : List Value) (T' : Tags), (gs.mapM (readOf a.tmps)).run P w = .ok us w ∧ us.length = xs.length ∧ Still T T' ∧ (∀ b, w.heap.size ≤ b → T' b = .other) ∧ (∀ (j : Nat) x u, xs[j]? = some x → us[j]? = some u → RK T' w K (i + j) x u) ∧ ∀ b k, k < i → T b = .row (.part K k) → T' b = .row (.part K k)
  | [], [], st, T, xs, i, h, _, hp, hK => by
    simp only [resultList, Option.some.injEq] at hp
    subst hp
    exact ⟨[], T, by simp, rfl, Still.refl T, h.fresh, fun j x u hx => by simp at hx, fun _ _ _ e => e⟩
  | [], _ :: _, _, _, _, _, _, hm, _, _ => by simp [mResL] at hm
  | _ :: _, [], _, _, _, _, _, hm, _, _ => by simp [mResL] at hm
  | g :: gs, v :: vs, st, T, xs, i, h, hm, hp, hK => by
    simp only [mResL, Bool.and_eq_true] at hm
    simp only [resultList] at hp
    replace hp := bind_some hp
    obtain ⟨⟨x, st1⟩, h1, hp⟩ := hp
    replace hp := bind_some hp
    obtain ⟨l, h2, hp⟩ := hp
    have hp := Option.some.inj hp
    subst hp
    obtain ⟨u, T1, k1, k2, k3, k4, k5, k6⟩ := result_one h hm.1 h1 hK i
    obtain ⟨us, T2, q1, q2, q3, q4, q5, q6⟩ := result_list (i + 1) k2 hm.2 h2 (by omega)
    refine ⟨u :: us, T2, ?_, by simp [q2], k3.trans q3, q4, fun j x' u' hx hu => ?_, fun b k hk e => q6 b k (by omega) (k5 b k (by omega) e)⟩
    · rw [List.mapM_cons]
      simp only [Sem.run_bind, k1, Result.andThen_ok, q1, Sem.run_pure]
    · cases j with
      | zero =>
        simp only [List.getElem?_cons_zero, Option.some.injEq] at hx hu
        subst hx; subst hu
        exact RK.frame (fun b e => q6 b i (by omega) e) q3.ro k4
      | succ j =>
        have := q5 j x' u' (by simpa using hx) (by simpa using hu)
        rwa [show i + 1 + j = i + (j + 1) by omega] at this

theorem results_run {fn : Func} {us : List Value} (h : (fn.results.toList.mapM (readOf a.tmps)).run P w = .ok us w) : (results fn a.tmps).run P w = .ok (if us.toArray.size = 1 then us.toArray.getD 0 undef else .tuple us.toArray) w := by
  have e : results fn a.tmps = (do let vs ← fn.results.mapM (readOf a.tmps); pure (if h : vs.size = 1 then vs[0] else .tuple vs)) := by
    unfold results
    congr 1
  rw [e, Array.mapM_eq_mapM_toList]
  simp only [Sem.run_bind, Sem.run_map, h, Result.andThen_ok, Sem.run_pure]
  by_cases hs : us.toArray.size = 1
  · rw [dif_pos hs, if_pos hs, Array.getD_eq_getD_getElem?, Array.getElem?_eq_getElem (by omega), Option.getD_some]
  · rw [dif_neg hs, if_neg hs]

theorem leavesM_marks {fn : Func} {R : Ending → World → Prop} {B : Nat} : ∀ {ms : List Nat} {w : World}, ms.Nodup → (∀ r ∈ ms, B ≤ r ∧ w.heap[r]? = some (.deferred (some []))) →
    (∀ w', w'.os = w.os → w'.tape = w.tape → w'.output = w.output → w'.heap.size = w.heap.size → (∀ b, b ∉ ms → w'.heap[b]? = w.heap[b]?) → ∃ v, (results fn a.tmps).run P w' = .ok v w' ∧ R (.returned v) w') →
    LeavesInM Fence.wide 0 P fn a.tmps R (ms.map markOf) .returning w
  | [], w, _, _, h => by
    simp only [List.map_nil, LeavesInM, LeavesIn]
    exact h w rfl rfl rfl rfl fun _ _ => rfl
  | r :: ms, w, hnd, hms, h => by
    simp only [List.map_cons, LeavesInM]
    obtain ⟨hn1, hn2⟩ := List.nodup_cons.1 hnd
    obtain ⟨k1, k2⟩ := hms r (by simp)
    have hr : r < w.heap.size := (Array.getElem?_eq_some_iff.1 k2).1
    have hput : ∀ b, b ≠ r → (w.putObj r (.deferred none)).heap[b]? = w.heap[b]? := fun b hb => by simp [World.putObj, Array.getElem?_setIfInBounds, Ne.symm hb]
    refine ⟨by simp, .inl ⟨r, _, rfl, run_takeDeferred k2, leavesM_marks (B := B) hn2 (fun r' hr' => ?_) fun w' e1 e2 e3 e4 e5 => h w' e1 e2 e3 (by rw [e4]; simp [World.putObj]) fun b hb => ?_⟩⟩
    · obtain ⟨q1, q2⟩ := hms r' (by simp [hr'])
      exact ⟨q1, by rw [hput r' (fun e => hn1 (e ▸ hr'))]; exact q2⟩
    · simp only [List.mem_cons, not_or] at hb
      rw [e5 b hb.2, hput b hb.1]
end
end Go.Proofs.Ytpdfhckdmblicaa

namespace Go.Proofs.Ytpdfhckdmblicaa
open Go.RowKit

section
variable {P : Program} {L K : Nat} {σ σ' : Nat → Nat} {T T' T1 T2 : Tags} {st st' st1 : St} {a a1 : Act} {w w1 : World} {r : Root}
  {rec : VCode → St → Option (Ex × St)} {env : Env}

theorem results_ok {gs : List ResultVar} {vs : List VRes} {xs : List Res} (h : Sim L σ T st a w) (hm : mResL P gs vs = true) (hp : resultsOf st vs = some xs) :
    ∃ (us : List Value) (T' : Tags), (gs.mapM (readOf a.tmps)).run P w = .ok us w ∧ us.length = xs.length ∧ Still T T' ∧ (∀ b, w.heap.size ≤ b → T' b = .other) ∧ ∀ (j : Nat) x u, xs[j]? = some x → us[j]? = some u → RK T' w st.slots.length j x u := by
  have gen : resultList st vs = some xs → ∃ (us : List Value) (T' : Tags), (gs.mapM (readOf a.tmps)).run P w = .ok us w ∧ us.length = xs.length ∧ Still T T' ∧ (∀ b, w.heap.size ≤ b → T' b = .other) ∧ ∀ (j : Nat) x u, xs[j]? = some x → us[j]? = some u → RK T' w st.slots.length j x u := fun hl => by
    obtain ⟨us, T', k1, k2, k3, k4, k5, _⟩ := result_list 0 h hm hl (Nat.le_refl _)
    exact ⟨us, T', k1, k2, k3, k4, fun j x u hx hu => by simpa using k5 j x u hx hu⟩
  unfold resultsOf at hp
  split at hp
  case h_2 => exact gen hp
  rename_i t
  split at hp
  case h_2 => exact gen hp
  rename_i f caps hs
  obtain ⟨⟨p, fl⟩, h1, h2⟩ := map_some' hp
  subst h2
  have hmo : mOpd (.tmp t) (.t t) = true := by simp [mOpd]
  have hg : st.get (.t t) = .fn f caps := hs
  have hsn : st.snapFn (st.get (.t t)) = some (p, fl) := by rw [hg]; exact h1
  obtain ⟨k1, _, k3⟩ := h.snapF hmo hsn
  obtain ⟨T1, q1, q2, q3, q4⟩ := Froz.args [.t t] (Froz.refl T st) h (fun x hx => by simp only [List.mem_singleton] at hx; subst hx; exact k1)
  have hgs : gs = [.tmp t] := by
    match gs, hm with
    | [.tmp s], hm => simp [mResL, mRes] at hm; rw [hm]
    | [.cell s T0], hm => simp [mResL, mRes] at hm
    | [], hm => simp [mResL] at hm
    | _ :: _ :: _, hm => simp [mResL] at hm
  subst hgs
  refine ⟨[a.eval (.tmp t)], T1, by simp [readOf, Act.eval], rfl, q3, q2.fresh, fun j x u hx hu => ?_⟩
  cases j with
  | zero =>
    simp only [List.getElem?_cons_zero, Option.some.injEq] at hx hu
    subst hx; subst hu
    exact RK.pv (k3 T1 q3 (q4 _ (by simp)))
  | succ j => simp at hx

theorem prep_avoid {ok good : Nat → Prop} (hg : ∀ b, Cellish w b → good b) {x : PV} {v : Value} (h : PRep ok w x v) : PRep (fun b => ok b ∧ good b) w x v := by
  induction h with
  | int k n => exact .int k n
  | bool b => exact .bool b
  | str s => exact .str s
  | nilf => exact .nilf
  | void v h => exact .void v h
  | nil sz a => exact .nil sz a
  | list sz es b off c cv h1 h2 h3 h4 h6 h7 h8 ih => exact .list sz es b off c cv ⟨h1, hg b h2⟩ h2 h3 h4 h6 h7 ih
  | agg cs arr h1 h2 h3 ih => exact .agg cs arr h1 h2 ih
  | func f caps arr h1 h2 ih => exact .func f caps arr h1 ih
  | iptr cs j b off cv h1 h2 h3 h4 ih => exact .iptr cs j b off cv ⟨h1, hg b h2⟩ h2 h3 ih

def drop (T : Tags) (ms : List Nat) : Tags := fun b => if b ∈ ms then .other else T b
theorem Sim.drop (h : Sim L σ T st a w) {ms : List Nat} (hms : ∀ r ∈ ms, ¬ Cellish w r) (hw : ∀ b, b ∉ ms → w1.heap[b]? = w.heap[b]?) (hsz : w1.heap.size = w.heap.size) : Sim L σ (drop T ms) st a w1 := by
  have hg : ∀ b, Cellish w b → b ∉ ms := fun b hc hb => hms b hb hc
  have hp : ∀ {x v}, PRep (fun b => T b = .ro) w x v → PRep (fun b => Go.Proofs.Ytpdfhckdmblicaa.drop T ms b = .ro) w1 x v := fun h =>
    (prep_avoid hg h).frame fun b hb _ => ⟨by simp [Go.Proofs.Ytpdfhckdmblicaa.drop, hb.1, hb.2], hw b hb.2⟩
  have hrow : ∀ {r sz es v}, RowRep T w r sz es v → RowRep (Go.Proofs.Ytpdfhckdmblicaa.drop T ms) w1 r sz es v := fun {r sz es v} h => by
    rcases h with h | ⟨b, c, arr, E, h1, h2, h3, h4, h5, h6, h7, h8⟩
    · exact .inl h
    · have hb : b ∉ ms := hg b ⟨_, _, _, h3⟩
      refine .inr ⟨b, c, arr, E, h1, by simp [Go.Proofs.Ytpdfhckdmblicaa.drop, hb, h2], (hw b hb).trans h3, h4, h5, h6, h7, fun i e j x hi hj => ?_⟩
      obtain ⟨u, k1, k2, k3⟩ := h8 i e j x hi hj
      exact ⟨u, k1, k2, hp k3⟩
  have hbox : ∀ o, o < st.boxes.length → σ o ∉ ms := fun o ho => hg _ (h.boxes o _ (List.getElem?_eq_getElem ho)).cellish
  have hhdr : ∀ r : Root, r.low st.boxes.length → hdr σ a w1 r = hdr σ a w r := fun r hr => by
    cases r with
    | slot t => rfl
    | part t i => rfl
    | cell o j => exact World.cell?_of_block (w := w) (a := ⟨σ o, j, none⟩) (hw _ (hbox o hr))
  refine ⟨h.size, fun t av v ht hv => ?_, fun o bx ho => ?_, fun b hb => ?_⟩
  · have hA := h.slots t av v ht hv
    cases av with
    | pv x => exact hp hA
    | row sz es => exact hrow hA
    | ref r off len => exact ⟨hA.1, fun sz es hr => by rw [hhdr r hA.1]; exact hA.2 sz es hr⟩
    | pbox o j => exact hA
    | pel r i j => exact ⟨hA.1, fun sz es hr => by rw [hhdr r hA.1]; exact hA.2 sz es hr⟩
    | fn f caps =>
      obtain ⟨arr, e1, e2, e3⟩ := hA
      refine ⟨arr, e1, e2, fun k x u hx hu => ?_⟩
      have := e3 k x u hx hu
      cases x with
      | pv p => exact hp this
      | _ => exact this
    | tup l =>
      obtain ⟨arr, e1, e2, e3⟩ := hA
      refine ⟨arr, e1, e2, fun k x u hx hu => ?_⟩
      have := e3 k x u hx hu
      cases x with
      | pv p => exact hp this
      | row sz es => exact hrow this
      | _ => exact this
    | yld => exact hA
    | any => trivial
  · have hb := hbox o (List.getElem?_eq_some_iff.1 ho).1
    obtain ⟨arr, E, g1, g2, g3, g4, g5⟩ := h.boxes o bx ho
    refine ⟨arr, E, (hw _ hb).trans g1, g2, by simp only [Go.Proofs.Ytpdfhckdmblicaa.drop, if_neg hb]; exact g3, g4, fun j bv u hj hu => ?_⟩
    obtain ⟨k1, k2⟩ := g5 j bv u hj hu
    refine ⟨k1, ?_⟩
    cases bv with
    | pv x => exact hp k2
    | row sz es => exact hrow k2
  · unfold Go.Proofs.Ytpdfhckdmblicaa.drop
    split
    · rfl
    · exact h.fresh b (by omega)

def outT (T : Tags) (K : Nat) : Tags := fun b => match T b with
  | .ro => .ro
  | .row (.part k i) => if k = K then .row (.part 0 i) else .other
  | _ => .other
theorem RK.out {i : Nat} {x : Res} {u : Value} (h : RK T w K i x u) : R1 (outT T K) w i x u := by
  have hp : ∀ {x v}, PRep (fun b => T b = .ro) w x v → PRep (fun b => outT T K b = .ro) w x v := fun h => h.frame fun b hb _ => ⟨by simp [outT, hb], rfl⟩
  have hrow : ∀ {sz es}, RowRep T w (.part K i) sz es u → RowRep (outT T K) w (.part 0 i) sz es u := fun h => RowRep.frame (fun b e _ => ⟨by simp [outT, e], rfl⟩) (fun b e _ => ⟨by simp [outT, e], rfl⟩) h
  obtain ⟨v, own⟩ := x
  cases v <;> cases own <;> first | exact hrow h | exact hp h

def fnOk (P : Program) (f : Nat) (fn : VFn) : Bool :=
  match P.funcs[f]? with
  | some g => (match g.body with
    | some c => mC P c fn.body
    | none => false) && g.name != "runtime.NumGoroutine" && g.ntmps == fn.ntmps && decide (fn.nargs ≤ fn.ntmps) && mResL P g.results.toList fn.results
  | none => false
theorem fnOk_eq {f : Nat} {fn : VFn} (h : fnOk P f fn = true) : callable P f = true ∧ ∃ g c, P.funcs[f]? = some g ∧ g.body = some c ∧ mC P c fn.body = true ∧ g.ntmps = fn.ntmps ∧ fn.nargs ≤ fn.ntmps ∧ mResL P g.results.toList fn.results = true := by
  unfold fnOk at h
  split at h
  case h_2 => cases h
  rename_i g hf
  simp only [Bool.and_eq_true, beq_iff_eq, bne_iff_ne, decide_eq_true_eq] at h
  obtain ⟨⟨⟨⟨h1, h2⟩, h3⟩, h4⟩, h5⟩ := h
  split at h1
  case h_2 => cases h1
  rename_i c hb
  exact ⟨by simp [callable, hf, h2, hb], g, c, hf, hb, h1, h3, h4, h5⟩
def EnvOk (P : Program) (env : Env) : Prop := ∀ f d, env f = some d → match d with
  | .code fn => fnOk P f fn = true
  | .ext g => ∀ args rs, g args = some rs → callable P f = true ∧ CallOk P f args rs

def plainJ (T0 : Tags) (w : World) : Nat → Tags → World → Prop := fun _ T w' => Below w.heap.size w w' ∧ ∀ b, b < w.heap.size → T b = T0 b
theorem plainJ_keep {T0 : Tags} (h0 : ∀ b, T0 b = .ro ∨ T0 b = .other) {k : Nat} {w w1 w2 : World} (hc : Chg T T' w1 w2) (h : plainJ T0 w k T w1) : plainJ T0 w k T' w2 := by
  obtain ⟨h1, h2⟩ := h
  refine ⟨h1.trans ⟨hc.os, hc.tape, hc.output, hc.size, fun b hb => hc.same b (Nat.lt_of_lt_of_le hb h1.size) ?_⟩, fun b hb => ?_⟩
  · rw [h2 b hb]; exact h0 b
  · rcases h0 b with e | e
    · rw [e]; exact hc.ro b (by rw [h2 b hb, e])
    · rw [e]; exact hc.other b (Nat.lt_of_lt_of_le hb h1.size) (by rw [h2 b hb, e])

theorem init_sim {T0 : Tags} {args : List PV} {vs : List Value} {n : Nat} (hf : ∀ b, w.heap.size ≤ b → T0 b = .other) (hl : vs.length = args.length) (hr : ∀ (i : Nat) x v, args[i]? = some x → vs[i]? = some v → PRep (fun b => T0 b = .ro) w x v) (ys : List (List PV)) (stop : Option (Option Nat)) :
    Sim L σ T0 ⟨args.map .pv ++ List.replicate (n - args.length) .any, [], ys, stop⟩ { tmps := vs.toArray ++ Array.replicate (n - vs.toArray.size) undef, defers := [] } w := by
  refine ⟨by simp [hl], fun t av v ht hv => ?_, fun o bx ho => by simp at ho, hf⟩
  simp only at ht hv
  rcases Nat.lt_or_ge t args.length with h | h
  · rw [List.getElem?_append_left (by simpa using h), List.getElem?_map, List.getElem?_eq_getElem h] at ht
    rw [Array.getElem?_append_left (by simpa [hl] using h)] at hv
    cases ht
    exact hr t _ v (List.getElem?_eq_getElem h) (by simpa using hv)
  · rw [List.getElem?_append_right (by simpa using h), List.getElem?_replicate] at ht
    split at ht
    · cases ht; trivial
    · cases ht

theorem code_call (hR : RecOk P rec) {f : Nat} {fn : VFn} {args : List PV} {rs : List Res} (hfn : fnOk P f fn = true) (hl : args.length = fn.nargs) {e : Ex} (he : ∀ i, e ≠ .exit i)
    (hb : rec fn.body ⟨args.map .pv ++ List.replicate (fn.ntmps - args.length) .any, [], [], none⟩ = some (e, st)) (hrs : resultsOf st fn.results = some rs) : CallOk P f args rs := by
  intro T0 w vs h0 hf hlen hr
  obtain ⟨_, g, c, k1, k2, k3, k4, k5, k6⟩ := fnOk_eq hfn
  refine (callsIn_wide (n := 0)).1 (callsIn_of_wp_marks k1 k2 trivial ?_)
  rw [k4]
  have hsim : Sim 0 (fun _ => 0) T0 ⟨args.map .pv ++ List.replicate (fn.ntmps - args.length) .any, [], [], none⟩ { tmps := vs.toArray ++ Array.replicate (fn.ntmps - vs.toArray.size) undef, defers := [] } w := init_sim hf hlen hr [] none
  have hC : Ctx.Ok ⟨st.ys, none, plainJ T0 w⟩ P 0 := ⟨fun k T T' w1 w2 hc h => plainJ_keep (k := k) h0 hc h, fun s k T w ps vs hs => by cases hs⟩
  have hJ : plainJ T0 w 0 T0 w := ⟨Below.refl _ _, fun _ _ => rfl⟩
  refine wpIn_mono (hR.wp (F := Fence.wide) (L := 0) (C := ⟨st.ys, none, plainJ T0 w⟩) (n := 0) (.inl rfl) (Ctx.rec_wide _) hC c fn.body _ e st k3 hb rfl (List.prefix_refl _) _ T0 _ w hsim hJ) ?_
  rintro x a' w' ⟨rfl, σ', T', ms, q1, q2, q3, q4, q5, q6⟩
  obtain ⟨p1, p2⟩ := q2
  have key : LeavesInM Fence.wide 0 P g a'.tmps (fun e w' => ∃ v T', e = .returned v ∧ Below w.heap.size w w' ∧ (∀ b, b < w.heap.size → T' b = T0 b) ∧ (∀ b, w'.heap.size ≤ b → T' b = .other) ∧ ResRep T' w' rs v) a'.defers .returning w' := by
    rw [q5, List.append_nil]
    refine leavesM_marks (B := w.heap.size) q6.2 (fun r hr => ⟨(q6.1 r hr).1, (q6.1 r hr).2.2⟩) fun w2 e1 e2 e3 e4 e5 => ?_
    have q1' := q1.drop (fun r hr ⟨arr, E, q, e⟩ => by rw [(q6.1 r hr).2.2] at e; cases e) e5 e4
    obtain ⟨us, T2, r1, r2, r3, r4, r5⟩ := results_ok q1' k6 hrs
    have hms : ∀ b, b < w.heap.size → b ∉ ms := fun b hb hm => by have := (q6.1 b hm).1; omega
    have hT2 : ∀ b, b < w.heap.size → T2 b = T0 b := fun b hb => by
      have e : drop T' ms b = T0 b := by simp only [drop, if_neg (hms b hb)]; exact p2 b hb
      rcases h0 b with e0 | e0
      · rw [e0]; exact r3.ro b (by rw [e, e0])
      · rw [e0]; exact r3.other b (by rw [e, e0])
    refine ⟨_, results_run r1, _, outT T2 st.slots.length, rfl, p1.trans ⟨e1, e2, e3, by omega, fun b hb => e5 b (hms b hb)⟩, fun b hb => ?_, fun b hb => ?_, us.toArray, by simpa using r2, rfl, fun i x u hx hu => (r5 i x u hx (by simpa using hu)).out⟩
    · simp only [outT, hT2 b hb]
      rcases h0 b with e0 | e0 <;> rw [e0]
    · simp only [outT, r4 b hb]
  cases e with
  | normal => exact key
  | ret => exact key
  | exit i => exact absurd rfl (he i)

theorem calls_ok (hR : RecOk P rec) (hE : EnvOk P env) : CallsOk P rec env := by
  intro f args rs h
  unfold callRes at h
  split at h
  · rename_i g hg
    exact hE f _ hg args rs h
  · rename_i fn hfn
    have hok : fnOk P f fn = true := hE f _ hfn
    split at h
    case isFalse => cases h
    rename_i hl
    replace h := bind_some h
    obtain ⟨⟨e, st⟩, h1, h⟩ := h
    simp only at h
    refine ⟨(fnOk_eq hok).1, ?_⟩
    split at h
    · cases h
    · rename_i hne
      exact code_call hR hok hl (fun i e => hne i e) h1 h
  · cases h
theorem iters_ok (hE : EnvOk P env) : ItersOk P env := fun f fn hfn => by
  have hok : fnOk P f fn = true := hE f _ hfn
  obtain ⟨k0, g, c, k1, k2, k3, k4, k5, k6⟩ := fnOk_eq hok
  refine ⟨k0, g, c, k1, k2, k3, k4, k5, fun he => ?_⟩
  have : fn.results = [] := by simpa using he
  rw [this] at k6
  have : g.results.toList = [] := by
    match h : g.results.toList, k6 with
    | [], _ => rfl
    | _ :: _, k6 => simp [mResL] at k6
  exact Array.toList_eq_nil_iff.1 this
theorem vm_ok (hE : EnvOk P env) : ∀ n, RecOk P (vm env n)
  | 0 => ⟨(fun _ _ _ _ _ _ h => by simp [vm] at h), (fun _ _ _ _ _ _ _ _ h => by simp [vm] at h), (fun _ _ _ _ _ _ _ _ _ h => by simp [vm] at h), (fun _ _ _ _ _ _ _ _ _ _ _ h => by simp [vm] at h)⟩
  | n + 1 => step_ok (vm_ok hE n) (iters_ok hE) (calls_ok (vm_ok hE n) hE)
theorem vmCall_ok (hE : EnvOk P env) {n f : Nat} {args : List PV} {rs : List Res} (h : vmCall env n f args = some rs) : callable P f = true ∧ CallOk P f args rs := calls_ok (vm_ok hE n) hE f args rs h
end
end Go.Proofs.Ytpdfhckdmblicaa

namespace Go.Proofs.Ytpdfhckdmblicaa

abbrev Rec := VCode → St → Option (Ex × St)
def RLe (f g : Rec) : Prop := ∀ c st r, f c st = some r → g c st = some r
open Classical in
noncomputable def den (env : Env) (c : VCode) (st : St) : Option (Ex × St) :=
  if h : ∃ n r, vm env n c st = some r then some (Classical.choose (Classical.choose_spec h)) else none

structure Good {α : Type} (env : Env) (F : Rec → Option α) : Prop where
  mono : ∀ f g, RLe f g → ∀ r, F f = some r → F g = some r
  cont : (∀ m n, m ≤ n → RLe (vm env m) (vm env n)) → ∀ r, F (den env) = some r → ∃ n, F (vm env n) = some r

section
variable {α β : Type} {env : Env}
theorem Good.const (x : Option α) : Good env (fun _ => x) := ⟨fun _ _ _ _ h => h, fun _ _ h => ⟨0, h⟩⟩
theorem Good.app (c : VCode) (st : St) : Good env (fun rec => rec c st) := ⟨fun _ _ h r => h c st r, fun _ r h => by
  unfold den at h
  split at h
  case isFalse => cases h
  rename_i hx
  cases h
  exact ⟨_, Classical.choose_spec (Classical.choose_spec hx)⟩⟩
theorem Good.bind {F : Rec → Option α} {G : α → Rec → Option β} (hF : Good env F) (hG : ∀ a, Good env (G a)) : Good env (fun rec => (F rec).bind fun a => G a rec) := ⟨fun f g h r e => by
  obtain ⟨a, h1, h2⟩ := Option.bind_eq_some_iff.1 e
  exact Option.bind_eq_some_iff.2 ⟨a, hF.mono f g h a h1, (hG a).mono f g h r h2⟩, fun hm r e => by
  obtain ⟨a, h1, h2⟩ := Option.bind_eq_some_iff.1 e
  obtain ⟨m, h3⟩ := hF.cont hm a h1
  obtain ⟨n, h4⟩ := (hG a).cont hm r h2
  exact ⟨max m n, Option.bind_eq_some_iff.2 ⟨a, hF.mono _ _ (hm m _ (Nat.le_max_left m n)) a h3, (hG a).mono _ _ (hm n _ (Nat.le_max_right m n)) r h4⟩⟩⟩
theorem Good.map {F : Rec → Option α} {g : α → β} (hF : Good env F) : Good env (fun rec => (F rec).map g) := by
  have := hF.bind (G := fun a _ => some (g a)) fun a => Good.const _
  refine ⟨fun f g' h r e => ?_, fun hm r e => ?_⟩
  · have := this.mono f g' h r (by simpa [Option.map_eq_bind, Function.comp_def] using e)
    simpa [Option.map_eq_bind, Function.comp_def] using this
  · obtain ⟨n, hn⟩ := this.cont hm r (by simpa [Option.map_eq_bind, Function.comp_def] using e)
    exact ⟨n, by simpa [Option.map_eq_bind, Function.comp_def] using hn⟩
theorem Good.callRes (f : Nat) (args : List PV) : Good env (fun rec => callRes rec env f args) := by
  unfold Go.Proofs.Ytpdfhckdmblicaa.callRes
  split
  · exact Good.const _
  · split
    · refine (Good.app _ _).bind fun a => ?_
      obtain ⟨e, st⟩ := a
      cases e <;> exact Good.const _
    · exact Good.const _
  · exact Good.const _
theorem Good.iterRes (f : Nat) (args : List PV) (s : Option Nat) : Good env (fun rec => iterRes rec env f args s) := by
  unfold Go.Proofs.Ytpdfhckdmblicaa.iterRes
  split
  · split
    · refine (Good.app _ _).bind fun a => ?_
      obtain ⟨e, st⟩ := a
      cases e <;> exact Good.const _
    · exact Good.const _
  · exact Good.const _
theorem Good.callOn (d f : Nat) (args : List Opd) (caps : List AV) (st : St) : Good env (fun rec => callOn rec env d f args caps st) := by
  unfold Go.Proofs.Ytpdfhckdmblicaa.callOn
  exact (Good.const _).bind fun l => (Good.const _).bind fun k => (Good.callRes f _).bind fun rs => Good.const _
theorem Good.act (o : VOp) (st : St) : Good env (fun rec => act rec env o st) := by
  cases o
  case call d f args => exact Good.callOn d f args [] st
  case callv d x args =>
    unfold Go.Proofs.Ytpdfhckdmblicaa.act
    simp only
    split
    · exact Good.callOn _ _ _ _ _
    · exact Good.callOn _ _ _ _ _
    · exact Good.const _
  all_goals exact Good.const _
theorem Good.op1 (o : VOp) (st : St) : Good env (fun rec => op1 rec env o st) := by
  unfold Go.Proofs.Ytpdfhckdmblicaa.op1
  split
  · exact Good.act o st
  · exact Good.const _
theorem Good.op (o : VOp) (st : St) : Good env (fun rec => op rec env o st) := by
  unfold Go.Proofs.Ytpdfhckdmblicaa.op
  split
  · split
    · split
      · exact Good.op1 _ _
      · exact Good.const _
    · exact Good.const _
    · exact Good.const _
  · exact Good.op1 _ _
theorem Good.ops : ∀ (l : List VOp) (st : St), Good env (fun rec => ops rec env l st)
  | [], st => Good.const _
  | o :: l, st => (Good.op o st).bind fun st => Good.ops l st
theorem Good.rounds (slots : List AV) (ps : List Nat) (assign body : VCode) (nb : Nat) : ∀ (xs : List (List PV)) (k : Nat) (st : St), Good env (fun rec => rounds rec slots ps assign body nb k xs st)
  | [], k, st => by unfold Go.Proofs.Ytpdfhckdmblicaa.rounds; exact Good.const _
  | x :: xs, k, st => by
    unfold Go.Proofs.Ytpdfhckdmblicaa.rounds
    refine (Good.const _).bind fun sl => (Good.app _ _).bind fun a => ?_
    obtain ⟨e, st⟩ := a
    cases e
    case normal =>
      refine (Good.app _ _).bind fun a => ?_
      obtain ⟨e, st⟩ := a
      cases e
      case normal =>
        simp only
        split
        · exact Good.rounds slots ps assign body nb xs (k + 1) _
        · exact Good.const _
      all_goals exact Good.const _
    all_goals exact Good.const _
theorem Good.ranged (g : Opd) (ps : List Nat) (assign body : VCode) (st : St) : Good env (fun rec => ranged rec env g ps assign body st) := by
  unfold Go.Proofs.Ytpdfhckdmblicaa.ranged
  refine (Good.const _).bind fun v => ?_
  cases v <;> try exact Good.const _
  simp only
  refine (Good.iterRes _ _ _).bind fun xs => (Good.rounds _ _ _ _ _ _ _ _).bind fun r => ?_
  obtain ⟨r, st1⟩ := r
  cases r with
  | none => exact Good.const _
  | some p =>
    obtain ⟨e, k⟩ := p
    refine (Good.iterRes _ _ _).bind fun xs => (Good.rounds _ _ _ _ _ _ _ _).bind fun r => ?_
    obtain ⟨r, st1⟩ := r
    cases r <;> exact Good.const _
theorem Good.step (c : VCode) (st : St) : Good env (fun rec => step rec env c st) := by
  cases c
  case ops l => exact (Good.ops l st).map
  case drw fz _ _ _ l => exact (Good.ops l (fz.foldl St.freezeAt st)).map
  case seq a b =>
    refine (Good.app _ _).bind fun x => ?_
    obtain ⟨e, st⟩ := x
    cases e
    case normal => exact Good.app _ _
    all_goals exact Good.const _
  case cond c a b =>
    refine (Good.const _).bind fun v => ?_
    cases v <;> try exact Good.const _
    simp only
    split
    · exact Good.app _ _
    · exact Good.app _ _
  case block i a =>
    refine (Good.app _ _).bind fun x => ?_
    obtain ⟨e, st⟩ := x
    exact Good.const _
  case loop => exact Good.app _ _
  case round keep nb a =>
    refine (Good.const _).bind fun s => (Good.app _ _).bind fun x => ?_
    obtain ⟨e, st⟩ := x
    cases e
    case normal => exact Good.app _ _
    all_goals exact Good.const _
  case rng g ps assign body => exact Good.ranged g ps assign body st
  case clean pre post a =>
    refine (Good.const _).bind fun s => (Good.app _ _).bind fun x => ?_
    obtain ⟨e, st⟩ := x
    exact Good.const _
  all_goals exact Good.const _

theorem vm_succ (env : Env) : ∀ n, RLe (vm env n) (vm env (n + 1))
  | 0, c, st, r, h => by simp [vm] at h
  | n + 1, c, st, r, h => (Good.step (env := env) c st).mono _ _ (vm_succ env n) r h
theorem vm_le (env : Env) (m n : Nat) (h : m ≤ n) : RLe (vm env m) (vm env n) := by
  induction h with
  | refl => exact fun _ _ _ h => h
  | step _ ih => exact fun c st r h => vm_succ env _ c st r (ih c st r h)
theorem den_of_vm {n : Nat} {c : VCode} {st : St} {r : Ex × St} (h : vm env n c st = some r) : den env c st = some r := by
  have hx : ∃ n r, vm env n c st = some r := ⟨n, r, h⟩
  unfold den
  rw [dif_pos hx]
  have h2 := Classical.choose_spec (Classical.choose_spec hx)
  have h3 := vm_le env _ _ (Nat.le_max_left n (Classical.choose hx)) c st r h
  have h4 := vm_le env _ _ (Nat.le_max_right n (Classical.choose hx)) c st _ h2
  rw [h3] at h4
  exact h4.symm
theorem vm_of_den {c : VCode} {st : St} {r : Ex × St} (h : den env c st = some r) : ∃ n, vm env n c st = some r :=
  (Good.app c st).cont (vm_le env) r h
theorem vm_den (env : Env) (n : Nat) : RLe (vm env n) (den env) := fun _ _ _ h => den_of_vm h
theorem den_eq (env : Env) (c : VCode) (st : St) : den env c st = step (den env) env c st := by
  apply Option.ext
  intro r
  constructor
  · intro h
    obtain ⟨n, hn⟩ := vm_of_den h
    cases n with
    | zero => simp [vm] at hn
    | succ n => exact (Good.step c st).mono _ _ (vm_den env n) r hn
  · intro h
    obtain ⟨n, hn⟩ := (Good.step c st).cont (vm_le env) r h
    exact den_of_vm (n := n + 1) hn
noncomputable def cal (env : Env) (f : Nat) (args : List PV) : Option (List Res) := callRes (den env) env f args
theorem vmCall_of_cal {f : Nat} {args : List PV} {rs : List Res} (h : cal env f args = some rs) : ∃ n, vmCall env n f args = some rs :=
  (Good.callRes (env := env) f args).cont (vm_le env) rs h
theorem cal_of_vmCall {n f : Nat} {args : List PV} {rs : List Res} (h : vmCall env n f args = some rs) : cal env f args = some rs :=
  (Good.callRes (env := env) f args).mono _ _ (vm_den env n) rs h
end
end Go.Proofs.Ytpdfhckdmblicaa

namespace Go.Proofs.Ytpdfhckdmblicaa
open Go.RowKit Go.ChangeShapes Go.WideShapes Go.ChangeAt
set_option linter.all false

theorem resrep_true {T : Tags} {w : World} {b : Bool} {v : Value} (h : ResRep T w [(.bool b, false)] v) : v = .bool b := by
  obtain ⟨arr, h1, h2, h3⟩ := h
  have ha : arr.size = 1 := h1
  have e0 : arr[0]? = some arr[0] := Array.getElem?_eq_getElem (by omega)
  have hv : v = arr[0] := by rw [h2, if_pos ha, Array.getD_eq_getD_getElem?, e0]; rfl
  have hr : PRep (fun b => T b = .ro) w (.bool b) arr[0] := h3 0 (.bool b, false) arr[0] rfl e0
  rw [hv]
  exact hr.bool_inv
theorem calls_true {P : Program} {env : Env} {f : Nat} {args : List PV} {vs : List Value} {w : World} (hE : EnvOk P env) (h : cal env f args = some [(.bool true, false)]) (hl : vs.length = args.length)
    (hr : ∀ (i : Nat) x v, args[i]? = some x → vs[i]? = some v → PRep (fun b => b < w.heap.size) w x v) : Calls P f vs.toArray w (fun e w' => e = .returned (.bool true) ∧ Below w.heap.size w w') := by
  obtain ⟨n, hn⟩ := vmCall_of_cal h
  have hC := (vmCall_ok hE hn).2 (fun b => if b < w.heap.size then .ro else .other) w vs (fun b => by
    by_cases hb : b < w.heap.size
    · exact .inl (if_pos hb)
    · exact .inr (if_neg hb)) (fun b hb => if_neg (by omega)) hl (fun i x v hx hv => (hr i x v hx hv).frame fun b hb _ => ⟨if_pos hb, rfl⟩)
  refine hC.mono ?_
  rintro e w' ⟨v, T', rfl, h1, _, _, h2⟩
  exact ⟨by rw [resrep_true h2], h1⟩

def RepAll (w : World) : List PV → List Value → Prop
  | [], [] => True
  | x :: xs, v :: vs => PRep (fun b => b < w.heap.size) w x v ∧ RepAll w xs vs
  | _, _ => False
theorem RepAll.get {w : World} : ∀ {xs : List PV} {vs : List Value}, RepAll w xs vs → vs.length = xs.length ∧ ∀ (i : Nat) x v, xs[i]? = some x → vs[i]? = some v → PRep (fun b => b < w.heap.size) w x v
  | [], [], _ => ⟨rfl, fun i x v hx => by simp at hx⟩
  | x :: xs, v :: vs, h => by
    obtain ⟨h1, h2⟩ := h
    obtain ⟨k1, k2⟩ := h2.get
    refine ⟨by simp [k1], fun i y u hy hu => ?_⟩
    cases i with
    | zero => cases hy; cases hu; exact h1
    | succ i => exact k2 i y u hy hu
  | [], _ :: _, h => h.elim
  | _ :: _, [], h => h.elim
theorem calls_all {P : Program} {env : Env} {f : Nat} {args : List PV} {vs : List Value} {w : World} (hE : EnvOk P env) (h : cal env f args = some [(.bool true, false)]) (hr : RepAll w args vs) : Calls P f vs.toArray w (fun e w' => e = .returned (.bool true) ∧ Below w.heap.size w w') :=
  calls_true hE h hr.get.1 hr.get.2
def CRep (w : World) (cs : List Value) (ps : List PV) : Prop :=
  cs.length = ps.length ∧ (∀ c ∈ cs, c.oneCell' = true) ∧ ∀ (j : Nat) x v, ps[j]? = some x → cs[j]? = some v → PRep (fun b => b < w.heap.size) w x v
def RdsC (P : Program) (t : TypeId) (n : Nat) (S : List PV → Prop) : Prop :=
  P.cellsOf t = n ∧ ∀ {H : Type} {enc : TypeId × Value → H} {w : World} {fuel : Nat} {cs : List Value} {x : DataW H × List MemPlace}, DataW.trod enc P w 0 (fun _ => true) true fuel t cs = some x → ∃ ps, S ps ∧ ps.length = n ∧ CRep w cs ps
def SInt (k : IntKind) (ps : List PV) : Prop := ∃ n, (Lit.int k n).wf = true ∧ ps = [.int k n]
def SBool (ps : List PV) : Prop := ∃ b, ps = [.bool b]
def SStr (ps : List PV) : Prop := ∃ b, ps = [.str b]
def SArr (n : Nat) (S : List PV → Prop) (ps : List PV) : Prop := ps.length = n ∧ ∀ p ∈ ps, S [p]
def wrS (ps : List PV) : PV := ps.headD .void
def SList (n : Nat) (S : List PV → Prop) (wr : List PV → PV) (ps : List PV) : Prop := ∃ es, ps = [.list n es] ∧ ∀ x ∈ es, ∃ q, S q ∧ x = wr q
def SCat : List (List PV → Prop) → List PV → Prop
  | [], ps => ps = []
  | S :: Ss, ps => ∃ p q, ps = p ++ q ∧ S p ∧ SCat Ss q

section
variable {P : Program} {t e : TypeId} {n m : Nat} {S : List PV → Prop} {k : IntKind}
theorem crep_one {w : World} {c : Value} {p : PV} (hc : c.oneCell' = true) (h : PRep (fun b => b < w.heap.size) w p c) : CRep w [c] [p] :=
  ⟨rfl, fun x hx => by rw [List.mem_singleton.1 hx]; exact hc, fun j x v hx hv => by
    cases j with
    | zero => cases hx; cases hv; exact h
    | succ j => simp at hx⟩
theorem RdsC.int (ht : P.underlying t = some (.int k)) (hc : P.cellsOf t = 1) : RdsC P t 1 (SInt k) := ⟨hc, fun h => by
  obtain ⟨n, rfl, _, hw⟩ := DataW.trod_int ht h
  exact ⟨[.int k n], ⟨n, hw, rfl⟩, rfl, crep_one rfl (.int k n)⟩⟩
theorem RdsC.bool (ht : P.underlying t = some .bool) (hc : P.cellsOf t = 1) : RdsC P t 1 SBool := ⟨hc, fun h => by
  obtain ⟨b, rfl, _⟩ := DataW.trod_bool ht h
  exact ⟨[.bool b], ⟨b, rfl⟩, rfl, crep_one rfl (.bool b)⟩⟩
theorem each_pick {α : Type} {p : Nat → α → Prop} : ∀ n : Nat, (∀ i, i < n → ∃ y, p i y) → ∃ l : List α, l.length = n ∧ ∀ i x, l[i]? = some x → p i x
  | 0, _ => ⟨[], rfl, fun i x h => by simp at h⟩
  | n + 1, h => by
    obtain ⟨l, h1, h2⟩ := each_pick n fun i hi => h i (by omega)
    obtain ⟨y, hy⟩ := h n (by omega)
    refine ⟨l ++ [y], by simp [h1], fun i x hx => ?_⟩
    by_cases hi : i < n
    · rw [List.getElem?_append_left (by omega)] at hx; exact h2 i x hx
    · have := (List.getElem?_eq_some_iff.1 hx).1
      obtain rfl : i = n := by simp at this; omega
      rw [List.getElem?_append_right (by omega), h1, Nat.sub_self] at hx
      cases hx
      exact hy
theorem RdsC.arr (ht : P.underlying t = some (.array n e)) (he : RdsC P e 1 S) (hc : P.cellsOf t = n) : RdsC P t n (SArr n S) := ⟨hc, fun {H enc w fuel cs x} h => by
  obtain ⟨xs, m, _, _, hl, hx, hE⟩ := DataW.trod_array ht h
  rw [hc] at hl
  obtain ⟨l, h1, h2⟩ := each_pick (p := fun i (b : PV) => S [b] ∧ ∃ c, cs[i]? = some c ∧ c.oneCell' = true ∧ PRep (fun b => b < w.heap.size) w b c) n fun i hi => by
    have := hE i hi
    rw [List.getElem?_eq_getElem (by omega), he.1] at this
    obtain ⟨ps, g1, g2, g3, g4, g5⟩ := he.2 this
    match ps, g2 with
    | [p], _ =>
      have hci : cs[i]? = some cs[i] := List.getElem?_eq_getElem (by omega)
      have h0 : ((cs.drop (i * 1)).take 1)[0]? = some cs[i] := by
        rw [List.getElem?_take, if_pos (by decide), List.getElem?_drop]
        simpa using hci
      exact ⟨p, g1, cs[i], hci, g4 _ (List.mem_of_getElem? h0), g5 0 p _ rfl h0⟩
  refine ⟨l, ⟨h1, fun p hp => ?_⟩, h1, by omega, fun c hc => ?_, fun j x v hx hv => ?_⟩
  · obtain ⟨i, hi⟩ := List.mem_iff_getElem?.1 hp
    exact (h2 i p hi).1
  · obtain ⟨i, hi⟩ := List.mem_iff_getElem?.1 hc
    have hil : i < l.length := by
      have := (List.getElem?_eq_some_iff.1 hi).1
      omega
    obtain ⟨_, c', e1, e2, _⟩ := h2 i l[i] (List.getElem?_eq_getElem hil)
    rw [hi] at e1; cases e1; exact e2
  · obtain ⟨_, c', e1, _, e3⟩ := h2 j x hx
    rw [hv] at e1; cases e1; exact e3⟩
theorem cellish_of {w : World} {b off : Nat} {v : Value} (h : w.cell? ⟨b, off, none⟩ = some v) : Cellish w b := by
  unfold World.cell? at h
  split at h
  · rename_i arr E q hb
    exact ⟨arr, E, q, hb⟩
  · cases h
theorem RdsC.list {wr : List PV → PV} (ht : P.underlying t = some (.slice e)) (hc : P.cellsOf t = 1) (hr : RdsC P e n S) (hpos : 0 < n) (hw : ∀ ps, S ps → ps.length = n → (wr ps).cells = ps) : RdsC P t 1 (SList n S wr) := ⟨hc, fun {H enc w fuel cs x} h => by
  rcases DataW.trod_slice ht h with ⟨rfl, _⟩ | ⟨a, len, cap, elems, rest, m, _, rfl, _, _, hl, hm, hel, hE, hR, _⟩
  · exact ⟨[.list n []], ⟨[], rfl, fun x hx => by cases hx⟩, rfl, crep_one rfl (.nil n none)⟩
  · obtain ⟨l, h1, h2⟩ := each_pick (p := fun i (y : List Value × List PV) => w.cells? 0 (a.add (i * n)) n = some y.1 ∧ S y.2 ∧ y.2.length = n ∧ CRep w y.1 y.2) len fun i hi => by
      have := hE i hi
      rw [List.getElem?_eq_getElem (by omega), hr.1, Option.bind_eq_some_iff] at this
      obtain ⟨c, h3, h4⟩ := this
      obtain ⟨ps, g1, g2, g3⟩ := hr.2 h4
      exact ⟨(c, ps), h3, g1, g2, g3⟩
    refine ⟨[.list n (l.map fun y => wr y.2)], ⟨_, rfl, fun x hx => ?_⟩, rfl, crep_one rfl ?_⟩
    · obtain ⟨y, hy, rfl⟩ := List.mem_map.1 hx
      obtain ⟨i, hi⟩ := List.mem_iff_getElem?.1 hy
      exact ⟨y.2, (h2 i y hi).2.1, rfl⟩
    · by_cases hcap : cap = 0
      · have : len = 0 := by omega
        subst hcap; subst this
        have : l = [] := List.eq_nil_of_length_eq_zero h1
        subst this
        exact .nil n (some a)
      · -- there are cells
        have hcell : ∃ off v, w.cell? ⟨a.block, off, none⟩ = some v ∧ a.spot = none := by
          have fromc : ∀ (i : Nat) (c : List Value), w.cells? 0 (a.add (i * n)) n = some c → ∃ off v, w.cell? ⟨a.block, off, none⟩ = some v ∧ a.spot = none := fun i c h3 => by
            obtain ⟨_, hc0, h4⟩ := World.cells?_some h3
            have h5 := h4 0 hpos
            rw [List.getElem?_eq_getElem (by omega)] at h5
            have hs : (a.add (i * n)).spot = none := by simpa [Addr.add] using World.cell?_spot h5
            have hs0 : a.spot = none := by
              unfold Addr.add at hs
              split at hs
              · exact hs
              · rename_i hne
                by_cases h0 : i * n = 0
                · rename_i q; exact absurd h0 (by simpa using hne)
                · rcases Nat.eq_zero_or_pos i with hi0 | hi0
                  · subst hi0; simp at h0
                  · -- the row begins at a: its first cell
                    have : 0 < len ∨ len = 0 := by omega
                    rcases this with hlen | hlen
                    · obtain ⟨y, hy⟩ : ∃ y, l[0]? = some y := ⟨l[0], List.getElem?_eq_getElem (by omega)⟩
                      obtain ⟨_, hc1, h6⟩ := World.cells?_some (h2 0 y hy).1
                      have h7 := h6 0 hpos
                      rw [List.getElem?_eq_getElem (by omega)] at h7
                      simpa [Addr.add] using World.cell?_spot h7
                    · have hrl : 0 < rest.length := by have := (hR rfl).1; omega
                      have := (hR rfl).2 0 (by omega)
                      have h8 : rest[0]? = some rest[0] := List.getElem?_eq_getElem hrl
                      rw [h8, hr.1, hlen, Option.bind_eq_some_iff] at this
                      obtain ⟨c1, h9, _⟩ := this
                      obtain ⟨_, hc1, h6⟩ := World.cells?_some h9
                      have h7 := h6 0 hpos
                      rw [List.getElem?_eq_getElem (by omega)] at h7
                      simpa [Addr.add] using World.cell?_spot h7
            obtain ⟨b, off, spot⟩ := a
            simp only at hs0
            subst hs0
            rw [Addr.add_lit, Addr.add_lit] at h5
            exact ⟨_, _, h5, rfl⟩
          rcases Nat.eq_zero_or_pos len with hlen | hlen
          · have hrl : 0 < rest.length := by have := (hR rfl).1; omega
            have := (hR rfl).2 0 (by omega)
            have h8 : rest[0]? = some rest[0] := List.getElem?_eq_getElem hrl
            rw [h8, hr.1, Option.bind_eq_some_iff] at this
            obtain ⟨c1, h9, _⟩ := this
            exact fromc _ c1 h9
          · obtain ⟨y, hy⟩ : ∃ y, l[0]? = some y := ⟨l[0], List.getElem?_eq_getElem (by omega)⟩
            exact fromc 0 _ (h2 0 y hy).1
        obtain ⟨off0, v0, hv0, hspot⟩ := hcell
        obtain ⟨b, off, spot⟩ := a
        simp only at hspot hv0
        subst hspot
        have hC : Cellish w b := cellish_of hv0
        have hget : ∀ (i : Nat) x, (l.map fun y => wr y.2)[i]? = some x → ∃ y, l[i]? = some y ∧ x = wr y.2 := fun i x hx => by
          rw [List.getElem?_map] at hx
          cases e : l[i]? with
          | none => rw [e] at hx; cases hx
          | some y => rw [e] at hx; exact ⟨y, rfl, (Option.some.inj hx).symm⟩
        have hlen : (l.map fun y => wr y.2).length = len := by simp [h1]
        have := PRep.list (ok := fun b => b < w.heap.size) (w := w) n (l.map fun y => wr y.2) b off cap (fun i j => (((l[i]?).map (·.1)).getD []).getD j default) hC.lt hC (by rw [hlen]; exact hl) hm
          (fun x hx => by
            obtain ⟨i, hi⟩ := List.mem_iff_getElem?.1 hx
            obtain ⟨y, hy, rfl⟩ := hget i x hi
            obtain ⟨_, g1, g2, _⟩ := h2 i y hy
            rw [hw _ g1 g2, g2])
          (fun i x j p hi hj => by
            obtain ⟨y, hy, rfl⟩ := hget i x hi
            obtain ⟨g0, g1, g2, g3, g4, g5⟩ := h2 i y hy
            rw [hw _ g1 g2] at hj
            have hjn : j < n := by have := (List.getElem?_eq_some_iff.1 hj).1; omega
            obtain ⟨_, hc1, h6⟩ := World.cells?_some g0
            have h7 := h6 j hjn
            have hcj : y.1[j]? = some y.1[j] := List.getElem?_eq_getElem (by omega)
            have hd : (((l[i]?).map (·.1)).getD []).getD j default = y.1[j] := by
              rw [hy]; simp [List.getD_eq_getElem?_getD, hcj]
            rw [hd]
            rw [hcj, Addr.add_lit, Addr.add_lit] at h7
            exact ⟨h7, g4 _ (List.mem_of_getElem? hcj)⟩)
          (fun i x j p hi hj => by
            obtain ⟨y, hy, rfl⟩ := hget i x hi
            obtain ⟨g0, g1, g2, g3, g4, g5⟩ := h2 i y hy
            rw [hw _ g1 g2] at hj
            have hjn : j < n := by have := (List.getElem?_eq_some_iff.1 hj).1; omega
            have hcj : y.1[j]? = some y.1[j] := List.getElem?_eq_getElem (by omega)
            have hd : (((l[i]?).map (·.1)).getD []).getD j default = y.1[j] := by
              rw [hy]; simp [List.getD_eq_getElem?_getD, hcj]
            rw [hd]
            exact g5 j p _ hj hcj)
        rw [hlen] at this
        exact this⟩
theorem CRep.append {w : World} {c1 c2 : List Value} {p1 p2 : List PV} (h1 : CRep w c1 p1) (h2 : CRep w c2 p2) : CRep w (c1 ++ c2) (p1 ++ p2) := by
  obtain ⟨a1, a2, a3⟩ := h1
  obtain ⟨b1, b2, b3⟩ := h2
  refine ⟨by simp [a1, b1], fun c hc => ?_, fun j x v hx hv => ?_⟩
  · rcases List.mem_append.1 hc with h | h
    · exact a2 c h
    · exact b2 c h
  · by_cases hj : j < p1.length
    · rw [List.getElem?_append_left hj] at hx
      rw [List.getElem?_append_left (by omega)] at hv
      exact a3 j x v hx hv
    · rw [List.getElem?_append_right (by omega)] at hx
      rw [List.getElem?_append_right (by omega), a1] at hv
      exact b3 _ x v hx hv
inductive Flds (P : Program) : Nat → List Field → List (List PV → Prop) → Nat → Prop
  | nil (o : Nat) : Flds P o [] [] 0
  | cons {o n m : Nat} {f : Field} {fs : List Field} {S : List PV → Prop} {Ss : List (List PV → Prop)} : f.offset = o → RdsC P f.type n S → Flds P (o + n) fs Ss m → Flds P o (f :: fs) (S :: Ss) (n + m)
theorem Flds.read {o : Nat} {fs : List Field} {Ss : List (List PV → Prop)} (h : Flds P o fs Ss m) {H : Type} {enc : TypeId × Value → H} {w : World} {fuel : Nat} {cs : List Value} {xs : List (DataW H × List MemPlace)} (hl : cs.length = o + m)
    (hx : ∀ (i : Nat) (f : Field), fs[i]? = some f → ∃ x, DataW.trod enc P w 0 (fun _ => true) true fuel f.type ((cs.drop f.offset).take (P.cellsOf f.type)) = some x) : ∃ ps, SCat Ss ps ∧ ps.length = m ∧ CRep w (cs.drop o) ps := by
  induction h with
  | nil o => exact ⟨[], rfl, rfl, by rw [List.drop_of_length_le (by omega)]; exact (⟨rfl, fun c hc => (by cases hc), fun j x v hx => (by simp at hx)⟩ : CRep w [] [])⟩
  | @cons o n m f fs S Ss h1 h2 h3 ih =>
    obtain ⟨x, h4⟩ := hx 0 f rfl
    rw [h2.1, h1] at h4
    obtain ⟨p, g1, g2, g3⟩ := h2.2 h4
    obtain ⟨q, k1, k2, k3⟩ := ih (by omega) (fun i f hf => hx (i + 1) f hf)
    refine ⟨p ++ q, ⟨p, q, rfl, g1, k1⟩, by simp [g2, k2], ?_⟩
    have : cs.drop o = (cs.drop o).take n ++ cs.drop (o + n) := by rw [← List.drop_drop, List.take_append_drop]
    rw [this]
    exact g3.append k3
theorem RdsC.struct {fs : Array Field} {Ss : List (List PV → Prop)} (ht : P.underlying t = some (.struct fs)) (hf : Flds P 0 fs.toList Ss n) (hc : P.cellsOf t = n) : RdsC P t n (SCat Ss) := ⟨hc, fun {H enc w fuel cs x} h => by
  obtain ⟨xs, m, _, _, hl, hx, hE⟩ := DataW.trod_struct ht h
  obtain ⟨ps, h1, h2, h3⟩ := hf.read (xs := xs) (enc := enc) (w := w) (fuel := m) (cs := cs) (by omega) (fun i f hi => by
    have hi' : fs[i]? = some f := by simpa using hi
    have := hE i f hi'
    have hil : i < xs.length := by rw [hx]; exact (Array.getElem?_eq_some_iff.1 hi').1
    exact ⟨xs[i], by rw [this, List.getElem?_eq_getElem hil]⟩)
  exact ⟨ps, h1, h2, by simpa using h3⟩⟩

theorem RdsC.struct1 {f0 : Field} {n0 : Nat} {S0 : List PV → Prop} (ht : P.underlying t = some (.struct #[f0])) (h0 : RdsC P f0.type n0 S0) (o0 : f0.offset = 0) (hc : P.cellsOf t = n0 + 0) : RdsC P t (n0 + 0) (SCat [S0]) :=
  RdsC.struct ht (show Flds P 0 [f0] [S0] (n0 + 0) from .cons o0 h0 (.nil _)) hc
theorem RdsC.struct2 {f0 f1 : Field} {n0 n1 : Nat} {S0 S1 : List PV → Prop} (ht : P.underlying t = some (.struct #[f0, f1])) (h0 : RdsC P f0.type n0 S0) (h1 : RdsC P f1.type n1 S1) (o0 : f0.offset = 0) (o1 : f1.offset = 0 + n0) (hc : P.cellsOf t = n0 + (n1 + 0)) : RdsC P t (n0 + (n1 + 0)) (SCat [S0, S1]) :=
  RdsC.struct ht (show Flds P 0 [f0, f1] [S0, S1] (n0 + (n1 + 0)) from .cons o0 h0 (.cons o1 h1 (.nil _))) hc
theorem RdsC.struct3 {f0 f1 f2 : Field} {n0 n1 n2 : Nat} {S0 S1 S2 : List PV → Prop} (ht : P.underlying t = some (.struct #[f0, f1, f2])) (h0 : RdsC P f0.type n0 S0) (h1 : RdsC P f1.type n1 S1) (h2 : RdsC P f2.type n2 S2) (o0 : f0.offset = 0) (o1 : f1.offset = 0 + n0) (o2 : f2.offset = 0 + n0 + n1) (hc : P.cellsOf t = n0 + (n1 + (n2 + 0))) : RdsC P t (n0 + (n1 + (n2 + 0))) (SCat [S0, S1, S2]) :=
  RdsC.struct ht (show Flds P 0 [f0, f1, f2] [S0, S1, S2] (n0 + (n1 + (n2 + 0))) from .cons o0 h0 (.cons o1 h1 (.cons o2 h2 (.nil _)))) hc
theorem RdsC.struct4 {f0 f1 f2 f3 : Field} {n0 n1 n2 n3 : Nat} {S0 S1 S2 S3 : List PV → Prop} (ht : P.underlying t = some (.struct #[f0, f1, f2, f3])) (h0 : RdsC P f0.type n0 S0) (h1 : RdsC P f1.type n1 S1) (h2 : RdsC P f2.type n2 S2) (h3 : RdsC P f3.type n3 S3) (o0 : f0.offset = 0) (o1 : f1.offset = 0 + n0) (o2 : f2.offset = 0 + n0 + n1) (o3 : f3.offset = 0 + n0 + n1 + n2) (hc : P.cellsOf t = n0 + (n1 + (n2 + (n3 + 0)))) : RdsC P t (n0 + (n1 + (n2 + (n3 + 0)))) (SCat [S0, S1, S2, S3]) :=
  RdsC.struct ht (show Flds P 0 [f0, f1, f2, f3] [S0, S1, S2, S3] (n0 + (n1 + (n2 + (n3 + 0)))) from .cons o0 h0 (.cons o1 h1 (.cons o2 h2 (.cons o3 h3 (.nil _))))) hc
theorem RdsC.struct5 {f0 f1 f2 f3 f4 : Field} {n0 n1 n2 n3 n4 : Nat} {S0 S1 S2 S3 S4 : List PV → Prop} (ht : P.underlying t = some (.struct #[f0, f1, f2, f3, f4])) (h0 : RdsC P f0.type n0 S0) (h1 : RdsC P f1.type n1 S1) (h2 : RdsC P f2.type n2 S2) (h3 : RdsC P f3.type n3 S3) (h4 : RdsC P f4.type n4 S4) (o0 : f0.offset = 0) (o1 : f1.offset = 0 + n0) (o2 : f2.offset = 0 + n0 + n1) (o3 : f3.offset = 0 + n0 + n1 + n2) (o4 : f4.offset = 0 + n0 + n1 + n2 + n3) (hc : P.cellsOf t = n0 + (n1 + (n2 + (n3 + (n4 + 0))))) : RdsC P t (n0 + (n1 + (n2 + (n3 + (n4 + 0))))) (SCat [S0, S1, S2, S3, S4]) :=
  RdsC.struct ht (show Flds P 0 [f0, f1, f2, f3, f4] [S0, S1, S2, S3, S4] (n0 + (n1 + (n2 + (n3 + (n4 + 0))))) from .cons o0 h0 (.cons o1 h1 (.cons o2 h2 (.cons o3 h3 (.cons o4 h4 (.nil _)))))) hc
theorem RdsC.struct6 {f0 f1 f2 f3 f4 f5 : Field} {n0 n1 n2 n3 n4 n5 : Nat} {S0 S1 S2 S3 S4 S5 : List PV → Prop} (ht : P.underlying t = some (.struct #[f0, f1, f2, f3, f4, f5])) (h0 : RdsC P f0.type n0 S0) (h1 : RdsC P f1.type n1 S1) (h2 : RdsC P f2.type n2 S2) (h3 : RdsC P f3.type n3 S3) (h4 : RdsC P f4.type n4 S4) (h5 : RdsC P f5.type n5 S5) (o0 : f0.offset = 0) (o1 : f1.offset = 0 + n0) (o2 : f2.offset = 0 + n0 + n1) (o3 : f3.offset = 0 + n0 + n1 + n2) (o4 : f4.offset = 0 + n0 + n1 + n2 + n3) (o5 : f5.offset = 0 + n0 + n1 + n2 + n3 + n4) (hc : P.cellsOf t = n0 + (n1 + (n2 + (n3 + (n4 + (n5 + 0)))))) : RdsC P t (n0 + (n1 + (n2 + (n3 + (n4 + (n5 + 0)))))) (SCat [S0, S1, S2, S3, S4, S5]) :=
  RdsC.struct ht (show Flds P 0 [f0, f1, f2, f3, f4, f5] [S0, S1, S2, S3, S4, S5] (n0 + (n1 + (n2 + (n3 + (n4 + (n5 + 0)))))) from .cons o0 h0 (.cons o1 h1 (.cons o2 h2 (.cons o3 h3 (.cons o4 h4 (.cons o5 h5 (.nil _))))))) hc
theorem RdsC.struct7 {f0 f1 f2 f3 f4 f5 f6 : Field} {n0 n1 n2 n3 n4 n5 n6 : Nat} {S0 S1 S2 S3 S4 S5 S6 : List PV → Prop} (ht : P.underlying t = some (.struct #[f0, f1, f2, f3, f4, f5, f6])) (h0 : RdsC P f0.type n0 S0) (h1 : RdsC P f1.type n1 S1) (h2 : RdsC P f2.type n2 S2) (h3 : RdsC P f3.type n3 S3) (h4 : RdsC P f4.type n4 S4) (h5 : RdsC P f5.type n5 S5) (h6 : RdsC P f6.type n6 S6) (o0 : f0.offset = 0) (o1 : f1.offset = 0 + n0) (o2 : f2.offset = 0 + n0 + n1) (o3 : f3.offset = 0 + n0 + n1 + n2) (o4 : f4.offset = 0 + n0 + n1 + n2 + n3) (o5 : f5.offset = 0 + n0 + n1 + n2 + n3 + n4) (o6 : f6.offset = 0 + n0 + n1 + n2 + n3 + n4 + n5) (hc : P.cellsOf t = n0 + (n1 + (n2 + (n3 + (n4 + (n5 + (n6 + 0))))))) : RdsC P t (n0 + (n1 + (n2 + (n3 + (n4 + (n5 + (n6 + 0))))))) (SCat [S0, S1, S2, S3, S4, S5, S6]) :=
  RdsC.struct ht (show Flds P 0 [f0, f1, f2, f3, f4, f5, f6] [S0, S1, S2, S3, S4, S5, S6] (n0 + (n1 + (n2 + (n3 + (n4 + (n5 + (n6 + 0))))))) from .cons o0 h0 (.cons o1 h1 (.cons o2 h2 (.cons o3 h3 (.cons o4 h4 (.cons o5 h5 (.cons o6 h6 (.nil _)))))))) hc
theorem RdsC.struct8 {f0 f1 f2 f3 f4 f5 f6 f7 : Field} {n0 n1 n2 n3 n4 n5 n6 n7 : Nat} {S0 S1 S2 S3 S4 S5 S6 S7 : List PV → Prop} (ht : P.underlying t = some (.struct #[f0, f1, f2, f3, f4, f5, f6, f7])) (h0 : RdsC P f0.type n0 S0) (h1 : RdsC P f1.type n1 S1) (h2 : RdsC P f2.type n2 S2) (h3 : RdsC P f3.type n3 S3) (h4 : RdsC P f4.type n4 S4) (h5 : RdsC P f5.type n5 S5) (h6 : RdsC P f6.type n6 S6) (h7 : RdsC P f7.type n7 S7) (o0 : f0.offset = 0) (o1 : f1.offset = 0 + n0) (o2 : f2.offset = 0 + n0 + n1) (o3 : f3.offset = 0 + n0 + n1 + n2) (o4 : f4.offset = 0 + n0 + n1 + n2 + n3) (o5 : f5.offset = 0 + n0 + n1 + n2 + n3 + n4) (o6 : f6.offset = 0 + n0 + n1 + n2 + n3 + n4 + n5) (o7 : f7.offset = 0 + n0 + n1 + n2 + n3 + n4 + n5 + n6) (hc : P.cellsOf t = n0 + (n1 + (n2 + (n3 + (n4 + (n5 + (n6 + (n7 + 0)))))))) : RdsC P t (n0 + (n1 + (n2 + (n3 + (n4 + (n5 + (n6 + (n7 + 0)))))))) (SCat [S0, S1, S2, S3, S4, S5, S6, S7]) :=
  RdsC.struct ht (show Flds P 0 [f0, f1, f2, f3, f4, f5, f6, f7] [S0, S1, S2, S3, S4, S5, S6, S7] (n0 + (n1 + (n2 + (n3 + (n4 + (n5 + (n6 + (n7 + 0)))))))) from .cons o0 h0 (.cons o1 h1 (.cons o2 h2 (.cons o3 h3 (.cons o4 h4 (.cons o5 h5 (.cons o6 h6 (.cons o7 h7 (.nil _))))))))) hc
theorem RdsC.struct9 {f0 f1 f2 f3 f4 f5 f6 f7 f8 : Field} {n0 n1 n2 n3 n4 n5 n6 n7 n8 : Nat} {S0 S1 S2 S3 S4 S5 S6 S7 S8 : List PV → Prop} (ht : P.underlying t = some (.struct #[f0, f1, f2, f3, f4, f5, f6, f7, f8])) (h0 : RdsC P f0.type n0 S0) (h1 : RdsC P f1.type n1 S1) (h2 : RdsC P f2.type n2 S2) (h3 : RdsC P f3.type n3 S3) (h4 : RdsC P f4.type n4 S4) (h5 : RdsC P f5.type n5 S5) (h6 : RdsC P f6.type n6 S6) (h7 : RdsC P f7.type n7 S7) (h8 : RdsC P f8.type n8 S8) (o0 : f0.offset = 0) (o1 : f1.offset = 0 + n0) (o2 : f2.offset = 0 + n0 + n1) (o3 : f3.offset = 0 + n0 + n1 + n2) (o4 : f4.offset = 0 + n0 + n1 + n2 + n3) (o5 : f5.offset = 0 + n0 + n1 + n2 + n3 + n4) (o6 : f6.offset = 0 + n0 + n1 + n2 + n3 + n4 + n5) (o7 : f7.offset = 0 + n0 + n1 + n2 + n3 + n4 + n5 + n6) (o8 : f8.offset = 0 + n0 + n1 + n2 + n3 + n4 + n5 + n6 + n7) (hc : P.cellsOf t = n0 + (n1 + (n2 + (n3 + (n4 + (n5 + (n6 + (n7 + (n8 + 0))))))))) : RdsC P t (n0 + (n1 + (n2 + (n3 + (n4 + (n5 + (n6 + (n7 + (n8 + 0))))))))) (SCat [S0, S1, S2, S3, S4, S5, S6, S7, S8]) :=
  RdsC.struct ht (show Flds P 0 [f0, f1, f2, f3, f4, f5, f6, f7, f8] [S0, S1, S2, S3, S4, S5, S6, S7, S8] (n0 + (n1 + (n2 + (n3 + (n4 + (n5 + (n6 + (n7 + (n8 + 0))))))))) from .cons o0 h0 (.cons o1 h1 (.cons o2 h2 (.cons o3 h3 (.cons o4 h4 (.cons o5 h5 (.cons o6 h6 (.cons o7 h7 (.cons o8 h8 (.nil _)))))))))) hc
theorem arg_one {H : Type} {enc : TypeId × Value → H} {w : World} {v : Value} {d : DataW H} {p : List MemPlace} (hr : RdsC P t 1 S) (hone : v.cells.toList = [v]) (h : DataW.Trod enc P w 0 (fun _ => true) true t v d p) :
    ∃ q, S [q] ∧ PRep (fun b => b < w.heap.size) w q v := by
  obtain ⟨fuel, hf⟩ := h
  obtain ⟨ps, h1, h2, h3, h4, h5⟩ := hr.2 hf
  match ps, h2 with
  | [q], _ => exact ⟨q, h1, h5 0 q v rfl (by rw [hone]; rfl)⟩
theorem arg_agg {H : Type} {enc : TypeId × Value → H} {w : World} {arr : Array Value} {d : DataW H} {p : List MemPlace} (hr : RdsC P t n S) (h : DataW.Trod enc P w 0 (fun _ => true) true t (.agg arr) d p) :
    ∃ ps, S ps ∧ PRep (fun b => b < w.heap.size) w (.agg ps) (.agg arr) := by
  obtain ⟨fuel, hf⟩ := h
  obtain ⟨ps, h1, h2, h3, h4, h5⟩ := hr.2 hf
  have hc : (Value.agg arr).cells = arr := rfl
  rw [hc] at h3 h4 h5
  refine ⟨ps, h1, .agg ps arr (by simpa using h3) (fun j v hv => h4 v (List.mem_of_getElem? (i := j) (by simpa using hv))) (fun j x v hx hv => h5 j x v hx (by simpa using hv))⟩
theorem arg_slice {H : Type} {enc : TypeId × Value → H} {w : World} {v : Value} {d : DataW H} {p : List MemPlace} {m : Reach} {base : Nat} (ht : P.underlying t = some (.slice e)) (hr : RdsC P t 1 S) (hv : Value.okWide P w m base t v) (h : DataW.Trod enc P w 0 (fun _ => true) true t v d p) :
    ∃ q, S [q] ∧ PRep (fun b => b < w.heap.size) w q v := by
  obtain ⟨a, l, c, rfl⟩ := okWide_slice ht hv
  exact arg_one hr rfl h
theorem arg_int {H : Type} {enc : TypeId × Value → H} {w : World} {v : Value} {d : DataW H} {p : List MemPlace} {m : Reach} {base : Nat} (ht : P.underlying t = some (.int k)) (hr : RdsC P t 1 S) (hv : Value.okWide P w m base t v) (h : DataW.Trod enc P w 0 (fun _ => true) true t v d p) :
    ∃ q, S [q] ∧ PRep (fun b => b < w.heap.size) w q v := by
  have : v.cells.toList = [v] := by
    simp only [Value.okWide, ht, Cell.okWide] at hv
    cases v <;> simp_all [Cell.ok, Value.cells]
  exact arg_one hr this h
theorem arg_bool {H : Type} {enc : TypeId × Value → H} {w : World} {v : Value} {d : DataW H} {p : List MemPlace} {m : Reach} {base : Nat} (ht : P.underlying t = some .bool) (hr : RdsC P t 1 S) (hv : Value.okWide P w m base t v) (h : DataW.Trod enc P w 0 (fun _ => true) true t v d p) :
    ∃ q, S [q] ∧ PRep (fun b => b < w.heap.size) w q v := by
  have : v.cells.toList = [v] := by
    simp only [Value.okWide, ht, Cell.okWide] at hv
    cases v <;> simp_all [Cell.ok, Value.cells]
  exact arg_one hr this h
theorem arg_struct {H : Type} {enc : TypeId × Value → H} {w : World} {v : Value} {d : DataW H} {p : List MemPlace} {m : Reach} {base : Nat} {fs : Array Field} (ht : P.underlying t = some (.struct fs)) (hr : RdsC P t n S) (hv : Value.okWide P w m base t v) (h : DataW.Trod enc P w 0 (fun _ => true) true t v d p) :
    ∃ ps, S ps ∧ PRep (fun b => b < w.heap.size) w (.agg ps) v := by
  simp only [Value.okWide, ht] at hv
  obtain ⟨cs, rfl, _, _⟩ := hv
  exact arg_agg hr h
theorem arg_arr {H : Type} {enc : TypeId × Value → H} {w : World} {v : Value} {d : DataW H} {p : List MemPlace} {m : Reach} {base : Nat} {c : Nat} (ht : P.underlying t = some (.array c e)) (hr : RdsC P t n S) (hv : Value.okWide P w m base t v) (h : DataW.Trod enc P w 0 (fun _ => true) true t v d p) :
    ∃ ps, S ps ∧ PRep (fun b => b < w.heap.size) w (.agg ps) v := by
  simp only [Value.okWide, ht] at hv
  obtain ⟨cs, rfl, _, _⟩ := hv
  exact arg_agg hr h
end
end Go.Proofs.Ytpdfhckdmblicaa

namespace Go.Proofs.Ytpdfhckdmblicaa
open Go.RowKit V
set_option linter.all false

theorem cellish_at {w : World} {b o : Nat} {u : Value} (h : w.cell? ⟨b, o, none⟩ = some u) : Cellish w b := by
  unfold World.cell? at h
  simp only at h
  split at h
  · rename_i e; exact ⟨_, _, _, e⟩
  · cases h
theorem sl_of_prep {α : Type} {r : Rep α} {enc : α → PV} {ok : Nat → Prop} {w : World} {l : List α} {sz : Nat} {v : Value} (hsz : sz = r.sz) (hc : ∀ x, (enc x).cells.length = r.sz)
    (hr : ∀ x ∈ l, ∀ (cs : List Value), cs.length = r.sz → (∀ (j : Nat) p u, (enc x).cells[j]? = some p → cs[j]? = some u → PRep ok w p u) → r.rd ok w cs x) (h : PRep ok w (.list sz (l.map enc)) v) : ∃ a n c, v = .slice a n c ∧ Sl r ok w a n c l := by
  generalize he : l.map enc = es at h
  cases h with
  | nil _ a =>
    have : l = [] := by simpa using he
    subst this
    exact ⟨a, 0, 0, rfl, ⟨rfl, Nat.le_refl _, Nat.zero_le _, fun _ => rfl, .inl rfl⟩⟩
  | list _ _ b off c cv h1 h2 h3 h4 h6 h7 h8 =>
    subst hsz he
    refine ⟨_, _, c, rfl, ⟨by simp, h3, h4, (fun e => by cases e), .inr ⟨b, off, rfl, h1, h2.lt, fun i x hx => ?_⟩⟩⟩
    have hi : (l.map enc)[i]? = some (enc x) := by simp [hx]
    refine ⟨(List.range r.sz).map (cv i), fun j hj => ?_, hr x (List.mem_of_getElem? hx) _ (by simp) fun j p u hp hu => ?_⟩
    · have hj' : j < (enc x).cells.length := by rw [hc]; exact hj
      rw [(h7 i _ j _ hi (List.getElem?_eq_getElem hj')).1]
      simp [hj]
    · have hj : j < r.sz := by have := (List.getElem?_eq_some_iff.1 hp).1; rw [hc] at this; exact this
      have : u = cv i j := by simp [hj] at hu; exact hu.symm
      rw [this]
      exact h8 i _ j _ hi hp
theorem prep_of_sl {α : Type} {r : Rep α} {enc : α → PV} {ok ok' : Nat → Prop} {w : World} {l : List α} {a : Option Addr} {n c : Nat} (hk : ∀ b, ok b → b < w.heap.size → ok' b) (hp0 : 0 < r.sz) (hc : ∀ x, (enc x).cells.length = r.sz)
    (hr : ∀ x ∈ l, ∀ (cs : List Value), cs.length = r.sz → r.rd ok w cs x → ∀ (j : Nat) p u, (enc x).cells[j]? = some p → cs[j]? = some u → u.oneCell' = true ∧ PRep ok' w p u) (hz : l = [] → c = 0) (h : Sl r ok w a n c l) : PRep ok' w (.list r.sz (l.map enc)) (.slice a n c) := by
  obtain ⟨h1, h2, h3, h4, h5⟩ := h
  by_cases hl : l = []
  · have := hz hl
    subst hl
    have : n = 0 := by simpa using h1.symm
    subst this
    have : c = 0 := by omega
    subst this
    exact .nil _ _
  · rcases h5 with h5 | ⟨b, off, rfl, hb, hlt, h6⟩
    · exact absurd (List.eq_nil_of_length_eq_zero (by omega)) hl
    · have hn : n = (l.map enc).length := by simp [h1]
      rw [hn]
      have key : ∀ (i : Nat) (x : α) (j : Nat) (p : PV), l[i]? = some x → (enc x).cells[j]? = some p → ∃ u, w.cell? ⟨b, off + i * r.sz + j, none⟩ = some u ∧ u.oneCell' = true ∧ PRep ok' w p u := by
        intro i x j p hx hp
        obtain ⟨cs, g1, g2⟩ := h6 i x hx
        have hj : j < r.sz := by have := (List.getElem?_eq_some_iff.1 hp).1; rw [hc] at this; exact this
        have hl2 := r.len g2
        have hu : cs[j]? = some (cs[j]'(by omega)) := List.getElem?_eq_getElem (by omega)
        obtain ⟨k1, k2⟩ := hr x (List.mem_of_getElem? hx) cs hl2 g2 j p _ hp hu
        exact ⟨_, by rw [g1 j hj, hu], k1, k2⟩
      have get : ∀ {i : Nat} {e : PV}, (l.map enc)[i]? = some e → ∃ x, l[i]? = some x ∧ e = enc x := by
        intro i e he
        rw [List.getElem?_map] at he
        cases hx : l[i]? with
        | none => rw [hx] at he; cases he
        | some x => rw [hx] at he; cases he; exact ⟨x, rfl, rfl⟩
      have hce : Cellish w b := by
        cases l with
        | nil => exact absurd rfl hl
        | cons x l =>
          have hj : 0 < (enc x).cells.length := by rw [hc]; exact hp0
          obtain ⟨u, k1, _⟩ := key 0 x 0 _ rfl (List.getElem?_eq_getElem hj)
          exact cellish_at k1
      refine .list _ _ b off c (fun i j => (w.cell? ⟨b, off + i * r.sz + j, none⟩).getD undef) (hk b hb hlt) hce (by simp; omega) h3 (fun e he => ?_) (fun i e j x hi hj => ?_) fun i e j x hi hj => ?_
      · obtain ⟨x, _, rfl⟩ := List.mem_map.1 he; exact hc x
      · obtain ⟨x', hx, rfl⟩ := get hi
        obtain ⟨u, k1, k2, k3⟩ := key i x' j x hx hj
        rw [k1]; exact ⟨rfl, k2⟩
      · obtain ⟨x', hx, rfl⟩ := get hi
        obtain ⟨u, k1, k2, k3⟩ := key i x' j x hx hj
        rw [k1]; exact k3
theorem secs_in {ok : Nat → Prop} {w : World} {l : List Sec} {v : Value} (h : PRep ok w (eSecs l) v) : ∃ a n c, v = .slice a n c ∧ Sl secR ok w a n c l := by
  refine sl_of_prep (r := secR) (enc := eSec) rfl (fun x => secPV_length x) (fun x _ cs hl hcs => ?_) h
  show cs = secCells x
  refine List.ext_getElem? fun j => ?_
  by_cases hj : j < 8
  · have h1 : cs[j]? = some (cs[j]'(by rw [hl]; exact hj)) := List.getElem?_eq_getElem _
    have h2 : (eSec x).cells[j]? = some (.int .u8 ((x.toList[j]'(by simpa using hj)).toNat : Int)) := by
      show (secPV x)[j]? = _
      have hj' : j < x.toList.length := by simpa using hj
      simp only [secPV, List.getElem?_map, List.getElem?_eq_getElem hj', Option.map_some]
    have := (hcs j _ _ h2 h1).int_inv
    have hj' : j < x.toList.length := by simpa using hj
    rw [h1, this]
    simp only [secCells, List.getElem?_map, List.getElem?_eq_getElem hj', Option.map_some]
  · have e1 : cs.length = 8 := hl
    rw [List.getElem?_eq_none (by omega), List.getElem?_eq_none (by rw [secCells_length]; omega)]
theorem img_in {ok : Nat → Prop} {w : World} {l : List (List Sec)} {v : Value} (h : PRep ok w (.list 1 (l.map eSecs)) v) : ∃ a n c, v = .slice a n c ∧ Sl secsR ok w a n c l := by
  refine sl_of_prep (r := secsR) (enc := eSecs) rfl (fun x => rfl) (fun x _ cs hl hcs => ?_) h
  match cs, hl with
  | [u], _ =>
    obtain ⟨a, n, c, rfl, hs⟩ := secs_in (hcs 0 _ u rfl rfl)
    exact ⟨a, n, c, rfl, hs⟩
theorem wrs_in {ok : Nat → Prop} {w : World} {l : List Wrt} {v : Value} (hok : ∀ x ∈ l, i64b x.volume = true ∧ i64b x.start = true) (h : PRep ok w (.list 3 (l.map eWr)) v) : ∃ a n c, v = .slice a n c ∧ Sl wrR ok w a n c (l.map fun x => (x.volume, x.start, x.data)) := by
  have : ∃ a n c, v = .slice a n c ∧ Sl (α := Wrt) ⟨3, fun ok w cs x => wrR.rd ok w cs (x.volume, x.start, x.data), fun h => wrR.len h, fun hk h => wrR.mono hk h, fun h => wrR.live h, fun hf h => wrR.frame hf h, fun h => wrR.one h⟩ ok w a n c l := by
    refine sl_of_prep rfl (fun x => rfl) (fun x hx cs hl hcs => ?_) h
    match cs, hl with
    | [u, u2, u3], _ =>
      have e1 := (hcs 0 _ u rfl rfl).int_inv
      have e2 := (hcs 1 _ u2 rfl rfl).int_inv
      obtain ⟨a, n, c, rfl, hs⟩ := secs_in (l := x.data) (hcs 2 _ u3 rfl rfl)
      obtain ⟨o1, o2⟩ := hok x hx
      simp only [i64b, Bool.and_eq_true, decide_eq_true_eq] at o1 o2
      exact ⟨[u], [u2, .slice a n c], rfl, ⟨by rw [e1], o1⟩, ⟨[u2], [.slice a n c], rfl, ⟨by rw [e2], o2⟩, a, n, c, rfl, hs⟩⟩
  obtain ⟨a, n, c, rfl, h1, h2, h3, h4, h5⟩ := this
  refine ⟨a, n, c, rfl, ⟨by simpa using h1, h2, h3, h4, h5.imp id fun ⟨b, off, g1, g2, g3, g4⟩ => ⟨b, off, g1, g2, g3, fun i x hx => ?_⟩⟩⟩
  rw [List.getElem?_map] at hx
  cases hx' : l[i]? with
  | none => rw [hx'] at hx; cases hx
  | some y => rw [hx'] at hx; cases hx; exact g4 i y hx'
theorem img_out {ok ok' : Nat → Prop} {w : World} {l : List (List Sec)} {a : Option Addr} {n c : Nat} (hk : ∀ b, ok b → b < w.heap.size → ok' b) (hz : l = [] → c = 0) (hne : ∀ x ∈ l, x ≠ []) (h : Sl secsR ok w a n c l) : PRep ok' w (.list 1 (l.map eSecs)) (.slice a n c) := by
  refine prep_of_sl (r := secsR) (enc := eSecs) hk (by decide) (fun x => rfl) (fun x hx cs hl hrd j p u hp hu => ?_) hz h
  obtain ⟨a, n, c, rfl, hs⟩ := hrd
  match j with
  | j + 1 => simp [eSecs, PV.cells] at hp
  | 0 =>
    cases hp
    cases hu
    refine ⟨rfl, prep_of_sl (r := secR) (enc := eSec) hk (by decide) (fun x => secPV_length x) (fun s _ cs hl hrd j p u hp hu => ?_) (fun e => absurd e (hne x hx)) hs⟩
    have hrd : cs = secCells s := hrd
    subst hrd
    simp only [secCells, List.getElem?_map, Option.map_eq_some_iff] at hu
    have hp : (secPV s)[j]? = some p := hp
    simp only [secPV, List.getElem?_map, Option.map_eq_some_iff] at hp
    obtain ⟨b, h1, rfl⟩ := hu
    obtain ⟨b', h2, rfl⟩ := hp
    rw [h1] at h2
    cases h2
    exact ⟨rfl, .int _ _⟩
theorem szsOf_lens (im : List (List Sec)) : szsOf im = lens im := rfl
theorem wrErr_fit (sz : List Int) (x : Wrt) : wrErr sz x = fitW sz (x.volume, x.start, x.data) := by
  simp only [fitW, fitErr, wrErr]
  repeat' split
  all_goals first | rfl | omega
theorem wrErrs_eq (sz : List Int) : ∀ (l : List Wrt) (i : Nat), wrErrs sz l i = applyErr sz (l.map fun x => (x.volume, x.start, x.data)) i
  | [], _ => rfl
  | x :: l, i => by rw [List.map_cons, wrErrs, applyErr, wrErr_fit, wrErrs_eq sz l (i + 1)]
theorem szErr_eq (im : List (List Sec)) : szErr (szsOf im) = imgErr im := rfl
theorem apE_eq (im : List (List Sec)) (l : List Wrt) : apE im l = applyE im (l.map fun x => (x.volume, x.start, x.data)) := by
  unfold apE applyE; rw [wrErrs_eq]; rfl
theorem apI_eq (im : List (List Sec)) (l : List Wrt) : apI im l = applyIdx im (l.map fun x => (x.volume, x.start, x.data)) := by
  unfold apI applyIdx; rw [wrErrs_eq]; rfl
theorem put1_eq (im : List (List Sec)) (x : Wrt) : put1 im x = putW im (x.volume, x.start, x.data) := rfl
theorem puts_eq : ∀ (l : List Wrt) (im : List (List Sec)), l.foldl put1 im = (l.map fun x => (x.volume, x.start, x.data)).foldl putW im
  | [], _ => rfl
  | x :: l, im => by rw [List.map_cons, List.foldl_cons, List.foldl_cons, put1_eq, puts_eq l]
theorem apO_eq (im : List (List Sec)) (l : List Wrt) : apO im l = applyImg im (l.map fun x => (x.volume, x.start, x.data)) := by
  unfold apO applyImg
  rw [apE_eq, puts_eq]
  unfold applyE orNil
  by_cases h : imgErr im = 0
  · simp [h]
  · simp [h]
theorem wrErr_ok {im : List (List Sec)} {x : Wrt} (h : wrErr (szsOf im) x = 0) : szsOf (put1 im x) = szsOf im := by
  rw [wrErr_fit] at h
  exact lens_put h
theorem wrErrs_shift (sz : List Int) : ∀ (l : List Wrt) (i k : Nat), (wrErrs sz l i).2 = (wrErrs sz l k).2
  | [], _, _ => rfl
  | x :: l, i, k => by
    unfold wrErrs
    split
    · rfl
    · exact wrErrs_shift sz l _ _
theorem puts_sizes : ∀ (l : List Wrt) (im : List (List Sec)) (i : Nat), (wrErrs (szsOf im) l i).2 = 0 → szsOf (l.foldl put1 im) = szsOf im
  | [], _, _, _ => rfl
  | x :: l, im, i, h => by
    unfold wrErrs at h
    split at h
    · rename_i h2; exact absurd h h2
    · rename_i h2
      have h2 : wrErr (szsOf im) x = 0 := by omega
      have e := wrErr_ok h2
      rw [List.foldl_cons, puts_sizes l (put1 im x) (i + 1) (by rw [e]; exact h), e]
theorem apO_sizes {im : List (List Sec)} {l : List Wrt} (h : apE im l = 0) : szsOf (apO im l) = szsOf im := by
  unfold apO
  rw [if_pos h]
  unfold apE at h
  split at h
  · rename_i h2; exact absurd h h2
  · exact puts_sizes l im 0 h
theorem szErr_ne {im : List (List Sec)} (h : szErr (szsOf im) = 0) : im ≠ [] ∧ ∀ v ∈ im, v ≠ [] := by
  unfold szErr at h
  split at h
  · cases h
  · rename_i h1
    split at h
    · cases h
    · rename_i h2
      refine ⟨fun e => by subst e; simp [szsOf] at h1, fun v hv e => ?_⟩
      subst e
      refine h2 (List.any_eq_true.2 ⟨0, ?_, by decide⟩)
      exact List.mem_map.2 ⟨[], hv, rfl⟩
theorem apO_ne {im : List (List Sec)} {l : List Wrt} : (apE im l = 0 → apO im l ≠ []) ∧ ∀ v ∈ apO im l, v ≠ [] := by
  by_cases h : apE im l = 0
  · have h0 : szErr (szsOf im) = 0 := by
      unfold apE at h
      split at h
      · rename_i h2; exact absurd h h2
      · omega
    have := szErr_ne (im := apO im l) (by rw [apO_sizes h]; exact h0)
    exact ⟨fun _ => this.1, this.2⟩
  · exact ⟨fun e => absurd e h, fun v hv => by unfold apO at hv; rw [if_neg h] at hv; cases hv⟩
theorem apply_ok {f : Nat} (hc : callable Try.prog f = true) (hA : ∀ {a : Option Addr} {n c : Nat} {im : List (List Sec)} {ok ok2 : Nat → Prop} {w : World}, Sl secsR ok w a n c im → n ≤ 1000000 → (∀ v ∈ im, v.length ≤ 1000000) →
    ∀ {la : Option Addr} {ln lc : Nat} {l : List Wr}, Sl wrR ok2 w la ln lc l → Calls Try.prog f #[.slice a n c, .slice la ln lc] w (RetApply w im l)) :
    ∀ args rs, applyX args = some rs → callable Try.prog f = true ∧ CallOk Try.prog f args rs := fun args rs h => by
  obtain ⟨im, l, rfl, hw, hn, hv, rfl⟩ := applyX_eq h
  refine ⟨hc, fun T0 w vs h1 h2 h3 h4 => ?_⟩
  match vs, h3 with
  | [v0, v1], _ =>
    obtain ⟨a, n, c, rfl, hs⟩ := img_in (h4 0 _ v0 rfl rfl)
    obtain ⟨la, ln, lc, rfl, hl⟩ := wrs_in hw (h4 1 _ v1 rfl rfl)
    refine (hA hs (by rw [← hs.len]; exact hn) hv hl).mono ?_
    rintro e w' ⟨a', n', c', rfl, hr, hz, hB⟩
    rw [← apI_eq, ← apE_eq]
    rw [← apO_eq] at hr
    rw [← apE_eq] at hz
    refine ⟨_, fun b => if w.heap.size ≤ b ∧ b < w'.heap.size then .ro else T0 b, rfl, hB, fun b hb => if_neg (by omega), fun b hb => ?_, #[_, _, _], rfl, rfl, fun i r u hr' hu => ?_⟩
    · show (if _ then _ else T0 b) = _
      rw [if_neg (by omega)]; exact h2 b (by have := hB.size; omega)
    · match i with
      | 0 =>
        cases hr'; cases hu
        refine img_out (ok := (w.heap.size ≤ ·)) (fun b hb hlt => if_pos ⟨hb, hlt⟩) (fun e => ?_) apO_ne.2 hr
        rcases hz with hz | hz
        · exact hr.nil hz
        · exact absurd e (apO_ne.1 hz)
      | 1 => cases hr'; cases hu; exact .int _ _
      | 2 => cases hr'; cases hu; exact .int _ _
      | i + 3 => simp at hr'
theorem applyI_ok : ∀ args rs, applyX args = some rs → callable Try.prog 33 = true ∧ CallOk Try.prog 33 args rs := apply_ok (by kernel_rfl) fun h hn hv _ _ _ _ hl => applyI_any h hn hv hl
end Go.Proofs.Ytpdfhckdmblicaa

namespace Go.Proofs.Ytpdfhckdmblicaa
open Go.RowKit V
set_option linter.all false

theorem set1_heap {w : World} {g : Nat} {T : TypeId} {u v : Value} (hg : w.heap[g]? = some (.cells #[u] T (0, 0))) : (w.setCell ⟨g, 0, none⟩ v).heap[g]? = some (.cells #[v] T (0, 0)) := by
  simp [World.setCell, Array.getElem?_modify, hg]
theorem set1_grown (w : World) (g : Nat) (v : Value) : w.grownBy (w.setCell ⟨g, 0, none⟩ v) (some g) :=
  ⟨rfl, rfl, rfl, by simp [World.setCell], fun k _ hne => Below.heap_setCell w _ v k fun e => hne (by rw [e])⟩
theorem frozen1 {w : World} {g : Nat} {T : TypeId} {u : Value} (hg : w.heap[g]? = some (.cells #[u] T (0, 0))) : w.frozen? ⟨g, 0, none⟩ = false := by
  simp [World.frozen?, hg]
set_option maxHeartbeats 1000000 in
theorem of_any {a : Option Addr} {n c : Nat} {l : List UInt8} {ok : Nat → Prop} {w : World} (h : Sl u8R ok w a n c l) (hn : n ≤ 1000000) :
    Calls Try.prog 40 #[.slice a n c] w fun e w' => ∃ g hdr, e = .returned (.slice (some ⟨g, 0, none⟩) 1 1) ∧ w.heap.size ≤ g ∧ w'.heap[g]? = some (.cells #[hdr] 73 (0, 0)) ∧ some g ≠ hdr.ownBlock ∧ Own secR w.heap.size 79 (fun _ => False) w' hdr (l.map secOf) ∧ Below w.heap.size w w' := by
  have hs := h.small
  go_enter Try.func40, Try.ntmps40
  go_wp2
  go_loopw [9] (fun i wr => ∃ (k : Nat) (hdr : Value), k ≤ n ∧ i = .int .i64 k ∧ wr.heap[w.heap.size]? = some (.cells #[hdr] 73 (0, 0)) ∧ some w.heap.size ≠ hdr.ownBlock ∧ Own secR w.heap.size 79 (fun _ => False) wr hdr ((l.take k).map secOf) ∧ Below w.heap.size w wr) (fun i _ => n - (intOf i).toNat)
  case atStart =>
    exact ⟨0, .slice none 0 0, Nat.zero_le _, rfl, heap_alloc_new w _, by simp [Value.ownBlock], by rw [List.take_zero]; exact (Own.nil secR w.heap.size _ (fun _ => False) w).below ((Below.refl _ _).alloc (Nat.le_refl _) _), (Below.refl _ _).alloc (Nat.le_refl _) _⟩
  case round =>
    obtain ⟨k, hdr, hk, rfl, hg, hne, hown, hB⟩ := hrel
    have hgl : w.heap.size < wr.heap.size := (Array.getElem?_eq_some_iff.1 hg).1
    by_cases hlt : k < n
    · obtain ⟨b, off, rfl, _, hbl⟩ := h.addr hlt
      obtain ⟨x, hx⟩ := h.get hlt
      have hc0 : wr.cell? ⟨b, off + k, none⟩ = some (.int .u8 (x.toNat : Int)) := by
        obtain ⟨cs, e1, rfl⟩ := h.at hx
        have e2 := e1 0 Nat.zero_lt_one
        have e2 : w.cell? ⟨b, off + k, none⟩ = some (.int .u8 (x.toNat : Int)) := by simpa [u8R] using e2
        exact (hB.cell (World.block_lt_of_cell? w _ e2)).trans e2
      have hc1 : wr.cell? ⟨w.heap.size, 0, none⟩ = some hdr := by rw [cell_of_row wr _ _ _ _ (0, 0) hg]; rfl
      obtain ⟨ha, hn', hc', rfl, hsl⟩ := hown.sl
      have hlen : (l.take k).length = k := by rw [List.length_take, h.len]; omega
      go_wp2_with (at_builtin; refine wpList_app Try.slSec rfl _ _ rfl rfl (hown.below ((Below.refl _ _).alloc (Nat.le_refl _) _)) rfl ((Src.flat Flat.sec (ok := fun _ => True) (Src.new1 (r := secR) (x := secOf x) rfl))) ?c1 ?c2 ?c3 ?_)
      case c1 => simp [hlen]; unfold maxLen; omega
      case c2 => simp [hlen]; omega
      case c3 => simp; omega
      intro v' w1 hown1 hgrow hat
      have hgn : w.heap.size ≠ wr.heap.size + 1 := by omega
      have hb1 : w1.heap[w.heap.size]? = some (.cells #[Value.slice ha hn' hc'] 73 (0, 0)) := by
        rw [hgrow.block w.heap.size (by simp; omega) hne, Below.heap_alloc _ _ _ hgl]; exact hg
      have hc2 : w1.cell? ⟨w.heap.size, 0, none⟩ = some (Value.slice ha hn' hc') := by rw [cell_of_row w1 _ _ _ _ (0, 0) hb1]; rfl
      have hne' : some w.heap.size ≠ v'.ownBlock := by
        rcases hat with e | e
        · rw [e]; exact hne
        · rw [e]; intro e2; exact hgn (Option.some.inj e2)
      obtain ⟨ga, gn, gc, rfl, _⟩ := hown1.sl
      have hfz := frozen1 hb1
      have hb2 := set1_heap (v := .slice ga gn gc) hb1
      have hgr2 := set1_grown w1 w.heap.size (.slice ga gn gc)
      have hown2 := hown1.kept hgr2 (.inr fun e => hne' e.symm) (fun _ _ h => h)
      go_wp2
      go_roundw
      case rel =>
        refine ⟨k + 1, .slice ga gn gc, by omega, by go_num, hb2, hne', ?_, ?_⟩
        · rw [take_succ_get hx, List.map_append]; simpa using hown2
        · have hBa := (hB.alloc (Nat.le_of_lt hgl) _).grown hgrow (by simp; omega) (fun b hb => (hown.lt b hb).1)
          exact hBa.grown hgr2 hBa.size (fun b hb => by cases hb; exact Nat.le_refl _)
      case measure => simp [intOf]; omega
    · obtain rfl : k = n := by omega
      go_wp2
      go_ret
      have e : l.take k = l := List.take_of_length_le (by rw [h.len]; exact Nat.le_refl _)
      rw [e] at hown
      exact ⟨_, hdr, rfl, Nat.le_refl _, hg, hne, hown, hB⟩
theorem u8s_in {ok : Nat → Prop} {w : World} {l : List UInt8} {v : Value} (h : PRep ok w (.list 1 (l.map fun x => .int .u8 (x.toNat : Int))) v) : ∃ a n c, v = .slice a n c ∧ Sl u8R ok w a n c l := by
  refine sl_of_prep (r := u8R) (enc := fun x => .int .u8 (x.toNat : Int)) rfl (fun x => rfl) (fun x _ cs hl hcs => ?_) h
  match cs, hl with
  | [u], _ =>
    have := (hcs 0 _ u rfl rfl).int_inv
    show [u] = _
    rw [this]
theorem of_ok : ∀ args rs, ofX args = some rs → callable Try.prog 40 = true ∧ CallOk Try.prog 40 args rs := fun args rs h => by
  obtain ⟨l, rfl, hne, hlen, rfl⟩ := ofX_eq h
  refine ⟨by kernel_rfl, fun T0 w vs h1 h2 h3 h4 => ?_⟩
  match vs, h3 with
  | [v], _ =>
    obtain ⟨a, n, c, rfl, hs⟩ := u8s_in (h4 0 _ v rfl rfl)
    refine (of_any hs (by rw [← hs.len]; exact hlen)).mono ?_
    rintro e w' ⟨g, hdr, rfl, hg, hc, hne2, hown, hB⟩
    obtain ⟨ha, hn, hc', rfl, hsl⟩ := hown.sl
    refine ⟨_, fun b => if w.heap.size ≤ b ∧ b < w'.heap.size then .ro else T0 b, rfl, hB, fun b hb => if_neg (by omega), fun b hb => ?_, #[_], rfl, rfl, fun i r u hr' hu => ?_⟩
    · show (if _ then _ else T0 b) = _
      rw [if_neg (by omega)]; exact h2 b (by have := hB.size; omega)
    · match i with
      | 0 =>
        cases hr'; cases hu
        refine img_out (l := [l.map secOf]) (ok := (w.heap.size ≤ ·)) (fun b hb hlt => if_pos ⟨hb, hlt⟩) (fun e => by cases e) (fun x hx => ?_) ⟨rfl, Nat.le_refl _, by decide, (fun e => by cases e), .inr ⟨g, 0, rfl, hg, (Array.getElem?_eq_some_iff.1 hc).1, fun i x hi => ?_⟩⟩
        · rw [List.mem_singleton.1 hx]; simpa using hne
        · match i, hi with
          | 0, hi =>
            cases hi
            refine ⟨[.slice ha hn hc'], fun j hj => ?_, ⟨ha, hn, hc', rfl, hsl.mono fun b hb => by rcases hb with hb | hb; exact hb.elim; exact hb⟩⟩
            obtain rfl : j = 0 := by have : j < 1 := hj; omega
            rw [cell_of_row w' _ _ _ _ (0, 0) hc]; rfl
      | i + 1 => simp at hr'
end Go.Proofs.Ytpdfhckdmblicaa

namespace Go.Proofs.Ytpdfhckdmblicaa

def bcase {α : Type} (b : Bool) (x y : α) : α := match b with
  | true => x
  | false => y
section
variable {env : Env} {α β : Type}
theorem bcase_true (x y : α) : bcase true x y = x := (rfl)
theorem bcase_false (x y : α) : bcase false x y = y := (rfl)
theorem bcase_bind (b : Bool) (x y : Option α) (f : α → Option β) : (bcase b x y).bind f = bcase b (x.bind f) (y.bind f) := by cases b <;> rfl
theorem bcase_map (b : Bool) (x y : Option α) (f : α → β) : (bcase b x y).map f = bcase b (x.map f) (y.map f) := by cases b <;> rfl
theorem bcase_not (b : Bool) (x y : α) : bcase (!b) x y = bcase b y x := by cases b <;> rfl
theorem bcase_bne {γ : Type} [BEq γ] (a b : γ) (x y : α) : bcase (a != b) x y = bcase (a == b) y x := by unfold bne; rw [bcase_not]
theorem beq_t (b : Bool) : (b == true) = b := by cases b <;> rfl
theorem beq_f (b : Bool) : (b == false) = !b := by cases b <;> rfl
theorem bcase_split {b : Bool} {x y r : α} (h1 : b = true → x = r) (h0 : b = false → y = r) : bcase b x y = r := by
  cases b
  · exact h0 rfl
  · exact h1 rfl

noncomputable def dops (env : Env) (l : List VOp) (st : St) : Option St := ops (den env) env l st
noncomputable def dop (env : Env) (o : VOp) (st : St) : Option St := op (den env) env o st
noncomputable def next (env : Env) (b : VCode) : Ex × St → Option (Ex × St)
  | (.normal, st) => den env b st
  | r => some r
def endBlock (id : Nat) : Ex × St → Ex × St
  | (.normal, st) => (.normal, st)
  | (.exit j, st) => (bcase (Nat.beq j id) .normal (.exit j), st)
  | (.ret, st) => (.ret, st)
def cleanEnd (post : List Nat) (nb : Nat) (p : Ex × St) : Option (Ex × St) := (p.2.head post nb).map fun st => (p.1, st)
def fin (rs : List VRes) : Ex × St → Option (List Res)
  | (.exit _, _) => none
  | (_, st) => resultsOf st rs
def start (n : Nat) (args : List PV) : St := ⟨args.map .pv ++ List.replicate (n - args.length) .any, [], [], none⟩

theorem den_skip (st : St) : den env .skip st = some (.normal, st) := by rw [den_eq]; rfl
theorem den_ops (l : List VOp) (st : St) : den env (.ops l) st = (dops env l st).map fun st => (.normal, st) := by rw [den_eq]; rfl
theorem den_drw (z a f q) (l : List VOp) (st : St) : den env (.drw z a f q l) st = (dops env l (z.foldl St.freezeAt st)).map fun st => (.normal, st) := by rw [den_eq]; rfl
theorem den_seq (a b : VCode) (st : St) : den env (.seq a b) st = (den env a st).bind (next env b) := by
  rw [den_eq]
  show (den env a st).bind _ = _
  congr 1
  funext ⟨e, st⟩
  cases e <;> rfl
theorem den_cond (c : Opd) (a b : VCode) (st : St) : den env (.cond c a b) st = (match st.pvOf c with
    | some (.bool t) => bcase t (den env a st) (den env b st)
    | _ => none) := by
  rw [den_eq]
  show (st.pvOf c).bind _ = _
  cases st.pvOf c with
  | none => rfl
  | some v =>
    cases v <;> try rfl
    rename_i t
    cases t <;> rfl
theorem den_block (i : Nat) (a : VCode) (st : St) : den env (.block i a) st = (den env a st).map (endBlock i) := by
  rw [den_eq]
  show (den env a st).bind _ = _
  cases den env a st with
  | none => rfl
  | some r =>
    obtain ⟨e, st⟩ := r
    cases e with
    | normal => rfl
    | ret => rfl
    | exit j =>
      show some (_, _) = some (_, _)
      by_cases h : j = i
      · subst h; simp [bcase]
      · have : Nat.beq j i = false := by cases e : Nat.beq j i with
        | false => rfl
        | true => exact absurd (Nat.eq_of_beq_eq_true e) h
        simp [bcase, h, this]
theorem den_loop (keep : List Nat) (a : VCode) (st : St) : den env (.loop keep a) st = den env (.round keep st.boxes.length a) st := by rw [den_eq]; rfl
theorem den_round (keep : List Nat) (nb : Nat) (a : VCode) (st : St) : den env (.round keep nb a) st = (st.head keep nb).bind fun st => (den env a st).bind (next env (.round keep nb a)) := by
  rw [den_eq]
  show (st.head keep nb).bind _ = _
  congr 1
  funext st
  show (den env a st).bind _ = _
  congr 1
  funext ⟨e, st⟩
  cases e <;> rfl
theorem den_clean (pre post : List Nat) (a : VCode) (st : St) : den env (.clean pre post a) st = (st.head pre st.boxes.length).bind fun s => (den env a s).bind (cleanEnd post st.boxes.length) := by
  rw [den_eq]
  show (st.head pre _).bind _ = _
  congr 1
  funext s
  show (den env a s).bind _ = _
  congr 1
  funext ⟨e, s⟩
  show (s.head post _).bind _ = (s.head post _).map _
  cases s.head post st.boxes.length <;> rfl
theorem den_exit (i : Nat) (st : St) : den env (.exit i) st = some (.exit i, st) := by rw [den_eq]; rfl
theorem den_ret (st : St) : den env .ret st = some (.ret, st) := by rw [den_eq]; rfl
theorem next_normal (b : VCode) (st : St) : next env b (.normal, st) = den env b st := (rfl)
theorem next_exit (b : VCode) (i : Nat) (st : St) : next env b (.exit i, st) = some (.exit i, st) := (rfl)
theorem next_ret (b : VCode) (st : St) : next env b (.ret, st) = some (.ret, st) := (rfl)
theorem endBlock_normal (i : Nat) (st : St) : endBlock i (.normal, st) = (.normal, st) := (rfl)
theorem endBlock_ret (i : Nat) (st : St) : endBlock i (.ret, st) = (.ret, st) := (rfl)
theorem endBlock_exit (i j : Nat) (st : St) : endBlock i (.exit j, st) = (bcase (Nat.beq j i) .normal (.exit j), st) := (rfl)
theorem fin_normal (rs : List VRes) (st : St) : fin rs (.normal, st) = resultsOf st rs := (rfl)
theorem fin_ret (rs : List VRes) (st : St) : fin rs (.ret, st) = resultsOf st rs := (rfl)
theorem cal_code {f : Nat} {fn : VFn} {args : List PV} (h : env f = some (.code fn)) (hl : args.length = fn.nargs) : cal env f args = (den env fn.body (start fn.ntmps args)).bind (Go.Proofs.Ytpdfhckdmblicaa.fin fn.results) := by
  unfold cal callRes
  rw [h]
  simp only [if_pos hl]
  show (den env fn.body _).bind _ = _
  congr 1
  funext ⟨e, st⟩
  cases e <;> rfl
theorem cal_ext {f : Nat} {g : List PV → Option (List Res)} {args : List PV} (h : env f = some (.ext g)) : cal env f args = g args := by
  unfold cal callRes
  rw [h]
theorem clean_loop {γ : Type} {keep post : List Nat} {id : Nat} {b : VCode} {st S0 : St} {K : Ex × St → Option γ} {R : Option γ} (h : st.head keep st.boxes.length = some S0) (h2 : S0.head keep S0.boxes.length = some S0)
    (key : ∀ rb, rb = VCode.round keep S0.boxes.length b → ((((den env b S0).bind (next env rb)).map (endBlock id)).bind (cleanEnd post st.boxes.length)).bind K = R) : (den env (.clean keep post (.block id (.loop keep b))) st).bind K = R := by
  rw [den_clean, h, Option.bind_some, den_block, den_loop, den_round, h2, Option.bind_some]
  exact key _ rfl
theorem clean_loop' {keep post : List Nat} {id : Nat} {b : VCode} {st S0 : St} {R : Option (Ex × St)} (h : st.head keep st.boxes.length = some S0) (h2 : S0.head keep S0.boxes.length = some S0)
    (key : ∀ rb, rb = VCode.round keep S0.boxes.length b → (((den env b S0).bind (next env rb)).map (endBlock id)).bind (cleanEnd post st.boxes.length) = R) : den env (.clean keep post (.block id (.loop keep b))) st = R := by
  rw [den_clean, h, Option.bind_some, den_block, den_loop, den_round, h2, Option.bind_some]
  exact key _ rfl
theorem round_on {keep : List Nat} {nb : Nat} {b rb : VCode} {st S1 : St} (hrb : rb = .round keep nb b) (h : st.head keep nb = some S1) : den env rb st = (den env b S1).bind (next env rb) := by
  rw [hrb, den_round, h, Option.bind_some]
noncomputable def tailOf (env : Env) (id : Nat) (post : List Nat) (nb : Nat) (x : Option (Ex × St)) : Option (Ex × St) := (x.map (endBlock id)).bind (cleanEnd post nb)
theorem clean_rec {β : Type} {keep post : List Nat} {id nb : Nat} {b : VCode} (S : β → St) (R : β → Option (Ex × St)) (P : β → Prop) (μ : β → Nat) (x0 : β) {st : St} (h : st.head keep st.boxes.length = some (S x0)) (hP : P x0)
    (hS : ∀ x, (S x).boxes.length = nb) (hh : ∀ x, (S x).head keep nb = some (S x))
    (step : ∀ x rb, P x → (∀ y, μ y < μ x → P y → ∀ s, s.head keep nb = some (S y) → tailOf env id post nb (den env rb s) = R y) → tailOf env id post nb ((den env b (S x)).bind (next env rb)) = R x) :
    den env (.clean keep post (.block id (.loop keep b))) st = R x0 := by
  have hb : st.boxes.length = nb := by rw [← (head_same h).1]; exact hS x0
  refine clean_loop' h (by rw [hS]; exact hh x0) ?_
  intro rb hrb
  rw [hS] at hrb
  rw [hb]
  have key : ∀ (k : Nat) (x : β), μ x < k → P x → tailOf env id post nb ((den env b (S x)).bind (next env rb)) = R x := by
    intro k
    induction k with
    | zero => intro x hx; omega
    | succ k ih =>
      intro x hx hPx
      refine step x rb hPx fun y hy hPy s hs => ?_
      rw [round_on hrb hs]
      exact ih y (by omega) hPy
  exact key (μ x0 + 1) x0 (by omega) hP
theorem clean_up {keep post : List Nat} {id nb : Nat} {b : VCode} (n : Nat) (S : Nat → St) (R : Nat → Option (Ex × St)) {st : St} (h : st.head keep st.boxes.length = some (S 0)) (hS : ∀ i, (S i).boxes.length = nb) (hh : ∀ i, (S i).head keep nb = some (S i))
    (step : ∀ i rb, i < n → (∀ s, s.head keep nb = some (S (i + 1)) → tailOf env id post nb (den env rb s) = R (i + 1)) → tailOf env id post nb ((den env b (S i)).bind (next env rb)) = R i)
    (last : ∀ rb, tailOf env id post nb ((den env b (S n)).bind (next env rb)) = R n) :
    den env (.clean keep post (.block id (.loop keep b))) st = R 0 := by
  refine clean_rec S R (fun i => i ≤ n) (fun i => n - i) 0 h (Nat.zero_le _) hS hh fun i rb hi ih => ?_
  by_cases hn : i = n
  · subst hn; exact last rb
  · exact step i rb (by omega) fun s hs => ih (i + 1) (by omega) (by omega) s hs
theorem tail_normal {id nb : Nat} {post : List Nat} (st : St) : tailOf env id post nb (some (.normal, st)) = cleanEnd post nb (.normal, st) := (rfl)
theorem tail_ret {id nb : Nat} {post : List Nat} (st : St) : tailOf env id post nb (some (.ret, st)) = cleanEnd post nb (.ret, st) := (rfl)
theorem tail_exit {id j nb : Nat} {post : List Nat} (st : St) : tailOf env id post nb (some (.exit j, st)) = cleanEnd post nb (bcase (Nat.beq j id) .normal (.exit j), st) := (rfl)
theorem tail_bcase {id nb : Nat} {post : List Nat} (b : Bool) (x y : Option (Ex × St)) : tailOf env id post nb (bcase b x y) = bcase b (tailOf env id post nb x) (tailOf env id post nb y) := by cases b <;> rfl
theorem z_bind_some (a : α) (f : α → Option β) : (some a).bind f = f a := (rfl)
theorem z_bind_none (f : α → Option β) : (none : Option α).bind f = none := (rfl)
theorem z_map_some (a : α) (f : α → β) : (some a).map f = some (f a) := (rfl)
theorem z_map_none (f : α → β) : (none : Option α).map f = none := (rfl)
theorem z_ite_true (x y : α) : (if True then x else y) = x := (rfl)
theorem z_ite_false (x y : α) : (if False then x else y) = y := (rfl)
theorem z_bind_eq {γ δ : Type} (x : Option γ) (f : γ → Option δ) : (x >>= f) = x.bind f := (rfl)
theorem z_pure {γ : Type} (x : γ) : (pure x : Option γ) = some x := (rfl)
theorem z_len_cons {γ : Type} (a : γ) (l : List γ) : (a :: l).length = l.length + 1 := (rfl)
theorem z_len_nil {γ : Type} : ([] : List γ).length = 0 := (rfl)
theorem z_nil_app {γ : Type} (l : List γ) : [] ++ l = l := (rfl)
theorem z_cons_app {γ : Type} (a : γ) (l m : List γ) : (a :: l) ++ m = a :: (l ++ m) := (rfl)
theorem z_take_succ {γ : Type} (a : γ) (l : List γ) (n : Nat) : (a :: l).take (n + 1) = a :: l.take n := (rfl)
theorem z_take_zero {γ : Type} (l : List γ) : l.take 0 = [] := (rfl)
theorem z_drop_succ {γ : Type} (a : γ) (l : List γ) (n : Nat) : (a :: l).drop (n + 1) = l.drop n := (rfl)
theorem z_drop_zero {γ : Type} (l : List γ) : l.drop 0 = l := (rfl)
theorem z_get_zero {γ : Type} (a : γ) (l : List γ) : (a :: l)[0]? = some a := (rfl)
theorem z_get_succ {γ : Type} (a : γ) (l : List γ) (n : Nat) : (a :: l)[n + 1]? = l[n]? := (rfl)
theorem z_get_8 {γ : Type} (a0 a1 a2 a3 a4 a5 a6 a7 : γ) (l : List γ) (n : Nat) : (a0 :: a1 :: a2 :: a3 :: a4 :: a5 :: a6 :: a7 :: l)[n + 8]? = l[n]? := (rfl)
theorem z_getD_zero {γ : Type} (a : γ) (l : List γ) (d : γ) : (a :: l).getD 0 d = a := (rfl)
theorem z_getD_succ {γ : Type} (a : γ) (l : List γ) (n : Nat) (d : γ) : (a :: l).getD (n + 1) d = l.getD n d := (rfl)
theorem z_getD_8 {γ : Type} (a0 a1 a2 a3 a4 a5 a6 a7 : γ) (l : List γ) (n : Nat) (d : γ) : (a0 :: a1 :: a2 :: a3 :: a4 :: a5 :: a6 :: a7 :: l).getD (n + 8) d = l.getD n d := (rfl)
theorem z_set_zero {γ : Type} (a x : γ) (l : List γ) : (a :: l).set 0 x = x :: l := (rfl)
theorem z_set_succ {γ : Type} (a x : γ) (l : List γ) (n : Nat) : (a :: l).set (n + 1) x = a :: l.set n x := (rfl)
theorem z_set_8 {γ : Type} (a0 a1 a2 a3 a4 a5 a6 a7 x : γ) (l : List γ) (n : Nat) : (a0 :: a1 :: a2 :: a3 :: a4 :: a5 :: a6 :: a7 :: l).set (n + 8) x = a0 :: a1 :: a2 :: a3 :: a4 :: a5 :: a6 :: a7 :: l.set n x := (rfl)
theorem z_mapM_nil {γ δ : Type} (f : γ → Option δ) : ([] : List γ).mapM f = some [] := (rfl)
theorem z_any_cons {γ : Type} (a : γ) (l : List γ) (p : γ → Bool) : (a :: l).any p = (p a || l.any p) := (rfl)
theorem z_any_nil {γ : Type} (p : γ → Bool) : ([] : List γ).any p = false := (rfl)
theorem z_all_cons {γ : Type} (a : γ) (l : List γ) (p : γ → Bool) : (a :: l).all p = (p a && l.all p) := (rfl)
theorem z_all_nil {γ : Type} (p : γ → Bool) : ([] : List γ).all p = true := (rfl)
theorem z_foldl_cons {γ δ : Type} (f : δ → γ → δ) (b : δ) (a : γ) (l : List γ) : (a :: l).foldl f b = l.foldl f (f b a) := (rfl)
theorem z_foldl_nil {γ δ : Type} (f : δ → γ → δ) (b : δ) : ([] : List γ).foldl f b = b := (rfl)
theorem z_map_cons {γ δ : Type} (f : γ → δ) (a : γ) (l : List γ) : (a :: l).map f = f a :: l.map f := (rfl)
theorem z_map_nil {γ δ : Type} (f : γ → δ) : ([] : List γ).map f = [] := (rfl)
theorem z_repl_zero {γ : Type} (a : γ) : List.replicate 0 a = [] := (rfl)
theorem z_repl_succ {γ : Type} (a : γ) (n : Nat) : List.replicate (n + 1) a = a :: List.replicate n a := (rfl)

theorem dops_nil (st : St) : dops env [] st = some st := (rfl)
theorem dops_cons (o : VOp) (l : List VOp) (st : St) : dops env (o :: l) st = (dop env o st).bind (dops env l) := (rfl)
theorem dop_grd {g : Nat} {w : Bool} {o : VOp} (st : St) : dop env (.grd g w o) st = (match st.slots.getD g .any with
    | .pv (.bool b) => bcase (b == w) (op1 (den env) env o st) (match dstOf o with
      | some d => some (st.put d (.tup []))
      | none => some st)
    | .tup l => bcase l.isEmpty (match dstOf o with
      | some d => some (st.put d (.tup []))
      | none => some st) none
    | _ => none) := by
  unfold dop op
  simp only
  generalize st.slots.getD g .any = v
  cases v with
  | pv p =>
    cases p with
    | bool b => cases b <;> cases w <;> rfl
    | _ => rfl
  | tup l => cases l <;> rfl
  | _ => rfl
theorem dop_pick {d c x y} (st : St) : dop env (.pick d c x y) st = (match st.pvOf c with
    | some (.bool b) => bcase b ((st.pvOf x).map fun v => st.put d (.pv v)) ((st.pvOf y).map fun v => st.put d (.pv v))
    | _ => none) := by
  show (st.pvOf c).bind _ = _
  cases st.pvOf c with
  | none => rfl
  | some v =>
    cases v <;> try rfl
    rename_i t
    cases t
    · show (st.pvOf y).bind _ = Option.map _ (st.pvOf y)
      cases st.pvOf y <;> rfl
    · show (st.pvOf x).bind _ = Option.map _ (st.pvOf x)
      cases st.pvOf x <;> rfl
def afterCall (d : Nat) (args : List Opd) (caps : List AV) (st : St) (fl : Bool) (rs : List Res) : Option St :=
  some ((bcase (fl && !(rs.all (·.1.scalar))) (caps.foldl (fun s v => s.freezeArg1 (.c .void) v) (args.foldl St.freezeArg st)) st).layAll d rs)
theorem afterCall_false (d : Nat) (args : List Opd) (caps : List AV) (st : St) (rs : List Res) : afterCall d args caps st false rs = some (st.layAll d rs) := by
  simp only [afterCall, Bool.false_and, bcase_false]
theorem afterCall_true (d : Nat) (args : List Opd) (caps : List AV) (st : St) (r : Res) (rs : List Res) : afterCall d args caps st true (r :: rs) = bcase ((r :: rs).all (·.1.scalar)) (some (st.layAll d (r :: rs))) (some ((caps.foldl (fun s v => s.freezeArg1 (.c .void) v) (args.foldl St.freezeArg st)).layAll d (r :: rs))) := by
  unfold afterCall
  rw [Bool.true_and]
  cases h : (r :: rs).all (·.1.scalar) <;> rfl
noncomputable def dcall (env : Env) (d f : Nat) (args : List Opd) (caps : List AV) (st : St) : Option St :=
  (args.mapM fun x => st.snapFn (st.get x)).bind fun l => (caps.mapM st.snap).bind fun k => (cal env f (l.map (·.1) ++ k.map (·.1))).bind (afterCall d args caps st (l.any (·.2) || k.any (·.2)))
noncomputable def dcallP (env : Env) (d f : Nat) (args : List Opd) (caps : List PV) (st : St) : Option St :=
  (args.mapM fun x => st.snapFn (st.get x)).bind fun l => (cal env f (l.map (·.1) ++ caps)).bind (afterCall d args [] st (l.any (·.2)))
theorem snaps_pv (st : St) : ∀ caps : List PV, (caps.map AV.pv).mapM st.snap = some (caps.map fun v => (v, false))
  | [] => rfl
  | c :: l => by
    rw [List.map_cons, List.mapM_cons, snaps_pv st l]
    rfl
theorem freeze_pv (st : St) : ∀ caps : List PV, (caps.map AV.pv).foldl (fun s v => s.freezeArg1 (.c .void) v) st = st
  | [] => rfl
  | c :: l => freeze_pv st l
theorem dcall_eq (d f : Nat) (args : List Opd) (caps : List AV) (st : St) : callOn (den env) env d f args caps st = dcall env d f args caps st := by
  unfold callOn dcall
  show Option.bind _ _ = Option.bind _ _
  congr 1; funext l
  show Option.bind _ _ = Option.bind _ _
  congr 1; funext k
  show Option.bind _ _ = Option.bind _ _
  congr 1; funext rs
  show some _ = some _
  congr 2
  cases h : (l.any (·.2) || k.any (·.2)) && !(rs.all (·.1.scalar)) <;> rfl
theorem dcallP_eq (d f : Nat) (args : List Opd) (caps : List PV) (st : St) : dcall env d f args (caps.map .pv) st = dcallP env d f args caps st := by
  unfold dcallP dcall
  congr 1; funext l
  rw [snaps_pv, Option.bind_some, List.map_map, List.any_map]
  have h1 : (Prod.fst ∘ fun v : PV => (v, false)) = id := rfl
  have h2 : caps.any (Prod.snd ∘ fun v : PV => (v, false)) = false := by
    induction caps with
    | nil => rfl
    | cons c cs ih => simp [List.any_cons, ih]
  rw [h1, List.map_id, h2, Bool.or_false]
  congr 1; funext rs
  unfold afterCall
  rw [freeze_pv]
  rfl
theorem dop_call {d f args} (st : St) : dop env (.call d f args) st = dcallP env d f args [] st := (dcall_eq ..).trans (dcallP_eq (caps := []) ..)
theorem op1_call {d f args} (st : St) : op1 (den env) env (.call d f args) st = dcallP env d f args [] st := (dcall_eq ..).trans (dcallP_eq (caps := []) ..)
theorem dop_callv {d x args} (st : St) : dop env (.callv d x args) st = (match st.get x with
    | .pv (.func f caps) => dcallP env d f args caps st
    | .fn f caps => dcall env d f args caps st
    | _ => none) := by
  show (match st.get x with
    | .pv (.func f caps) => callOn (den env) env d f args (caps.map .pv) st
    | .fn f caps => callOn (den env) env d f args caps st
    | _ => none) = _
  split <;> simp only [dcall_eq, dcallP_eq]
theorem op1_callv {d x args} (st : St) : op1 (den env) env (.callv d x args) st = dop env (.callv d x args) st := (rfl)
theorem op1_pick {d c x y} (st : St) : op1 (den env) env (.pick d c x y) st = dop env (.pick d c x y) st := (rfl)
theorem dop_mov {d x} (st : St) : dop env (.mov d x) st = plain (.mov d x) st := (rfl)
theorem dop_asg {d x} (st : St) : dop env (.asg d x) st = plain (.asg d x) st := (rfl)
theorem dop_bin {d o x y} (st : St) : dop env (.bin d o x y) st = plain (.bin d o x y) st := (rfl)
theorem dop_eqa {d neg n x y} (st : St) : dop env (.eqa d neg n x y) st = plain (.eqa d neg n x y) st := (rfl)
theorem dop_eqb {d neg x y} (st : St) : dop env (.eqb d neg x y) st = plain (.eqb d neg x y) st := (rfl)
theorem dop_isn {d neg x} (st : St) : dop env (.isn d neg x) st = plain (.isn d neg x) st := (rfl)
theorem dop_cut {d sz x} (st : St) : dop env (.cut d sz x) st = plain (.cut d sz x) st := (rfl)
theorem dop_asl {d n x} (st : St) : dop env (.asl d n x) st = plain (.asl d n x) st := (rfl)
theorem dop_mvz {d x} (st : St) : dop env (.mvz d x) st = plain (.mvz d x) st := (rfl)
theorem op1_mvz {d x} (st : St) : op1 (den env) env (.mvz d x) st = plain (.mvz d x) st := (rfl)
theorem dop_ldz {d n x} (st : St) : dop env (.ldz d n x) st = plain (.ldz d n x) st := (rfl)
theorem op1_asl {d n x} (st : St) : op1 (den env) env (.asl d n x) st = plain (.asl d n x) st := (rfl)
theorem op1_ldz {d n x} (st : St) : op1 (den env) env (.ldz d n x) st = plain (.ldz d n x) st := (rfl)
theorem op1_isn {d neg x} (st : St) : op1 (den env) env (.isn d neg x) st = plain (.isn d neg x) st := (rfl)
theorem op1_cut {d sz x} (st : St) : op1 (den env) env (.cut d sz x) st = plain (.cut d sz x) st := (rfl)
theorem dop_un {d o x} (st : St) : dop env (.un d o x) st = plain (.un d o x) st := (rfl)
theorem dop_conv {d k x} (st : St) : dop env (.conv d k x) st = plain (.conv d k x) st := (rfl)
theorem dop_load {d n p} (st : St) : dop env (.load d n p) st = plain (.load d n p) st := (rfl)
theorem dop_fadr {d p off} (st : St) : dop env (.fadr d p off) st = plain (.fadr d p off) st := (rfl)
theorem dop_aadr {d p i len sz} (st : St) : dop env (.aadr d p i len sz) st = plain (.aadr d p i len sz) st := (rfl)
theorem dop_iadr {d sz x i} (st : St) : dop env (.iadr d sz x i) st = plain (.iadr d sz x i) st := (rfl)
theorem dop_fld {d x off n} (st : St) : dop env (.fld d x off n) st = plain (.fld d x off n) st := (rfl)
theorem dop_idx {d x i len sz n} (st : St) : dop env (.idx d x i len sz n) st = plain (.idx d x i len sz n) st := (rfl)
theorem dop_sli {d sz x lo hi} (st : St) : dop env (.sli d sz x lo hi) st = plain (.sli d sz x lo hi) st := (rfl)
theorem dop_len {d x} (st : St) : dop env (.len d x) st = plain (.len d x) st := (rfl)
theorem dop_lens {d x} (st : St) : dop env (.lens d x) st = plain (.lens d x) st := (rfl)
theorem dop_ext {d x i} (st : St) : dop env (.ext d x i) st = plain (.ext d x i) st := (rfl)
theorem dop_build {d z parts} (st : St) : dop env (.build d z parts) st = plain (.build d z parts) st := (rfl)
theorem dop_mn {d mx x y} (st : St) : dop env (.mn d mx x y) st = plain (.mn d mx x y) st := (rfl)
theorem dop_mkf {d f caps} (st : St) : dop env (.mkf d f caps) st = plain (.mkf d f caps) st := (rfl)
theorem dop_alloc {d z} (st : St) : dop env (.alloc d z) st = act (den env) env (.alloc d z) st := (rfl)
theorem dop_box {d x} (st : St) : dop env (.box d x) st = act (den env) env (.box d x) st := (rfl)
theorem dop_store {d n p x} (st : St) : dop env (.store d n p x) st = act (den env) env (.store d n p x) st := (rfl)
theorem dop_mksl {d sz parts} (st : St) : dop env (.mksl d sz parts) st = act (den env) env (.mksl d sz parts) st := (rfl)
theorem dop_make {d z n c} (st : St) : dop env (.make d z n c) st = act (den env) env (.make d z n c) st := (rfl)
theorem dop_app {d sz x y} (st : St) : dop env (.app d sz x y) st = act (den env) env (.app d sz x y) st := (rfl)
theorem dop_cpy {d sz x y} (st : St) : dop env (.cpy d sz x y) st = act (den env) env (.cpy d sz x y) st := (rfl)
theorem dop_yield {d x args} (st : St) : dop env (.yield d x args) st = act (den env) env (.yield d x args) st := (rfl)
theorem op1_mov {d x} (st : St) : op1 (den env) env (.mov d x) st = plain (.mov d x) st := (rfl)
theorem op1_asg {d x} (st : St) : op1 (den env) env (.asg d x) st = plain (.asg d x) st := (rfl)
theorem op1_bin {d o x y} (st : St) : op1 (den env) env (.bin d o x y) st = plain (.bin d o x y) st := (rfl)
theorem op1_eqa {d neg n x y} (st : St) : op1 (den env) env (.eqa d neg n x y) st = plain (.eqa d neg n x y) st := (rfl)
theorem op1_eqb {d neg x y} (st : St) : op1 (den env) env (.eqb d neg x y) st = plain (.eqb d neg x y) st := (rfl)
theorem op1_un {d o x} (st : St) : op1 (den env) env (.un d o x) st = plain (.un d o x) st := (rfl)
theorem op1_conv {d k x} (st : St) : op1 (den env) env (.conv d k x) st = plain (.conv d k x) st := (rfl)
theorem op1_load {d n p} (st : St) : op1 (den env) env (.load d n p) st = plain (.load d n p) st := (rfl)
theorem op1_fadr {d p off} (st : St) : op1 (den env) env (.fadr d p off) st = plain (.fadr d p off) st := (rfl)
theorem op1_aadr {d p i len sz} (st : St) : op1 (den env) env (.aadr d p i len sz) st = plain (.aadr d p i len sz) st := (rfl)
theorem op1_iadr {d sz x i} (st : St) : op1 (den env) env (.iadr d sz x i) st = plain (.iadr d sz x i) st := (rfl)
theorem op1_fld {d x off n} (st : St) : op1 (den env) env (.fld d x off n) st = plain (.fld d x off n) st := (rfl)
theorem op1_idx {d x i len sz n} (st : St) : op1 (den env) env (.idx d x i len sz n) st = plain (.idx d x i len sz n) st := (rfl)
theorem op1_sli {d sz x lo hi} (st : St) : op1 (den env) env (.sli d sz x lo hi) st = plain (.sli d sz x lo hi) st := (rfl)
theorem op1_len {d x} (st : St) : op1 (den env) env (.len d x) st = plain (.len d x) st := (rfl)
theorem op1_lens {d x} (st : St) : op1 (den env) env (.lens d x) st = plain (.lens d x) st := (rfl)
theorem op1_ext {d x i} (st : St) : op1 (den env) env (.ext d x i) st = plain (.ext d x i) st := (rfl)
theorem op1_build {d z parts} (st : St) : op1 (den env) env (.build d z parts) st = plain (.build d z parts) st := (rfl)
theorem op1_mn {d mx x y} (st : St) : op1 (den env) env (.mn d mx x y) st = plain (.mn d mx x y) st := (rfl)
theorem op1_mkf {d f caps} (st : St) : op1 (den env) env (.mkf d f caps) st = plain (.mkf d f caps) st := (rfl)
theorem op1_alloc {d z} (st : St) : op1 (den env) env (.alloc d z) st = act (den env) env (.alloc d z) st := (rfl)
theorem op1_box {d x} (st : St) : op1 (den env) env (.box d x) st = act (den env) env (.box d x) st := (rfl)
theorem op1_store {d n p x} (st : St) : op1 (den env) env (.store d n p x) st = act (den env) env (.store d n p x) st := (rfl)
theorem op1_mksl {d sz parts} (st : St) : op1 (den env) env (.mksl d sz parts) st = act (den env) env (.mksl d sz parts) st := (rfl)
theorem op1_make {d z n c} (st : St) : op1 (den env) env (.make d z n c) st = act (den env) env (.make d z n c) st := (rfl)
theorem op1_app {d sz x y} (st : St) : op1 (den env) env (.app d sz x y) st = act (den env) env (.app d sz x y) st := (rfl)
theorem op1_cpy {d sz x y} (st : St) : op1 (den env) env (.cpy d sz x y) st = act (den env) env (.cpy d sz x y) st := (rfl)
theorem op1_yield {d x args} (st : St) : op1 (den env) env (.yield d x args) st = act (den env) env (.yield d x args) st := (rfl)
theorem killS_pv (d : Nat) (v : PV) : AV.kill d (.pv v) = .pv v := (rfl)
theorem killS_any (d : Nat) : AV.kill d .any = .any := (rfl)
theorem killS_row (d sz : Nat) (es : List PV) : AV.kill d (.row sz es) = .row sz es := (rfl)
theorem killS_pbox (d o j : Nat) : AV.kill d (.pbox o j) = .pbox o j := (rfl)
theorem killS_fn (d f : Nat) (l : List AV) : AV.kill d (.fn f l) = .fn f l := (rfl)
theorem killS_tup (d : Nat) (l : List AV) : AV.kill d (.tup l) = .tup l := (rfl)
theorem killS_yld (d : Nat) : AV.kill d .yld = .yld := (rfl)
theorem killS_refs (d t off len : Nat) : AV.kill d (.ref (.slot t) off len) = bcase (decide (t = d)) .any (.ref (.slot t) off len) := by
  by_cases h : t = d <;> simp [AV.kill, AV.roots, h, bcase]
theorem killS_refc (d o j off len : Nat) : AV.kill d (.ref (.cell o j) off len) = .ref (.cell o j) off len := (rfl)
theorem killS_pels (d t i j : Nat) : AV.kill d (.pel (.slot t) i j) = bcase (decide (t = d)) .any (.pel (.slot t) i j) := by
  by_cases h : t = d <;> simp [AV.kill, AV.roots, h, bcase]
theorem killS_pelc (d o q i j : Nat) : AV.kill d (.pel (.cell o q) i j) = .pel (.cell o q) i j := (rfl)
theorem killc_pv (d : Nat) (v : PV) : AV.killCell d (.pv v) = .pv v := (rfl)
theorem killc_any (d : Nat) : AV.killCell d .any = .any := (rfl)
theorem killc_row (d sz : Nat) (es : List PV) : AV.killCell d (.row sz es) = .row sz es := (rfl)
theorem killc_pbox (d o j : Nat) : AV.killCell d (.pbox o j) = .pbox o j := (rfl)
theorem killc_fn (d f : Nat) (l : List AV) : AV.killCell d (.fn f l) = .fn f l := (rfl)
theorem killc_tup (d : Nat) (l : List AV) : AV.killCell d (.tup l) = .tup l := (rfl)
theorem killc_yld (d : Nat) : AV.killCell d .yld = .yld := (rfl)
theorem killc_refc (d t j off len : Nat) : AV.killCell d (.ref (.cell t j) off len) = bcase (decide (t = d)) .any (.ref (.cell t j) off len) := by
  by_cases h : t = d <;> simp [AV.killCell, AV.rootsCell, h, bcase]
theorem killc_refs (d t off len : Nat) : AV.killCell d (.ref (.slot t) off len) = .ref (.slot t) off len := (rfl)
theorem killc_pelc (d t q i j : Nat) : AV.killCell d (.pel (.cell t q) i j) = bcase (decide (t = d)) .any (.pel (.cell t q) i j) := by
  by_cases h : t = d <;> simp [AV.killCell, AV.rootsCell, h, bcase]
theorem killc_pels (d t i j : Nat) : AV.killCell d (.pel (.slot t) i j) = .pel (.slot t) i j := (rfl)
theorem take_map_all {γ δ : Type} (f : γ → δ) (l : List γ) : (l.map f).take l.length = l.map f := List.take_of_length_le (by simp)
theorem scal_int (k : IntKind) (n : Int) : (PV.int k n).scalar = true := (rfl)
theorem scal_bool (b : Bool) : (PV.bool b).scalar = true := (rfl)
theorem scal_str (b : ByteArray) : (PV.str b).scalar = true := (rfl)
theorem scal_list (sz : Nat) (es : List PV) : (PV.list sz es).scalar = false := (rfl)
theorem scal_func (f : Nat) (es : List PV) : (PV.func f es).scalar = false := (rfl)
theorem cells_int (k : IntKind) (n : Int) : (PV.int k n).cells = [.int k n] := (rfl)
theorem cells_bool (b : Bool) : (PV.bool b).cells = [.bool b] := (rfl)
theorem cells_str (b : ByteArray) : (PV.str b).cells = [.str b] := (rfl)
theorem cells_list (sz : Nat) (es : List PV) : (PV.list sz es).cells = [.list sz es] := (rfl)
theorem cells_func (f : Nat) (es : List PV) : (PV.func f es).cells = [.func f es] := (rfl)
theorem cells_agg (cs : List PV) : (PV.agg cs).cells = cs := (rfl)
theorem part_one (c : PV) (cs : List PV) : part (c :: cs) 0 none = some c := (rfl)
theorem part_succ (c : PV) (cs : List PV) (n : Nat) (m : Option Nat) : part (c :: cs) (n + 1) m = part cs n m := by
  cases m with
  | none => rfl
  | some m =>
    simp only [part, List.length_cons, List.drop_succ_cons]
    by_cases h : n + m ≤ cs.length
    · rw [if_pos h, if_pos (by omega)]
    · rw [if_neg h, if_neg (by omega)]
theorem part_more (c : PV) (cs : List PV) (m : Nat) : part (c :: cs) 0 (some m) = if m ≤ (c :: cs).length then some (.agg ((c :: cs).take m)) else none := by
  simp only [part, Nat.zero_add, List.drop_zero]
theorem i64_fits {n : Int} (h : -9223372036854775808 ≤ n ∧ n ≤ 9223372036854775807) : IntKind.i64.wrap n = n := Go.IntWalk.i64_in n h
theorem i64_next {i n : Nat} (h : i < n) (hn : n ≤ lim) : IntKind.i64.wrap ((i : Int) + 1) = ((i + 1 : Nat) : Int) := by
  unfold lim at hn
  rw [Go.IntWalk.i64_in _ (by omega)]
  omega
theorem index_nat {k : IntKind} {i n : Nat} (h : i < n) : index (.int k (i : Int)) n = some i := by
  simp only [index]
  rw [if_pos (by omega)]
  simp
theorem index_b (k : IntKind) (i : Int) (n : Nat) : index (.int k i) n = bcase (decide (0 ≤ i ∧ i < n)) (some i.toNat) none := by
  simp only [index]
  by_cases h : 0 ≤ i ∧ i < n
  · rw [if_pos h, decide_eq_true h]; rfl
  · rw [if_neg h, decide_eq_false h]; rfl
theorem bcase_ite (b : Bool) (x y : α) : bcase b x y = if b = true then x else y := by cases b <;> rfl
theorem index_int {k : IntKind} {i : Int} {n : Nat} (h0 : 0 ≤ i) (h : i < n) : index (.int k i) n = some i.toNat := by
  simp only [index]
  rw [if_pos ⟨h0, h⟩]
end
end Go.Proofs.Ytpdfhckdmblicaa
