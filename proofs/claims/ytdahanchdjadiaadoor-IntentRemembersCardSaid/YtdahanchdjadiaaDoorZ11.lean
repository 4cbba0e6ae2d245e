/-
  Part 11 of the texts that the statement stands on.
-/
import Derived.Test.YtdahanchdjadiaaDoorZ10
import Derived.Test.YtdahanchdjadiaaDoorCards
import Derived.Test.YtdahanchdjadiaaDoorTie
import Derived.Lay
set_option linter.all false
namespace Go.Proofs.YtdahanchdjadiaaDoor
open Go.RowKit Go.ChangeShapes Go.WideShapes Go.ChangeAt V

set_option maxRecDepth 100000 in
theorem intentRemembers_lifted (os : Os) (started : os.Started) (H : Type) (enc : TypeId × Value → H) :
    ReturnsInHanded {} Tryd.checked os 5 .any (fun w args => (Rows.intentRemembersSpec.pre enc Tryd.prog Tryd.f5 [] false w args ∧ laidMetH Tryd.prog Rows.intentRemembersRow.laid w) ∧ sizedMet enc Tryd.prog Tryd.f5 (OpenSpec.ofChange Rows.intentRemembersSpec) false w args) (Rows.intentRemembersSpec.post enc Tryd.prog Tryd.f5 false true false false) := by
  refine returnsInHanded_of_change_and (C := Tryd.checked) (X := fun w _ => laidMetH Tryd.prog Rows.intentRemembersRow.laid w) (fun _ _ _ hh h => h.of_heap hh) Tryd.ownKnobV started (by kernel_rfl) Tryd.func5
    (ChangeSpec.witness_shaped (enc := enc) (C := Tryd.checked) (os := os) (X := fun w _ => laidMetH Tryd.prog Rows.intentRemembersRow.laid w) false (World.laidAll Tryd.prog os Rows.intentRemembersRow.laid) #[.int .u8 0, .int .u8 0, .agg #[.int .i64 0, .int .i64 0]] 8 (World.laidAll_os _ _ _)
      (World.shaped_of_ZipB (by kernel_rfl) (by kernel_rfl)) (by kernel_rfl) (by kernel_rfl) (by kernel_rfl)
      (by rw [MakeChecks.laidMetH_plain _ _ _ (by kernel_rfl)]; exact laidMet_laidAll _ (by kernel_rfl) (by kernel_rfl))) ?_
  intro W base args ds gs before hval0 hW _ _ hLaid _
  have hval : ∀ (j : Nat) t v, Tryd.f5.params[j]? = some t → args[j]? = some v → Value.okWide Tryd.prog W .any base t v := hval0
  have hW' := hW
  obtain ⟨p, q, hA0, hV, rfl, _, _⟩ := hW
  have hA : DataW.TrodAll enc Tryd.prog W 0 (fun _ => true) true Tryd.f5.params.toList args.toList ds p := hA0
  rw [Tryd.params5] at hA hval
  obtain ⟨v0, v1, v2, d0, d1, d2, p0, p1, p2, rfl, rfl, rfl, h0, h1, h2⟩ := trodAll_three hA
  obtain ⟨rfl, rfl⟩ := trodVars_none hV
  obtain ⟨q0, s0, r0⟩ := arg_int Tryd.underlying5 Tryd.rdU8 (hval 0 5 v0 rfl rfl) h0
  obtain ⟨x0, o0, rfl⟩ := su8 s0
  obtain ⟨q1, s1, r1⟩ := arg_int Tryd.underlying5 Tryd.rdU8 (hval 1 5 v1 rfl rfl) h1
  obtain ⟨x1, o1, rfl⟩ := su8 s1
  obtain ⟨q2, s2, r2⟩ := arg_struct Tryd.underlying49 Tryd.rdExt (hval 2 49 v2 rfl rfl) h2
  obtain ⟨x2, o2, e2⟩ := sext s2
  rw [e2] at r2
  clear hA0 hval0
  simp only [List.append_nil, List.append_assoc] at hW'
  have hlt : ∀ x ∈ p0 ++ (p1 ++ p2), x.block < W.heap.size := fun x hx => by simpa using hW'.lt x hx
  refine (calls_all (vs := [v0, v1, v2]) envOk (cal5 o0 o1 ) ⟨r0, r1, r2, trivial⟩ (globIn_of_laid rfl hLaid)).mono fun e W' ⟨he, hB⟩ => ?_
  subst he
  exact ⟨_, rfl, _, _, _, [], _, [], hW', trodAll_mk1 (shut_bool Tryd.underlying4 _), trodAll_mk3 (Below.trod Tryd.laidOutV (by kernel_rfl) (of_decide_eq_true (by kernel_rfl)) h0 hB (fun x hx => hlt x (List.mem_append_left _ hx))) (Below.trod Tryd.laidOutV (by kernel_rfl) (of_decide_eq_true (by kernel_rfl)) h1 hB (fun x hx => hlt x (List.mem_append_right _ (List.mem_append_left _ hx)))) (Below.trod Tryd.laidOutV (by kernel_rfl) (of_decide_eq_true (by kernel_rfl)) h2 hB (fun x hx => hlt x (List.mem_append_right _ (List.mem_append_right _ hx)))), rfl, hB.frame _, fun h => by cases h⟩

theorem intentRemembers_holds : Rows.IntentRemembersSaid :=
  OpenClaim.holds_of_wide 5 Tryd.f5 rfl rfl rfl rfl rfl rfl rfl ⟨rfl, rfl, rfl, rfl, rfl⟩ rfl rfl rfl rfl rfl (by kernel_rfl) Tryd.func5 (by kernel_rfl)
    (of_decide_eq_true (by kernel_rfl)) (by unfold Func.isWrapper; first | (rw [if_pos (by decide +kernel)]; kernel_rfl) | (rw [if_neg (by decide +kernel)]; exact ⟨rfl, rfl⟩))
    (fun os started H enc _ => intentRemembers_lifted os started H enc)
theorem intentRemembers_card_holds : Rows.IntentRemembersCardSaid :=
  Claim7.holds_tied_plain_at .later [] [.data] true (true, Rows.intentRemembersCard.stood.harness.2) false intentRemembers_holds (fun _ h => by cases h) (by kernel_rfl) (fun _ h => by cases h) intentRemembers_row_tie rfl ⟨rfl, rfl⟩ (by kernel_rfl) rfl
    (fun f fn hf hfn => by
      obtain rfl : f = 5 := Option.some.inj ((show Tryd.prog.funcNamed "standby/standbylaw17.IntentRemembers" = some 5 by kernel_rfl).symm.trans hf) |>.symm
      obtain rfl : fn = Tryd.f5 := (Option.some.inj (Tryd.func5.symm.trans hfn)).symm
      exact ⟨by kernel_rfl, fun j t ht => by
        rw [Tryd.params5] at ht
        have hm : t ∈ [5, 5, 49] := by simpa using Array.mem_of_getElem? ht
        have hall : ([5, 5, 49].all fun u => !Tryd.prog.wantsStandIn u) = true := by kernel_rfl
        exact (show Tryd.prog.wantsStandIn t = false by simpa using List.all_eq_true.1 hall t hm)⟩)
    (by kernel_rfl)
end Go.Proofs.YtdahanchdjadiaaDoor
