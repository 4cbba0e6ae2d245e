/-
  Part 9 of the texts that the statement stands on.
-/
import Derived.Test.YtldnpgbacakfeaaZ8
import Derived.Test.YtldnpgbacakfeaaRows
namespace Go.Proofs.Ytldnpgbacakfeaa
open Go.RowKit
set_option linter.all false

def oneEnv (f : Nat) (fn : VFn) : Env := fun k => if k = f then some (.code fn) else none
theorem oneEnv_ok {P : Program} {f : Nat} {fn : VFn} (h : fnOk P f fn = true) : EnvOk P (oneEnv f fn) := fun k d hk => by
  unfold oneEnv at hk
  split at hk
  · rename_i e; subst e; cases hk; exact h
  · cases hk
theorem callOk_of_true {P : Program} {f : Nat} {b : Bool} (h : ∀ w, Calls P f #[] w fun e w' => e = .returned (.bool b) ∧ Below w.heap.size w w') : CallOk P f [] [(.bool b, false)] := fun T0 w vs h1 h2 h3 h4 => by
  have : vs = [] := List.eq_nil_of_length_eq_zero h3
  subst this
  refine (h w).mono ?_
  rintro e w' ⟨rfl, hB⟩
  refine ⟨_, T0, rfl, hB, fun _ _ => rfl, fun b hb => h2 b (by have := hB.size; omega), #[.bool b], rfl, rfl, fun i r u hr hu => ?_⟩
  cases i with
  | zero => cases hr; cases hu; exact PRep.bool b
  | succ i => simp at hr
theorem sl_nil {ok : Nat → Prop} {w : World} {sz : Nat} {v : Value} (h : PRep ok w (.list sz []) v) : ∃ a c, v = .slice a 0 c ∧ Sl secR (fun _ => True) w a 0 c [] := by
  obtain ⟨l, hl⟩ : ∃ l : List PV, l = [] := ⟨_, rfl⟩
  rw [← hl] at h
  cases h with
  | nil _ a => exact ⟨a, 0, rfl, ⟨rfl, Nat.le_refl _, Nat.zero_le _, fun _ => rfl, .inl rfl⟩⟩
  | list _ _ b off c cv h1 h2 h3 h4 h6 h7 h8 => subst hl; exact ⟨_, c, rfl, ⟨rfl, Nat.zero_le _, h4, (fun e => by cases e), .inl rfl⟩⟩
theorem awake14_ok : ∀ args rs, awakeX args = some rs → callable Try.prog 14 = true ∧ CallOk Try.prog 14 args rs := fun args rs h => by
  match args, h with
  | [], h => cases h; exact ⟨by kernel_rfl, callOk_of_true awake_any⟩
  | _ :: _, h => cases h
theorem clone58_fn : fnOk Try.prog 58 fn58 = true := by kernel_rfl
theorem clone58_some {en : Env} (hen : en 58 = some (.code fn58)) {e : PV} {es : List PV} (hl : (e :: es).length ≤ lim) : cal en 58 [.list 8 (e :: es)] = some [(.list 8 (e :: es), true)] := by
  have F1 : (es.length + 1 ≤ lim) = True := eq_true (by simpa using hl)
  rw [cal_code hen rfl]
  simp only [fn58]
  simp only [start, z_map_cons, z_map_nil, z_len_cons, z_len_nil, z_repl_zero, z_repl_succ, z_cons_app, z_nil_app, Nat.reduceAdd, Nat.reduceSub]
  simp only [F1, z_nil_app, Int.le_refl, take_map_all, Nat.le_refl, St.freezeRows, BV.frozen, List.take_length, List.take_append_drop, z_repl_zero, Int.toNat_zero, true_and, and_true, and_self, eq_self, z_take_zero, List.drop_nil, List.take_nil, den_skip, den_ops, den_drw, den_seq, den_cond, den_block, den_exit, den_ret, next_normal, next_exit, next_ret, endBlock_normal, endBlock_ret, endBlock_exit, tail_normal, tail_ret, tail_exit, fin_normal, fin_ret, bcase_true, bcase_false, z_bind_some, z_map_some, z_bind_none, z_map_none, resultsOf, resultList, resultOf, dops_nil, dops_cons, dop_grd, dop_pick, dop_call, dop_callv, op1_call, op1_callv, op1_pick, dop_mov, dop_asg, dop_bin, dop_eqa, dop_eqb, dop_isn, dop_cut, dop_un, dop_conv, dop_load, dop_fadr, dop_aadr, dop_iadr, dop_fld, dop_idx, dop_sli, dop_len, dop_lens, dop_ext, dop_build, dop_mn, dop_mkf, dop_alloc, dop_box, dop_store, dop_mksl, dop_make, dop_app, dop_cpy, dop_yield, op1_mov, op1_asg, op1_bin, op1_eqa, op1_eqb, op1_isn, op1_cut, op1_un, op1_conv, op1_load, op1_fadr, op1_aadr, op1_iadr, op1_fld, op1_idx, op1_sli, op1_len, op1_lens, op1_ext, op1_build, op1_mn, op1_mkf, op1_alloc, op1_box, op1_store, op1_mksl, op1_make, op1_app, op1_cpy, op1_yield, plain, act, dstOf, Bool.false_eq_true, if_true, if_false, z_ite_true, z_ite_false, reduceCtorEq, St.get, St.put, St.pvOf, St.putRow, St.consume, St.freeze, St.row, St.elems, St.grab, St.takeRow, St.setRow, St.place, St.optPv, St.setCell, St.setCellRow, binPV, intBin, unPV, BV.val, cells_int, cells_bool, cells_str, cells_list, cells_func, cells_agg, part_one, part_succ, part_more, killS_pv, killS_any, killS_row, killS_pbox, killS_fn, killS_tup, killS_yld, killS_refs, killS_refc, killS_pels, killS_pelc, killc_pv, killc_any, killc_row, killc_pbox, killc_fn, killc_tup, killc_yld, killc_refs, killc_refc, killc_pels, killc_pelc, Nat.reduceEqDiff, bound, consumeAll, buildParts, capsOf, capOf, z_bind_eq, z_pure, z_map_cons, z_map_nil, z_len_cons, z_len_nil, List.append_nil, z_nil_app, z_cons_app, Nat.reduceAdd, Nat.zero_add, Nat.add_zero, Nat.reduceLT, Nat.reduceLeDiff, z_drop_zero, z_drop_succ, z_take_succ, z_take_zero, decide_true, decide_false, Bool.not_true, Bool.not_false, Bool.true_eq_false, beq_self_eq_true, Bool.true_and, Bool.and_true, Bool.false_and, Bool.and_false, Bool.true_or, Bool.false_or, Bool.or_false, Bool.or_true, beq_t, beq_f, bcase_not, bcase_bne, List.length_map, Nat.beq, z_getD_zero, z_getD_8, z_getD_succ, z_get_zero, z_get_8, z_get_succ, z_set_zero, z_set_8, z_set_succ, dcall, dcallP, afterCall_false, afterCall_true, List.mapM_cons, z_mapM_nil, St.snapFn, St.snap, z_any_cons, z_any_nil, z_all_cons, z_all_nil, scal_int, scal_bool, scal_str, scal_list, scal_func, St.layAll, St.lay, z_foldl_cons, z_foldl_nil, St.freezeArg, St.freezeArg1]
theorem clone58_ok : ∀ args rs, cloneX 8 args = some rs → callable Try.prog 58 = true ∧ CallOk Try.prog 58 args rs := fun args rs h => by
  unfold cloneX at h
  split at h
  case h_2 => cases h
  rename_i sz es
  split at h
  case isFalse => cases h
  rename_i hc
  obtain ⟨rfl, hl⟩ := hc
  cases h
  cases es with
  | cons e es =>
    obtain ⟨n, hn⟩ := vmCall_of_cal (clone58_some (en := oneEnv 58 fn58) (if_pos rfl) hl)
    exact vmCall_ok (oneEnv_ok clone58_fn) hn
  | nil =>
    refine ⟨by kernel_rfl, fun T0 w vs h1 h2 h3 h4 => ?_⟩
    match vs, h3 with
    | [v], _ =>
      have hv := h4 0 _ v rfl rfl
      obtain ⟨a, c, rfl, hsl⟩ := sl_nil hv
      refine (clone_sec (ok := fun _ => True) hsl (by omega)).mono ?_
      rintro e w' ⟨a', n', c', rfl, hrd, hB⟩
      obtain ⟨v, hv, hb, ⟨xs, hown, _⟩, hnil⟩ := hrd
      obtain rfl : Value.slice a' n' c' = v := by simpa using hv
      rcases hown.2 with ⟨e1, _⟩ | ⟨g, cap, cur, e1, _, hg, _, hm, hs, _⟩
      · refine ⟨_, T0, rfl, hB, fun _ _ => rfl, fun b hb => h2 b (by have := hB.size; omega), #[_], rfl, rfl, fun i r u hr hu => ?_⟩
        cases i with
        | zero => cases hr; cases hu; exact .inl ⟨rfl, none, e1⟩
        | succ i => simp at hr
      · have hg0 : w.heap.size ≤ g := hb g (by rw [e1]; rfl)
        have hgl : g < w'.heap.size := (Array.getElem?_eq_some_iff.1 hg).1
        refine ⟨_, fun b => if b = g then .row (.part 0 0) else T0 b, rfl, hB, fun b hb => if_neg (by omega), fun b hb => ?_, #[_], rfl, rfl, fun i r u hr hu => ?_⟩
        · show (if b = g then _ else T0 b) = _
          rw [if_neg (by omega)]; exact h2 b (by have := hB.size; omega)
        · cases i with
          | zero =>
            cases hr; cases hu
            exact .inr ⟨g, cap, cur, _, e1, if_pos rfl, hg, hs, Nat.zero_le _, hm, (fun e he => by cases he), fun i e j x hi => by simp at hi⟩
          | succ i => simp at hr
end Go.Proofs.Ytldnpgbacakfeaa

namespace Go.Proofs.Ytldnpgbacakfeaa
set_option linter.all false

def Ok1 (P : Program) (f : Nat) : VDef → Prop
  | .code fn => fnOk P f fn = true
  | .ext g => ∀ args rs, g args = some rs → callable P f = true ∧ CallOk P f args rs
theorem ok3 : Ok1 Try.prog 3 (.code fn3) := (by kernel_rfl : fnOk Try.prog 3 fn3 = true)
theorem ok4 : Ok1 Try.prog 4 (.code fn4) := (by kernel_rfl : fnOk Try.prog 4 fn4 = true)
theorem ok5 : Ok1 Try.prog 5 (.code fn5) := (by kernel_rfl : fnOk Try.prog 5 fn5 = true)
theorem ok6 : Ok1 Try.prog 6 (.code fn6) := (by kernel_rfl : fnOk Try.prog 6 fn6 = true)
theorem ok7 : Ok1 Try.prog 7 (.code fn7) := (by kernel_rfl : fnOk Try.prog 7 fn7 = true)
theorem ok8 : Ok1 Try.prog 8 (.code fn8) := (by kernel_rfl : fnOk Try.prog 8 fn8 = true)
theorem ok9 : Ok1 Try.prog 9 (.code fn9) := (by kernel_rfl : fnOk Try.prog 9 fn9 = true)
theorem ok10 : Ok1 Try.prog 10 (.code fn10) := (by kernel_rfl : fnOk Try.prog 10 fn10 = true)
theorem ok11 : Ok1 Try.prog 11 (.code fn11) := (by kernel_rfl : fnOk Try.prog 11 fn11 = true)
theorem ok12 : Ok1 Try.prog 12 (.code fn12) := (by kernel_rfl : fnOk Try.prog 12 fn12 = true)
theorem ok13 : Ok1 Try.prog 13 (.code fn13) := (by kernel_rfl : fnOk Try.prog 13 fn13 = true)
theorem ok14 : Ok1 Try.prog 14 (.ext awakeX) := awake14_ok
theorem ok15 : Ok1 Try.prog 15 (.code fn15) := (by kernel_rfl : fnOk Try.prog 15 fn15 = true)
theorem ok16 : Ok1 Try.prog 16 (.code fn16) := (by kernel_rfl : fnOk Try.prog 16 fn16 = true)
theorem ok17 : Ok1 Try.prog 17 (.code fn17) := (by kernel_rfl : fnOk Try.prog 17 fn17 = true)
theorem ok18 : Ok1 Try.prog 18 (.code fn18) := (by kernel_rfl : fnOk Try.prog 18 fn18 = true)
theorem ok19 : Ok1 Try.prog 19 (.code fn19) := (by kernel_rfl : fnOk Try.prog 19 fn19 = true)
theorem ok20 : Ok1 Try.prog 20 (.code fn20) := (by kernel_rfl : fnOk Try.prog 20 fn20 = true)
theorem ok21 : Ok1 Try.prog 21 (.code fn21) := (by kernel_rfl : fnOk Try.prog 21 fn21 = true)
theorem ok22 : Ok1 Try.prog 22 (.code fn22) := (by kernel_rfl : fnOk Try.prog 22 fn22 = true)
theorem ok23 : Ok1 Try.prog 23 (.code fn23) := (by kernel_rfl : fnOk Try.prog 23 fn23 = true)
theorem ok24 : Ok1 Try.prog 24 (.code fn24) := (by kernel_rfl : fnOk Try.prog 24 fn24 = true)
theorem ok25 : Ok1 Try.prog 25 (.code fn25) := (by kernel_rfl : fnOk Try.prog 25 fn25 = true)
theorem ok26 : Ok1 Try.prog 26 (.code fn26) := (by kernel_rfl : fnOk Try.prog 26 fn26 = true)
theorem ok27 : Ok1 Try.prog 27 (.code fn27) := (by kernel_rfl : fnOk Try.prog 27 fn27 = true)
theorem ok28 : Ok1 Try.prog 28 (.code fn28) := (by kernel_rfl : fnOk Try.prog 28 fn28 = true)
theorem ok29 : Ok1 Try.prog 29 (.code fn29) := (by kernel_rfl : fnOk Try.prog 29 fn29 = true)
theorem ok30 : Ok1 Try.prog 30 (.code fn30) := (by kernel_rfl : fnOk Try.prog 30 fn30 = true)
theorem ok31 : Ok1 Try.prog 31 (.code fn31) := (by kernel_rfl : fnOk Try.prog 31 fn31 = true)
theorem ok32 : Ok1 Try.prog 32 (.code fn32) := (by kernel_rfl : fnOk Try.prog 32 fn32 = true)
theorem ok33 : Ok1 Try.prog 33 (.code fn33) := (by kernel_rfl : fnOk Try.prog 33 fn33 = true)
theorem ok34 : Ok1 Try.prog 34 (.code fn34) := (by kernel_rfl : fnOk Try.prog 34 fn34 = true)
theorem ok35 : Ok1 Try.prog 35 (.code fn35) := (by kernel_rfl : fnOk Try.prog 35 fn35 = true)
theorem ok36 : Ok1 Try.prog 36 (.code fn36) := (by kernel_rfl : fnOk Try.prog 36 fn36 = true)
theorem ok37 : Ok1 Try.prog 37 (.code fn37) := (by kernel_rfl : fnOk Try.prog 37 fn37 = true)
theorem ok38 : Ok1 Try.prog 38 (.code fn38) := (by kernel_rfl : fnOk Try.prog 38 fn38 = true)
theorem ok39 : Ok1 Try.prog 39 (.code fn39) := (by kernel_rfl : fnOk Try.prog 39 fn39 = true)
theorem ok40 : Ok1 Try.prog 40 (.code fn40) := (by kernel_rfl : fnOk Try.prog 40 fn40 = true)
theorem ok41 : Ok1 Try.prog 41 (.code fn41) := (by kernel_rfl : fnOk Try.prog 41 fn41 = true)
theorem ok42 : Ok1 Try.prog 42 (.code fn42) := (by kernel_rfl : fnOk Try.prog 42 fn42 = true)
theorem ok43 : Ok1 Try.prog 43 (.code fn43) := (by kernel_rfl : fnOk Try.prog 43 fn43 = true)
theorem ok44 : Ok1 Try.prog 44 (.code fn44) := (by kernel_rfl : fnOk Try.prog 44 fn44 = true)
theorem ok45 : Ok1 Try.prog 45 (.code fn45) := (by kernel_rfl : fnOk Try.prog 45 fn45 = true)
theorem ok46 : Ok1 Try.prog 46 (.code fn46) := (by kernel_rfl : fnOk Try.prog 46 fn46 = true)
theorem ok47 : Ok1 Try.prog 47 (.code fn47) := (by kernel_rfl : fnOk Try.prog 47 fn47 = true)
theorem ok48 : Ok1 Try.prog 48 (.code fn48) := (by kernel_rfl : fnOk Try.prog 48 fn48 = true)
theorem ok49 : Ok1 Try.prog 49 (.code fn49) := (by kernel_rfl : fnOk Try.prog 49 fn49 = true)
theorem ok50 : Ok1 Try.prog 50 (.code fn50) := (by kernel_rfl : fnOk Try.prog 50 fn50 = true)
theorem ok51 : Ok1 Try.prog 51 (.code fn51) := (by kernel_rfl : fnOk Try.prog 51 fn51 = true)
theorem ok52 : Ok1 Try.prog 52 (.code fn52) := (by kernel_rfl : fnOk Try.prog 52 fn52 = true)
theorem ok53 : Ok1 Try.prog 53 (.code fn53) := (by kernel_rfl : fnOk Try.prog 53 fn53 = true)
theorem ok54 : Ok1 Try.prog 54 (.code fn54) := (by kernel_rfl : fnOk Try.prog 54 fn54 = true)
theorem ok55 : Ok1 Try.prog 55 (.code fn55) := (by kernel_rfl : fnOk Try.prog 55 fn55 = true)
theorem ok56 : Ok1 Try.prog 56 (.code fn56) := (by kernel_rfl : fnOk Try.prog 56 fn56 = true)
theorem ok57 : Ok1 Try.prog 57 (.code fn57) := (by kernel_rfl : fnOk Try.prog 57 fn57 = true)
theorem ok58 : Ok1 Try.prog 58 (.ext (cloneX 8)) := clone58_ok
theorem ok59 : Ok1 Try.prog 59 (.code fn59) := (by kernel_rfl : fnOk Try.prog 59 fn59 = true)
theorem ok60 : Ok1 Try.prog 60 (.code fn60) := (by kernel_rfl : fnOk Try.prog 60 fn60 = true)
theorem ok61 : Ok1 Try.prog 61 (.code fn61) := (by kernel_rfl : fnOk Try.prog 61 fn61 = true)
theorem ok62 : Ok1 Try.prog 62 (.code fn62) := (by kernel_rfl : fnOk Try.prog 62 fn62 = true)
theorem ok63 : Ok1 Try.prog 63 (.code fn63) := (by kernel_rfl : fnOk Try.prog 63 fn63 = true)
theorem ok64 : Ok1 Try.prog 64 (.code fn64) := (by kernel_rfl : fnOk Try.prog 64 fn64 = true)
theorem ok65 : Ok1 Try.prog 65 (.code fn65) := (by kernel_rfl : fnOk Try.prog 65 fn65 = true)
theorem ok67 : Ok1 Try.prog 67 (.code fn67) := (by kernel_rfl : fnOk Try.prog 67 fn67 = true)
theorem ok68 : Ok1 Try.prog 68 (.code fn68) := (by kernel_rfl : fnOk Try.prog 68 fn68 = true)
theorem ok69 : Ok1 Try.prog 69 (.code fn69) := (by kernel_rfl : fnOk Try.prog 69 fn69 = true)
theorem ok70 : Ok1 Try.prog 70 (.code fn70) := (by kernel_rfl : fnOk Try.prog 70 fn70 = true)
theorem ok71 : Ok1 Try.prog 71 (.code fn71) := (by kernel_rfl : fnOk Try.prog 71 fn71 = true)
theorem ok72 : Ok1 Try.prog 72 (.code fn72) := (by kernel_rfl : fnOk Try.prog 72 fn72 = true)
theorem ok73 : Ok1 Try.prog 73 (.code fn73) := (by kernel_rfl : fnOk Try.prog 73 fn73 = true)
theorem ok74 : Ok1 Try.prog 74 (.code fn74) := (by kernel_rfl : fnOk Try.prog 74 fn74 = true)
theorem ok75 : Ok1 Try.prog 75 (.code fn75) := (by kernel_rfl : fnOk Try.prog 75 fn75 = true)
theorem ok76 : Ok1 Try.prog 76 (.code fn76) := (by kernel_rfl : fnOk Try.prog 76 fn76 = true)
theorem ok77 : Ok1 Try.prog 77 (.code fn77) := (by kernel_rfl : fnOk Try.prog 77 fn77 = true)
theorem ok78 : Ok1 Try.prog 78 (.code fn78) := (by kernel_rfl : fnOk Try.prog 78 fn78 = true)
theorem ok79 : Ok1 Try.prog 79 (.code fn79) := (by kernel_rfl : fnOk Try.prog 79 fn79 = true)
theorem ok80 : Ok1 Try.prog 80 (.code fn80) := (by kernel_rfl : fnOk Try.prog 80 fn80 = true)
theorem ok81 : Ok1 Try.prog 81 (.code fn81) := (by kernel_rfl : fnOk Try.prog 81 fn81 = true)
theorem tabOk : ∀ p ∈ tab, Ok1 Try.prog p.1 p.2 := by
  unfold tab
  exact List.forall_mem_cons.2 ⟨ok3, List.forall_mem_cons.2 ⟨ok4, List.forall_mem_cons.2 ⟨ok5, List.forall_mem_cons.2 ⟨ok6, List.forall_mem_cons.2 ⟨ok7, List.forall_mem_cons.2 ⟨ok8, List.forall_mem_cons.2 ⟨ok9, List.forall_mem_cons.2 ⟨ok10, List.forall_mem_cons.2 ⟨ok11, List.forall_mem_cons.2 ⟨ok12, List.forall_mem_cons.2 ⟨ok13, List.forall_mem_cons.2 ⟨ok14, List.forall_mem_cons.2 ⟨ok15, List.forall_mem_cons.2 ⟨ok16, List.forall_mem_cons.2 ⟨ok17, List.forall_mem_cons.2 ⟨ok18, List.forall_mem_cons.2 ⟨ok19, List.forall_mem_cons.2 ⟨ok20, List.forall_mem_cons.2 ⟨ok21, List.forall_mem_cons.2 ⟨ok22, List.forall_mem_cons.2 ⟨ok23, List.forall_mem_cons.2 ⟨ok24, List.forall_mem_cons.2 ⟨ok25, List.forall_mem_cons.2 ⟨ok26, List.forall_mem_cons.2 ⟨ok27, List.forall_mem_cons.2 ⟨ok28, List.forall_mem_cons.2 ⟨ok29, List.forall_mem_cons.2 ⟨ok30, List.forall_mem_cons.2 ⟨ok31, List.forall_mem_cons.2 ⟨ok32, List.forall_mem_cons.2 ⟨ok33, List.forall_mem_cons.2 ⟨ok34, List.forall_mem_cons.2 ⟨ok35, List.forall_mem_cons.2 ⟨ok36, List.forall_mem_cons.2 ⟨ok37, List.forall_mem_cons.2 ⟨ok38, List.forall_mem_cons.2 ⟨ok39, List.forall_mem_cons.2 ⟨ok40, List.forall_mem_cons.2 ⟨ok41, List.forall_mem_cons.2 ⟨ok42, List.forall_mem_cons.2 ⟨ok43, List.forall_mem_cons.2 ⟨ok44, List.forall_mem_cons.2 ⟨ok45, List.forall_mem_cons.2 ⟨ok46, List.forall_mem_cons.2 ⟨ok47, List.forall_mem_cons.2 ⟨ok48, List.forall_mem_cons.2 ⟨ok49, List.forall_mem_cons.2 ⟨ok50, List.forall_mem_cons.2 ⟨ok51, List.forall_mem_cons.2 ⟨ok52, List.forall_mem_cons.2 ⟨ok53, List.forall_mem_cons.2 ⟨ok54, List.forall_mem_cons.2 ⟨ok55, List.forall_mem_cons.2 ⟨ok56, List.forall_mem_cons.2 ⟨ok57, List.forall_mem_cons.2 ⟨ok58, List.forall_mem_cons.2 ⟨ok59, List.forall_mem_cons.2 ⟨ok60, List.forall_mem_cons.2 ⟨ok61, List.forall_mem_cons.2 ⟨ok62, List.forall_mem_cons.2 ⟨ok63, List.forall_mem_cons.2 ⟨ok64, List.forall_mem_cons.2 ⟨ok65, List.forall_mem_cons.2 ⟨ok67, List.forall_mem_cons.2 ⟨ok68, List.forall_mem_cons.2 ⟨ok69, List.forall_mem_cons.2 ⟨ok70, List.forall_mem_cons.2 ⟨ok71, List.forall_mem_cons.2 ⟨ok72, List.forall_mem_cons.2 ⟨ok73, List.forall_mem_cons.2 ⟨ok74, List.forall_mem_cons.2 ⟨ok75, List.forall_mem_cons.2 ⟨ok76, List.forall_mem_cons.2 ⟨ok77, List.forall_mem_cons.2 ⟨ok78, List.forall_mem_cons.2 ⟨ok79, List.forall_mem_cons.2 ⟨ok80, List.forall_mem_cons.2 ⟨ok81, fun p hp => by cases hp⟩⟩⟩⟩⟩⟩⟩⟩⟩⟩⟩⟩⟩⟩⟩⟩⟩⟩⟩⟩⟩⟩⟩⟩⟩⟩⟩⟩⟩⟩⟩⟩⟩⟩⟩⟩⟩⟩⟩⟩⟩⟩⟩⟩⟩⟩⟩⟩⟩⟩⟩⟩⟩⟩⟩⟩⟩⟩⟩⟩⟩⟩⟩⟩⟩⟩⟩⟩⟩⟩⟩⟩⟩⟩⟩⟩⟩⟩
theorem lookup_mem : ∀ {l : List (Nat × VDef)} {f : Nat} {d : VDef}, l.lookup f = some d → (f, d) ∈ l
  | (k, v) :: l, f, d, h => by
    rw [List.lookup_cons] at h
    split at h
    · rename_i e
      have e : f = k := by simpa using e
      cases h; subst e; simp
    · exact List.mem_cons_of_mem _ (lookup_mem h)
theorem envOk : EnvOk Try.prog env := fun f d h => by
  have := tabOk _ (lookup_mem h)
  cases d <;> exact this
end Go.Proofs.Ytldnpgbacakfeaa

namespace Go.Proofs.Ytldnpgbacakfeaa.V
open Go.RowKit Go.ChangeShapes Go.WideShapes Go.ChangeAt
set_option linter.all false

theorem Try.ownKnobV : ownKnob Try.prog.godebug = none := by kernel_rfl
theorem Try.laidOutV : laidOutB Try.prog = true := by kernel_rfl
def okI (n : Int) : Prop := -9223372036854775808 ≤ n ∧ n ≤ 9223372036854775807
theorem sint_i64 {q : PV} (h : SInt .i64 [q]) : ∃ n, okI n ∧ q = eI n := by
  obtain ⟨n, h1, h2⟩ := h
  have h3 : IntKind.i64.min = -9223372036854775808 := rfl
  have h4 : IntKind.i64.max = 9223372036854775807 := rfl
  simp only [Lit.wf, Bool.and_eq_true, decide_eq_true_eq] at h1
  cases h2
  exact ⟨n, ⟨by omega, by omega⟩, rfl⟩
theorem sint_u8 {q : PV} (h : SInt .u8 [q]) : ∃ b : UInt8, q = .int .u8 (b.toNat : Int) := by
  obtain ⟨n, h1, h2⟩ := h
  have h3 : IntKind.u8.min = 0 := rfl
  have h4 : IntKind.u8.max = 255 := rfl
  simp only [Lit.wf, Bool.and_eq_true, decide_eq_true_eq] at h1
  cases h2
  refine ⟨UInt8.ofNat n.toNat, ?_⟩
  rw [UInt8.toNat_ofNat_of_lt' (show n.toNat < 2 ^ 8 by omega)]
  congr 1; omega
theorem sbool {q : PV} (h : SBool [q]) : ∃ b, q = eB b := by
  obtain ⟨b, h2⟩ := h
  cases h2
  exact ⟨b, rfl⟩
def SSec : List PV → Prop := SArr 8 (SInt .u8)
theorem ssec {ps : List PV} (h : SSec ps) : ∃ s : Sec, ps = secPV s := by
  obtain ⟨h1, h2⟩ := h
  have : ∀ l : List PV, (∀ p ∈ l, SInt .u8 [p]) → ∃ m : List UInt8, m.length = l.length ∧ l = m.map fun b => .int .u8 (b.toNat : Int) := by
    intro l
    induction l with
    | nil => exact fun _ => ⟨[], rfl, rfl⟩
    | cons p l ih =>
      intro h
      obtain ⟨b, hb⟩ := sint_u8 (h p (by simp))
      obtain ⟨m, e1, e2⟩ := ih fun q hq => h q (by simp [hq])
      exact ⟨b :: m, by simp [e1], by rw [hb, e2]; rfl⟩
  obtain ⟨m, e1, e2⟩ := this ps h2
  refine ⟨⟨m.toArray, by simp [e1, h1]⟩, ?_⟩
  subst e2
  simp [secPV, Vector.toList]
theorem slist {α : Type} {n : Nat} {S : List PV → Prop} {wr : List PV → PV} {enc : α → PV} {ok : α → Prop} (hS : ∀ ps, S ps → ∃ a, ok a ∧ wr ps = enc a) {q : PV} (h : SList n S wr [q]) : ∃ l : List α, (∀ a ∈ l, ok a) ∧ q = .list n (l.map enc) := by
  obtain ⟨es, h1, h2⟩ := h
  cases h1
  have : ∀ es : List PV, (∀ x ∈ es, ∃ q, S q ∧ x = wr q) → ∃ l : List α, (∀ a ∈ l, ok a) ∧ es = l.map enc := by
    intro es
    induction es with
    | nil => exact fun _ => ⟨[], by simp, rfl⟩
    | cons e es ih =>
      intro h
      obtain ⟨q, h3, h4⟩ := h e (by simp)
      obtain ⟨a, h5, h6⟩ := hS q h3
      obtain ⟨l, h7, h8⟩ := ih fun x hx => h x (by simp [hx])
      exact ⟨a :: l, by simp; exact ⟨h5, h7⟩, by rw [h4, h6, h8]; rfl⟩
  obtain ⟨l, h3, h4⟩ := this es h2
  exact ⟨l, h3, by rw [h4]⟩
theorem wr_int {k : IntKind} {ps : List PV} (h : SInt k ps) : (wrS ps).cells = ps := by
  obtain ⟨n, _, rfl⟩ := h; rfl
theorem wr_list {n : Nat} {S : List PV → Prop} {wr : List PV → PV} {ps : List PV} (h : SList n S wr ps) : (wrS ps).cells = ps := by
  obtain ⟨es, rfl, _⟩ := h; rfl
theorem wr_bool {ps : List PV} (h : SBool ps) : (wrS ps).cells = ps := by
  obtain ⟨b, rfl⟩ := h; rfl
theorem one_of {S : List PV → Prop} {ps : List PV} (h1 : S ps) (h : ∀ ps, S ps → ∃ q, ps = [q]) : ∃ q, ps = [q] ∧ S [q] := by
  obtain ⟨q, rfl⟩ := h ps h1
  exact ⟨q, rfl, h1⟩

def okExt (x : Exn) : Prop := okI x.start ∧ okI x.count
def SExt : List PV → Prop := SCat [SInt .i64, SInt .i64]
theorem sext {ps : List PV} (h : SExt ps) : ∃ x : Exn, okExt x ∧ PV.agg ps = eExt x := by
  obtain ⟨p, q, rfl, ⟨n, h1, rfl⟩, p2, q2, rfl, ⟨m, h2, rfl⟩, rfl⟩ := h
  obtain ⟨a, o1, e1⟩ := sint_i64 ⟨n, h1, rfl⟩
  obtain ⟨b, o2, e2⟩ := sint_i64 ⟨m, h2, rfl⟩
  refine ⟨⟨a, b⟩, ⟨o1, o2⟩, ?_⟩
  rw [e1, e2]; rfl
def SSecs : List PV → Prop := SList 8 SSec .agg
theorem ssecs {q : PV} (h : SSecs [q]) : ∃ l : List Sec, q = eSecs l := by
  obtain ⟨l, _, e⟩ := slist (enc := eSec) (ok := fun _ => True) (fun ps h => by obtain ⟨s, rfl⟩ := ssec h; exact ⟨s, trivial, rfl⟩) h
  exact ⟨l, e⟩
def SImg : List PV → Prop := SList 1 SSecs wrS
theorem simg {q : PV} (h : SImg [q]) : ∃ l : Img, q = .list 1 (l.map eSecs) := by
  obtain ⟨l, _, e⟩ := slist (enc := eSecs) (ok := fun _ => True) (fun ps h => by
    obtain ⟨es, rfl, h2⟩ := h
    obtain ⟨l, e⟩ := ssecs (q := .list 8 es) ⟨es, rfl, h2⟩
    exact ⟨l, trivial, e⟩) h
  exact ⟨l, e⟩
theorem Try.rdInt : RdsC Try.prog 3 1 (SInt .i64) := RdsC.int Try.underlying3 (by kernel_rfl)
theorem Try.rdU8 : RdsC Try.prog 5 1 (SInt .u8) := RdsC.int Try.underlying5 (by kernel_rfl)
theorem Try.rdSec : RdsC Try.prog 52 8 SSec := RdsC.arr Try.underlying52 Try.rdU8 (by kernel_rfl)
theorem Try.rdSecs : RdsC Try.prog 40 1 SSecs := RdsC.list Try.underlying40 (by kernel_rfl) Try.rdSec (by decide) (fun _ _ _ => rfl)
theorem Try.rdImg : RdsC Try.prog 24 1 SImg := RdsC.list Try.underlying24 (by kernel_rfl) Try.rdSecs (by decide) (fun _ h _ => wr_list h)
theorem Try.rdExt : RdsC Try.prog 59 2 SExt := RdsC.struct2 Try.underlying59 Try.rdInt Try.rdInt rfl rfl (by kernel_rfl)
end Go.Proofs.Ytldnpgbacakfeaa.V

namespace Go.Proofs.Ytldnpgbacakfeaa
open Go.RowKit Go.ChangeShapes Go.WideShapes Go.ChangeAt V
set_option linter.all false

set_option maxRecDepth 100000 in
theorem imageReads_lifted (os : Os) (started : os.Started) (H : Type) (enc : TypeId × Value → H) :
    ReturnsInHanded {} Try.checked os 7 .any (Rows.imageReadsSpec.pre6 enc Try.prog Try.f7 Rows.imageReadsRow.domain false) (Rows.imageReadsSpec.post enc Try.prog Try.f7 false true false false) := by
  refine returnsInHanded_of_change (C := Try.checked) Try.ownKnobV started (by kernel_rfl) Try.func7
    (ChangeSpec.witness6 (enc := enc) (C := Try.checked) false ⟨#[], #[.slice none 0 0, .int .i64 0, .agg #[.int .i64 0, .int .i64 0]], []⟩ 8 (by kernel_rfl) (by kernel_rfl) (by kernel_rfl) (by kernel_rfl)) ?_
  intro W base args ds gs before hval0 hW _ _
  have hval : ∀ (j : Nat) t v, Try.f7.params[j]? = some t → args[j]? = some v → Value.okWide Try.prog W .any base t v := hval0
  have hW' := hW
  obtain ⟨p, q, hA0, hV, rfl, _, _⟩ := hW
  have hA : DataW.TrodAll enc Try.prog W 0 (fun _ => true) true Try.f7.params.toList args.toList ds p := hA0
  rw [Try.params7] at hA hval
  obtain ⟨v0, v1, v2, d0, d1, d2, p0, p1, p2, rfl, rfl, rfl, h0, h1, h2⟩ := trodAll_three hA
  obtain ⟨rfl, rfl⟩ := trodVars_none hV
  obtain ⟨q0, s0, r0⟩ := arg_slice Try.underlying24 Try.rdImg (hval 0 24 v0 rfl rfl) h0
  obtain ⟨x0, rfl⟩ := simg s0
  obtain ⟨q1, s1, r1⟩ := arg_int Try.underlying3 Try.rdInt (hval 1 3 v1 rfl rfl) h1
  obtain ⟨x1, o1, rfl⟩ := sint_i64 s1
  obtain ⟨q2, s2, r2⟩ := arg_struct Try.underlying59 Try.rdExt (hval 2 59 v2 rfl rfl) h2
  obtain ⟨x2, o2, e2⟩ := sext s2
  rw [e2] at r2
  clear hA0 hval0
  simp only [List.append_nil, List.append_assoc] at hW'
  have hlt : ∀ x ∈ p0 ++ (p1 ++ p2), x.block < W.heap.size := fun x hx => by simpa using hW'.lt x hx
  refine (calls_all (vs := [v0, v1, v2]) envOk (cal7 ) ⟨r0, r1, r2, trivial⟩).mono fun e W' ⟨he, hB⟩ => ?_
  subst he
  exact ⟨_, rfl, _, _, _, [], _, [], hW', trodAll_mk1 (shut_bool Try.underlying4 _), trodAll_mk3 (Below.trod Try.laidOutV (by kernel_rfl) (of_decide_eq_true (by kernel_rfl)) h0 hB (fun x hx => hlt x (List.mem_append_left _ hx))) (Below.trod Try.laidOutV (by kernel_rfl) (of_decide_eq_true (by kernel_rfl)) h1 hB (fun x hx => hlt x (List.mem_append_right _ (List.mem_append_left _ hx)))) (Below.trod Try.laidOutV (by kernel_rfl) (of_decide_eq_true (by kernel_rfl)) h2 hB (fun x hx => hlt x (List.mem_append_right _ (List.mem_append_right _ hx)))), rfl, hB.frame _, fun h => by cases h⟩

theorem imageReads_holds : Rows.ImageReadsSaid :=
  OpenClaim.holds_of_wide 7 Try.f7 rfl rfl rfl rfl rfl rfl rfl ⟨rfl, rfl, rfl, rfl, rfl⟩ rfl rfl rfl rfl rfl (by kernel_rfl) Try.func7 (by kernel_rfl)
    (of_decide_eq_true (by kernel_rfl)) (by unfold Func.isWrapper; first | (rw [if_pos (by decide +kernel)]; kernel_rfl) | (rw [if_neg (by decide +kernel)]; exact ⟨rfl, rfl⟩))
    (fun os started H enc _ => imageReads_lifted os started H enc)
end Go.Proofs.Ytldnpgbacakfeaa
