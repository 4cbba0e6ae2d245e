/-
  Part 5 of the texts that the statement stands on.
-/
import Derived.Test.YtpcncggjmabnaaaGreatDoorZ4
import Derived.Lib.TrailingZeros
set_option linter.all false
namespace Go.Proofs.YtpcncggjmabnaaaGreatDoor
open V
def vAll:=(And.intro (And.intro (And.intro (And.intro (And.intro (And.intro (And.intro (And.intro @tfin_normal (And.intro @tfin_ret @tfin_thr)) (And.intro (And.intro @den_dem @demEnd_some) (And.intro @demEnd_none @next_thr))) (And.intro (And.intro (And.intro @endBlock_thr @tail_thr) (And.intro @den_drs @dalts_cons)) (And.intro (And.intro @dagree_nil @dagree_cons) (And.intro @sameAs_same @dalt_eq)))) (And.intro (And.intro (And.intro (And.intro @altEnd_false @altEnd_true) (And.intro @pickV_nil @pickV_one)) (And.intro (And.intro @den_skip @List.foldl_nil.{0,0}) (And.intro @List.foldl_cons.{0,0} @den_ops))) (And.intro (And.intro (And.intro @den_drw @den_seq) (And.intro @den_cond @den_block)) (And.intro (And.intro @den_exit @den_ret) (And.intro @next_normal @next_exit))))) (And.intro (And.intro (And.intro (And.intro @next_ret (And.intro @endBlock_normal @endBlock_ret)) (And.intro (And.intro @endBlock_exit @tail_normal) (And.intro @tail_ret @tail_exit))) (And.intro (And.intro (And.intro @fin_normal @fin_ret) (And.intro @bcase_true @bcase_false)) (And.intro (And.intro @z_bind_some @z_map_some) (And.intro @z_bind_none @z_map_none)))) (And.intro (And.intro (And.intro (And.intro @resultsOf.eq_1 @resultsOf.eq_2) (And.intro @resultsOf.eq_3 @resultList.eq_1)) (And.intro (And.intro @resultList.eq_2 @resultOf.eq_1) (And.intro @resultOf.eq_2 @resultOf.eq_3))) (And.intro (And.intro (And.intro @zBV.eq_1 @zBV.eq_2) (And.intro @splice.eq_1 @PV.remade.eq_1)) (And.intro (And.intro @PV.remade.eq_2 @PV.remade.eq_3) (And.intro @PV.remade.eq_4 @St.freezeAt.eq_1)))))) (And.intro (And.intro (And.intro (And.intro (And.intro @St.freezeBox.eq_1 (And.intro @St.freezeCap.eq_1 @St.freezeCap.eq_2)) (And.intro (And.intro @PV.single.eq_1 @PV.single.eq_2) (And.intro @dops_nil @dops_cons))) (And.intro (And.intro (And.intro @dop_grd @dop_pick) (And.intro @dop_call @dop_callv)) (And.intro (And.intro @op1_call @op1_callv) (And.intro @dop_lin @dop_linv)))) (And.intro (And.intro (And.intro (And.intro @op1_lin @op1_linv) (And.intro @op1_pick @dop_mov)) (And.intro (And.intro @dop_asg @dop_bin) (And.intro @dop_eqa @dop_eqb))) (And.intro (And.intro (And.intro @dop_eqm @dop_isn) (And.intro @dop_cut @dop_sl3)) (And.intro (And.intro @dop_asl @dop_asz) (And.intro @dop_ldz @dop_srt))))) (And.intro (And.intro (And.intro (And.intro @dop_stw (And.intro @dop_bxw @dop_ldm)) (And.intro (And.intro @dop_bldo @dop_mvz) (And.intro @dop_un @dop_conv))) (And.intro (And.intro (And.intro @dop_load @dop_fadr) (And.intro @dop_aadr @dop_iadr)) (And.intro (And.intro @dop_fld @dop_idx) (And.intro @dop_sli @dop_len)))) (And.intro (And.intro (And.intro (And.intro @dop_lens @dop_ext) (And.intro @dop_build @dop_mn)) (And.intro (And.intro @dop_mkf @dop_alloc) (And.intro @dop_box @dop_store))) (And.intro (And.intro (And.intro @dop_mksl @dop_make) (And.intro @dop_app @dop_apb)) (And.intro (And.intro @dop_apf @dop_cpy) (And.intro @dop_yield @op1_mov))))))) (And.intro (And.intro (And.intro (And.intro (And.intro (And.intro @op1_asg (And.intro @op1_bin @op1_eqa)) (And.intro (And.intro @op1_eqb @op1_eqm) (And.intro @op1_isn @op1_cut))) (And.intro (And.intro (And.intro @op1_sl3 @op1_asl) (And.intro @op1_asz @op1_ldz)) (And.intro (And.intro @op1_srt @op1_stw) (And.intro @op1_bxw @op1_ldm)))) (And.intro (And.intro (And.intro (And.intro @op1_bldo @op1_mvz) (And.intro @op1_un @op1_conv)) (And.intro (And.intro @op1_load @op1_fadr) (And.intro @op1_aadr @op1_iadr))) (And.intro (And.intro (And.intro @op1_fld @op1_idx) (And.intro @op1_sli @op1_len)) (And.intro (And.intro @op1_lens @op1_ext) (And.intro @op1_build @op1_mn))))) (And.intro (And.intro (And.intro (And.intro @op1_mkf (And.intro @op1_alloc @op1_box)) (And.intro (And.intro @op1_store @op1_mksl) (And.intro @op1_make @op1_app))) (And.intro (And.intro (And.intro @op1_apb @op1_apf) (And.intro @op1_cpy @op1_yield)) (And.intro (And.intro @plain.eq_1 @plain.eq_2) (And.intro @plain.eq_3 @plain.eq_4)))) (And.intro (And.intro (And.intro (And.intro @plain.eq_5 @plain.eq_6) (And.intro @plain.eq_7 @plain.eq_8)) (And.intro (And.intro @plain.eq_9 @plain.eq_10) (And.intro @plain.eq_11 @plain.eq_12))) (And.intro (And.intro (And.intro @plain.eq_13 @plain.eq_14) (And.intro @plain.eq_15 @plain.eq_16)) (And.intro (And.intro @plain.eq_17 @plain.eq_18) (And.intro @plain.eq_19 @plain.eq_20)))))) (And.intro (And.intro (And.intro (And.intro (And.intro @plain.eq_21 (And.intro @plain.eq_22 @plain.eq_23)) (And.intro (And.intro @plain.eq_24 @plain.eq_25) (And.intro @plain.eq_26 @plain.eq_27))) (And.intro (And.intro (And.intro @plain.eq_28 @plain.eq_29) (And.intro @plain.eq_30 @plain.eq_31)) (And.intro (And.intro @plain.eq_32 @plain.eq_33) (And.intro @act.eq_1 @act.eq_2)))) (And.intro (And.intro (And.intro (And.intro @act.eq_3 @act.eq_4) (And.intro @act.eq_5 @act.eq_6)) (And.intro (And.intro @act.eq_7 @act.eq_8) (And.intro @act.eq_9 @act.eq_10))) (And.intro (And.intro (And.intro @act.eq_11 @act.eq_12) (And.intro @act.eq_13 @act.eq_14)) (And.intro (And.intro @act.eq_15 @act.eq_16) (And.intro @act.eq_17 @act.eq_18))))) (And.intro (And.intro (And.intro (And.intro (And.intro @act.eq_19 @dstOf.eq_1) (And.intro @dstOf.eq_2 @dstOf.eq_3)) (And.intro (And.intro @dstOf.eq_4 @dstOf.eq_5) (And.intro @dstOf.eq_6 @dstOf.eq_7))) (And.intro (And.intro (And.intro @dstOf.eq_8 @dstOf.eq_9) (And.intro @dstOf.eq_10 @dstOf.eq_11)) (And.intro (And.intro @dstOf.eq_12 @dstOf.eq_13) (And.intro @dstOf.eq_14 @dstOf.eq_15)))) (And.intro (And.intro (And.intro (And.intro @dstOf.eq_16 @dstOf.eq_17) (And.intro @dstOf.eq_18 @dstOf.eq_19)) (And.intro (And.intro @dstOf.eq_20 @dstOf.eq_21) (And.intro @dstOf.eq_22 @dstOf.eq_23))) (And.intro (And.intro (And.intro @dstOf.eq_24 @dstOf.eq_25) (And.intro @dstOf.eq_26 @dstOf.eq_27)) (And.intro (And.intro @dstOf.eq_28 @dstOf.eq_29) (And.intro @dstOf.eq_30 @dstOf.eq_31)))))))) (And.intro (And.intro (And.intro (And.intro (And.intro (And.intro (And.intro @dstOf.eq_32 (And.intro @dstOf.eq_33 @dstOf.eq_34)) (And.intro (And.intro @dstOf.eq_35 @dstOf.eq_36) (And.intro @dstOf.eq_37 @dstOf.eq_38))) (And.intro (And.intro (And.intro @dstOf.eq_39 @dstOf.eq_40) (And.intro @dstOf.eq_41 @dstOf.eq_42)) (And.intro (And.intro @dstOf.eq_43 @dstOf.eq_44) (And.intro @dstOf.eq_45 @dstOf.eq_46)))) (And.intro (And.intro (And.intro (And.intro @dstOf.eq_47 @dstOf.eq_48) (And.intro @dstOf.eq_49 @Bool.false_eq_true)) (And.intro (And.intro @if_true.{1} @if_false.{1}) (And.intro @z_ite_true @z_ite_false))) (And.intro (And.intro (And.intro @St.get.eq_1 @St.get.eq_2) (And.intro @St.get.eq_3 @St.put.eq_1)) (And.intro (And.intro @St.pvOf.eq_1 @St.putRow.eq_1) (And.intro @St.consume.eq_1 @St.consume.eq_2))))) (And.intro (And.intro (And.intro (And.intro @St.consume.eq_3 (And.intro @St.freeze.eq_1 @St.row.eq_1)) (And.intro (And.intro @St.row.eq_2 @St.row.eq_3) (And.intro @St.elems.eq_1 @St.grab.eq_1))) (And.intro (And.intro (And.intro @St.grab.eq_2 @St.grab.eq_3) (And.intro @allBV.eq_1 @allBV.eq_2)) (And.intro (And.intro @allBV.eq_3 @allBV.eq_4) (And.intro @ownP.eq_1 @ownP.eq_2)))) (And.intro (And.intro (And.intro (And.intro @ownCells.eq_1 @ownCells.eq_2) (And.intro @ownCells.eq_3 @ownCells.eq_4)) (And.intro (And.intro @St.takeRow.eq_1 @St.takeRow.eq_2) (And.intro @St.takeRow.eq_3 @St.setRow.eq_1))) (And.intro (And.intro (And.intro @St.setRow.eq_2 @St.setRow.eq_3) (And.intro @St.place.eq_1 @St.place.eq_2)) (And.intro (And.intro @St.optPv.eq_1 @St.optPv.eq_2) (And.intro @St.setCell.eq_1 @St.setCellRow.eq_1)))))) (And.intro (And.intro (And.intro (And.intro (And.intro @binPV.eq_1 (And.intro @binPV.eq_2 @binPV.eq_3)) (And.intro (And.intro @binPV.eq_4 @eqMix.eq_1) (And.intro @eqMix.eq_2 @eqMix.eq_3))) (And.intro (And.intro (And.intro @eqMix.eq_4 @intBin.eq_1) (And.intro @intBin.eq_2 @intBin.eq_3)) (And.intro (And.intro @intBin.eq_4 @intBin.eq_5) (And.intro @intBin.eq_6 @intBin.eq_7)))) (And.intro (And.intro (And.intro (And.intro @intBin.eq_8 @intBin.eq_9) (And.intro @intBin.eq_10 @intBin.eq_11)) (And.intro (And.intro @intBin.eq_12 @intBin.eq_13) (And.intro @intBin.eq_14 @intBin.eq_15))) (And.intro (And.intro (And.intro @intBin.eq_16 @intBin.eq_17) (And.intro @unPV.eq_1 @unPV.eq_2)) (And.intro (And.intro @unPV.eq_3 @unPV.eq_4) (And.intro @BV.val.eq_1 @BV.val.eq_2))))) (And.intro (And.intro (And.intro (And.intro @BV.av.eq_1 (And.intro @BV.av.eq_2 @cells_int)) (And.intro (And.intro @cells_bool @cells_str) (And.intro @cells_list @cells_func))) (And.intro (And.intro (And.intro @cells_agg @part_one) (And.intro @part_succ @part_more)) (And.intro (And.intro @killS_pv @killS_any) (And.intro @killS_row @killS_pbox)))) (And.intro (And.intro (And.intro (And.intro @killS_fn @killS_tup) (And.intro @killS_ful @killS_yld)) (And.intro (And.intro @killS_refs @killS_refc) (And.intro @killS_pels @killS_pelc))) (And.intro (And.intro (And.intro @killc_pv @killc_any) (And.intro @killc_row @killc_pbox)) (And.intro (And.intro @killc_fn @killc_tup) (And.intro @killc_ful @killc_yld))))))) (And.intro (And.intro (And.intro (And.intro (And.intro (And.intro @killc_refs (And.intro @killc_refc @killc_pels)) (And.intro (And.intro @killc_pelc @killa_pv) (And.intro @killa_any @killa_row))) (And.intro (And.intro (And.intro @killa_pbox @killa_fn) (And.intro @killa_tup @killa_ful)) (And.intro (And.intro @killa_yld @killa_refs) (And.intro @killa_refc @killa_pels)))) (And.intro (And.intro (And.intro (And.intro @killa_pelc @bound.eq_1) (And.intro @bound.eq_2 @bound.eq_3)) (And.intro (And.intro @consumeAll.eq_1 @consumeAll.eq_2) (And.intro @buildParts.eq_1 @buildParts.eq_2))) (And.intro (And.intro (And.intro @capsOf.eq_1 @capsOf.eq_2) (And.intro @capOf.eq_1 @z_bind_eq)) (And.intro (And.intro @z_pure @z_map_cons) (And.intro @z_map_nil @z_len_cons))))) (And.intro (And.intro (And.intro (And.intro @z_len_nil (And.intro @List.append_nil.{0} @z_nil_app)) (And.intro (And.intro @z_cons_app @Nat.zero_add) (And.intro @Nat.add_zero @z_drop_zero))) (And.intro (And.intro (And.intro @z_drop_succ @z_take_succ) (And.intro @z_take_zero @decide_true)) (And.intro (And.intro @decide_false @Bool.not_true) (And.intro @Bool.not_false @Bool.true_eq_false)))) (And.intro (And.intro (And.intro (And.intro @beq_self_eq_true.{0} @Bool.true_and) (And.intro @Bool.and_true @Bool.false_and)) (And.intro (And.intro @Bool.and_false @Bool.true_or) (And.intro @Bool.false_or @Bool.or_false))) (And.intro (And.intro (And.intro @Bool.or_true @beq_t) (And.intro @beq_f @bcase_not)) (And.intro (And.intro @bcase_bne @List.length_map.{0,0}) (And.intro @z_getD_zero @z_getD_8)))))) (And.intro (And.intro (And.intro (And.intro (And.intro @z_getD_succ (And.intro @z_get_zero @z_get_8)) (And.intro (And.intro @z_get_succ @z_set_zero) (And.intro @z_set_8 @z_set_succ))) (And.intro (And.intro (And.intro @dcall.eq_1 @dcallP.eq_1) (And.intro @dlin.eq_1 @dlinP.eq_1)) (And.intro (And.intro @dlin0.eq_1 @dlinP0.eq_1) (And.intro @takeLin.eq_1 @backLin.eq_1)))) (And.intro (And.intro (And.intro (And.intro @backLin.eq_2 @backLin.eq_3) (And.intro @linRes_row @linRes_own)) (And.intro (And.intro @linRes_box @lav_row) (And.intro @lav_own @lav_box))) (And.intro (And.intro (And.intro @lbx_row @lbx_own) (And.intro @lbx_box @finL_normal)) (And.intro (And.intro @finL_ret @afterCall_false) (And.intro @afterCall_true @List.mapM_cons.{0,0,0}))))) (And.intro (And.intro (And.intro (And.intro (And.intro @z_mapM_nil @St.snapFn.eq_1) (And.intro @St.snapFn.eq_2 @St.snap.eq_1)) (And.intro (And.intro @St.snap.eq_2 @St.snap.eq_3) (And.intro @St.snap.eq_4 @St.snap.eq_5))) (And.intro (And.intro (And.intro @St.snap.eq_6 @z_any_cons) (And.intro @z_any_nil @z_all_cons)) (And.intro (And.intro @z_all_nil @scal_int) (And.intro @scal_bool @scal_str)))) (And.intro (And.intro (And.intro (And.intro @scal_list @scal_func) (And.intro @St.layAll.eq_1 @St.layAll.eq_2)) (And.intro (And.intro @St.lay.eq_1 @St.lay.eq_2) (And.intro @St.lay.eq_3 @z_foldl_cons))) (And.intro (And.intro (And.intro @z_foldl_nil @St.freezeArg.eq_1) (And.intro @St.freezeArg1.eq_1 @St.freezeArg1.eq_2)) (And.intro (And.intro @St.freezeArg1.eq_3 @St.freezeArg1.eq_4) (And.intro @St.freezeArg1.eq_5 @St.freezeArg1.eq_6)))))))))
def memAll:=(And.intro (And.intro (And.intro (And.intro @List.isEmpty_nil.{0} (And.intro @val_pvs @frozen_pvs)) (And.intro @msnoc_len (And.intro @msnoc_get @msnoc_set))) (And.intro (And.intro @msnoc_take (And.intro @Int.le_refl @take_map_all)) (And.intro @Nat.le_refl (And.intro @St.freezeRows.eq_1 @BV.frozen.eq_1)))) (And.intro (And.intro (And.intro @BV.frozen.eq_2 (And.intro @List.take_length.{0} @List.take_append_drop.{0})) (And.intro @z_repl_zero (And.intro @Int.toNat_zero @true_and))) (And.intro (And.intro @and_true (And.intro @and_self @eq_self.{1})) (And.intro @z_take_zero (And.intro @List.drop_nil.{0} @List.take_nil.{0})))))
def slsAll:=(And.intro (And.intro @Nat.zero_le (And.intro @List.take_zero.{0} @List.take_nil.{0})) (And.intro (And.intro @List.take_succ_cons.{0} @List.length_cons.{0}) (And.intro @List.length_nil.{0} @Nat.le_refl)))
end Go.Proofs.YtpcncggjmabnaaaGreatDoor

namespace Go.Proofs.YtpcncggjmabnaaaGreatDoor.V
theorem secPV_zero:secPV zSec=[.int .u8 0,.int .u8 0,.int .u8 0,.int .u8 0,.int .u8 0,.int .u8 0,.int .u8 0,.int .u8 0]:=rfl
end Go.Proofs.YtpcncggjmabnaaaGreatDoor.V

namespace Go.Proofs.YtpcncggjmabnaaaGreatDoor.V
def idxI {α:Type} (p:α→Bool) (l:List α):Int:=if l.any p then (l.findIdx p:Int) else -1
theorem idxI_nonneg {α:Type} (p:α→Bool) (l:List α):decide (idxI p l ≥ 0)=l.any p:=by
 unfold idxI
 cases l.any p
 ·rfl
 ·simp only [if_true];exact decide_eq_true (by omega)
def eqF {α β:Type} (eq:α→β→Bool) (l:List α) (m:List β):Bool:=decide (l.length=m.length)&&(l.zip m).all fun q=>eq q.1 q.2
--+
theorem loop119 {α:Type} {enc:α→PV} {l:List α} {p:α→Bool} {gf:Nat} {caps:List PV} (hp:∀ x∈l,cal env gf (enc x :: caps)=some [(.bool (p x),false)]) (hs:∀ x,part (enc x).cells 0 none=some (enc x)) (hl:l.length≤lim)
  {st:St} (h:st.head [0,1,7,8] st.boxes.length=some ⟨[.pv (.list 1 (l.map enc)),.pv (.func gf caps),.any,.any,.any,.any,.any,.pv (.int .i64 l.length),.pv (.int .i64 (0:Nat)),.any,.any,.any,.any,.any,.any,.any,.any,.any,.any],[],[],none⟩) :
  den env fn119_l1 st=if l.any p then some (.ret,⟨[.any,.any,.any,.any,.pv (.int .i64 (l.findIdx p)),.any,.any,.any,.any,.any,.any,.any,.any,.any,.any,.any,.any,.any,.any],[],[],none⟩) else some (.normal,⟨[.any,.any,.any,.any,.any,.any,.any,.any,.any,.any,.any,.any,.any,.any,.any,.any,.any,.any,.any],[],[],none⟩):=by
 unfold fn119_l1
 rw [clean_up l.length (fun i=>⟨[.pv (.list 1 (l.map enc)),.pv (.func gf caps),.any,.any,.any,.any,.any,.pv (.int .i64 l.length),.pv (.int .i64 i),.any,.any,.any,.any,.any,.any,.any,.any,.any,.any],[],[],none⟩)
  (fun i=>if (l.drop i).any p then some (.ret,⟨[.any,.any,.any,.any,.pv (.int .i64 ((i+(l.drop i).findIdx p:Nat):Int)),.any,.any,.any,.any,.any,.any,.any,.any,.any,.any,.any,.any,.any,.any],[],[],none⟩) else some (.normal,⟨[.any,.any,.any,.any,.any,.any,.any,.any,.any,.any,.any,.any,.any,.any,.any,.any,.any,.any,.any],[],[],none⟩)) h (fun _=>rfl) (fun _=>rfl) ?_ ?_]
 ·simp only [List.drop_zero,Nat.zero_add]
 ·intro i rb hi ih
  have hi1:=i64_next hi hl
  have F1:((i:Int)<(l.length:Int))=True:=eq_true (by omega)
  simp only [fn119_b0,F1,List.length_map,index_nat hi,List.getElem?_map,List.getElem?_eq_getElem hi,hp _ (List.getElem_mem hi),hs,vAll,reduceCtorEq,Nat.reduceEqDiff,Nat.reduceAdd,Nat.reduceLT,Nat.reduceLeDiff,Nat.beq]
  (try simp only [bcase_bind,bcase_map,tail_bcase]);refine bcase_split (fun hb=>?_) (fun hb=>?_)<;>try simp only [hb, memAll,vAll,reduceCtorEq,Nat.reduceEqDiff,Nat.reduceAdd,Nat.reduceLT,Nat.reduceLeDiff,Nat.beq]
  ·rw [List.drop_eq_getElem_cons hi]
   simp only [List.any_cons,hb,Bool.true_or,if_true,List.findIdx_cons,cond_true,Nat.add_zero]
   rfl
  ·rw [ih _ (by simp only [hi1];rfl),List.drop_eq_getElem_cons hi]
   simp only [List.any_cons,hb,Bool.false_or,List.findIdx_cons,cond_false,Nat.add_assoc,Nat.add_comm 1]
 ·intro rb
  simp only [fn119_b0,Int.lt_irrefl,vAll,reduceCtorEq,Nat.reduceEqDiff,Nat.reduceAdd,Nat.reduceLT,Nat.reduceLeDiff,Nat.beq]
  simp only [List.drop_length,List.any_nil,Bool.false_eq_true,if_false]
  rfl
theorem cal119 {α:Type} {enc:α→PV} {l:List α} {p:α→Bool} {gf:Nat} {caps:List PV} (hp:∀ x∈l,cal env gf (enc x :: caps)=some [(.bool (p x),false)]) (hs:∀ x,part (enc x).cells 0 none=some (enc x)) (hl:l.length≤lim) :
  cal env 119 [.list 1 (l.map enc),.func gf caps]=some [(.int .i64 (idxI p l),false)]:=by
 rw [cal_code env119 rfl];simp only [fn119];simp only [start,z_map_cons,z_map_nil,z_len_cons,z_len_nil,z_repl_zero,z_repl_succ,z_cons_app,z_nil_app,Nat.reduceAdd,Nat.reduceSub]
 simp only [List.length_map,vAll,reduceCtorEq,Nat.reduceEqDiff,Nat.reduceAdd,Nat.reduceLT,Nat.reduceLeDiff,Nat.beq]
 rw [loop119 hp hs hl]
 rotate_left
 ·rfl
 ·simp only [idxI]
  split<;>simp only [vAll,reduceCtorEq,Nat.reduceEqDiff,Nat.reduceAdd,Nat.reduceLT,Nat.reduceLeDiff,Nat.beq]
--+
theorem cal101 {α:Type} {enc:α→PV} {l:List α} {p:α→Bool} {gf:Nat} {caps:List PV} (hp:∀ x∈l,cal env gf (enc x :: caps)=some [(.bool (p x),false)]) (hs:∀ x,part (enc x).cells 0 none=some (enc x)) (hl:l.length≤lim) :
  cal env 101 [.list 1 (l.map enc),.func gf caps]=some [(.bool (l.any p),false)]:=by
 rw [cal_code env101 rfl];simp only [fn101];simp only [start,z_map_cons,z_map_nil,z_len_cons,z_len_nil,z_repl_zero,z_repl_succ,z_cons_app,z_nil_app,Nat.reduceAdd,Nat.reduceSub]
 simp only [cal119 hp hs hl,idxI_nonneg,vAll,reduceCtorEq,Nat.reduceEqDiff,Nat.reduceAdd,Nat.reduceLT,Nat.reduceLeDiff,Nat.beq]
--+
end Go.Proofs.YtpcncggjmabnaaaGreatDoor.V

namespace Go.Proofs.YtpcncggjmabnaaaGreatDoor.V
def sizesErr (l:List Int):Int:=if l.length<1∨8<l.length then 6 else if l.any (fun n=>decide (n<1) || decide (n > 4096)) then 2 else 0
def imSizes (im:Img):List Int:=im.map fun v=>(v.length:Int)
def imCheck (im:Img):Int:=sizesErr (imSizes im)
def fitsErr (im:Img) (w:Wrt):Int :=
 if w.volume<0∨(im.length:Int)≤w.volume then 7 else if w.data.length=0 then 1
 else if w.start<0∨((im.getD w.volume.toNat []).length:Int) - w.data.length<w.start then 2 else 0
def imFits (im:Img) (w:Wrt):Int:=if imCheck im≠0 then imCheck im else fitsErr im w
def newImg (l:List Int):Img:=l.map fun n=>List.replicate n.toNat zSec
theorem take_map_succ {α β:Type} (f:α→β) {l:List α} {i:Nat} (h:i<l.length):(l.take i).map f++[f l[i]]=(l.take (i+1)).map f:=by
 rw [List.take_succ,List.getElem?_eq_getElem h,List.map_append];rfl
theorem loop69 {α:Type} {enc:α→PV} {l:List α} {g:α→List Sec} {gf:Nat} {caps:List PV} (hp:∀ x∈l,cal env gf (enc x :: caps)=some [(eSecs (g x),true)]) (hs:∀ x,part (enc x).cells 0 none=some (enc x)) (hs3:∀ x,(enc x).cells.length=1) (hl:l.length≤lim)
  {st:St} (h:st.head [0,1,5,10,11,12,13,22] st.boxes.length=some ⟨[.pv (.list 1 (l.map enc)),.pv (.func gf caps),.any,.any,.any,.row 1 [],.any,.any,.any,.any,.any,.pv (.list 1 (l.map enc)),.pv (.int .i64 l.length),.pv (.int .i64 (0:Nat)),.any,.any,.any,.any,.any,.any,.any,.any,.any,.any,.any],[],[],none⟩) :
  den env fn69_l1 st=some (.normal,⟨[.any,.any,.any,.any,.any,.row 1 (l.map fun x=>eSecs (g x)),.any,.any,.any,.any,.any,.any,.any,.any,.any,.any,.any,.any,.any,.any,.any,.any,.any,.any,.any],[],[],none⟩):=by
 unfold fn69_l1
 rw [clean_up l.length (fun i=>⟨[.pv (.list 1 (l.map enc)),.pv (.func gf caps),.any,.any,.any,.row 1 ((l.take i).map fun x=>eSecs (g x)),.any,.any,.any,.any,.any,.pv (.list 1 (l.map enc)),.pv (.int .i64 l.length),.pv (.int .i64 i),.any,.any,.any,.any,.any,.any,.any,.any,.any,.any,.any],[],[],none⟩)
  (fun i=>some (.normal,⟨[.any,.any,.any,.any,.any,.row 1 (l.map fun x=>eSecs (g x)),.any,.any,.any,.any,.any,.any,.any,.any,.any,.any,.any,.any,.any,.any,.any,.any,.any,.any,.any],[],[],none⟩)) h (fun _=>rfl) (fun _=>rfl) ?_ ?_]
 ·intro i rb hi ih
  have hi1:=i64_next hi hl
  have F1:((i:Int)<(l.length:Int))=True:=eq_true (by omega)
  have F2:((l.take i).length+1≤lim)=True:=eq_true (by rw [List.length_take];omega)
  have hpi:cal env gf (enc l[i] :: caps)=some [((PV.list 8 ((g l[i]).map eSec)),true)]:=hp _ (List.getElem_mem hi)
  try simp only [eExt] at hpi
  simp only [fn69_b0,F1,F2,index_nat hi,List.getElem?_map,List.getElem?_eq_getElem hi, hpi,hs,hs3,memAll,vAll,reduceCtorEq,Nat.reduceEqDiff,Nat.reduceAdd,Nat.reduceLT,Nat.reduceLeDiff,Nat.beq]
  rw [ih _ (by simp only [hi1];rw [← take_map_succ _ hi];rfl)]
 ·intro rb
  simp only [fn69_b0,Int.lt_irrefl,vAll,reduceCtorEq,Nat.reduceEqDiff,Nat.reduceAdd,Nat.reduceLT,Nat.reduceLeDiff,Nat.beq]
  rw [List.take_length]
  rfl
theorem cal69 {α:Type} {enc:α→PV} {l:List α} {g:α→List Sec} {gf:Nat} {caps:List PV} (hp:∀ x∈l,cal env gf (enc x :: caps)=some [(eSecs (g x),true)]) (hs:∀ x,part (enc x).cells 0 none=some (enc x)) (hs3:∀ x,(enc x).cells.length=1) (hl:l.length≤lim) :
  cal env 69 [.list 1 (l.map enc),.func gf caps]=some [(.list 1 (l.map fun x=>eSecs (g x)),true)]:=by
 rw [cal_code env69 rfl];simp only [fn69];simp only [start,z_map_cons,z_map_nil,z_len_cons,z_len_nil,z_repl_zero,z_repl_succ,z_cons_app,z_nil_app,Nat.reduceAdd,Nat.reduceSub]
 have F1:((l.length:Int)≤(lim:Int))=True:=eq_true (by omega)
 have F2:((0:Int)≤(l.length:Int))=True:=eq_true (by omega)
 simp only [F1,F2,Int.le_refl,memAll,vAll,reduceCtorEq,Nat.reduceEqDiff,Nat.reduceAdd,Nat.reduceLT,Nat.reduceLeDiff,Nat.beq]
 rw [loop69 hp hs hs3 hl]
 rotate_left
 ·rfl
 ·simp only [memAll,vAll,reduceCtorEq,Nat.reduceEqDiff,Nat.reduceAdd,Nat.reduceLT,Nat.reduceLeDiff,Nat.beq]
--+
theorem loop112 {α:Type} {enc:α→PV} {l:List α} {g:α→Int} {gf:Nat} {caps:List PV} (hp:∀ x∈l,cal env gf (enc x :: caps)=some [(eI (g x),false)]) (hs:∀ x,part (enc x).cells 0 none=some (enc x)) (hs3:∀ x,(enc x).cells.length=1) (hl:l.length≤lim)
  {st:St} (h:st.head [0,1,5,10,11,12,13,22] st.boxes.length=some ⟨[.pv (.list 1 (l.map enc)),.pv (.func gf caps),.any,.any,.any,.row 1 [],.any,.any,.any,.any,.any,.pv (.list 1 (l.map enc)),.pv (.int .i64 l.length),.pv (.int .i64 (0:Nat)),.any,.any,.any,.any,.any,.any,.any,.any,.any,.any,.any],[],[],none⟩) :
  den env fn112_l1 st=some (.normal,⟨[.any,.any,.any,.any,.any,.row 1 (l.map fun x=>eI (g x)),.any,.any,.any,.any,.any,.any,.any,.any,.any,.any,.any,.any,.any,.any,.any,.any,.any,.any,.any],[],[],none⟩):=by
 unfold fn112_l1
 rw [clean_up l.length (fun i=>⟨[.pv (.list 1 (l.map enc)),.pv (.func gf caps),.any,.any,.any,.row 1 ((l.take i).map fun x=>eI (g x)),.any,.any,.any,.any,.any,.pv (.list 1 (l.map enc)),.pv (.int .i64 l.length),.pv (.int .i64 i),.any,.any,.any,.any,.any,.any,.any,.any,.any,.any,.any],[],[],none⟩)
  (fun i=>some (.normal,⟨[.any,.any,.any,.any,.any,.row 1 (l.map fun x=>eI (g x)),.any,.any,.any,.any,.any,.any,.any,.any,.any,.any,.any,.any,.any,.any,.any,.any,.any,.any,.any],[],[],none⟩)) h (fun _=>rfl) (fun _=>rfl) ?_ ?_]
 ·intro i rb hi ih
  have hi1:=i64_next hi hl
  have F1:((i:Int)<(l.length:Int))=True:=eq_true (by omega)
  have F2:((l.take i).length+1≤lim)=True:=eq_true (by rw [List.length_take];omega)
  have hpi:cal env gf (enc l[i] :: caps)=some [((PV.int .i64 (g l[i])),false)]:=hp _ (List.getElem_mem hi)
  try simp only [eExt] at hpi
  simp only [fn112_b0,F1,F2,index_nat hi,List.getElem?_map,List.getElem?_eq_getElem hi, hpi,hs,hs3,memAll,vAll,reduceCtorEq,Nat.reduceEqDiff,Nat.reduceAdd,Nat.reduceLT,Nat.reduceLeDiff,Nat.beq]
  rw [ih _ (by simp only [hi1];rw [← take_map_succ _ hi];rfl)]
 ·intro rb
  simp only [fn112_b0,Int.lt_irrefl,vAll,reduceCtorEq,Nat.reduceEqDiff,Nat.reduceAdd,Nat.reduceLT,Nat.reduceLeDiff,Nat.beq]
  rw [List.take_length]
  rfl
theorem cal112 {α:Type} {enc:α→PV} {l:List α} {g:α→Int} {gf:Nat} {caps:List PV} (hp:∀ x∈l,cal env gf (enc x :: caps)=some [(eI (g x),false)]) (hs:∀ x,part (enc x).cells 0 none=some (enc x)) (hs3:∀ x,(enc x).cells.length=1) (hl:l.length≤lim) :
  cal env 112 [.list 1 (l.map enc),.func gf caps]=some [(.list 1 (l.map fun x=>eI (g x)),true)]:=by
 rw [cal_code env112 rfl];simp only [fn112];simp only [start,z_map_cons,z_map_nil,z_len_cons,z_len_nil,z_repl_zero,z_repl_succ,z_cons_app,z_nil_app,Nat.reduceAdd,Nat.reduceSub]
 have F1:((l.length:Int)≤(lim:Int))=True:=eq_true (by omega)
 have F2:((0:Int)≤(l.length:Int))=True:=eq_true (by omega)
 simp only [F1,F2,Int.le_refl,memAll,vAll,reduceCtorEq,Nat.reduceEqDiff,Nat.reduceAdd,Nat.reduceLT,Nat.reduceLeDiff,Nat.beq]
 rw [loop112 hp hs hs3 hl]
 rotate_left
 ·rfl
 ·simp only [memAll,vAll,reduceCtorEq,Nat.reduceEqDiff,Nat.reduceAdd,Nat.reduceLT,Nat.reduceLeDiff,Nat.beq]
theorem cal102 {x:Int}:cal env 102 [eI x]=some [(.bool (decide (x<1) || decide (x > 4096)),false)]:=by
 unfold eI
 rw [cal_code env102 rfl];simp only [fn102];simp only [start,z_map_cons,z_map_nil,z_len_cons,z_len_nil,z_repl_zero,z_repl_succ,z_cons_app,z_nil_app,Nat.reduceAdd,Nat.reduceSub]
 simp only [ memAll,vAll,reduceCtorEq,Nat.reduceEqDiff,Nat.reduceAdd,Nat.reduceLT,Nat.reduceLeDiff,Nat.beq]
 (try simp only [bcase_bind,bcase_map,tail_bcase]);refine bcase_split (fun hb=>?_) (fun hb=>?_)<;>try simp only [hb, memAll,vAll,reduceCtorEq,Nat.reduceEqDiff,Nat.reduceAdd,Nat.reduceLT,Nat.reduceLeDiff,Nat.beq]
theorem cal68 {l:List Int} (hl:l.length≤lim):cal env 68 [.list 1 (l.map eI)]=some [(.int .i64 (sizesErr l),false)]:=by
 have e1:=cal101 (l:=l) (enc:=eI) (fun x _=>cal102 (x:=x)) (fun x=>rfl) hl
 rw [cal_code env68 rfl];simp only [fn68];simp only [start,z_map_cons,z_map_nil,z_len_cons,z_len_nil,z_repl_zero,z_repl_succ,z_cons_app,z_nil_app,Nat.reduceAdd,Nat.reduceSub]
 simp only [e1,memAll,vAll,reduceCtorEq,Nat.reduceEqDiff,Nat.reduceAdd,Nat.reduceLT,Nat.reduceLeDiff,Nat.beq]
 repeat' ((try simp only [bcase_bind,bcase_map,tail_bcase]);refine bcase_split (fun hb=>?_) (fun hb=>?_)<;>try simp only [hb,e1,memAll,vAll,reduceCtorEq,Nat.reduceEqDiff,Nat.reduceAdd,Nat.reduceLT,Nat.reduceLeDiff,Nat.beq])
 all_goals grind [sizesErr]
theorem cal113 {v:List Sec}:cal env 113 [eSecs v]=some [(eI v.length,false)]:=by
 unfold eSecs eI
 rw [cal_code env113 rfl];simp only [fn113];simp only [start,z_map_cons,z_map_nil,z_len_cons,z_len_nil,z_repl_zero,z_repl_succ,z_cons_app,z_nil_app,Nat.reduceAdd,Nat.reduceSub]
 simp only [ memAll,vAll,reduceCtorEq,Nat.reduceEqDiff,Nat.reduceAdd,Nat.reduceLT,Nat.reduceLeDiff,Nat.beq]
theorem cal94 {im:Img} (hl:im.length≤lim):cal env 94 [.list 1 (im.map eSecs)]=some [(.list 1 ((imSizes im).map eI),true)]:=by
 have e1:=cal112 (enc:=eSecs) (l:=im) (fun x _=>cal113 (v:=x)) (fun x=>rfl) (fun x=>rfl) hl
 rw [cal_code env94 rfl];simp only [fn94];simp only [start,z_map_cons,z_map_nil,z_len_cons,z_len_nil,z_repl_zero,z_repl_succ,z_cons_app,z_nil_app,Nat.reduceAdd,Nat.reduceSub]
 simp only [e1,memAll,vAll,reduceCtorEq,Nat.reduceEqDiff,Nat.reduceAdd,Nat.reduceLT,Nat.reduceLeDiff,Nat.beq]
 simp [imSizes]
theorem cal53 {im:Img} (hl:im.length≤lim):cal env 53 [.list 1 (im.map eSecs)]=some [(.int .i64 (imCheck im),false)]:=by
 have h2:(imSizes im).length≤lim:=by simpa [imSizes] using hl
 have e1:=cal94 hl
 have e2:=cal68 h2
 rw [cal_code env53 rfl];simp only [fn53];simp only [start,z_map_cons,z_map_nil,z_len_cons,z_len_nil,z_repl_zero,z_repl_succ,z_cons_app,z_nil_app,Nat.reduceAdd,Nat.reduceSub]
 simp only [e1,e2,memAll,vAll,reduceCtorEq,Nat.reduceEqDiff,Nat.reduceAdd,Nat.reduceLT,Nat.reduceLeDiff,Nat.beq]
 rfl
theorem cal70 {n:Int} (h0:0≤n) (h1:n≤4096):cal env 70 [eI n]=some [(eSecs (List.replicate n.toNat zSec),true)]:=by
 unfold eI eSecs
 rw [cal_code env70 rfl];simp only [fn70];simp only [start,z_map_cons,z_map_nil,z_len_cons,z_len_nil,z_repl_zero,z_repl_succ,z_cons_app,z_nil_app,Nat.reduceAdd,Nat.reduceSub]
 have F1:(n≤(lim:Int))=True:=eq_true (by simp [lim];omega)
 simp only [F1,h0,← secPV_zero,secPV_length,memAll,vAll,reduceCtorEq,Nat.reduceEqDiff,Nat.reduceAdd,Nat.reduceLT,Nat.reduceLeDiff,Nat.beq]
 simp only [List.map_replicate]
 rfl
theorem cal38 {l:List Int} (hl:l.length≤lim):cal env 38 [.list 1 (l.map eI)]=some [(.list 1 ((if sizesErr l=0 then newImg l else []).map eSecs),true),(.int .i64 (sizesErr l),false)]:=by
 have e0:=cal68 hl
 by_cases h:sizesErr l=0
 ·have hs:∀ x∈l,1≤x∧x≤4096:=by
   intro x hx
   unfold sizesErr at h
   split at h
   ·omega
   ·split at h
    ·omega
    ·rename_i h2
     simp only [List.any_eq_true,not_exists,not_and,Bool.not_eq_true] at h2
     have:=h2 x hx
     simp at this
     omega
  have e1:=cal69 (enc:=eI) (g:=fun n=>List.replicate n.toNat zSec) (l:=l) (fun x hx=>cal70 (n:=x) (by have:=hs x hx;omega) (by have:=hs x hx;omega)) (fun x=>rfl) (fun x=>rfl) hl
  rw [cal_code env38 rfl];simp only [fn38];simp only [start,z_map_cons,z_map_nil,z_len_cons,z_len_nil,z_repl_zero,z_repl_succ,z_cons_app,z_nil_app,Nat.reduceAdd,Nat.reduceSub]
  simp only [e0,e1,memAll,vAll,reduceCtorEq,Nat.reduceEqDiff,Nat.reduceAdd,Nat.reduceLT,Nat.reduceLeDiff,Nat.beq]
  (try simp only [bcase_bind,bcase_map,tail_bcase]);refine bcase_split (fun hb=>?_) (fun hb=>?_)<;>try simp only [hb,e0,e1,memAll,vAll,reduceCtorEq,Nat.reduceEqDiff,Nat.reduceAdd,Nat.reduceLT,Nat.reduceLeDiff,Nat.beq]
  ·simp [newImg,h]
  ·simp at hb;omega
 ·have e1:=e0
  rw [cal_code env38 rfl];simp only [fn38];simp only [start,z_map_cons,z_map_nil,z_len_cons,z_len_nil,z_repl_zero,z_repl_succ,z_cons_app,z_nil_app,Nat.reduceAdd,Nat.reduceSub]
  simp only [e0,e1,memAll,vAll,reduceCtorEq,Nat.reduceEqDiff,Nat.reduceAdd,Nat.reduceLT,Nat.reduceLeDiff,Nat.beq]
  (try simp only [bcase_bind,bcase_map,tail_bcase]);refine bcase_split (fun hb=>?_) (fun hb=>?_)<;>try simp only [hb,e0,e1,memAll,vAll,reduceCtorEq,Nat.reduceEqDiff,Nat.reduceAdd,Nat.reduceLT,Nat.reduceLeDiff,Nat.beq]
  ·simp at hb;omega
  ·simp [h]
end Go.Proofs.YtpcncggjmabnaaaGreatDoor.V

namespace Go.Proofs.YtpcncggjmabnaaaGreatDoor.V
theorem loop62 {l:List Int} (hl:l.length≤lim) {st:St} (h:st.head [0,3] st.boxes.length=some ⟨[.pv (.list 1 (l.map eI)),.any,.any,.pv (.int .i64 (0:Nat)),.any,.any,.any,.any,.any,.any,.any,.any,.any,.any,.any,.any,.any,.any,.any,.any,.any,.any,.any,.any,.any,.any,.any,.any,.any,.any],[],[],none⟩) :
  den env fn62_l1 st=if l.any (fun n=>decide (n<1) || decide (n > 4096)) then some (.ret,⟨[.any,.any,.pv (.int .i64 2),.any,.any,.any,.any,.any,.any,.any,.any,.any,.any,.any,.any,.any,.any,.any,.any,.any,.any,.any,.any,.any,.any,.any,.any,.any,.any,.any],[],[],none⟩) else some (.normal,⟨[.any,.any,.any,.any,.any,.any,.any,.any,.any,.any,.any,.any,.any,.any,.any,.any,.any,.any,.any,.any,.any,.any,.any,.any,.any,.any,.any,.any,.any,.any],[],[],none⟩):=by
 unfold fn62_l1
 rw [ clean_up (env:=env) (l.length) (fun i=>⟨[.pv (.list 1 (l.map eI)),.any,.any,.pv (.int .i64 i),.any,.any,.any,.any,.any,.any,.any,.any,.any,.any,.any,.any,.any,.any,.any,.any,.any,.any,.any,.any,.any,.any,.any,.any,.any,.any],[],[],none⟩) (fun i=>if (l.drop i).any (fun n=>decide (n<1) || decide (n > 4096)) then some (.ret,⟨[.any,.any,.pv (.int .i64 2),.any,.any,.any,.any,.any,.any,.any,.any,.any,.any,.any,.any,.any,.any,.any,.any,.any,.any,.any,.any,.any,.any,.any,.any,.any,.any,.any],[],[],none⟩) else some (.normal,⟨[.any,.any,.any,.any,.any,.any,.any,.any,.any,.any,.any,.any,.any,.any,.any,.any,.any,.any,.any,.any,.any,.any,.any,.any,.any,.any,.any,.any,.any,.any],[],[],none⟩)) h (fun _=>rfl) (fun _=>rfl) ?_ ?_]
 ·first|rfl|simp only [List.drop_zero,List.take_zero,List.map_nil,Nat.zero_add,List.nil_append,List.foldl_nil]
 ·intro i rb hi ih
  have hi1:=i64_next hi hl;have F1:((i:Int)<(l.length:Int))=True:=eq_true (by omega)
  simp only [fn62_b0,eI,F1,index_nat hi,List.getElem?_map,List.getElem?_eq_getElem hi,memAll,vAll,reduceCtorEq,Nat.reduceEqDiff,Nat.reduceAdd,Nat.reduceLT,Nat.reduceLeDiff,Nat.beq]
  rw [List.drop_eq_getElem_cons hi]
  repeat' ((try simp only [bcase_bind,bcase_map,tail_bcase]);refine bcase_split (fun hb=>?_) (fun hb=>?_)<;>try simp only [hb,eI,index_nat hi,List.getElem?_map,List.getElem?_eq_getElem hi,memAll,vAll,reduceCtorEq,Nat.reduceEqDiff,Nat.reduceAdd,Nat.reduceLT,Nat.reduceLeDiff,Nat.beq])
  ·rfl
  ·rfl
  ·rw [ih _ (by simp only [hi1];rfl)]
 ·intro rb
  simp only [fn62_b0,Int.lt_irrefl,eI,memAll,vAll,reduceCtorEq,Nat.reduceEqDiff,Nat.reduceAdd,Nat.reduceLT,Nat.reduceLeDiff,Nat.beq]
  rw [List.drop_length]
  rfl
theorem cal62 {l:List Int} (hl:l.length≤lim):cal env 62 [.list 1 (l.map eI)]=some [(.int .i64 (sizesErr l),false)]:=by
 rw [cal_code env62 rfl];simp only [fn62];simp only [start,z_map_cons,z_map_nil,z_len_cons,z_len_nil,z_repl_zero,z_repl_succ,z_cons_app,z_nil_app,Nat.reduceAdd,Nat.reduceSub]
 simp only [eI,memAll,vAll,reduceCtorEq,Nat.reduceEqDiff,Nat.reduceAdd,Nat.reduceLT,Nat.reduceLeDiff,Nat.beq]
 repeat' ((try simp only [bcase_bind,bcase_map,tail_bcase]);refine bcase_split (fun hb=>?_) (fun hb=>?_)<;>try simp only [hb,eI,memAll,vAll,reduceCtorEq,Nat.reduceEqDiff,Nat.reduceAdd,Nat.reduceLT,Nat.reduceLeDiff,Nat.beq])
 ·grind [sizesErr]
 ·grind [sizesErr]
 ·rw [loop62 hl]
  rotate_left
  ·rfl
  ·by_cases h:l.any (fun n=>decide (n<1) || decide (n > 4096))=true
   ·simp only [h,vAll,reduceCtorEq,Nat.reduceEqDiff,Nat.reduceAdd,Nat.reduceLT,Nat.reduceLeDiff,Nat.beq]
    grind [sizesErr]
   ·simp only [h,vAll,reduceCtorEq,Nat.reduceEqDiff,Nat.reduceAdd,Nat.reduceLT,Nat.reduceLeDiff,Nat.beq]
    grind [sizesErr]
theorem loop66 {im:Img} (hl:im.length≤lim) {st:St} (h:st.head [0,3,4,18] st.boxes.length=some ⟨[.pv (.list 1 (im.map eSecs)),.any,.any,.row 1 ((im.take (0:Nat)).map fun v=>eI (v.length:Int)),.pv (.int .i64 (0:Nat)),.any,.any,.any,.any,.any,.any,.any,.any,.any,.any,.any,.any,.any,.any,.any],[],[],none⟩) :
  den env fn66_l1 st=some (.normal,⟨[.any,.any,.any,.row 1 (im.map fun v=>eI (v.length:Int)),.any,.any,.any,.any,.any,.any,.any,.any,.any,.any,.any,.any,.any,.any,.any,.any],[],[],none⟩):=by
 unfold fn66_l1
 refine clean_up (env:=env) (im.length) (fun i=>⟨[.pv (.list 1 (im.map eSecs)),.any,.any,.row 1 ((im.take i).map fun v=>eI (v.length:Int)),.pv (.int .i64 i),.any,.any,.any,.any,.any,.any,.any,.any,.any,.any,.any,.any,.any,.any,.any],[],[],none⟩) (fun i=>some (.normal,⟨[.any,.any,.any,.row 1 (im.map fun v=>eI (v.length:Int)),.any,.any,.any,.any,.any,.any,.any,.any,.any,.any,.any,.any,.any,.any,.any,.any],[],[],none⟩)) h (fun _=>rfl) (fun _=>rfl) ?_ ?_
 ·intro i rb hi ih
  have hi1:=i64_next hi hl
  have F1:((i:Int)<(im.length:Int))=True:=eq_true (by omega)
  have F2:((im.take i).length+1≤lim)=True:=eq_true (by rw [List.length_take];omega)
  simp only [fn66_b0,F1,F2,eSecs,index_nat hi,List.getElem?_map,List.getElem?_eq_getElem hi,memAll,vAll,reduceCtorEq,Nat.reduceEqDiff,Nat.reduceAdd,Nat.reduceLT,Nat.reduceLeDiff,Nat.beq]
  rw [ih _ (by simp only [hi1];rw [← take_map_succ _ hi];rfl)]
 ·intro rb
  simp only [fn66_b0,Int.lt_irrefl, memAll,vAll,reduceCtorEq,Nat.reduceEqDiff,Nat.reduceAdd,Nat.reduceLT,Nat.reduceLeDiff,Nat.beq]
  try rw [List.take_length]
  rfl
theorem cal66 {im:Img} (hl:im.length≤lim):cal env 66 [.list 1 (im.map eSecs)]=some [(.list 1 ((imSizes im).map eI),true)]:=by
 rw [cal_code env66 rfl];simp only [fn66];simp only [start,z_map_cons,z_map_nil,z_len_cons,z_len_nil,z_repl_zero,z_repl_succ,z_cons_app,z_nil_app,Nat.reduceAdd,Nat.reduceSub]
 simp only [ memAll,vAll,reduceCtorEq,Nat.reduceEqDiff,Nat.reduceAdd,Nat.reduceLT,Nat.reduceLeDiff,Nat.beq]
 rw [loop66 hl]
 rotate_left
 ·rfl
 ·simp only [ memAll,vAll,reduceCtorEq,Nat.reduceEqDiff,Nat.reduceAdd,Nat.reduceLT,Nat.reduceLeDiff,Nat.beq]
  simp [imSizes]
theorem cal57 {im:Img} (hl:im.length≤lim):cal env 57 [.list 1 (im.map eSecs)]=some [(.int .i64 (imCheck im),false)]:=by
 have h2:(imSizes im).length≤lim:=by simpa [imSizes] using hl
 have e1:=cal66 hl
 have e2:=cal62 h2
 rw [cal_code env57 rfl];simp only [fn57];simp only [start,z_map_cons,z_map_nil,z_len_cons,z_len_nil,z_repl_zero,z_repl_succ,z_cons_app,z_nil_app,Nat.reduceAdd,Nat.reduceSub]
 simp only [e1,e2,memAll,vAll,reduceCtorEq,Nat.reduceEqDiff,Nat.reduceAdd,Nat.reduceLT,Nat.reduceLeDiff,Nat.beq]
 rfl
theorem getD_get {α:Type} {l:List α} {i:Nat} {d:α} (h:i<l.length):l.getD i d=l[i]:=by simp [List.getD_eq_getElem?_getD,List.getElem?_eq_getElem h]
theorem cal118 {im:Img} {w:Wrt} (hl:im.length≤lim) (hr:∀ v∈im,v.length≤lim) (hd:w.data.length≤lim):cal env 118 [.list 1 (im.map eSecs),eWr w]=some [(.int .i64 (fitsErr im w),false)]:=by
 obtain ⟨v,s,d⟩:=w
 simp only [eWr] at *
 by_cases h0:0≤v∧v<im.length
 ·have h1:=index_int (k:=.i64) h0.1 h0.2
  have h2:v.toNat<im.length:=by omega
  have h3:=List.getElem?_eq_getElem h2
  have h4:im[v.toNat].length≤lim:=hr _ (List.getElem_mem h2)
  have h5:IntKind.i64.wrap ((im[v.toNat].length:Int) - d.length)=im[v.toNat].length - d.length:=i64_fits (by unfold lim at *;omega)
  rw [cal_code env118 rfl];simp only [fn118];simp only [start,z_map_cons,z_map_nil,z_len_cons,z_len_nil,z_repl_zero,z_repl_succ,z_cons_app,z_nil_app,Nat.reduceAdd,Nat.reduceSub]
  simp only [h1,h3,h5,eSecs,List.getElem?_map,memAll,vAll,reduceCtorEq,Nat.reduceEqDiff,Nat.reduceAdd,Nat.reduceLT,Nat.reduceLeDiff,Nat.beq]
  repeat' ((try simp only [bcase_bind,bcase_map,tail_bcase]);refine bcase_split (fun hb=>?_) (fun hb=>?_)<;>try simp only [hb,h1,h3,h5,eSecs,List.getElem?_map,memAll,vAll,reduceCtorEq,Nat.reduceEqDiff,Nat.reduceAdd,Nat.reduceLT,Nat.reduceLeDiff,Nat.beq])
  all_goals clear h1 h3 h5
  all_goals simp only [fitsErr,getD_get h2,decide_eq_true_eq,decide_eq_false_iff_not,beq_iff_eq,beq_eq_false_iff_ne,ne_eq,ge_iff_le,gt_iff_lt,Bool.and_eq_true,Bool.or_eq_true,Bool.not_eq_true',Bool.not_eq_false'] at *
  all_goals ((repeat' split)<;>first|rfl|(exfalso;omega))
 ·rw [cal_code env118 rfl];simp only [fn118];simp only [start,z_map_cons,z_map_nil,z_len_cons,z_len_nil,z_repl_zero,z_repl_succ,z_cons_app,z_nil_app,Nat.reduceAdd,Nat.reduceSub]
  simp only [eSecs,List.getElem?_map,index_b,memAll,vAll,reduceCtorEq,Nat.reduceEqDiff,Nat.reduceAdd,Nat.reduceLT,Nat.reduceLeDiff,Nat.beq]
  repeat' ((try simp only [bcase_bind,bcase_map,tail_bcase]);refine bcase_split (fun hb=>?_) (fun hb=>?_)<;>try simp only [hb,eSecs,List.getElem?_map,index_b,memAll,vAll,reduceCtorEq,Nat.reduceEqDiff,Nat.reduceAdd,Nat.reduceLT,Nat.reduceLeDiff,Nat.beq])
  all_goals simp only [fitsErr,decide_eq_true_eq,decide_eq_false_iff_not,beq_iff_eq,beq_eq_false_iff_ne,ne_eq,ge_iff_le,gt_iff_lt,Bool.and_eq_true,Bool.or_eq_true,Bool.not_eq_true',Bool.not_eq_false'] at *
  all_goals ((repeat' split)<;>first|rfl|(exfalso;omega))
theorem cal65 {im:Img} {w:Wrt} (hl:im.length≤lim) (hr:∀ v∈im,v.length≤lim) (hd:w.data.length≤lim):cal env 65 [.list 1 ((imSizes im).map eI),eWr w]=some [(.int .i64 (fitsErr im w),false)]:=by
 obtain ⟨v,s,d⟩:=w
 simp only [eWr,imSizes,List.map_map] at *
 by_cases h0:0≤v∧v<im.length
 ·have h1:=index_int (k:=.i64) h0.1 h0.2
  have h2:v.toNat<im.length:=by omega
  have h3:=List.getElem?_eq_getElem h2
  have h4:im[v.toNat].length≤lim:=hr _ (List.getElem_mem h2)
  by_cases h6:0≤s∧s<im[v.toNat].length
  ·have h5:IntKind.i64.wrap ((im[v.toNat].length:Int) - s)=im[v.toNat].length - s:=i64_fits (by unfold lim at *;omega)
   rw [cal_code env65 rfl];simp only [fn65];simp only [start,z_map_cons,z_map_nil,z_len_cons,z_len_nil,z_repl_zero,z_repl_succ,z_cons_app,z_nil_app,Nat.reduceAdd,Nat.reduceSub]
   simp only [h1,h3,h5,eI,List.getElem?_map,Function.comp_apply,memAll,vAll,reduceCtorEq,Nat.reduceEqDiff,Nat.reduceAdd,Nat.reduceLT,Nat.reduceLeDiff,Nat.beq]
   repeat' ((try simp only [bcase_bind,bcase_map,tail_bcase]);refine bcase_split (fun hb=>?_) (fun hb=>?_)<;>try simp only [hb,h1,h3,h5,eI,List.getElem?_map,Function.comp_apply,memAll,vAll,reduceCtorEq,Nat.reduceEqDiff,Nat.reduceAdd,Nat.reduceLT,Nat.reduceLeDiff,Nat.beq])
   all_goals clear h1 h3 h5
   all_goals simp only [fitsErr,getD_get h2,decide_eq_true_eq,decide_eq_false_iff_not,beq_iff_eq,beq_eq_false_iff_ne,ne_eq,ge_iff_le,gt_iff_lt,Bool.and_eq_true,Bool.or_eq_true,Bool.not_eq_true',Bool.not_eq_false'] at *
   all_goals ((repeat' split)<;>first|rfl|(exfalso;omega))
  ·--
   rw [cal_code env65 rfl];simp only [fn65];simp only [start,z_map_cons,z_map_nil,z_len_cons,z_len_nil,z_repl_zero,z_repl_succ,z_cons_app,z_nil_app,Nat.reduceAdd,Nat.reduceSub]
   simp only [h1,h3,eI,List.getElem?_map,Function.comp_apply,memAll,vAll,reduceCtorEq,Nat.reduceEqDiff,Nat.reduceAdd,Nat.reduceLT,Nat.reduceLeDiff,Nat.beq]
   repeat' ((try simp only [bcase_bind,bcase_map,tail_bcase]);refine bcase_split (fun hb=>?_) (fun hb=>?_)<;>try simp only [hb,h1,h3,eI,List.getElem?_map,Function.comp_apply,memAll,vAll,reduceCtorEq,Nat.reduceEqDiff,Nat.reduceAdd,Nat.reduceLT,Nat.reduceLeDiff,Nat.beq])
   all_goals clear h1 h3
   all_goals simp only [fitsErr,getD_get h2,decide_eq_true_eq,decide_eq_false_iff_not,beq_iff_eq,beq_eq_false_iff_ne,ne_eq,ge_iff_le,gt_iff_lt,Bool.and_eq_true,Bool.or_eq_true,Bool.not_eq_true',Bool.not_eq_false'] at *
   all_goals first|(exfalso;omega)|((repeat' split)<;>first|rfl|(exfalso;omega))
 ·rw [cal_code env65 rfl];simp only [fn65];simp only [start,z_map_cons,z_map_nil,z_len_cons,z_len_nil,z_repl_zero,z_repl_succ,z_cons_app,z_nil_app,Nat.reduceAdd,Nat.reduceSub]
  simp only [eI,List.getElem?_map,index_b,Function.comp_apply,memAll,vAll,reduceCtorEq,Nat.reduceEqDiff,Nat.reduceAdd,Nat.reduceLT,Nat.reduceLeDiff,Nat.beq]
  repeat' ((try simp only [bcase_bind,bcase_map,tail_bcase]);refine bcase_split (fun hb=>?_) (fun hb=>?_)<;>try simp only [hb,eI,List.getElem?_map,index_b,Function.comp_apply,memAll,vAll,reduceCtorEq,Nat.reduceEqDiff,Nat.reduceAdd,Nat.reduceLT,Nat.reduceLeDiff,Nat.beq])
  all_goals simp only [fitsErr,decide_eq_true_eq,decide_eq_false_iff_not,beq_iff_eq,beq_eq_false_iff_ne,ne_eq,ge_iff_le,gt_iff_lt,Bool.and_eq_true,Bool.or_eq_true,Bool.not_eq_true',Bool.not_eq_false'] at *
  all_goals first|(exfalso;omega)|((repeat' split)<;>first|rfl|(exfalso;omega))
theorem cal106 {im:Img} {w:Wrt} (hl:im.length≤lim) (hr:∀ v∈im,v.length≤lim) (hd:w.data.length≤lim):cal env 106 [.list 1 (im.map eSecs),eWr w]=some [(.int .i64 (imFits im w),false)]:=by
 have e1:=cal53 hl
 have e2:=cal118 (w:=w) hl hr hd
 simp only [eWr] at *
 rw [cal_code env106 rfl];simp only [fn106];simp only [start,z_map_cons,z_map_nil,z_len_cons,z_len_nil,z_repl_zero,z_repl_succ,z_cons_app,z_nil_app,Nat.reduceAdd,Nat.reduceSub]
 simp only [e1,e2,memAll,vAll,reduceCtorEq,Nat.reduceEqDiff,Nat.reduceAdd,Nat.reduceLT,Nat.reduceLeDiff,Nat.beq]
 repeat' ((try simp only [bcase_bind,bcase_map,tail_bcase]);refine bcase_split (fun hb=>?_) (fun hb=>?_)<;>try simp only [hb,e1,e2,memAll,vAll,reduceCtorEq,Nat.reduceEqDiff,Nat.reduceAdd,Nat.reduceLT,Nat.reduceLeDiff,Nat.beq])
 all_goals simp only [imFits,decide_eq_true_eq,decide_eq_false_iff_not,beq_iff_eq,beq_eq_false_iff_ne,ne_eq,ge_iff_le,gt_iff_lt,Bool.and_eq_true,Bool.or_eq_true,Bool.not_eq_true',Bool.not_eq_false'] at *
 all_goals ((repeat' split)<;>first|rfl|(exfalso;omega))
theorem cal33 {im:Img} {w:Wrt} (hl:im.length≤lim) (hr:∀ v∈im,v.length≤lim) (hd:w.data.length≤lim):cal env 33 [.list 1 (im.map eSecs),eWr w]=some [(.int .i64 (imFits im w),false)]:=by
 have e0:=cal66 hl
 have e1:=cal57 hl
 have e2:=cal65 (w:=w) hl hr hd
 simp only [eWr] at *
 rw [cal_code env33 rfl];simp only [fn33];simp only [start,z_map_cons,z_map_nil,z_len_cons,z_len_nil,z_repl_zero,z_repl_succ,z_cons_app,z_nil_app,Nat.reduceAdd,Nat.reduceSub]
 simp only [e0,e1,e2,memAll,vAll,reduceCtorEq,Nat.reduceEqDiff,Nat.reduceAdd,Nat.reduceLT,Nat.reduceLeDiff,Nat.beq]
 repeat' ((try simp only [bcase_bind,bcase_map,tail_bcase]);refine bcase_split (fun hb=>?_) (fun hb=>?_)<;>try simp only [hb,e0,e1,e2,memAll,vAll,reduceCtorEq,Nat.reduceEqDiff,Nat.reduceAdd,Nat.reduceLT,Nat.reduceLeDiff,Nat.beq])
 all_goals simp only [imFits,decide_eq_true_eq,decide_eq_false_iff_not,beq_iff_eq,beq_eq_false_iff_ne,ne_eq,ge_iff_le,gt_iff_lt,Bool.and_eq_true,Bool.or_eq_true,Bool.not_eq_true',Bool.not_eq_false'] at *
 all_goals ((repeat' split)<;>first|rfl|(exfalso;omega))
end Go.Proofs.YtpcncggjmabnaaaGreatDoor.V

namespace Go.Proofs.YtpcncggjmabnaaaGreatDoor
noncomputable def iter (env:Env) (f:Nat) (caps:List PV) (stop:Option Nat):Option (List (List PV)):=iterRes (den env) env f caps stop
def ystart (n:Nat) (caps:List PV) (stop:Option Nat):St:=⟨.yld :: (caps.map .pv++List.replicate (n - (caps.length+1)) .any),[],[],some stop⟩
def yfin:Ex × St→Option (List (List PV))
 |(.exit _,_)=>none
 |(.thr _ _,_)=>none
 |(_,st)=>some st.ys
section
variable {env:Env}
theorem yfin_normal (st:St):yfin (.normal,st)=some st.ys:=(rfl)
theorem yfin_ret (st:St):yfin (.ret,st)=some st.ys:=(rfl)
theorem iter_code {f:Nat} {fn:VFn} {caps:List PV} {stop:Option Nat} (h:env f=some (.code fn)) (hl:caps.length+1=fn.nargs) (hr:fn.results.isEmpty=true):iter env f caps stop=(den env fn.body (ystart fn.ntmps caps stop)).bind yfin:=by
 unfold iter iterRes
 rw [h]
 simp only [if_pos (And.intro hl hr)]
 show (den env fn.body _).bind _=_
 congr 1
 funext ⟨e,st⟩
 cases e<;>rfl
noncomputable def round1 (env:Env) (slots:List AV) (ps:List Nat) (assign body:VCode) (nb:Nat) (x:List PV) (st:St):Option (Ex × St) :=
 (setParams slots ps x).bind fun sl=>(den env assign { st with slots:=sl }).bind fun p=>match p with
  |(.normal,st)=>(den env body st).bind fun p=>match p with
   |(.normal,st)=>if nb≤st.boxes.length then some (.normal,{ st with boxes:=st.boxes.take nb }) else none
   |(.thr _ _,_)=>none
   |p=>some p
  |_=>none
theorem rounds_cons {slots:List AV} {ps:List Nat} {assign body:VCode} {nb k:Nat} {x:List PV} {xs:List (List PV)} {st:St} :
  rounds (den env) slots ps assign body nb k (x :: xs) st=(round1 env slots ps assign body nb x st).bind fun p=>match p with
   |(.normal,st)=>rounds (den env) slots ps assign body nb (k+1) xs st
   |(e,st)=>some (some (e,k+1),st):=by
 conv=>lhs;unfold rounds
 unfold round1
 show (setParams slots ps x).bind _=_
 cases setParams slots ps x with
 |none=>rfl
 |some sl =>
  simp only [Option.bind_some]
  show (den env assign _).bind _=_
  cases den env assign { st with slots:=sl } with
  |none=>rfl
  |some p =>
   obtain ⟨e,s⟩:=p
   simp only [Option.bind_some]
   cases e with
   |normal =>
    simp only
    show (den env body _).bind _=_
    cases den env body s with
    |none=>rfl
    |some p =>
     obtain ⟨e,s⟩:=p
     simp only [Option.bind_some]
     cases e with
     |normal =>
      simp only
      split<;>rfl
     |exit i=>rfl
     |ret=>rfl
     |thr t n=>rfl
   |exit i=>rfl
   |ret=>rfl
   |thr t n=>rfl
theorem rng_all {g:Opd} {ps:List Nat} {assign body:VCode} {st st1:St} {f:Nat} {caps:List PV} {xs:List (List PV)} (hg:st.pvOf g=some (.func f caps)) (hi:iter env f caps none=some xs)
  (hr:rounds (den env) (st.slots.map AV.froze) ps assign body st.boxes.length 0 xs { st with slots:=st.slots.map AV.froze }=some (none,st1)):den env (.rng g ps assign body) st=some (.normal,{ st1 with slots:=st.slots.map AV.froze }):=by
 rw [den_eq]
 show ranged (den env) env g ps assign body st=_
 unfold ranged
 rw [hg]
 unfold iter at hi
 simp only [z_bind_eq,Option.bind_some,hi,hr]
theorem rng_idx (B:Nat→List Box) {g:Opd} {ps:List Nat} {assign body:VCode} {st:St} {f:Nat} {caps:List PV} {xs:List (List PV)} (hg:st.pvOf g=some (.func f caps)) (hi:iter env f caps none=some xs) (hB:st.boxes=B 0)
  (h:∀ j x,xs[j]?=some x→∀ sl0,∃ sl1,round1 env (st.slots.map AV.froze) ps assign body st.boxes.length x ⟨sl0,B j,st.ys,st.stop⟩=some (.normal,⟨sl1,B (j+1),st.ys,st.stop⟩)) :
  den env (.rng g ps assign body) st=some (.normal,⟨st.slots.map AV.froze,B xs.length,st.ys,st.stop⟩):=by
 have key:∀ (l:List (List PV)) (j:Nat),xs.drop j=l→∀ (k:Nat) (sl0:List AV),∃ sl1,rounds (den env) (st.slots.map AV.froze) ps assign body st.boxes.length k l ⟨sl0,B j,st.ys,st.stop⟩=some (none,⟨sl1,B (j+l.length),st.ys,st.stop⟩):=by
  intro l
  induction l with
  |nil=>intro j _ k sl0;exact ⟨sl0,rfl⟩
  |cons x l ih =>
   intro j hj k sl0
   have hx:xs[j]?=some x:=by rw [← List.head?_drop,hj];rfl
   have hd:xs.drop (j+1)=l:=by rw [← List.drop_drop,hj];rfl
   obtain ⟨sl1,q⟩:=h j x hx sl0
   obtain ⟨sl2,q2⟩:=ih (j+1) hd (k+1) sl1
   refine ⟨sl2,?_⟩
   rw [rounds_cons,q]
   simp only [Option.bind_some,q2,List.length_cons]
   rw [show j+1+l.length=j+(l.length+1) by omega]
 obtain ⟨sl1,q⟩:=key xs 0 (by simp) 0 (st.slots.map AV.froze)
 rw [← hB,Nat.zero_add] at q
 have r:=rng_all hg hi q
 exact r
theorem clean_upP {keep post:List Nat} {id nb:Nat} {b:VCode} (n:Nat) (P:Nat→Prop) (S:Nat→St) (R:Nat→Option (Ex × St)) {st:St} (h:st.head keep st.boxes.length=some (S 0)) (hP:P 0) (hS:∀ i,(S i).boxes.length=nb) (hh:∀ i,(S i).head keep nb=some (S i))
  (step:∀ i rb,i<n→P i→(P (i+1)→∀ s,s.head keep nb=some (S (i+1))→tailOf env id post nb (den env rb s)=R (i+1))→tailOf env id post nb ((den env b (S i)).bind (next env rb))=R i)
  (last:∀ rb,P n→tailOf env id post nb ((den env b (S n)).bind (next env rb))=R n) :
  den env (.clean keep post (.block id (.loop keep b))) st=R 0:=by
 refine clean_rec S R (fun i=>i≤n∧P i) (fun i=>n - i) 0 h ⟨Nat.zero_le _,hP⟩ hS hh fun i rb hi ih=>?_
 by_cases hn:i=n
 ·subst hn;exact last rb hi.2
 ·exact step i rb (by omega) hi.2 fun hp s hs=>ih (i+1) (by omega) ⟨by omega,hp⟩ s hs
noncomputable def rassign (env:Env) (body:VCode) (nb:Nat):Ex × St→Option (Ex × St)
 |(.normal,st)=>(den env body st).bind fun p=>match p with
  |(.normal,st)=>if nb≤st.boxes.length then some (.normal,{ st with boxes:=st.boxes.take nb }) else none
  |(.thr _ _,_)=>none
  |p=>some p
 |_=>none
def rend (nb:Nat):Ex × St→Option (Ex × St)
 |(.normal,st)=>if nb≤st.boxes.length then some (.normal,{ st with boxes:=st.boxes.take nb }) else none
 |(.thr _ _,_)=>none
 |p=>some p
theorem round1_eq (slots:List AV) (ps:List Nat) (assign body:VCode) (nb:Nat) (x:List PV) (st:St):round1 env slots ps assign body nb x st=(setParams slots ps x).bind fun sl=>(den env assign { st with slots:=sl }).bind (rassign env body nb):=by
 unfold round1
 rfl
theorem rassign_normal (body:VCode) (nb:Nat) (st:St):rassign env body nb (.normal,st)=(den env body st).bind (rend nb):=by
 rfl
theorem rend_normal (nb:Nat) (st:St):rend nb (.normal,st)=if nb≤st.boxes.length then some (.normal,{ st with boxes:=st.boxes.take nb }) else none:=(rfl)
theorem rend_exit (nb i:Nat) (st:St):rend nb (.exit i,st)=some (.exit i,st):=(rfl)
theorem rend_ret (nb:Nat) (st:St):rend nb (.ret,st)=some (.ret,st):=(rfl)
theorem setP_nil (slots:List AV):setParams slots [] []=some slots:=(rfl)
theorem setP_cons (slots:List AV) (p:Nat) (ps:List Nat) (v:PV) (vs:List PV):setParams slots (p :: ps) (v :: vs)=setParams (slots.set p (.pv v)) ps vs:=(rfl)
theorem froze_pv (v:PV):AV.froze (.pv v)=.pv v:=(rfl)
theorem froze_row (sz:Nat) (es:List PV):AV.froze (.row sz es)=.pv (.list sz es):=(rfl)
theorem froze_any:AV.froze .any=.any:=(rfl)
theorem froze_tup (k:Bool) (l:List AV):AV.froze (.tup k l)=.any:=(rfl)
theorem froze_ref (r:Root) (i j:Nat):AV.froze (.ref r i j)=.any:=(rfl)
theorem froze_pel (r:Root) (i j:Nat):AV.froze (.pel r i j)=.any:=(rfl)
theorem froze_pbox (i j:Nat):AV.froze (.pbox i j)=.pbox i j:=(rfl)
theorem froze_fn (f:Nat) (l:List AV):AV.froze (.fn f l)=.fn f l:=(rfl)
theorem froze_yld:AV.froze .yld=.yld:=(rfl)
end
def vRng:=And.intro @round1_eq (And.intro @rassign_normal (And.intro @rend_normal (And.intro @rend_exit (And.intro @rend_ret (And.intro @setP_nil (And.intro @setP_cons (And.intro @froze_pv (And.intro @froze_row (And.intro @froze_any (And.intro @froze_tup (And.intro @froze_ref (And.intro @froze_pel (And.intro @froze_pbox (And.intro @froze_fn (And.intro @froze_yld (And.intro @yfin_normal @yfin_ret))))))))))))))))
end Go.Proofs.YtpcncggjmabnaaaGreatDoor

namespace Go.Proofs.YtpcncggjmabnaaaGreatDoor.V
def addAt (out:List Exn) (i:Nat):List Exn:=match out.getLast? with
 |some x=>if x.start+x.count=(i:Int) then out.dropLast++[⟨x.start,x.count+1⟩] else out++[⟨i,1⟩]
 |none=>[⟨i,1⟩]
def exts (l:List Nat):List Exn:=l.foldl addAt []
theorem addAt_snoc (pre:List Exn) (x:Exn) (i:Nat):addAt (pre++[x]) i=if x.start+x.count=(i:Int) then pre++[⟨x.start,x.count+1⟩] else pre++[x]++[⟨i,1⟩]:=by
 simp [addAt]
theorem exts_snoc (l:List Nat) (i:Nat):exts (l++[i])=addAt (exts l) i:=by simp [exts]
theorem snoc_cases {α:Type} (l:List α):l=[]∨∃ p x,l=p++[x]:=by
 rcases List.eq_nil_or_concat l with h|⟨p,x,h⟩
 ·exact .inl h
 ·exact .inr ⟨p,x,by rw [h];simp⟩
theorem exts_last:∀ (n:Nat) (l:List Nat),l.length=n→∀ i:Nat,∃ pre x,exts (l++[i])=pre++[x]∧x.start+x.count=(i:Int)+1∧0≤x.start∧1≤x.count∧pre.length≤l.length:=by
 intro n
 induction n with
 |zero =>
  intro l hl i
  have:=List.eq_nil_of_length_eq_zero hl
  subst this
  exact ⟨[],⟨i,1⟩,rfl,rfl,by simp,by simp,by simp⟩
 |succ n ih =>
  intro l hl i
  rcases snoc_cases l with rfl|⟨p,j,rfl⟩
  ·simp at hl
  ·obtain ⟨pre,x,e,h1,h2,h3,h4⟩:=ih p (by simpa using hl) j
   rw [exts_snoc,e,addAt_snoc]
   split
   ·rename_i hx
    exact ⟨pre,_,rfl,by simp;omega,h2,by simp;omega,by simp;omega⟩
   ·exact ⟨pre++[x],_,rfl,by simp,by simp,by simp,by simp;omega⟩
theorem wrap_pred {n:Nat} (h:n≤lim):IntKind.i64.wrap (((n+1:Nat):Int) - 1)=(n:Int):=by
 rw [i64_fits (by unfold lim at h;omega)];omega
end Go.Proofs.YtpcncggjmabnaaaGreatDoor.V

namespace Go.Proofs.YtpcncggjmabnaaaGreatDoor.V
def ext (p:Nat→Bool) (n:Nat):List Exn:=exts ((List.range n).filter p)
theorem ext_zero (p:Nat→Bool):ext p 0=[]:=rfl
theorem ext_succ (p:Nat→Bool) (n:Nat):ext p (n+1)=if p n then addAt (ext p n) n else ext p n:=by
 unfold ext
 rw [List.range_succ,List.filter_append]
 cases h:p n
 ·simp [h]
 ·rw [List.filter_cons_of_pos h,List.filter_nil,exts_snoc];rfl
theorem ext_new {p:Nat→Bool} {n:Nat} (h:n=0∨p (n - 1)=false):addAt (ext p n) n=ext p n++[⟨(n:Int),1⟩]:=by
 unfold ext
 rcases snoc_cases ((List.range n).filter p) with h0|⟨l,j,h0⟩
 ·rw [h0];rfl
 ·obtain ⟨pre,⟨s,c⟩,e0,h1,h2,h3,h4⟩:=exts_last _ l rfl j
  have hmem:j∈(List.range n).filter p:=by rw [h0];simp
  obtain ⟨q1,q2⟩:=List.mem_filter.1 hmem
  have hj:=List.mem_range.1 q1
  simp only at h1
  rw [h0,e0,addAt_snoc,if_neg]
  intro hh
  simp only at hh
  have:j=n - 1:=by omega
  rcases h with h|h
  ·omega
  ·rw [← this,q2] at h;cases h
theorem ext_false {p:Nat→Bool} {a:Nat}:∀ k,(∀ s,a≤s→s<a+k→p s=false)→ext p (a+k)=ext p a
 |0,_=>rfl
 |k+1,h=>by
  rw [← Nat.add_assoc,ext_succ,h (a+k) (by omega) (by omega),if_neg (by simp)]
  exact ext_false k fun s h1 h2=>h s h1 (by omega)
theorem ext_true {p:Nat→Bool} {a:Nat} {pre:List Exn} {s0:Int} (h0:ext p a=pre++[⟨s0,a - s0⟩]):∀ k,(∀ s,a≤s→s<a+k→p s=true)→ext p (a+k)=pre++[⟨s0,((a+k:Nat):Int) - s0⟩]
 |0,_=>h0
 |k+1,h=>by
  rw [← Nat.add_assoc,ext_succ,h (a+k) (by omega) (by omega),if_pos rfl,ext_true h0 k fun s h1 h2=>h s h1 (by omega),addAt_snoc,if_pos (by simp only;omega)]
  congr 2
  simp only [Exn.mk.injEq,true_and]
  omega
theorem ext_begin {p:Nat→Bool} {a k:Nat} (hn:a=0∨p (a - 1)=false) (h:∀ s,a≤s→s<a+(k+1)→p s=true):ext p (a+(k+1))=ext p a++[⟨(a:Int),((a+(k+1):Nat):Int) - a⟩]:=by
 have h1:ext p (a+1)=ext p a++[⟨(a:Int),((a+1:Nat):Int) - a⟩]:=by
  rw [ext_succ,h a (Nat.le_refl _) (by omega),if_pos rfl,ext_new hn]
  congr 2
  simp only [Exn.mk.injEq,true_and]
  omega
 have:=ext_true (a:=a+1) h1 k fun s h2 h3=>h s (by omega) (by omega)
 rw [show a+(k+1)=a+1+k by omega]
 exact this
theorem ext_congr {p q:Nat→Bool} {n:Nat} (h:∀ s,s<n→p s=q s):ext p n=ext q n:=by
 unfold ext
 rw [List.filter_congr fun s hs=>h s (List.mem_range.1 hs)]
def dep (i:Nat) (s:Nat):List End→Int
 |[]=>0
 |x :: l=>(if x.list=i∧x.pos≤s then x.step else 0)+dep i s l
def tot (i:Nat):List End→Int
 |[]=>0
 |x :: l=>(if x.list=i then x.step else 0)+tot i l
theorem dep_app (i s:Nat):∀ l m:List End,dep i s (l++m)=dep i s l+dep i s m
 |[],m=>by simp [dep]
 |x :: l,m=>by simp only [List.cons_append,dep,dep_app i s l m];omega
theorem dep_all {i s:Nat}:∀ {l:List End},(∀ x∈l,x.pos≤s)→dep i s l=tot i l
 |[],_=>rfl
 |x :: l,h=>by
  have h1:=h x (by simp)
  have ih:=dep_all (i:=i) (s:=s) (l:=l) fun y hy=>h y (by simp [hy])
  simp only [dep,tot,ih,h1,and_true]
theorem dep_none {i s:Nat}:∀ {l:List End},(∀ x∈l,s<x.pos)→dep i s l=0
 |[],_=>rfl
 |x :: l,h=>by
  have h1:=h x (by simp)
  have ih:=dep_none (i:=i) (s:=s) (l:=l) fun y hy=>h y (by simp [hy])
  simp only [dep,ih]
  rw [if_neg (by omega)];rfl
theorem tot_app (i:Nat):∀ l m:List End,tot i (l++m)=tot i l+tot i m
 |[],m=>by simp [tot]
 |x :: l,m=>by simp only [List.cons_append,tot,tot_app i l m];omega
def keepOf (keep:Bool→Bool→Bool) (l:List End) (s:Nat):Bool:=keep (decide (dep 0 s l > 0)) (decide (dep 1 s l > 0))
def nextSame (x:End):List End→Bool
 |[]=>false
 |y :: _=>decide (y.pos=x.pos)
def swGo (keep:Bool→Bool→Bool):List End→Int→Int→Int→Bool→List Exn
 |[],_,_,_,_=>[]
 |x :: l,d0,d1,st,ins =>
  if nextSame x l then swGo keep l (if x.list=0 then d0+x.step else d0) (if x.list=1 then d1+x.step else d1) st ins
  else
   (if !keep (decide ((if x.list=0 then d0+x.step else d0) > 0)) (decide ((if x.list=1 then d1+x.step else d1) > 0))&&ins then [⟨st,x.pos - st⟩] else []) ++
   swGo keep l (if x.list=0 then d0+x.step else d0) (if x.list=1 then d1+x.step else d1)
    (if keep (decide ((if x.list=0 then d0+x.step else d0) > 0)) (decide ((if x.list=1 then d1+x.step else d1) > 0))&&!ins then x.pos else st)
    (keep (decide ((if x.list=0 then d0+x.step else d0) > 0)) (decide ((if x.list=1 then d1+x.step else d1) > 0)))
def Asc:List End→Prop
 |[]=>True
 |[_]=>True
 |x :: y :: l=>x.pos≤y.pos∧Asc (y :: l)
theorem Asc.tail {x:End} {l:List End} (h:Asc (x :: l)):Asc l:=by
 cases l with
 |nil=>trivial
 |cons y l=>exact h.2
theorem Asc.le {x:End}:∀ {l:List End},Asc (x :: l)→∀ y∈l,x.pos≤y.pos
 |[],_,y,hy=>by cases hy
 |z :: l,h,y,hy=>by
  rcases List.mem_cons.1 hy with rfl|hy
  ·exact h.1
  ·exact Nat.le_trans h.1 (Asc.le h.2 y hy)
def atStart (N:Nat):List End→Nat→Prop
 |[],a=>a=N
 |x :: _,a=>a=x.pos
theorem swGo_ok {keep:Bool→Bool→Bool} (hk:keep false false=false) {L:List End} {N:Nat} (hN:∀ x∈L,x.pos≤N) (h0:tot 0 L=0) (h1:tot 1 L=0) :
  ∀ (R P:List End) (out:List Exn) (st:Int) (ins:Bool) (a:Nat),L=P++R→Asc R→(∀ x∈P,∀ y∈R,x.pos≤y.pos)→(∀ x∈P,x.pos≤a) →
   atStart N R a→ext (keepOf keep L) a=out++(if ins then [⟨st,a - st⟩] else [])→(a=0∨ins=true∨keepOf keep L (a - 1)=false)→(R=[]→ins=false)→(a=0→ins=false) →
   ext (keepOf keep L) N=out++swGo keep R (tot 0 P) (tot 1 P) st ins
 |[],P,out,st,ins,a,hL,_,_,_,ha,he,hi,hr,_=>by
  have ha:a=N:=ha
  rw [hr rfl] at he
  rw [ha] at he
  simpa [swGo] using he
 |x :: l,P,out,st,ins,a,hL,hs,hP,hPa,ha,he,hi,_,hz=>by
  have ha:a=x.pos:=ha
  subst ha
  have hL2:L=(P++[x])++l:=by rw [hL];simp
  have t0:tot 0 (P++[x])=(if x.list=0 then tot 0 P+x.step else tot 0 P):=by
   rw [tot_app];simp only [tot];split<;>omega
  have t1:tot 1 (P++[x])=(if x.list=1 then tot 1 P+x.step else tot 1 P):=by
   rw [tot_app];simp only [tot];split<;>omega
  have hP2:∀ z∈P++[x],∀ y∈l,z.pos≤y.pos:=by
   intro z hz y hy
   rcases List.mem_append.1 hz with hz|hz
   ·exact hP z hz y (by simp [hy])
   ·simp only [List.mem_singleton] at hz;rw [hz];exact hs.le y hy
  have hPx:∀ z∈P++[x],z.pos≤x.pos:=by
   intro z hz
   rcases List.mem_append.1 hz with hz|hz
   ·exact hP z hz x (by simp)
   ·simp only [List.mem_singleton] at hz;rw [hz];exact Nat.le_refl _
  unfold swGo
  rw [← t0,← t1]
  by_cases hn:nextSame x l=true
  ·rw [if_pos hn]
   cases l with
   |nil=>simp [nextSame] at hn
   |cons y l =>
    have hy:y.pos=x.pos:=by simpa [nextSame] using hn
    exact swGo_ok hk hN h0 h1 (y :: l) (P++[x]) out st ins x.pos hL2 hs.tail hP2 hPx hy.symm he hi (fun e=>by cases e) hz
  ·rw [if_neg hn]
   -- the next place
   obtain ⟨b,hb,hbl,hbx,hbm⟩:∃ b,x.pos≤b∧(∀ y∈l,b≤y.pos)∧(l≠[]→x.pos<b)∧atStart N l b:=by
    cases l with
    |nil=>exact ⟨N,hN x (by rw [hL];simp),fun y hy=>(by cases hy),fun h=>absurd rfl h,rfl⟩
    |cons y l =>
     have hy:y.pos≠x.pos:=by simpa [nextSame] using hn
     have:=hs.1
     exact ⟨y.pos,hs.1,fun z hz=>by
      rcases List.mem_cons.1 hz with rfl|hz
      ·exact Nat.le_refl _
      ·exact hs.tail.le z hz,fun _=>by omega,rfl⟩
   have hconst:∀ s,x.pos≤s→s<b→keepOf keep L s=keep (decide (tot 0 (P++[x]) > 0)) (decide (tot 1 (P++[x]) > 0)):=by
    intro s hs1 hs2
    unfold keepOf
    have e:∀ i,dep i s L=tot i (P++[x]):=by
     intro i
     rw [hL2,dep_app,dep_all (fun z hz=>by have:=hPx z hz;omega),dep_none (fun z hz=>by have:=hbl z hz;omega)]
     omega
    rw [e 0,e 1]
   have hlast:l=[]→keep (decide (tot 0 (P++[x]) > 0)) (decide (tot 1 (P++[x]) > 0))=false:=by
    intro hl
    have e0:tot 0 (P++[x])=0:=by rw [← h0,hL2,hl,List.append_nil]
    have e1:tot 1 (P++[x])=0:=by rw [← h1,hL2,hl,List.append_nil]
    rw [e0,e1]
    exact hk
   have hPb:∀ z∈P++[x],z.pos≤b:=fun z hz=>Nat.le_trans (hPx z hz) hb
   obtain ⟨k,rfl⟩:∃ k,b=x.pos+k:=⟨b - x.pos,by omega⟩
   generalize keep (decide (tot 0 (P++[x]) > 0)) (decide (tot 1 (P++[x]) > 0))=now at *
   have hprev:k≠0→keepOf keep L (x.pos+k - 1)=now:=fun hk0=>hconst _ (by omega) (by omega)
   cases now with
   |false =>
    have hf:=ext_false (p:=keepOf keep L) (a:=x.pos) k fun s q1 q2=>hconst s q1 q2
    cases ins with
    |false =>
     simp only [Bool.not_false,Bool.and_false,Bool.false_eq_true,if_false,List.nil_append,Bool.and_true,Bool.false_and,List.append_nil,if_true] at he ⊢
     refine swGo_ok hk hN h0 h1 l (P++[x]) out _ false (x.pos+k) hL2 hs.tail hP2 hPb hbm ?_ ?_ (fun _=>rfl) (fun _=>rfl)
     ·rw [hf,he];simp
     ·by_cases hk0:k=0
      ·subst hk0
       rcases hi with hi|hi|hi
       ·exact .inl hi
       ·cases hi
       ·exact .inr (.inr hi)
      ·exact .inr (.inr (hprev hk0))
    |true =>
     simp only [Bool.not_false,Bool.and_self,if_true,Bool.not_true,Bool.and_false,Bool.false_and,Bool.false_eq_true,if_false] at he ⊢
     rw [← List.append_assoc]
     by_cases hk0:k=0
     ·subst hk0
      have hl:l=[]:=by
       cases l with
       |nil=>rfl
       |cons y l=>have:=hbx (by simp);omega
      subst hl
      have hb2:x.pos+0=N:=hbm
      simp only [swGo,List.append_nil]
      rw [← hb2]
      exact he
     ·refine swGo_ok hk hN h0 h1 l (P++[x]) _ _ false (x.pos+k) hL2 hs.tail hP2 hPb hbm ?_ (.inr (.inr (hprev hk0))) (fun _=>rfl) (fun _=>rfl)
      rw [hf,he];simp
   |true =>
    have hl:l≠[]:=fun e=>by have:=hlast e;cases this
    have hk1:=hbx hl
    obtain ⟨j,rfl⟩:∃ j,k=j+1:=⟨k - 1,by omega⟩
    cases ins with
    |false =>
     simp only [Bool.not_true,Bool.false_and,Bool.false_eq_true,if_false,List.nil_append,Bool.not_false,Bool.and_self,if_true,List.append_nil] at he ⊢
     refine swGo_ok hk hN h0 h1 l (P++[x]) out _ true (x.pos+(j+1)) hL2 hs.tail hP2 hPb hbm ?_ (.inr (.inl rfl)) (fun e=>absurd e hl) (fun e=>by omega)
     have hi2:x.pos=0∨keepOf keep L (x.pos - 1)=false:=by
      rcases hi with hi|hi|hi
      ·exact .inl hi
      ·cases hi
      ·exact .inr hi
     rw [ext_begin hi2 fun s q1 q2=>hconst s q1 q2,he]
     simp
    |true =>
     simp only [Bool.not_true,Bool.false_and,Bool.false_eq_true,if_false,List.nil_append,Bool.and_false,if_true] at he ⊢
     refine swGo_ok hk hN h0 h1 l (P++[x]) out st true (x.pos+(j+1)) hL2 hs.tail hP2 hPb hbm ?_ (.inr (.inl rfl)) (fun e=>absurd e hl) (fun e=>by omega)
     rw [ext_true he (j+1) fun s q1 q2=>hconst s q1 q2]
     simp
theorem sweep_ok {keep:Bool→Bool→Bool} (hk:keep false false=false) {L:List End} {N:Nat} (hs:Asc L) (hN:∀ x∈L,x.pos≤N) (h0:tot 0 L=0) (h1:tot 1 L=0) :
  swGo keep L 0 0 0 false=ext (keepOf keep L) N:=by
 cases L with
 |nil =>
  have:ext (keepOf keep ([]:List End)) (0+N)=ext (keepOf keep []) 0:=ext_false N fun s _ _=>hk
  rw [Nat.zero_add] at this
  rw [this];rfl
 |cons x l =>
  have hb:ext (keepOf keep (x :: l)) (0+x.pos)=ext (keepOf keep (x :: l)) 0:=ext_false x.pos fun s _ h2=>by
   unfold keepOf
   have e:∀ i,dep i s (x :: l)=0:=fun i=>dep_none fun y hy=>by
    rcases List.mem_cons.1 hy with rfl|hy
    ·omega
    ·have:=hs.le y hy;omega
   rw [e 0,e 1]
   exact hk
  rw [Nat.zero_add] at hb
  have:=swGo_ok hk hN h0 h1 (x :: l) [] [] 0 false x.pos rfl hs (fun z hz=>by cases hz) (fun z hz=>by cases hz) rfl (by rw [hb];rfl) (by
   by_cases h:x.pos=0
   ·exact .inl h
   ·refine .inr (.inr ?_)
    unfold keepOf
    have e:∀ i,dep i (x.pos - 1) (x :: l)=0:=fun i=>dep_none fun y hy=>by
     rcases List.mem_cons.1 hy with rfl|hy
     ·omega
     ·have:=hs.le y hy;omega
    rw [e 0,e 1]
    exact hk) (fun e=>by cases e) (fun _=>rfl)
  rw [this];rfl
end Go.Proofs.YtpcncggjmabnaaaGreatDoor.V

namespace Go.Proofs.YtpcncggjmabnaaaGreatDoor.V
abbrev Wd:=BitVec 64
structure Bm where
 size:Int
 ws:List Wd
 deriving DecidableEq
def eW (w:Wd):PV:=.int .u64 (w.toNat:Int)
def eBm (b:Bm):PV:=.agg [.int .i64 b.size,.list 1 (b.ws.map eW)]
def bit (ws:List Wd) (i:Nat):Bool:=(ws.getD (i / 64) 0).getLsbD (i % 64)
theorem bit_at {ws:List Wd} {k:Nat} (h:k<ws.length) {j:Nat} (hj:j<64):bit ws (64 * k+j)=ws[k].getLsbD j:=by
 unfold bit
 have e1:(64 * k+j) / 64=k:=by omega
 have e2:(64 * k+j) % 64=j:=by omega
 rw [e1,e2];simp [h]
theorem bit_of {ws:List Wd} {i:Nat} (h:i / 64<ws.length):bit ws i=ws[i / 64].getLsbD (i % 64):=by
 unfold bit;simp [h]
theorem bit_out {ws:List Wd} {i:Nat} (h:64 * ws.length≤i):bit ws i=false:=by
 unfold bit
 have:ws.length≤i / 64:=by omega
 rw [List.getD_eq_getElem?_getD,List.getElem?_eq_none this];simp
theorem w_of (w:Wd):BitVec.ofInt 64 (w.toNat:Int)=w:=by
 apply BitVec.eq_of_toNat_eq
 have:=w.isLt
 rw [BitVec.toNat_ofInt]
 omega
theorem u64_wrap (n:Int):IntKind.u64.wrap n=n % 2 ^ 64:=by
 simp only [IntKind.wrap,IntKind.bits,IntKind.signed,Bool.false_and,Bool.false_eq_true,if_false]
theorem w_wrap (w:Wd):IntKind.u64.wrap (w.toNat:Int)=(w.toNat:Int):=by
 have:=w.isLt
 simp only [IntKind.wrap,IntKind.bits,IntKind.signed,Bool.false_and,Bool.false_eq_true,if_false]
 omega
theorem w_or (a b:Wd):IntKind.u64.wrap ((BitVec.ofInt IntKind.u64.bits (a.toNat:Int) ||| BitVec.ofInt IntKind.u64.bits (b.toNat:Int)).toNat:Int)=((a ||| b).toNat:Int):=by
 show IntKind.u64.wrap ((BitVec.ofInt 64 (a.toNat:Int) ||| BitVec.ofInt 64 (b.toNat:Int)).toNat:Int)=_
 rw [w_of,w_of,w_wrap]
theorem w_shr (w:Wd) {s:Int} {n:Nat} (hs:s=(n:Int)):(w.toNat:Int).fdiv (2 ^ (min s.toNat IntKind.u64.bits))=((w >>> n).toNat:Int):=by
 subst hs
 rw [BitVec.toNat_ushiftRight,Nat.shiftRight_eq_div_pow,Int.toNat_natCast]
 have hw:=w.isLt
 show (w.toNat:Int).fdiv (2 ^ (min n 64))=_
 by_cases h:n≤64
 ·have h2:(0:Int)≤2 ^ n:=by have:=Int.natCast_nonneg (2 ^ n);push_cast at this;exact this
  rw [Nat.min_eq_left h,Int.fdiv_eq_ediv_of_nonneg _ h2]
  push_cast
  rfl
 ·rw [Nat.min_eq_right (by omega),Int.fdiv_eq_ediv_of_nonneg _ (by decide)]
  have h1:w.toNat / 2 ^ n=0:=Nat.div_eq_of_lt (Nat.lt_of_lt_of_le hw (Nat.pow_le_pow_right (by decide) (by omega)))
  rw [h1]
  omega
theorem w_shl (w:Wd) {s:Int} {n:Nat} (hs:s=(n:Int)):IntKind.u64.wrap ((w.toNat:Int) * 2 ^ (min s.toNat IntKind.u64.bits))=((w <<< n).toNat:Int):=by
 subst hs
 rw [BitVec.toNat_shiftLeft,Nat.shiftLeft_eq,Int.toNat_natCast]
 have hw:=w.isLt
 rw [u64_wrap]
 show ((w.toNat:Int) * 2 ^ (min n 64)) % 2 ^ 64=_
 by_cases h:n≤64
 ·have e2:((2 ^ n:Nat):Int)=2 ^ n:=by push_cast;rfl
  have e3:((2 ^ 64:Nat):Int)=2 ^ 64:=by decide
  rw [Nat.min_eq_left h,Int.natCast_emod,Int.natCast_mul,e2,e3]
 ·rw [Nat.min_eq_right (by omega)]
  have e:2 ^ n=2 ^ 64 * 2 ^ (n - 64):=by rw [← Nat.pow_add];congr 1;omega
  have:w.toNat * 2 ^ n % 2 ^ 64=0:=by
   rw [e,Nat.mul_left_comm];exact Nat.mul_mod_right _ _
  rw [this]
  exact Int.mul_emod_left _ _
theorem w_beq (a b:Wd):((a.toNat:Int)==(b.toNat:Int))=decide (a=b):=by
 by_cases h:a=b
 ·subst h;simp
 ·have:a.toNat≠b.toNat:=fun e=>h (BitVec.eq_of_toNat_eq e)
  simp [h];omega
/-! Masks. -/
def maskW (k:Nat) (a b:Int):Wd :=
 if max (a - 64 * (k:Int)) 0 ≥ min (b - 64 * (k:Int)) 64 then 0
 else (BitVec.allOnes 64 >>> (64 - (min (b - 64 * (k:Int)) 64 - max (a - 64 * (k:Int)) 0)).toNat) <<< (max (a - 64 * (k:Int)) 0).toNat
theorem mask_bit (k:Nat) (a b:Int) {j:Nat} (hj:j<64):(maskW k a b).getLsbD j=decide (a≤64 * (k:Int)+j∧64 * (k:Int)+j<b):=by
 unfold maskW
 split
 ·rename_i h
  rw [show (0:Wd).getLsbD j=false by simp]
  symm
  apply decide_eq_false
  omega
 ·rename_i h
  rw [BitVec.getLsbD_shiftLeft,BitVec.getLsbD_ushiftRight,BitVec.getLsbD_allOnes]
  rw [Bool.eq_iff_iff]
  simp only [Bool.and_eq_true,decide_eq_true_eq,Bool.not_eq_true',decide_eq_false_iff_not]
  omega
def setW (ws:List Wd) (a b:Int):List Wd:=ws.mapIdx fun k w=>w ||| maskW k a b
theorem bit_set {ws:List Wd} {a b:Int} {i:Nat} (h:i<64 * ws.length):bit (setW ws a b) i=(bit ws i || decide (a≤(i:Int)∧(i:Int)<b)):=by
 have hk:i / 64<ws.length:=by omega
 have hk2:i / 64<(setW ws a b).length:=by simp [setW,hk]
 rw [bit_of hk,bit_of hk2]
 simp only [setW,List.getElem_mapIdx,BitVec.getLsbD_or]
 rw [mask_bit _ _ _ (Nat.mod_lt _ (by decide))]
 congr 2
 have:(64 * ((i / 64:Nat):Int))+((i % 64:Nat):Int)=(i:Int):=by omega
 rw [this]
def wdsN (n:Int):Int:=(n+63) / 64
def okB (b:Bm):Bool:=decide (0≤b.size∧b.size≤4096∧(b.ws.length:Int)=wdsN b.size)&&(List.range (64 * b.ws.length)).all fun (i:Nat)=>decide ((i:Int)<b.size) || !bit b.ws i
theorem okB_iff {b:Bm}:okB b=true ↔ (0≤b.size∧b.size≤4096∧(b.ws.length:Int)=wdsN b.size)∧∀ i:Nat,b.size≤(i:Int)→bit b.ws i=false:=by
 unfold okB
 simp only [Bool.and_eq_true,decide_eq_true_eq,List.all_eq_true,List.mem_range,Bool.or_eq_true,Bool.not_eq_true']
 refine and_congr Iff.rfl ⟨fun h i hi=>?_,fun h i hi=>?_⟩
 ·by_cases c:i<64 * b.ws.length
  ·exact (h i c).resolve_left (by omega)
  ·exact bit_out (by omega)
 ·by_cases c:(i:Int)<b.size
  ·exact .inl c
  ·exact .inr (h i (by omega))
theorem okB_size {b:Bm} (h:okB b=true):0≤b.size∧b.size≤4096∧b.ws.length≤64∧b.size≤64 * (b.ws.length:Int)∧64 * (b.ws.length:Int)<b.size+64:=by
 have:=(okB_iff.1 h).1
 unfold wdsN at this
 omega
theorem rest_iff {b:Bm} (h:0≤b.size∧b.size≤4096∧(b.ws.length:Int)=wdsN b.size):okB b=true ↔ (b.size % 64=0∨∀ (hw:b.ws.length - 1<b.ws.length),b.ws[b.ws.length - 1] >>> (b.size % 64).toNat=0):=by
 rw [okB_iff]
 unfold wdsN at h ⊢
 constructor
 ·rintro ⟨_,h2⟩
  by_cases c:b.size % 64=0
  ·exact .inl c
  ·refine .inr fun hw=>?_
   apply BitVec.eq_of_getLsbD_eq
   intro j hj
   rw [BitVec.getLsbD_ushiftRight]
   by_cases cj:(b.size % 64).toNat+j<64
   ·rw [← bit_at hw cj,h2 _ (by omega)];simp
   ·rw [BitVec.getLsbD_of_ge _ _ (by omega)];simp
 ·intro hr
  refine ⟨by omega,fun i hi=>?_⟩
  by_cases c:i<64 * b.ws.length
  ·have hw:b.ws.length - 1<b.ws.length:=by omega
   have hk:i / 64=b.ws.length - 1:=by omega
   rcases hr with hr|hr
   ·omega
   ·have:=congrArg (fun w:Wd=>w.getLsbD (i % 64 - (b.size % 64).toNat)) (hr hw)
    simp only [BitVec.getLsbD_ushiftRight,BitVec.getLsbD_zero] at this
    rw [show (b.size % 64).toNat+(i % 64 - (b.size % 64).toNat)=i % 64 by omega] at this
    rw [show i=64 * (b.ws.length - 1)+i % 64 by omega,bit_at hw (Nat.mod_lt _ (by decide))]
    simpa using this
  ·exact bit_out (by omega)
def bmE (b:Bm):Int:=if okB b then 0 else 3
end Go.Proofs.YtpcncggjmabnaaaGreatDoor.V

namespace Go.Proofs.YtpcncggjmabnaaaGreatDoor.V
theorem bmE_ok {b:Bm} (h:okB b=true):bmE b=0:=by unfold bmE;rw [if_pos h]
theorem bmE_no {b:Bm} (h:okB b=false):bmE b=3:=by unfold bmE;rw [if_neg (by rw [h];exact Bool.false_ne_true)]
theorem q64 {n:Int} (h:0≤n):(n+64 - 1).tdiv 64=wdsN n:=by
 unfold wdsN;rw [Int.tdiv_eq_ediv_of_nonneg (by omega)];congr 1;omega
theorem z64:((64:Int)=0)=False:=eq_false (by decide)
theorem cal109 {n:Int} (h:0≤n∧n≤4096):cal env 109 [.int .i64 n]=some [(.int .i64 (wdsN n),false)]:=by
 have W1:IntKind.i64.wrap (n+64)=n+64:=i64_fits (by omega)
 have W2:IntKind.i64.wrap (n+64 - 1)=n+64 - 1:=i64_fits (by omega)
 have W3:IntKind.i64.wrap (wdsN n)=wdsN n:=i64_fits (by unfold wdsN;omega)
 rw [cal_code env109 rfl];simp only [fn109];simp only [start,z_map_cons,z_map_nil,z_len_cons,z_len_nil,z_repl_zero,z_repl_succ,z_cons_app,z_nil_app,Nat.reduceAdd,Nat.reduceSub]
 simp only [W1,W2,q64 h.1,W3,z64,memAll,vAll,reduceCtorEq,Nat.reduceEqDiff,Nat.reduceAdd,Nat.reduceLT,Nat.reduceLeDiff,Nat.beq]
theorem cal91 {b:Bm}:cal env 91 [eBm b]=some [(.int .i64 (bmE b),false)]:=by
 unfold eBm
 have P:∀ x y:PV,part [x,y] 0 (some 2)=some (.agg [x,y]):=fun _ _=>rfl
 by_cases c0:b.size<0
 ·have hE:bmE b=3:=bmE_no (by rw [Bool.eq_false_iff];intro h;have:=okB_size h;omega)
  rw [hE]
  rw [cal_code env91 rfl];simp only [fn91];simp only [start,z_map_cons,z_map_nil,z_len_cons,z_len_nil,z_repl_zero,z_repl_succ,z_cons_app,z_nil_app,Nat.reduceAdd,Nat.reduceSub]
  simp only [c0,P,memAll,vAll,reduceCtorEq,Nat.reduceEqDiff,Nat.reduceAdd,Nat.reduceLT,Nat.reduceLeDiff,Nat.beq]
 ·by_cases c1:b.size > 4096
  ·have hE:bmE b=3:=bmE_no (by rw [Bool.eq_false_iff];intro h;have:=okB_size h;omega)
   rw [hE]
   have F1:(b.size > 4096)=True:=eq_true c1
   rw [cal_code env91 rfl];simp only [fn91];simp only [start,z_map_cons,z_map_nil,z_len_cons,z_len_nil,z_repl_zero,z_repl_succ,z_cons_app,z_nil_app,Nat.reduceAdd,Nat.reduceSub]
   simp only [c0,F1,P,memAll,vAll,reduceCtorEq,Nat.reduceEqDiff,Nat.reduceAdd,Nat.reduceLT,Nat.reduceLeDiff,Nat.beq]
  ·have F1:(b.size > 4096)=False:=eq_false c1
   have e1:=cal109 (n:=b.size) (by omega)
   by_cases c2:(b.ws.length:Int)=wdsN b.size
   ·have F2:((b.ws.length:Int) != wdsN b.size)=false:=by simp [c2]
    have hr:=rest_iff (b:=b) ⟨by omega,by omega,c2⟩
    have hw:=c2
    unfold wdsN at hw
    have M:b.size.tmod 64=b.size % 64:=Int.tmod_eq_emod_of_nonneg (by omega)
    by_cases c3:b.size % 64=0
    ·have hE:bmE b=0:=bmE_ok (hr.2 (.inl c3))
     rw [hE]
     have F3:(b.size % 64 > 0)=False:=eq_false (by omega)
     rw [cal_code env91 rfl];simp only [fn91];simp only [start,z_map_cons,z_map_nil,z_len_cons,z_len_nil,z_repl_zero,z_repl_succ,z_cons_app,z_nil_app,Nat.reduceAdd,Nat.reduceSub]
     simp only [c0,F1,F2,F3,M,e1,z64,P,memAll,vAll,reduceCtorEq,Nat.reduceEqDiff,Nat.reduceAdd,Nat.reduceLT,Nat.reduceLeDiff,Nat.beq]
    ·have F3:(b.size % 64 > 0)=True:=eq_true (by omega)
     have hi:b.ws.length - 1<b.ws.length:=by omega
     have W:IntKind.i64.wrap ((b.ws.length:Int) - 1)=((b.ws.length - 1:Nat):Int):=by rw [i64_fits (by omega)];omega
     have S0:(b.size % 64<0)=False:=eq_false (by omega)
     have S:=w_shr b.ws[b.ws.length - 1] (s:=b.size % 64) (n:=(b.size % 64).toNat) (by omega)
     have B:=w_beq (b.ws[b.ws.length - 1] >>> (b.size % 64).toNat) 0
     have B0:((0:Wd).toNat:Int)=0:=rfl
     rw [B0] at B
     have B':(((b.ws[b.ws.length - 1] >>> (b.size % 64).toNat).toNat:Int) != 0)=!decide (b.ws[b.ws.length - 1] >>> (b.size % 64).toNat=0):=by unfold bne;rw [B]
     by_cases c4:b.ws[b.ws.length - 1] >>> (b.size % 64).toNat=0
     ·have hE:bmE b=0:=bmE_ok (hr.2 (.inr fun _=>c4))
      rw [hE]
      rw [decide_eq_true c4] at B'
      rw [cal_code env91 rfl];simp only [fn91];simp only [start,z_map_cons,z_map_nil,z_len_cons,z_len_nil,z_repl_zero,z_repl_succ,z_cons_app,z_nil_app,Nat.reduceAdd,Nat.reduceSub]
      simp only [c0,F1,F2,F3,M,e1,z64,P,W,S0,S,B',index_nat hi,eW,List.getElem?_map,List.getElem?_eq_getElem hi,memAll,vAll,reduceCtorEq,Nat.reduceEqDiff,Nat.reduceAdd,Nat.reduceLT,Nat.reduceLeDiff,Nat.beq]
     ·have hE:bmE b=3:=bmE_no (by
       rw [Bool.eq_false_iff];intro h
       rcases hr.1 h with h|h
       ·exact c3 h
       ·exact c4 (h hi))
      rw [hE]
      rw [decide_eq_false c4] at B'
      rw [cal_code env91 rfl];simp only [fn91];simp only [start,z_map_cons,z_map_nil,z_len_cons,z_len_nil,z_repl_zero,z_repl_succ,z_cons_app,z_nil_app,Nat.reduceAdd,Nat.reduceSub]
      simp only [c0,F1,F2,F3,M,e1,z64,P,W,S0,S,B',index_nat hi,eW,List.getElem?_map,List.getElem?_eq_getElem hi,memAll,vAll,reduceCtorEq,Nat.reduceEqDiff,Nat.reduceAdd,Nat.reduceLT,Nat.reduceLeDiff,Nat.beq]
   ·have F2:((b.ws.length:Int) != wdsN b.size)=true:=by simp [c2]
    have hE:bmE b=3:=bmE_no (by rw [Bool.eq_false_iff];intro h;exact c2 (okB_iff.1 h).1.2.2)
    rw [hE]
    rw [cal_code env91 rfl];simp only [fn91];simp only [start,z_map_cons,z_map_nil,z_len_cons,z_len_nil,z_repl_zero,z_repl_succ,z_cons_app,z_nil_app,Nat.reduceAdd,Nat.reduceSub]
    simp only [c0,F1,F2,e1,P,memAll,vAll,reduceCtorEq,Nat.reduceEqDiff,Nat.reduceAdd,Nat.reduceLT,Nat.reduceLeDiff,Nat.beq]
theorem cal125 {k:Nat} {a b:Int} (hk:k≤100000) (ha:-1000000≤a∧a≤1000000) (hb':-1000000≤b∧b≤1000000):cal env 125 [.int .i64 (k:Nat),.int .i64 a,.int .i64 b]=some [(eW (maskW k a b),false)]:=by
 have W0:IntKind.i64.wrap ((k:Int) * 64)=64 * (k:Int):=by rw [i64_fits (by omega)];omega
 have W1:IntKind.i64.wrap (a - 64 * (k:Int))=a - 64 * (k:Int):=i64_fits (by omega)
 have W2:IntKind.i64.wrap (b - 64 * (k:Int))=b - 64 * (k:Int):=i64_fits (by omega)
 have X1:(if a - 64 * (k:Int)<0 then 0 else a - 64 * (k:Int))=max (a - 64 * (k:Int)) 0:=by split<;>omega
 have X2:(if 64<b - 64 * (k:Int) then 64 else b - 64 * (k:Int))=min (b - 64 * (k:Int)) 64:=by split<;>omega
 unfold maskW eW
 generalize hf:max (a - 64 * (k:Int)) 0=f at X1 ⊢
 generalize ht:min (b - 64 * (k:Int)) 64=t at X2 ⊢
 by_cases c:f ≥ t
 ·have F1:(f ≥ t)=True:=eq_true c
  rw [if_pos c]
  have B0:((0:Wd).toNat:Int)=0:=rfl
  rw [B0]
  rw [cal_code env125 rfl];simp only [fn125];simp only [start,z_map_cons,z_map_nil,z_len_cons,z_len_nil,z_repl_zero,z_repl_succ,z_cons_app,z_nil_app,Nat.reduceAdd,Nat.reduceSub]
  simp only [W0,W1,W2,X1,X2,F1,memAll,vAll,reduceCtorEq,Nat.reduceEqDiff,Nat.reduceAdd,Nat.reduceLT,Nat.reduceLeDiff,Nat.beq]
 ·have F1:(f ≥ t)=False:=eq_false c
  rw [if_neg c]
  have W3:IntKind.i64.wrap (t - f)=t - f:=i64_fits (by omega)
  have W4:IntKind.i64.wrap (64 - (t - f))=64 - (t - f):=i64_fits (by omega)
  have A:(18446744073709551615:Int)=((BitVec.allOnes 64).toNat:Int):=rfl
  have S0:(64 - (t - f)<0)=False:=eq_false (by omega)
  have S1:(f<0)=False:=eq_false (by omega)
  have S2:=w_shr (BitVec.allOnes 64) (s:=64 - (t - f)) (n:=(64 - (t - f)).toNat) (by omega)
  have S3:=w_shl (BitVec.allOnes 64 >>> (64 - (t - f)).toNat) (s:=f) (n:=f.toNat) (by omega)
  rw [← A] at S2
  rw [cal_code env125 rfl];simp only [fn125];simp only [start,z_map_cons,z_map_nil,z_len_cons,z_len_nil,z_repl_zero,z_repl_succ,z_cons_app,z_nil_app,Nat.reduceAdd,Nat.reduceSub]
  simp only [W0,W1,W2,W3,W4,X1,X2,F1,S0,S1,S2,S3,memAll,vAll,reduceCtorEq,Nat.reduceEqDiff,Nat.reduceAdd,Nat.reduceLT,Nat.reduceLeDiff,Nat.beq]
end Go.Proofs.YtpcncggjmabnaaaGreatDoor.V

namespace Go.Proofs.YtpcncggjmabnaaaGreatDoor.V
def tz (w:Wd):Nat:=Lib.ctz 64 w.toNat
end Go.Proofs.YtpcncggjmabnaaaGreatDoor.V

namespace Go.Proofs.YtpcncggjmabnaaaGreatDoor
def look:List (Nat × AV)→Nat→AV
 |[],_=>.any
 |(j,v) :: l,i=>bcase (Nat.beq i j) v (look l i)
def sl (n:Nat) (l:List (Nat × AV)):List AV:=(List.range n).map (look l)
def mapA (f:AV→AV):List (Nat × AV)→List (Nat × AV)
 |[]=>[]
 |(j,v) :: l=>(j,f v) :: mapA f l
def keepA (l:List (Nat × AV)):List Nat→List (Nat × AV)
 |[]=>[]
 |k :: ks=>(k,look l k) :: keepA l ks
def argsA:Nat→List PV→List (Nat × AV)
 |_,[]=>[]
 |k,v :: l=>(k,.pv v) :: argsA (k+1) l
def lowA (nb:Nat):List (Nat × AV)→Bool
 |[]=>true
 |(_,v) :: l=>AV.low nb v&&lowA nb l
def insA (n:Nat):List Nat→Bool
 |[]=>true
 |k :: ks=>decide (k<n)&&insA n ks
theorem look_hit (i:Nat) (v:AV) (l:List (Nat × AV)):look ((i,v) :: l) i=v:=by
 show bcase (Nat.beq i i) v _=v
 rw [Nat.beq_refl];rfl
theorem look_nil (i:Nat):look [] i=.any:=(rfl)
theorem sl_get {n i:Nat} {l:List (Nat × AV)} (h':i<n):(sl n l).getD i .any=look l i:=by
 simp [sl,List.getD_eq_getElem?_getD,h']
theorem sl_some {n i:Nat} {l:List (Nat × AV)} (h':i<n):(sl n l)[i]?=some (look l i):=by
 simp [sl,h']
theorem look_cons (l:List (Nat × AV)) (i j:Nat) (v:AV):look ((j,v) :: l) i=if i=j then v else look l i:=by
 show bcase (Nat.beq i j) v _=_
 by_cases h:i=j
 ·subst h;rw [Nat.beq_refl,if_pos rfl];rfl
 ·rw [if_neg h]
  have:Nat.beq i j=false:=by
   cases e:Nat.beq i j with
   |false=>rfl
   |true=>exact absurd (Nat.eq_of_beq_eq_true e) h
  rw [this];rfl
theorem sl_set (n i:Nat) (v:AV) (l:List (Nat × AV)):(sl n l).set i v=sl n ((i,v) :: l):=by
 apply List.ext_getElem (by simp [sl])
 intro k h1 h2
 have hk:k<n:=by simpa [sl] using h2
 simp only [sl,List.getElem_set,List.getElem_map,List.getElem_range,look_cons]
 by_cases h:i=k
 ·subst h;simp
 ·rw [if_neg h,if_neg (fun e=>h e.symm)]
theorem look_skip {i j:Nat} {v:AV} {l:List (Nat × AV)} (h:(i==j)=false):look ((j,v) :: l) i=look l i:=by
 rw [look_cons,if_neg (by simpa using h)]
theorem look_mapA (f:AV→AV) (hf:f .any=.any):∀ (l:List (Nat × AV)) (i:Nat),look (mapA f l) i=f (look l i)
 |[],i=>hf.symm
 |(j,v) :: l,i=>by
  show look ((j,f v) :: mapA f l) i=_
  rw [look_cons,look_cons,look_mapA f hf l i]
  split<;>rfl
theorem sl_map {f:AV→AV} (hf:f .any=.any) (n:Nat) (l:List (Nat × AV)):(sl n l).map f=sl n (mapA f l):=by
 unfold sl
 rw [List.map_map]
 apply List.map_congr_left
 intro i _
 exact (look_mapA f hf l i).symm
theorem sl_kill (n d:Nat) (l:List (Nat × AV)):(sl n l).map (AV.kill d)=sl n (mapA (AV.kill d) l):=sl_map rfl n l
theorem sl_killc (n d:Nat) (l:List (Nat × AV)):(sl n l).map (AV.killCell d)=sl n (mapA (AV.killCell d) l):=sl_map rfl n l
theorem sl_killa (n d y:Nat) (l:List (Nat × AV)):(sl n l).map (AV.killAt d y)=sl n (mapA (AV.killAt d y) l):=sl_map rfl n l
theorem sl_froze (n:Nat) (l:List (Nat × AV)):(sl n l).map AV.froze=sl n (mapA AV.froze l):=sl_map rfl n l
theorem mapA_nil (f:AV→AV):mapA f []=[]:=(rfl)
theorem mapA_cons (f:AV→AV) (j:Nat) (v:AV) (l:List (Nat × AV)):mapA f ((j,v) :: l)=(j,f v) :: mapA f l:=(rfl)
theorem keepA_nil (l:List (Nat × AV)):keepA l []=[]:=(rfl)
theorem keepA_cons (l:List (Nat × AV)) (k:Nat) (ks:List Nat):keepA l (k :: ks)=(k,look l k) :: keepA l ks:=(rfl)
theorem lowA_nil (nb:Nat):lowA nb []=true:=(rfl)
theorem lowA_cons (nb k:Nat) (v:AV) (l:List (Nat × AV)):lowA nb ((k,v) :: l)=(AV.low nb v&&lowA nb l):=(rfl)
theorem insA_nil (n:Nat):insA n []=true:=(rfl)
theorem insA_cons (n k:Nat) (l:List Nat):insA n (k :: l)=(decide (k<n)&&insA n l):=(rfl)
theorem argsA_nil (k:Nat):argsA k []=[]:=(rfl)
theorem argsA_cons (k:Nat) (v:PV) (l:List PV):argsA k (v :: l)=(k,.pv v) :: argsA (k+1) l:=(rfl)
theorem look_keepA (l:List (Nat × AV)):∀ (ks:List Nat) (i:Nat),look (keepA l ks) i=if ks.contains i then look l i else .any
 |[],i=>rfl
 |k :: ks,i=>by
  rw [keepA_cons,look_cons,look_keepA l ks i,List.contains_cons]
  by_cases h:i=k
  ·subst h;simp
  ·have:(i==k)=false:=by simpa using h
   rw [if_neg h,this,Bool.false_or]
theorem lowA_iff (nb n:Nat) (l:List (Nat × AV)):∀ ks:List Nat,insA n ks=true→(lowA nb (keepA l ks)=true ↔ ∀ k∈ks,(look l k).low nb=true)
 |[],_=>by simp [keepA,lowA]
 |k :: ks,h=>by
  rw [insA_cons,Bool.and_eq_true] at h
  rw [keepA_cons,lowA_cons,Bool.and_eq_true,lowA_iff nb n l ks h.2]
  simp
theorem head_sl {n nb:Nat} {l:List (Nat × AV)} {keep:List Nat} {bx:List Box} {ys:List (List PV)} {sp:Option (Option Nat)} (h:insA n keep=true) (hb:nb≤bx.length) (hl:lowA nb (keepA l keep)=true) :
  St.head ⟨sl n l,bx,ys,sp⟩ keep nb=some ⟨sl n (keepA l keep),bx.take nb,ys,sp⟩:=by
 have e:((sl n l).zipIdx.map fun (v,i)=>if keep.contains i then v else AV.any)=sl n (keepA l keep):=by
  apply List.ext_getElem (by simp [sl])
  intro i h1 h2
  simp only [sl,List.getElem_map,List.getElem_zipIdx,List.getElem_range,look_keepA,Nat.zero_add]
 unfold St.head
 simp only
 rw [e,if_pos]
 rw [Bool.and_eq_true,decide_eq_true_eq]
 refine ⟨?_,hb⟩
 rw [List.all_eq_true]
 intro v hv
 unfold sl at hv
 obtain ⟨i,hi,rfl⟩:=List.mem_map.1 hv
 rw [look_keepA]
 split
 ·rename_i hc
  exact (lowA_iff nb n l keep h).1 hl i (by simpa using hc)
 ·rfl
theorem clean_sl {n nb:Nat} {e:Ex} {l:List (Nat × AV)} {keep:List Nat} {bx:List Box} {ys:List (List PV)} {sp:Option (Option Nat)} (h:insA n keep=true) (hb:nb≤bx.length) (hl:lowA nb (keepA l keep)=true) :
  cleanEnd keep nb (e,⟨sl n l,bx,ys,sp⟩)=some (e,⟨sl n (keepA l keep),bx.take nb,ys,sp⟩):=by
 unfold cleanEnd
 simp only
 rw [head_sl h hb hl]
 rfl
theorem look_argsA:∀ (l:List PV) (k i:Nat),look (argsA k l) i=if k≤i then ((l[i - k]?).map AV.pv).getD .any else .any:=by
 intro l
 induction l with
 |nil=>intro k i;simp [argsA,look]
 |cons v l ih =>
  intro k i
  rw [argsA_cons,look_cons,ih]
  by_cases h1:i=k
  ·subst h1;simp
  ·rw [if_neg h1]
   by_cases h2:k≤i
   ·rw [if_pos (by omega),if_pos h2,show i - k=(i - (k+1))+1 by omega,List.getElem?_cons_succ]
   ·rw [if_neg (by omega),if_neg h2]
theorem startL_sl {n:Nat} {x:LArg} {args:List PV} (hn:args.length+1≤n):startL n x args=⟨sl n ((0,x.av) :: argsA 1 args),x.boxes,[],none⟩:=by
 unfold startL
 congr 1
 apply List.ext_getElem (by simp [sl];omega)
 intro i h1 h2
 simp only [sl,List.getElem_map,List.getElem_range,look_cons,look_argsA]
 cases i with
 |zero=>simp
 |succ i =>
  rw [List.getElem_cons_succ,if_neg (by omega),if_pos (by omega),show i+1 - 1=i by omega]
  by_cases hi:i<args.length
  ·rw [List.getElem_append_left (by simpa using hi)]
   simp [hi]
  ·rw [List.getElem_append_right (by simp;omega)]
   simp [hi]
theorem start_sl {n:Nat} {args:List PV} (hn:args.length≤n):start n args=⟨sl n (argsA 0 args),[],[],none⟩:=by
 have key:=look_argsA
 unfold start
 congr 1
 apply List.ext_getElem (by simp [sl];omega)
 intro i h1 h2
 simp only [sl,List.getElem_map,List.getElem_range,key,Nat.zero_le,if_true,Nat.sub_zero]
 by_cases hi:i<args.length
 ·rw [List.getElem_append_left (by simpa using hi)]
  simp [hi]
 ·rw [List.getElem_append_right (by simp;omega)]
  simp [hi]
theorem low_pv (nb:Nat) (v:PV):AV.low nb (.pv v)=true:=(rfl)
theorem low_any (nb:Nat):AV.low nb .any=true:=(rfl)
theorem low_yld (nb:Nat):AV.low nb .yld=true:=(rfl)
theorem low_row (nb sz:Nat) (es:List PV):AV.low nb (.row sz es)=true:=(rfl)
theorem low_pbox (nb o j:Nat):AV.low nb (.pbox o j)=decide (o<nb):=(rfl)
theorem low_refs (nb t off len:Nat):AV.low nb (.ref (.slot t) off len)=true:=(rfl)
theorem low_refc (nb o j off len:Nat):AV.low nb (.ref (.cell o j) off len)=decide (o<nb):=(rfl)
theorem low_pels (nb t i j:Nat):AV.low nb (.pel (.slot t) i j)=true:=(rfl)
theorem low_pelc (nb o q i j:Nat):AV.low nb (.pel (.cell o q) i j)=decide (o<nb):=(rfl)
theorem low_fn (nb f:Nat) (caps:List AV):AV.low nb (.fn f caps)=caps.all fun c=>match c with
  |.pv _=>true
  |.pbox o _=>o<nb
  |_=>false:=(rfl)
def slAll:=And.intro @look_hit (And.intro @look_skip (And.intro @look_nil (And.intro @sl_get (And.intro @sl_some (And.intro @sl_set (And.intro @sl_kill (And.intro (And.intro @sl_killc @sl_killa) (And.intro @sl_froze (And.intro @mapA_nil (And.intro @mapA_cons (And.intro @keepA_nil (And.intro @keepA_cons (And.intro @lowA_nil (And.intro @lowA_cons (And.intro @insA_nil (And.intro @insA_cons (And.intro @argsA_nil (And.intro @argsA_cons (And.intro @head_sl (And.intro @clean_sl (And.intro @start_sl (And.intro @startL_sl (And.intro @low_pv (And.intro @low_any (And.intro @low_yld (And.intro @low_row (And.intro @low_pbox (And.intro @low_refs (And.intro @low_refc (And.intro @low_pels (And.intro @low_pelc (@low_fn))))))))))))))))))))))))))))))))
end Go.Proofs.YtpcncggjmabnaaaGreatDoor

namespace Go.Proofs.YtpcncggjmabnaaaGreatDoor.V
theorem eBm_zero:eBm ⟨0,[]⟩=.agg [.int .i64 0,.list 1 []]:=rfl
def orW (x y:Wd):Wd:=x ||| y
end Go.Proofs.YtpcncggjmabnaaaGreatDoor.V

namespace Go.Proofs.YtpcncggjmabnaaaGreatDoor.V
end Go.Proofs.YtpcncggjmabnaaaGreatDoor.V

namespace Go.Proofs.YtpcncggjmabnaaaGreatDoor.V
end Go.Proofs.YtpcncggjmabnaaaGreatDoor.V

namespace Go.Proofs.YtpcncggjmabnaaaGreatDoor.V
end Go.Proofs.YtpcncggjmabnaaaGreatDoor.V

namespace Go.Proofs.YtpcncggjmabnaaaGreatDoor.V
theorem cal72 {n a b:Int}:cal env 72 [.int .i64 n,.int .i64 a,.int .i64 b]=some [(.bool (decide (a≤n)&&decide (n≤b)),false)]:=by
 by_cases h:a≤n
 ·have F1:(a≤n)=True:=eq_true h
  rw [cal_code env72 rfl];simp only [fn72,slAll,Nat.reduceBEq,Nat.reduceLeDiff,Nat.reduceAdd,List.length_cons,List.length_nil]
  simp only [F1,slAll,slsAll,Nat.reduceMul,Nat.reduceBEq,Nat.reduceLT,Nat.reduceLeDiff,memAll,vAll,reduceCtorEq,Nat.reduceEqDiff,Nat.reduceAdd,Nat.reduceLT,Nat.reduceLeDiff,Nat.beq]
 ·have F1:(a≤n)=False:=eq_false h
  rw [cal_code env72 rfl];simp only [fn72,slAll,Nat.reduceBEq,Nat.reduceLeDiff,Nat.reduceAdd,List.length_cons,List.length_nil]
  simp only [F1,slAll,slsAll,Nat.reduceMul,Nat.reduceBEq,Nat.reduceLT,Nat.reduceLeDiff,memAll,vAll,reduceCtorEq,Nat.reduceEqDiff,Nat.reduceAdd,Nat.reduceLT,Nat.reduceLeDiff,Nat.beq]
def badT (n:Int):Bool:=!(decide (0≤n)&&decide (n≤1073741824))
def posE (l:List Int):Int:=if 8<l.length then 6 else if l.any badT then 2 else 0
theorem cal103 {n:Int}:cal env 103 [eI n]=some [(.bool (badT n),false)]:=by
 have e1:=cal72 (n:=n) (a:=0) (b:=1073741824)
 unfold eI
 rw [cal_code env103 rfl];simp only [fn103,slAll,Nat.reduceBEq,Nat.reduceLeDiff,Nat.reduceAdd,List.length_cons,List.length_nil]
 simp only [e1,badT,slAll,slsAll,Nat.reduceMul,Nat.reduceBEq,Nat.reduceLT,Nat.reduceLeDiff,memAll,vAll,reduceCtorEq,Nat.reduceEqDiff,Nat.reduceAdd,Nat.reduceLT,Nat.reduceLeDiff,Nat.beq]
theorem cal73 {l:List Int} (hl:l.length≤20):cal env 73 [.list 1 (l.map eI),.int .i64 0]=some [(.int .i64 (posE l),false)]:=by
 have e1:=cal72 (n:=(l.length:Int)) (a:=0) (b:=8)
 have e2:=cal101 (l:=l) (enc:=eI) (caps:=[]) (fun x _=>cal103 (n:=x)) (fun x=>rfl) (Nat.le_trans hl (by decide))
 unfold posE
 by_cases h:8<l.length
 ·have G:(decide ((0:Int)≤l.length)&&decide ((l.length:Int)≤8))=false:=by simp;omega
  rw [G] at e1
  rw [if_pos h]
  rw [cal_code env73 rfl];simp only [fn73,slAll,Nat.reduceBEq,Nat.reduceLeDiff,Nat.reduceAdd,List.length_cons,List.length_nil]
  simp only [e1,List.length_map,slAll,slsAll,Nat.reduceMul,Nat.reduceBEq,Nat.reduceLT,Nat.reduceLeDiff,memAll,vAll,reduceCtorEq,Nat.reduceEqDiff,Nat.reduceAdd,Nat.reduceLT,Nat.reduceLeDiff,Nat.beq]
 ·have G:(decide ((0:Int)≤l.length)&&decide ((l.length:Int)≤8))=true:=by simp;omega
  rw [G] at e1
  rw [if_neg h]
  cases hb:l.any badT with
  |true =>
   rw [hb] at e2
   rw [cal_code env73 rfl];simp only [fn73,slAll,Nat.reduceBEq,Nat.reduceLeDiff,Nat.reduceAdd,List.length_cons,List.length_nil]
   simp only [e1,e2,List.length_map,slAll,slsAll,Nat.reduceMul,Nat.reduceBEq,Nat.reduceLT,Nat.reduceLeDiff,memAll,vAll,reduceCtorEq,Nat.reduceEqDiff,Nat.reduceAdd,Nat.reduceLT,Nat.reduceLeDiff,Nat.beq]
  |false =>
   rw [hb] at e2
   rw [cal_code env73 rfl];simp only [fn73,slAll,Nat.reduceBEq,Nat.reduceLeDiff,Nat.reduceAdd,List.length_cons,List.length_nil]
   simp only [e1,e2,List.length_map,slAll,slsAll,Nat.reduceMul,Nat.reduceBEq,Nat.reduceLT,Nat.reduceLeDiff,memAll,vAll,reduceCtorEq,Nat.reduceEqDiff,Nat.reduceAdd,Nat.reduceLT,Nat.reduceLeDiff,Nat.beq]
def eCyc (b n t:Int) (p:List Int) (w:List Wrt):PV:=.agg [.int .i64 b,.int .i64 n,.int .i64 t,.list 1 (p.map eI),.list 3 (w.map eWr)]
def cycE (b n t:Int) (p:List Int):Int:=if b<0∨n≤b∨n > 1073741824 then 2 else if t<0∨t > 1073741824 then 24 else posE p
end Go.Proofs.YtpcncggjmabnaaaGreatDoor.V

namespace Go.Proofs.YtpcncggjmabnaaaGreatDoor.V
structure Cye where
 base:Int
 num:Int
 time:Int
 pos:List Int
 ws:List Wrt
def eCye (c:Cye):PV:=.agg [.int .i64 c.base,.int .i64 c.num,.int .i64 c.time,.list 1 (c.pos.map eI),.list 3 (c.ws.map eWr)]
theorem eCye_eq (c:Cye):eCye c=.agg [.int .i64 c.base,.int .i64 c.num,.int .i64 c.time,.list 1 (c.pos.map eI),.list 3 (c.ws.map eWr)]:=rfl
theorem eCye_at {l:List Cye} {i:Nat} (h:i<l.length):(l.map eCye)[i]?=some (.agg [.int .i64 l[i].base,.int .i64 l[i].num,.int .i64 l[i].time,.list 1 (l[i].pos.map eI),.list 3 (l[i].ws.map eWr)]):=by rw [List.getElem?_map,List.getElem?_eq_getElem h];rfl
theorem eWr_at {l:List Wrt} {i:Nat} (h:i<l.length):(l.map eWr)[i]?=some (.agg [.int .i64 l[i].volume,.int .i64 l[i].start,.list 8 (l[i].data.map eSec)]):=by rw [List.getElem?_map,List.getElem?_eq_getElem h];rfl
end Go.Proofs.YtpcncggjmabnaaaGreatDoor.V

namespace Go.Proofs.YtpcncggjmabnaaaGreatDoor.V
def badW (x w:Wrt):Bool:=decide (w.volume<x.volume) || (decide (w.volume=x.volume)&&decide (w.start≤x.start+(x.data.length:Int)))
def wcE (im:Img):Option Wrt→List Wrt→Int
 |_,[]=>0
 |p,w :: l=>if fitsErr im w≠0 then fitsErr im w else if (match p with|none=>false|some x=>badW x w) then 3 else wcE im (some w) l
theorem wcE_cons (im:Img) (p:Option Wrt) (w:Wrt) (l:List Wrt):wcE im p (w :: l)=if fitsErr im w≠0 then fitsErr im w else if (match p with|none=>false|some x=>badW x w) then 3 else wcE im (some w) l:=by cases p<;>rfl
def prevW (l:List Wrt):Nat→Option Wrt
 |0=>none
 |i+1=>l[i]?
def wcI (im:Img) (l:List Wrt) (i:Nat):Prop:=wcE im none l=wcE im (prevW l i) (l.drop i)∧∀ x,prevW l i=some x→fitsErr im x=0
theorem wcI0 (im:Img) (l:List Wrt):wcI im l 0:=⟨rfl,fun x h=>by cases h⟩
theorem wcE_at {im:Img} {l:List Wrt} {i:Nat} (hp:wcI im l i) (h:i<l.length):wcE im none l=if fitsErr im l[i]≠0 then fitsErr im l[i] else if (match prevW l i with|none=>false|some x=>badW x l[i]) then 3 else wcE im (prevW l (i+1)) (l.drop (i+1)):=by
 rw [hp.1,List.drop_eq_getElem_cons h,wcE_cons,show prevW l (i+1)=some l[i] from List.getElem?_eq_getElem h]
theorem wcE_good {im:Img} {l:List Wrt} {i:Nat} (hp:wcI im l i) (h:i<l.length) (h1:fitsErr im l[i]=0) (h2:(match prevW l i with|none=>false|some x=>badW x l[i])=false):wcI im l (i+1):=by
 refine ⟨?_,?_⟩
 ·rw [wcE_at hp h,if_neg (by simpa using h1),if_neg (by rw [h2];exact Bool.false_ne_true)]
 ·intro x hx
  simp only [prevW,List.getElem?_eq_getElem h,Option.some.injEq] at hx
  rw [← hx];exact h1
def resE (n d:Nat) (e:Int):Option (Ex × St):=if e=0 then some (.normal,⟨sl n [(d,.any)],[],[],none⟩) else some (.ret,⟨sl n [(d,.pv (.int .i64 e))],[],[],none⟩)
theorem resE_no {n d:Nat} {e:Int} (h:e≠0):resE n d e=some (.ret,⟨sl n [(d,.pv (.int .i64 e))],[],[],none⟩):=if_neg h
theorem resE_ok {n d:Nat}:resE n d 0=some (.normal,⟨sl n [(d,.any)],[],[],none⟩):=if_pos rfl
theorem fits_at {im:Img} {w:Wrt} (h:fitsErr im w=0):0≤w.volume∧w.volume<im.length∧0≤w.start∧w.start+w.data.length≤((im.getD w.volume.toNat []).length:Int):=by
 unfold fitsErr at h
 split at h
 ·omega
 ·split at h
  ·omega
  ·split at h
   ·omega
   ·omega
theorem getD_lenX {im:Img} {n:Nat} (hr:∀ v∈im,v.length≤n) (v:Nat):(im.getD v []).length≤n:=by
 by_cases h:v<im.length
 ·have e:im.getD v []=im[v]:=by simp [h]
  rw [e];exact hr _ (List.getElem_mem h)
 ·have e:im.getD v []=[]:=by simp [List.getD_eq_getElem?_getD,List.getElem?_eq_none (Nat.le_of_not_lt h)]
  rw [e];simp
theorem eWr_part (x:Wrt):part [PV.int .i64 x.volume,.int .i64 x.start,.list 8 (x.data.map eSec)] 0 (some 3)=some (.agg [.int .i64 x.volume,.int .i64 x.start,.list 8 (x.data.map eSec)]):=rfl
theorem loop104 {im:Img} {l:List Wrt} {gf:Nat} {caps:List PV} (hcall:∀ w∈l,cal env gf (eWr w :: caps)=some [(.int .i64 (fitsErr im w),false)]) (hr:∀ v∈im,v.length≤1000000) (hl:l.length≤lim) (hI0:wcI im l 0) {st:St} (h:st.head [0,1,9,10,11] st.boxes.length=some ⟨sl 53 [(0,.pv (.list 3 (l.map eWr))),(1,.pv (.func gf caps)),(9,.pv (.list 3 (l.map eWr))),(10,.pv (.int .i64 l.length)),(11,.pv (.int .i64 (0:Nat)))],[],[],none⟩) :
  den env fn104_l1 st=resE 53 4 (wcE im none l):=by
 unfold fn104_l1
 refine clean_upP (env:=env) (l.length) (fun i=>wcI im l (i)) (fun i=>⟨sl 53 [(0,.pv (.list 3 (l.map eWr))),(1,.pv (.func gf caps)),(9,.pv (.list 3 (l.map eWr))),(10,.pv (.int .i64 l.length)),(11,.pv (.int .i64 i))],[],[],none⟩) (fun i=>resE 53 4 (wcE im none l)) h hI0 (fun _=>rfl) (fun _=>by simp only [slAll,slsAll,Nat.reduceMul,Nat.reduceBEq,Nat.reduceLT,Nat.reduceLeDiff,Nat.reduceAdd,decide_true,Bool.and_self,Bool.true_and]) ?_ ?_
 ·intro i rb hi hp ih
  have hi1:=i64_next hi hl
  have F1:((i:Int)<(l.length:Int))=True:=eq_true (by omega)
  have e1:=hcall _ (List.getElem_mem hi)
  have hA:=wcE_at hp hi
  have hx:=eWr_at hi
  unfold eWr at e1
  by_cases c1:fitsErr im l[i]=0
  ·have G1:((0:Int) != 0)=false:=rfl
   rw [c1] at e1
   rw [if_neg (by simpa using c1)] at hA
   cases i with
   |zero =>
    have Z0:(((0:Nat):Int)==0)=true:=rfl
    simp only [fn104_b0,F1,eWr_part,Z0,G1,e1,hx,index_nat hi,slAll,slsAll,Nat.reduceMul,Nat.reduceBEq,Nat.reduceLT,Nat.reduceLeDiff,memAll,vAll,reduceCtorEq,Nat.reduceEqDiff,Nat.reduceAdd,Nat.reduceLT,Nat.reduceLeDiff,Nat.beq]
    rw [ih (wcE_good hp hi c1 rfl) _ (by simp only [hi1,slAll,slsAll,Nat.reduceMul,Nat.reduceBEq,Nat.reduceLT,Nat.reduceLeDiff,memAll,vAll,reduceCtorEq,Nat.reduceEqDiff,Nat.reduceAdd,Nat.reduceLT,Nat.reduceLeDiff,Nat.beq]<;>rfl)]
   |succ j =>
    have hj:j<l.length:=by omega
    have hy:=eWr_at hj
    have hpv:prevW l (j+1)=some l[j]:=by simp only [prevW,List.getElem?_eq_getElem hj]
    have Z:(((j+1:Nat):Int)==0)=false:=by simp;omega
    have W:IntKind.i64.wrap (((j+1:Nat):Int) - 1)=(j:Int):=by rw [show ((j+1:Nat):Int) - 1=(j:Int) by omega];exact i64_fits (by unfold lim at hl;omega)
    have q0:=hp.2 _ hpv
    obtain ⟨q1,q2,q3,q4⟩:=fits_at q0
    have q5:=getD_lenX hr l[j].volume.toNat
    have W2:IntKind.i64.wrap (l[j].start+(l[j].data.length:Int))=l[j].start+(l[j].data.length:Int):=i64_fits (by omega)
    by_cases c2:l[j+1].volume<l[j].volume
    ·have hb:badW l[j] l[j+1]=true:=by simp [badW,c2]
     have D1:(l[j+1].volume<l[j].volume)=True:=eq_true c2
     rw [hpv] at hA
     rw [if_pos hb] at hA
     rw [hA,resE_no (by decide)]
     simp only [fn104_b0,F1,eWr_part,Z,W,W2,D1,G1,e1,hx,hy,index_nat hi,index_nat hj,List.length_map,slAll,slsAll,Nat.reduceMul,Nat.reduceBEq,Nat.reduceLT,Nat.reduceLeDiff,memAll,vAll,reduceCtorEq,Nat.reduceEqDiff,Nat.reduceAdd,Nat.reduceLT,Nat.reduceLeDiff,Nat.beq]
    ·have D1:(l[j+1].volume<l[j].volume)=False:=eq_false c2
     by_cases c3:l[j+1].volume=l[j].volume
     ·have D2:(l[j+1].volume==l[j].volume)=true:=by simp [c3]
      by_cases c4:l[j+1].start≤l[j].start+(l[j].data.length:Int)
      ·have D3:(l[j+1].start≤l[j].start+(l[j].data.length:Int))=True:=eq_true c4
       have hb:badW l[j] l[j+1]=true:=by simp [badW,c3,c4]
       rw [hpv] at hA
       rw [if_pos hb] at hA
       rw [hA,resE_no (by decide)]
       simp only [fn104_b0,F1,eWr_part,Z,W,W2,D1,D2,D3,G1,e1,hx,hy,index_nat hi,index_nat hj,List.length_map,slAll,slsAll,Nat.reduceMul,Nat.reduceBEq,Nat.reduceLT,Nat.reduceLeDiff,memAll,vAll,reduceCtorEq,Nat.reduceEqDiff,Nat.reduceAdd,Nat.reduceLT,Nat.reduceLeDiff,Nat.beq]
      ·have D3:(l[j+1].start≤l[j].start+(l[j].data.length:Int))=False:=eq_false c4
       have hb:badW l[j] l[j+1]=false:=by simp [badW,c3];omega
       simp only [fn104_b0,F1,eWr_part,Z,W,W2,D1,D2,D3,G1,e1,hx,hy,index_nat hi,index_nat hj,List.length_map,slAll,slsAll,Nat.reduceMul,Nat.reduceBEq,Nat.reduceLT,Nat.reduceLeDiff,memAll,vAll,reduceCtorEq,Nat.reduceEqDiff,Nat.reduceAdd,Nat.reduceLT,Nat.reduceLeDiff,Nat.beq]
       rw [ih (wcE_good hp hi c1 (by rw [hpv];exact hb)) _ (by simp only [hi1,slAll,slsAll,Nat.reduceMul,Nat.reduceBEq,Nat.reduceLT,Nat.reduceLeDiff,memAll,vAll,reduceCtorEq,Nat.reduceEqDiff,Nat.reduceAdd,Nat.reduceLT,Nat.reduceLeDiff,Nat.beq]<;>rfl)]
     ·have D2:(l[j+1].volume==l[j].volume)=false:=by simp [c3]
      have hb:badW l[j] l[j+1]=false:=by simp [badW,c3];omega
      simp only [fn104_b0,F1,eWr_part,Z,W,W2,D1,D2,G1,e1,hx,hy,index_nat hi,index_nat hj,List.length_map,slAll,slsAll,Nat.reduceMul,Nat.reduceBEq,Nat.reduceLT,Nat.reduceLeDiff,memAll,vAll,reduceCtorEq,Nat.reduceEqDiff,Nat.reduceAdd,Nat.reduceLT,Nat.reduceLeDiff,Nat.beq]
      rw [ih (wcE_good hp hi c1 (by rw [hpv];exact hb)) _ (by simp only [hi1,slAll,slsAll,Nat.reduceMul,Nat.reduceBEq,Nat.reduceLT,Nat.reduceLeDiff,memAll,vAll,reduceCtorEq,Nat.reduceEqDiff,Nat.reduceAdd,Nat.reduceLT,Nat.reduceLeDiff,Nat.beq]<;>rfl)]
  ·have G1:(fitsErr im l[i] != 0)=true:=by simp [c1]
   rw [if_pos c1] at hA
   rw [hA,resE_no c1]
   simp only [fn104_b0,F1,eWr_part,G1,e1,hx,index_nat hi,slAll,slsAll,Nat.reduceMul,Nat.reduceBEq,Nat.reduceLT,Nat.reduceLeDiff,memAll,vAll,reduceCtorEq,Nat.reduceEqDiff,Nat.reduceAdd,Nat.reduceLT,Nat.reduceLeDiff,Nat.beq]
 ·intro rb hp
  have hA:=hp.1
  rw [List.drop_length] at hA
  rw [hA,show wcE im (prevW l l.length) []=0 by cases prevW l l.length<;>rfl]
  rw [resE_ok]
  simp only [fn104_b0,Int.lt_irrefl,slAll,slsAll,Nat.reduceMul,Nat.reduceBEq,Nat.reduceLT,Nat.reduceLeDiff,memAll,vAll,reduceCtorEq,Nat.reduceEqDiff,Nat.reduceAdd,Nat.reduceLT,Nat.reduceLeDiff,Nat.beq]
theorem cal104 {im:Img} {l:List Wrt} {gf:Nat} {caps:List PV} (hcall:∀ w∈l,cal env gf (eWr w :: caps)=some [(.int .i64 (fitsErr im w),false)]) (hr:∀ v∈im,v.length≤1000000) (hl:l.length≤lim) :
  cal env 104 [.list 3 (l.map eWr),.func gf caps]=some [(.int .i64 (wcE im none l),false)]:=by
 rw [cal_code env104 rfl];simp only [fn104,slAll,Nat.reduceBEq,Nat.reduceLeDiff,Nat.reduceAdd,List.length_cons,List.length_nil]
 simp only [List.length_map,slAll,slsAll,Nat.reduceMul,Nat.reduceBEq,Nat.reduceLT,Nat.reduceLeDiff,memAll,vAll,reduceCtorEq,Nat.reduceEqDiff,Nat.reduceAdd,Nat.reduceLT,Nat.reduceLeDiff,Nat.beq]
 rw [loop104 hcall hr hl (wcI0 im l)]
 rotate_left
 ·simp only [slAll,slsAll,Nat.reduceMul,Nat.reduceBEq,Nat.reduceLT,Nat.reduceLeDiff,Nat.reduceAdd,decide_true,Bool.and_self,Bool.true_and]<;>rfl
 ·unfold resE
  split
  ·rename_i c
   rw [c]
   simp only [slAll,slsAll,Nat.reduceMul,Nat.reduceBEq,Nat.reduceLT,Nat.reduceLeDiff,memAll,vAll,reduceCtorEq,Nat.reduceEqDiff,Nat.reduceAdd,Nat.reduceLT,Nat.reduceLeDiff,Nat.beq]
  ·simp only [slAll,slsAll,Nat.reduceMul,Nat.reduceBEq,Nat.reduceLT,Nat.reduceLeDiff,memAll,vAll,reduceCtorEq,Nat.reduceEqDiff,Nat.reduceAdd,Nat.reduceLT,Nat.reduceLeDiff,Nat.beq]
theorem newImg_back {z:List Int} (h:sizesErr z=0):imSizes (newImg z)=z:=by
 unfold imSizes newImg
 rw [List.map_map]
 conv=>rhs;rw [← List.map_id z]
 refine List.map_congr_left fun x hx=>?_
 unfold sizesErr at h
 split at h
 ·omega
 ·split at h
  ·omega
  ·rename_i h2
   simp only [List.any_eq_true,not_exists,not_and,Bool.not_eq_true] at h2
   have:=h2 x hx
   simp at this
   simp;omega
theorem newImg_len24 (z:List Int):(newImg z).length=z.length:=by unfold newImg;simp
theorem newImg_le {z:List Int} (h:sizesErr z=0):∀ v∈newImg z,v.length≤4096:=fun v hv=>by
 unfold newImg at hv
 obtain ⟨x,hx,rfl⟩:=List.mem_map.1 hv
 unfold sizesErr at h
 split at h
 ·omega
 ·split at h
  ·omega
  ·rename_i h2
   simp only [List.any_eq_true,not_exists,not_and,Bool.not_eq_true] at h2
   have:=h2 x hx
   simp at this
   simp;omega
theorem newImg_chk {z:List Int} (h:sizesErr z=0):imCheck (newImg z)=0:=by
 show sizesErr (imSizes (newImg z))=0
 rw [newImg_back h];exact h
theorem imFits_new {z:List Int} (h:sizesErr z=0) (w:Wrt):imFits (newImg z) w=fitsErr (newImg z) w:=by
 unfold imFits
 rw [if_neg (by rw [newImg_chk h];simp)]
def wkE (z:List Int) (l:List Wrt):Int:=if sizesErr z=0 then wcE (newImg z) none l else sizesErr z
theorem cal105q {im:Img} {w:Wrt} (hl:im.length≤lim) (hr:∀ v∈im,v.length≤lim) (hd:w.data.length≤lim):cal env 105 [eWr w,.iptr [.list 1 (im.map eSecs)] 0]=some [(.int .i64 (imFits im w),false)]:=by
 have e1:=cal106 hl hr hd
 unfold eWr at *
 rw [cal_code env105 rfl];simp only [fn105];simp only [start,z_map_cons,z_map_nil,z_len_cons,z_len_nil,z_repl_zero,z_repl_succ,z_cons_app,z_nil_app,Nat.reduceAdd,Nat.reduceSub]
 simp only [e1,memAll,vAll,reduceCtorEq,Nat.reduceEqDiff,Nat.reduceAdd,Nat.reduceLT,Nat.reduceLeDiff,Nat.beq]
theorem cal74q {z:List Int} {l:List Wrt} (hz:z.length≤lim) (hl:l.length≤lim) (hd:∀ w∈l,w.data.length≤lim) :
  cal env 74 [.list 3 (l.map eWr),.list 1 (z.map eI)]=some [(.int .i64 (wkE z l),false)]:=by
 have e1:=cal38 hz
 unfold wkE
 by_cases c:sizesErr z=0
 ·rw [if_pos c]
  have hr:=newImg_le c
  have e2:=cal104 (im:=newImg z) (l:=l) (gf:=105) (caps:=[.iptr [.list 1 ((newImg z).map eSecs)] 0]) (fun w hw=>by
   have:=cal105q (im:=newImg z) (w:=w) (by rw [newImg_len24];exact hz) (fun v hv=>by have:=hr v hv;unfold lim;omega) (hd w hw)
   rw [imFits_new c] at this
   exact this) (fun v hv=>by have:=hr v hv;omega) hl
  rw [c,if_pos rfl] at e1
  have Z:((0:Int) != 0)=false:=rfl
  rw [cal_code env74 rfl];simp only [fn74];simp only [start,z_map_cons,z_map_nil,z_len_cons,z_len_nil,z_repl_zero,z_repl_succ,z_cons_app,z_nil_app,Nat.reduceAdd,Nat.reduceSub]
  simp only [e1,e2,Z,memAll,vAll,reduceCtorEq,Nat.reduceEqDiff,Nat.reduceAdd,Nat.reduceLT,Nat.reduceLeDiff,Nat.beq]
 ·rw [if_neg c] at e1
  rw [if_neg c]
  have Z:(sizesErr z != 0)=true:=by simp [c]
  rw [cal_code env74 rfl];simp only [fn74];simp only [start,z_map_cons,z_map_nil,z_len_cons,z_len_nil,z_repl_zero,z_repl_succ,z_cons_app,z_nil_app,Nat.reduceAdd,Nat.reduceSub]
  simp only [e1,Z,memAll,vAll,reduceCtorEq,Nat.reduceEqDiff,Nat.reduceAdd,Nat.reduceLT,Nat.reduceLeDiff,Nat.beq]
end Go.Proofs.YtpcncggjmabnaaaGreatDoor.V

namespace Go.Proofs.YtpcncggjmabnaaaGreatDoor.V
def ckC (z:List Int) (b n t:Int) (p:List Int) (w:List Wrt):Int:=if sizesErr z=0 then (if cycE b n t p=0 then wcE (newImg z) none w else cycE b n t p) else sizesErr z
theorem cal42q {z:List Int} {b n t:Int} {p:List Int} {w:List Wrt} (hz:z.length≤lim) (hl:w.length≤lim) (hd:∀ x∈w,x.data.length≤lim) (hp:p.length≤20) :
  cal env 42 [eCyc b n t p w,.list 1 (z.map eI)]=some [(.int .i64 (ckC z b n t p w),false)]:=by
 have e1:=cal38 hz
 by_cases cz:sizesErr z=0
 rotate_left
 ·rw [if_neg cz] at e1
  have Z:(sizesErr z != 0)=true:=by simp [cz]
  unfold eCyc ckC
  rw [if_neg cz]
  rw [cal_code env42 rfl];simp only [fn42];simp only [start,z_map_cons,z_map_nil,z_len_cons,z_len_nil,z_repl_zero,z_repl_succ,z_cons_app,z_nil_app,Nat.reduceAdd,Nat.reduceSub]
  simp only [e1,Z,memAll,vAll,reduceCtorEq,Nat.reduceEqDiff,Nat.reduceAdd,Nat.reduceLT,Nat.reduceLeDiff,Nat.beq]
 rw [cz,if_pos rfl] at e1
 have e4:=cal74q hz hl hd
 rw [wkE,if_pos cz] at e4
 have hk:ckC z b n t p w=if cycE b n t p=0 then wcE (newImg z) none w else cycE b n t p:=if_pos cz
 rw [hk]
 clear hk
 generalize wcE (newImg z) none w=E at *
 have e2:=cal72 (n:=t) (a:=0) (b:=1073741824)
 have e3:=cal73 hp
 have Z:((0:Int) != 0)=false:=rfl
 unfold eCyc cycE
 by_cases c1:b<0∨n≤b∨n > 1073741824
 ·rw [if_pos c1,if_neg (by decide)]
  rw [cal_code env42 rfl];simp only [fn42];simp only [start,z_map_cons,z_map_nil,z_len_cons,z_len_nil,z_repl_zero,z_repl_succ,z_cons_app,z_nil_app,Nat.reduceAdd,Nat.reduceSub]
  simp only [e1,Z,memAll,vAll,reduceCtorEq,Nat.reduceEqDiff,Nat.reduceAdd,Nat.reduceLT,Nat.reduceLeDiff,Nat.beq]
  by_cases d1:b<0
  ·simp only [eq_true d1,memAll,vAll,reduceCtorEq,Nat.reduceEqDiff,Nat.reduceAdd,Nat.reduceLT,Nat.reduceLeDiff,Nat.beq]
  ·have d1:=eq_false d1
   by_cases d2:n≤b
   ·simp only [d1,eq_true d2,memAll,vAll,reduceCtorEq,Nat.reduceEqDiff,Nat.reduceAdd,Nat.reduceLT,Nat.reduceLeDiff,Nat.beq]
   ·have d3:n > 1073741824:=by simp only [d1,false_or] at c1;omega
    simp only [d1,eq_false d2,eq_true d3,memAll,vAll,reduceCtorEq,Nat.reduceEqDiff,Nat.reduceAdd,Nat.reduceLT,Nat.reduceLeDiff,Nat.beq]
 ·rw [if_neg c1]
  have G1:(b<0)=False:=eq_false (by omega)
  have G2:(n≤b)=False:=eq_false (by omega)
  have G3:(n > 1073741824)=False:=eq_false (by omega)
  by_cases c2:t<0∨t > 1073741824
  ·rw [if_pos c2,if_neg (by decide)]
   have G4:(decide ((0:Int)≤t)&&decide (t≤1073741824))=false:=by simp;omega
   rw [G4] at e2
   rw [cal_code env42 rfl];simp only [fn42];simp only [start,z_map_cons,z_map_nil,z_len_cons,z_len_nil,z_repl_zero,z_repl_succ,z_cons_app,z_nil_app,Nat.reduceAdd,Nat.reduceSub]
   simp only [e1,e2,G1,G2,G3,Z,memAll,vAll,reduceCtorEq,Nat.reduceEqDiff,Nat.reduceAdd,Nat.reduceLT,Nat.reduceLeDiff,Nat.beq]
  ·rw [if_neg c2]
   have G4:(decide ((0:Int)≤t)&&decide (t≤1073741824))=true:=by simp;omega
   rw [G4] at e2
   by_cases c3:posE p=0
   ·rw [c3] at e3
    rw [c3,if_pos rfl]
    rw [cal_code env42 rfl];simp only [fn42];simp only [start,z_map_cons,z_map_nil,z_len_cons,z_len_nil,z_repl_zero,z_repl_succ,z_cons_app,z_nil_app,Nat.reduceAdd,Nat.reduceSub]
    simp only [e1,e2,e3,e4,G1,G2,G3,Z,memAll,vAll,reduceCtorEq,Nat.reduceEqDiff,Nat.reduceAdd,Nat.reduceLT,Nat.reduceLeDiff,Nat.beq]
   ·have G5:(posE p != 0)=true:=by simp [c3]
    rw [if_neg c3]
    rw [cal_code env42 rfl];simp only [fn42];simp only [start,z_map_cons,z_map_nil,z_len_cons,z_len_nil,z_repl_zero,z_repl_succ,z_cons_app,z_nil_app,Nat.reduceAdd,Nat.reduceSub]
    simp only [e1,e2,e3,G1,G2,G3,G5,Z,memAll,vAll,reduceCtorEq,Nat.reduceEqDiff,Nat.reduceAdd,Nat.reduceLT,Nat.reduceLeDiff,Nat.beq]
end Go.Proofs.YtpcncggjmabnaaaGreatDoor.V

namespace Go.Proofs.YtpcncggjmabnaaaGreatDoor.V
end Go.Proofs.YtpcncggjmabnaaaGreatDoor.V

namespace Go.Proofs.YtpcncggjmabnaaaGreatDoor.V
end Go.Proofs.YtpcncggjmabnaaaGreatDoor.V

namespace Go.Proofs.YtpcncggjmabnaaaGreatDoor.V
end Go.Proofs.YtpcncggjmabnaaaGreatDoor.V

namespace Go.Proofs.YtpcncggjmabnaaaGreatDoor.V
structure Spl where
 lm:Int
 sz:List Int
 cy:List Cye
 ov:Bool
 fs:Int
 ls:Int
 dt:List Bm
def eSpl (s:Spl):PV:=.agg [.int .i64 s.lm,.list 1 (s.sz.map eI),.list 5 (s.cy.map eCye),.bool s.ov,.int .i64 s.fs,.int .i64 s.ls,.list 2 (s.dt.map eBm)]
theorem eSpl_eq (s:Spl):eSpl s=.agg [.int .i64 s.lm,.list 1 (s.sz.map eI),.list 5 (s.cy.map eCye),.bool s.ov,.int .i64 s.fs,.int .i64 s.ls,.list 2 (s.dt.map eBm)]:=rfl
def zSpl:Spl:=⟨0,[],[],false,0,0,[]⟩
theorem eSpl_z:eSpl zSpl=.agg [.int .i64 0,.list 1 [],.list 5 [],.bool false,.int .i64 0,.int .i64 0,.list 2 []]:=rfl
theorem eSpl_new (n:Int) (z:List Int):eSpl ⟨n,z,[],false,0,0,[]⟩=.agg [.int .i64 n,.list 1 (z.map eI),.list 5 [],.bool false,.int .i64 0,.int .i64 0,.list 2 []]:=rfl
theorem part7 (a b c d e f g:PV):part [a,b,c,d,e,f,g] 0 (some 7)=some (.agg [a,b,c,d,e,f,g]):=rfl
theorem part5 (a b c d e:PV):part [a,b,c,d,e] 0 (some 5)=some (.agg [a,b,c,d,e]):=rfl
theorem part2 (a b:PV):part [a,b] 0 (some 2)=some (.agg [a,b]):=rfl
theorem cal39q {es:List PV} (hl:es.length≤lim):cal env 39 [.list 1 es]=some [(.list 1 es,true)]:=(cal_ext env39).trans (if_pos ⟨rfl,hl⟩)
def newQE (z:List Int) (n:Int):Int:=if sizesErr z=0 then (if n<1∨n > 1024 then 2 else 0) else sizesErr z
def newQ (z:List Int) (n:Int):Spl:=if newQE z n=0 then ⟨n,z,[],false,0,0,[]⟩ else zSpl
theorem cal11 {z:List Int} {n:Int} (hz:z.length≤lim):cal env 11 [.list 1 (z.map eI),.int .i64 n]=some [(eSpl (newQ z n),false),(.int .i64 (newQE z n),false)]:=by
 have e1:=cal38 hz
 have e2:=cal39q (es:=z.map eI) (by rw [List.length_map];exact hz)
 unfold newQ newQE
 by_cases c:sizesErr z=0
 ·rw [c,if_pos rfl] at e1
  rw [if_pos c]
  have Z:((0:Int) != 0)=false:=rfl
  by_cases c1:n<1
  ·have F1:=eq_true c1
   rw [if_pos (Or.inl c1:n<1∨n > 1024),if_neg (by decide),eSpl_z]
   rw [cal_code env11 rfl];simp only [fn11,slAll,Nat.reduceBEq,Nat.reduceLeDiff,Nat.reduceAdd,List.length_cons,List.length_nil]
   simp only [e1,Z,F1,part7,slAll,slsAll,Nat.reduceMul,Nat.reduceBEq,Nat.reduceLT,Nat.reduceLeDiff,memAll,vAll,reduceCtorEq,Nat.reduceEqDiff,Nat.reduceAdd,Nat.reduceLT,Nat.reduceLeDiff,Nat.beq]
  ·have F1:=eq_false c1
   by_cases c2:n > 1024
   ·have F2:=eq_true c2
    rw [if_pos (Or.inr c2:n<1∨n > 1024),if_neg (by decide),eSpl_z]
    rw [cal_code env11 rfl];simp only [fn11,slAll,Nat.reduceBEq,Nat.reduceLeDiff,Nat.reduceAdd,List.length_cons,List.length_nil]
    simp only [e1,Z,F1,F2,part7,slAll,slsAll,Nat.reduceMul,Nat.reduceBEq,Nat.reduceLT,Nat.reduceLeDiff,memAll,vAll,reduceCtorEq,Nat.reduceEqDiff,Nat.reduceAdd,Nat.reduceLT,Nat.reduceLeDiff,Nat.beq]
   ·have F2:=eq_false c2
    rw [if_neg (show ¬ (n<1∨n > 1024) by omega),if_pos rfl,eSpl_new]
    rw [cal_code env11 rfl];simp only [fn11,slAll,Nat.reduceBEq,Nat.reduceLeDiff,Nat.reduceAdd,List.length_cons,List.length_nil]
    simp only [e1,e2,Z,F1,F2,part7,slAll,slsAll,Nat.reduceMul,Nat.reduceBEq,Nat.reduceLT,Nat.reduceLeDiff,memAll,vAll,reduceCtorEq,Nat.reduceEqDiff,Nat.reduceAdd,Nat.reduceLT,Nat.reduceLeDiff,Nat.beq]
 ·rw [if_neg c] at e1
  rw [if_neg c,if_neg c,eSpl_z]
  have Z:(sizesErr z != 0)=true:=by simp [c]
  rw [cal_code env11 rfl];simp only [fn11,slAll,Nat.reduceBEq,Nat.reduceLeDiff,Nat.reduceAdd,List.length_cons,List.length_nil]
  simp only [e1,Z,part7,slAll,slsAll,Nat.reduceMul,Nat.reduceBEq,Nat.reduceLT,Nat.reduceLeDiff,memAll,vAll,reduceCtorEq,Nat.reduceEqDiff,Nat.reduceAdd,Nat.reduceLT,Nat.reduceLeDiff,Nat.beq]
theorem loop31 {z:List Int} (hz:z.length≤1000) (hs:∀ x∈z,1≤x∧x≤4096) {st:St} (h:st.head [0,5,6,25] st.boxes.length=some ⟨sl 27 [(0,.pv (.list 1 (z.map eI))),(5,.row 1 ((newImg (z.take ((0:Nat)))).map eSecs)),(6,.pv (.int .i64 (0:Nat))),(25,.any)],[],[],none⟩) :
  den env fn31_l1 st=some (.normal,⟨sl 27 [(2,.any),(3,.any),(5,.row 1 ((newImg z).map eSecs))],[],[],none⟩):=by
 unfold fn31_l1
 refine clean_up (env:=env) (z.length) (fun i=>⟨sl 27 [(0,.pv (.list 1 (z.map eI))),(5,.row 1 ((newImg (z.take (i))).map eSecs)),(6,.pv (.int .i64 i)),(25,.any)],[],[],none⟩) (fun i=>some (.normal,⟨sl 27 [(2,.any),(3,.any),(5,.row 1 ((newImg z).map eSecs))],[],[],none⟩)) h (fun _=>rfl) (fun _=>by simp only [slAll,slsAll,Nat.reduceMul,Nat.reduceBEq,Nat.reduceLT,Nat.reduceLeDiff,Nat.reduceAdd,decide_true,Bool.and_self,Bool.true_and]) ?_ ?_
 ·intro i rb hi ih
  have hi1:=i64_next hi (by unfold lim;omega)
  have F1:((i:Int)<(z.length:Int))=True:=eq_true (by omega)
  have q:=hs _ (List.getElem_mem hi)
  have F2:(0≤z[i])=True:=eq_true (by omega)
  have F3:(z[i]≤z[i])=True:=eq_true (Int.le_refl _)
  have F4:(z[i]≤(lim:Int))=True:=eq_true (by unfold lim;omega)
  have hx:(z.map eI)[i]?=some (.int .i64 z[i]):=by rw [List.getElem?_map,List.getElem?_eq_getElem hi];rfl
  have F5:(((newImg (z.take i)).map eSecs).length+1≤lim)=True:=eq_true (by rw [List.length_map,newImg_len24,List.length_take];unfold lim;omega)
  have hs2:(newImg (z.take (i+1))).map eSecs=(newImg (z.take i)).map eSecs++[.list 8 (List.replicate z[i].toNat (.agg [.int .u8 0,.int .u8 0,.int .u8 0,.int .u8 0,.int .u8 0,.int .u8 0,.int .u8 0,.int .u8 0]))]:=by
   rw [List.take_succ_eq_append_getElem hi]
   unfold newImg
   rw [List.map_append,List.map_append]
   congr 1
   simp only [List.map_cons,List.map_nil,eSecs,List.map_replicate]
   rfl
  rw [hs2] at ih
  simp only [fn31_b0,F1,F2,F3,F4,F5,hx,index_nat hi,List.length_map,slAll,slsAll,Nat.reduceMul,Nat.reduceBEq,Nat.reduceLT,Nat.reduceLeDiff,memAll,vAll,reduceCtorEq,Nat.reduceEqDiff,Nat.reduceAdd,Nat.reduceLT,Nat.reduceLeDiff,Nat.beq] at *
  simp only [F5,slAll,slsAll,Nat.reduceMul,Nat.reduceBEq,Nat.reduceLT,Nat.reduceLeDiff,memAll,vAll,reduceCtorEq,Nat.reduceEqDiff,Nat.reduceAdd,Nat.reduceLT,Nat.reduceLeDiff,Nat.beq]
  rw [ih _ (by simp only [hi1,slAll,slsAll,Nat.reduceMul,Nat.reduceBEq,Nat.reduceLT,Nat.reduceLeDiff,memAll,vAll,reduceCtorEq,Nat.reduceEqDiff,Nat.reduceAdd,Nat.reduceLT,Nat.reduceLeDiff,Nat.beq]<;>rfl)]
 ·intro rb
  rw [List.take_length]
  simp only [fn31_b0,Int.lt_irrefl,List.length_map,slAll,slsAll,Nat.reduceMul,Nat.reduceBEq,Nat.reduceLT,Nat.reduceLeDiff,memAll,vAll,reduceCtorEq,Nat.reduceEqDiff,Nat.reduceAdd,Nat.reduceLT,Nat.reduceLeDiff,Nat.beq]
theorem cal31 {z:List Int} (hz:z.length≤1000):cal env 31 [.list 1 (z.map eI)]=some [(.list 1 ((if sizesErr z=0 then newImg z else []).map eSecs),true),(.int .i64 (sizesErr z),false)]:=by
 have e1:=cal62 (l:=z) (by unfold lim;omega)
 by_cases c:sizesErr z=0
 ·have hs:∀ x∈z,1≤x∧x≤4096:=by
   intro x hx
   have h:=c
   unfold sizesErr at h
   split at h
   ·omega
   ·split at h
    ·omega
    ·rename_i h2
     simp only [List.any_eq_true,not_exists,not_and,Bool.not_eq_true] at h2
     have:=h2 x hx
     simp at this
     omega
  rw [c] at e1
  rw [if_pos c,c]
  have Z:((0:Int) != 0)=false:=rfl
  rw [cal_code env31 rfl];simp only [fn31,slAll,Nat.reduceBEq,Nat.reduceLeDiff,Nat.reduceAdd,List.length_cons,List.length_nil]
  simp only [e1,Z,slAll,slsAll,Nat.reduceMul,Nat.reduceBEq,Nat.reduceLT,Nat.reduceLeDiff,memAll,vAll,reduceCtorEq,Nat.reduceEqDiff,Nat.reduceAdd,Nat.reduceLT,Nat.reduceLeDiff,Nat.beq]
  rw [loop31 hz hs (by simp only [slAll,slsAll,Nat.reduceMul,Nat.reduceBEq,Nat.reduceLT,Nat.reduceLeDiff,Nat.reduceAdd,decide_true,Bool.and_self,Bool.true_and]<;>rfl)]
  simp only [e1,Z,slAll,slsAll,Nat.reduceMul,Nat.reduceBEq,Nat.reduceLT,Nat.reduceLeDiff,memAll,vAll,reduceCtorEq,Nat.reduceEqDiff,Nat.reduceAdd,Nat.reduceLT,Nat.reduceLeDiff,Nat.beq]
 ·rw [if_neg c]
  have Z:(sizesErr z != 0)=true:=by simp [c]
  rw [cal_code env31 rfl];simp only [fn31,slAll,Nat.reduceBEq,Nat.reduceLeDiff,Nat.reduceAdd,List.length_cons,List.length_nil]
  simp only [e1,Z,slAll,slsAll,Nat.reduceMul,Nat.reduceBEq,Nat.reduceLT,Nat.reduceLeDiff,memAll,vAll,reduceCtorEq,Nat.reduceEqDiff,Nat.reduceAdd,Nat.reduceLT,Nat.reduceLeDiff,Nat.beq]
end Go.Proofs.YtpcncggjmabnaaaGreatDoor.V
